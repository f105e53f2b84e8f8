import Derived.Test.YtokpnommcenoaaaGreatEvOne
import Derived.Conc.LoneSelect
import Derived.Conc.LoneSelectN
set_option linter.all false
namespace Go.Ev
variable {i n cap off:Nat}{ρ:Operand->Value}{tm:Ax}{o:Oper}{e t ty:TypeId}{ps:Array (Nat × Operand)}{v zv:EV}{h h':Ab}{x:Operand}{ents:List MapEntry}{es:List (EV × EV)}{P:Program}{w':World}{base:Option Addr}{op:Op}{ts:Array TypeId}{buf args:List EV}{ops:Array Oper}{tmps:Array Value}{p:Nat->Prop}{f:Loc}{T:Ih}{round:Ai}
section
section
variable{w:World}(hT:O6 P T)
include hT
theorem Axv(L:Reads f tm ρ)(G:Lk p n tm)(M:Tj p h)(O:Te f h w)
 {m:Nat} (Q:o.op=.buildSlice t m ps) (a:Dw T tm (.buildSlice t m ps) h=some (v,h')) :
 An6 P (execOp ρ o) p f h w v h':=by
 simp only[Dw]at a;split at a
 ·rename_i e l hu E
  split at a
  ·rename_i s z hs S
   obtain⟨U,h2⟩:=Aq a;split at h2
   ·rename_i c C
    cases h2;simp only[cu,Nat.mul_eq]at U;obtain⟨u,V,H,W,_,_,X,i,i1,i2,i3⟩:=Aa2 hT f w S;obtain⟨i',J,j2,j3⟩:=hT.size e s hs;have F:s=z.length:=by rw[i1]at J;cases J;omega
    subst F;obtain⟨c1,c2⟩:=Uk (X p) V;rw[<-H]at c1 c2;have d1:∀v∈c,v.ok p:=Ang (fun i=>some (Nat.mul i z.length,z.length)) C (fun v j=>(H5 p _).1 c1 v (Asy j))
     (fun q y v j=>(H5 p _).1 (Uk (At4 G E q y) (Aki _ C q y)).1 v j)
    have d2:∀v∈c,v.one=true:=Ang (fun i=>some (Nat.mul i z.length,z.length)) C (fun v j=>c2 v (Asy j))
     (fun q y v j=>(Uk (At4 G E q y) (Aki _ C q y)).2 v j)
    obtain⟨f',w',K,Y,Z,r4⟩:=Alh (P:=P) M O e ((H5 p _).2 d1) (by simpa using d2);refine⟨f',w',_,?_,.inl rfl,Y,Z,r4⟩;have A:=Auj f (fun i=>some (Nat.mul i z.length,z.length)) (fun i=>some (i*z.length,z.length)) (fun i q y=>y) C;have D:(ps.map fun(i,x)=>(i,ρ x)).toList=l.map fun(i,v)=>(i,Cj f v):=by
     rw[Array.toList_map,Akf L E]
    have B:¬(2^24<m*z.length):=by omega
    simp only[execOp,Q,Instr.buildSlice,Sem.run_bind,Dy hT w hu,aI,G4 hT w hs,gt_iff_lt,B,aY,aS];by_cases d:m*z.length=0
    ·have er:rep z m = []:=bW.1 (by rw[Akw];exact d)
     have e0:∀g:Nat->Value,Array.map g (Array.range 0)=(Bn f []).toArray:=fun g=>by simp[Bn]
     rw[er]at A;simp only[d,bG,Sem.run_bind,aS,aI];rw[e0,D,A];simp only[Sem.run_bind,K,aI,aS];simp[Cj]
    ·rw[aK d]
     simp only[Sem.run_bind,W,aS,aI,S9,<-H];rw[A6p f z m d,D,A];simp only[Sem.run_bind,K,aI,aS];simp[Cj]
   ·cases h2
  ·cases a
 ·cases a
omit hT in
theorem A7n(d:Tj p h)(g:Te f h w)
 {r:Option Operand} (j:o.op=.makeMap t r) (a:Dw T tm (.makeMap t r) h=some (v,h')) :
 An6 P (execOp ρ o) p f h w v h':=by
 cases r with
 | some x=>simp[Dw]at a
 | none=>
  simp only[Dw]at a;cases a;refine⟨f.set h.next w.heap.size 0,{ w with heap:=w.heap.push (.map #[] 0) },_,?_,.inl rfl,Move.new d g 0 rfl ⟨#[],0,rfl,rfl⟩ rfl rfl rfl,Wf.new d (by simp[Dz.ok]),.inr ⟨aC _,by rw[Ab.Cv];omega⟩⟩;simp only[execOp,j,Instr.makeMap,Cj,Loc.Wy];simp
theorem A3l(q:Reads f tm ρ)(j:Tj p h)(u:Te f h w)
 (y:o.op=.makeChan t x) (a:Dw T tm (.makeChan t x) h=some (v,h')) :
 An6 P (execOp ρ o) p f h w v h':=by
 simp only[Dw]at a;split at a
 ·rename_i d e k n hu A
  split at a
  ·rename_i s hs
   obtain⟨m,h2⟩:=Aq a;cases h2;simp only[cu]at m;obtain⟨i,i1,i2,i3⟩:=hT.size e s hs;have g:¬(((n:Int)<0)\/((n:Int)>IntKind.i64.max)\/((i.bytes:Int)*n>2^48-112)):=by
    have:i.bytes*n<=1048576*65536:=fP i3 m;have e:((i.bytes*n:Nat):Int)=(i.bytes:Int)*n:=by simp
    have e2:IntKind.i64.max=9223372036854775807:=rfl;omega
   refine⟨f.set h.next w.heap.size 0,{ w with heap:=w.heap.push (.chan n #[] false 0 0 false) },_,?_,.inl rfl,Move.new j u 0 rfl ⟨0,0,rfl⟩ rfl rfl rfl,Wf.new j trivial,.inr ⟨aC _,by rw[Ab.Cv];omega⟩⟩;simp only[execOp,y,Instr.makeChan,Bj q A,Cj,asInt,asIntOf,Sem.run_bind,aS,aI,Dy hT w hu,typeInfo,fF,i1,aW];rw[aK g];simp[Loc.Wy]
  ·cases a
 ·cases a
omit hT in
theorem A1n:∀{a b:List EV},Fv a b=some true->a=b
 | [],[],_=>rfl
 | x::r,y::s,h=>by
  unfold Fv at h;split at h
  ·rename_i g
   have m:=A1n h;have:x=y:=by
    unfold Aiy at g;split at g
    ·obtain⟨u,h2⟩:=Aq g
     obtain rfl:=Ans u;cases d:eqB _ _ with
     | false=>rw[d]at h2;cases h2
     | true=>rw[Aip]at d;rw[cP d]
    ·rename_i p q
     have j:=fK g;rw[Axr]at j;rw[Bfk j]
    ·rename_i p q
     cases p<;>cases q<;>first|rfl|(cases g)
    ·cases g
   rw[this,m]
  ·split at h<;>cases h
  ·cases h
 | [],_::_,h=>by cases h
 | _::_,[],h=>by cases h
omit hT in
theorem Bfi {a b:EV}{r:Bool}(h:Aiy a b=some r):(∃k n,a=.int k n)\/(∃c,a=.bool c)\/(∃s,a=.str s):=by
 unfold Aiy at h;split at h
 ·exact .inl ⟨_,_,rfl⟩
 ·exact .inr (.inr ⟨_,rfl⟩)
 ·exact .inr (.inl ⟨_,rfl⟩)
 ·cases h
theorem Qp{k:EV}(d:Om T t k=true)(e:Bool):(Instr.checkKey e 10000 t (Cj f k)).run P w=.ok () w:=by
 unfold Om at d;split at d
 ·rename_i a
  rw[Bo]at d;split at d
  ·rename_i g
   split at d
   ·rename_i sh j
    rw[Bo]at d;split at d
    ·rename_i hs
     split at d
     ·exact(hT.key t g).2 f w e a sh j hs
     ·cases d
    ·cases d
   ·cases d
  ·cases d
 ·rename_i kk n
  split at d
  ·rename_i m hu
   rw[Instr.checkKey.eq_def];simp[Dy hT w hu,Cj]
  ·cases d
 ·cases d
omit hT in
def Azv(f:Loc)(ents:List MapEntry)(es:List (EV × EV)):Prop:=ents.map (fun e=>(e.key,e.val))=es.map (fun e=>(Cj f e.1,Cj f e.2))
theorem A56 {g:IntKind}{kk:IntKind}{n:Int}(j:Nat.beq (Qb kk) (Qb g)=true):∀{ents:List MapEntry} {es:List (EV × EV)} {i:Nat} {r:Option (Nat × EV)},Azv f ents es->H0 (.int kk n) es i=some r ->
 Instr.findNow (.int g) (.int kk n) ents i=some (r.map fun x=>(x.1,Cj f x.2))
 | [],[],i,r,_,h=>by simp only[H0]at h;cases h;rfl
 | u::ents,(a,b)::es,i,r,he,h=>by
  simp only[Azv,dB,List.cons.injEq,eJ]at he;obtain⟨⟨e1,e2⟩,e3⟩:=he;unfold H0 at h;unfold Instr.findNow;have q:∀c,Auz (.int kk n) a=some c->Instr.sameNow (.int g) (.int kk n) u.key=some c:=by
   intro c d;unfold Auz at d;split at d
   ·rename_i m;cases m
   ·rename_i A B C b1 m
    cases m;obtain⟨y,h2⟩:=Aq d;obtain rfl:=Ans y;cases h2;rw[e1];simp[Cj,Instr.sameNow,Aip];rfl
   ·cases d
  split at h
  ·rename_i d
   cases h;rw[q _ d,e2];rfl
  ·rename_i d
   rw[q _ d];exact A56 j e3 h
  ·cases h
 | [],_::_,_,_,he,_=>by simp[Azv]at he
 | _::_,[],_,_,he,_=>by simp[Azv]at he
theorem A5c{sh:List Nat}(g:T.eqs t=some sh){a:List EV}(q:shaped sh a=true):∀{ents:List MapEntry} {es:List (EV × EV)} {i:Nat} {r:Option (Nat × EV)},Azv f ents es->H0 (.agg a) es i=some r ->
 (Instr.findAsking t (Cj f (.agg a)) ents i).run P w=.ok (r.map fun x=>(x.1,Cj f x.2)) w
 | [],[],i,r,_,h=>by simp only[H0]at h;cases h;rfl
 | y::ents,(b,c)::es,i,r,he,h=>by
  simp only[Azv,dB,List.cons.injEq,eJ]at he;obtain⟨⟨e1,e2⟩,e3⟩:=he;unfold H0 at h;unfold Instr.findAsking;have u:∀d,Auz (.agg a) b=some d->(Op.equal t (Cj f (.agg a)) y.key).run P w=.ok d w:=by
   intro d hd;unfold Auz at hd;split at hd
   ·rename_i j
    cases j;rw[e1];exact(hT.eqs t sh g).2 f w _ _ d hd q
   ·rename_i j;cases j
   ·cases hd
  split at h
  ·rename_i m
   cases h;simp only[Sem.run_bind,u _ m,aI,bG,aS,e2];rfl
  ·rename_i m
   simp only[Sem.run_bind,u _ m,aI,aU,aY];exact A5c g q e3 h
  ·cases h
 | [],_::_,_,_,he,_=>by simp[Azv]at he
 | _::_,[],_,_,he,_=>by simp[Azv]at he
theorem Vh{k:EV}(d:Om T t k=true){r:Option (Nat × EV)}(he:Azv f ents es)(hm:H0 k es 0=some r):
 (Instr.findKey t (Cj f k) ents).run P w=.ok (r.map fun x=>(x.1,Cj f x.2)) w:=by
 unfold Om at d;split at d
 ·rename_i a
  rw[Bo]at d;split at d
  ·rename_i g
   split at d
   ·rename_i sh q
    rw[Bo]at d;split at d
    ·rename_i y
     obtain⟨j,u,m⟩:=(hT.key t g).1;simp only[Instr.findKey,underlying,Sem.run_bind,fF,u,aI,aS];cases ents with
     | nil=>
      cases es with
      | nil=>simp only[H0]at hm;cases hm;rfl
      | cons x r=>simp[Azv]at he
     | cons A ents=>
      have:Instr.findNow j (Cj f (.agg a)) (A::ents) 0=none:=by
       cases j<;>first|(simp[Avk]at m;done)|simp[Instr.findNow,Instr.sameNow,Cj]
      rw[this];exact A5c hT q y he hm
    ·cases d
   ·cases d
  ·cases d
 ·rename_i kk n
  split at d
  ·rename_i B hu
   have:=A56 (f:=f) hT d he hm;simp only[Instr.findKey,Sem.run_bind,Dy hT w hu,aI,Cj,this,aS]
  ·cases d
 ·cases d
omit hT in
theorem Ak1 {k:EV}:∀{es:List (EV × EV)} {i j:Nat} {v:EV},H0 k es i=some (some (j,v))->∃a,i<=j/\es[j-i]? = some (a,v)/\Auz k a=some true
 | [],i,j,v,h=>by simp[H0]at h
 | (a,b)::es,i,j,v,h=>by
  unfold H0 at h;split at h
  ·rename_i d
   cases h;exact⟨a,aC _,by simp,d⟩
  ·obtain⟨g,q,h2,m⟩:=Ak1 h
   refine⟨g,by omega,?_,m⟩;have:j-i=(j-Nat.succ i)+1:=by omega
   rw[this];simpa using h2
  ·cases h
omit hT in
theorem A9c {k a:EV}(h:Auz k a=some true):k=a:=by
 unfold Auz at h;split at h
 ·rw[A1n h]
 ·obtain⟨g,h2⟩:=Aq h
  obtain rfl:=Ans g;cases d:eqB _ _ with
  | false=>rw[d]at h2;cases h2
  | true=>rw[Aip]at d;rw[cP d]
 ·cases h
end
end
section
theorem N7{w:World}{r:Nat}{o:Obj}(h:w.heap[r]? = some o)(a:∀c e z,o≠.cells c e z):(getObj r).run P w=.ok o w:=by
 unfold getObj;simp only[Sem.run,h]
theorem Ql{w:World}{r:Nat}{o o':Obj}(h:w.heap[r]? = some o)(a:∀c e z,o≠.cells c e z):(setObj r o').run P w=.ok () { w with heap:=w.heap.setIfInBounds r o' }:=by
 unfold setObj;simp only[Sem.run,h]
section
variable{w:World}
theorem Move.setObj(a:Te f h w){o o':Dz}(d:h.get i=some o){r:Obj}(h2:Sf f i o' r):
 Move p f h w f (h.put i o') { w with heap:=w.heap.setIfInBounds (f.b i) r }:=by
 have g:=a.lt d;refine Move.put a d (r:=r) ?_ h2 (fun b hb=>?_) ?_ rfl rfl rfl
 ·simp[g]
 ·simp[Array.getElem?_setIfInBounds,cN hb]
 ·simp
variable (hT:O6 P T)
include hT
theorem Arh(a:zeroOf T t=some v):(zeroValue t).run P w=.ok (Cj f v) w/\∀q,v.ok q:=by
 unfold zeroOf at a;split at a
 ·rename_i z d
  obtain⟨u,B,C,j,y,A,m,_⟩:=Aa2 hT f w d;split at a
  ·rename_i g
   cases a;rw[<-y g];exact⟨j,m⟩
  ·rename_i g
   have e:=A g;split at a
   ·rename_i D
    cases a;cases e;exact⟨j,m⟩
   ·cases a
  ·cases a
 ·cases a
theorem A91 {n:Nat}(q:Reads f tm ρ)(B:Tj p h)(C:Te f h w)
 {k:Operand} {ok:Bool} (E:o.op=.lookup t x k ok) (d:Dw T tm (.lookup t x k ok) h=some (v,h')) :
 An6 P (execOp ρ o) p f h w v h':=by
 simp only[Dw]at d;split at d
 ·rename_i M e i O hu y F
  obtain⟨A,h2⟩:=Aq d;split at h2
  ·rename_i es G
   obtain⟨r,J,ents,clock,K,a3⟩:=C.obj i _ G;obtain⟨_,a4⟩:=B.get i _ G;subst K;have g:=N7 (P:=P) J (by intro c e z y;cases y);split at h2
   ·rename_i j u hm
    cases h2;have D:=Vh (w:=w) (f:=f) hT A a3 hm;obtain⟨a,_,b2,_⟩:=Ak1 hm;have m:u.ok p:=(a4 _ (dK b2)).2;refine⟨f,w,_,?_,.inl rfl,Move.refl C,Wf.refl B,?_⟩
    ·simp only[execOp,E,Instr.lookup,Bj q y,Bj q F,Cj,Sem.run_bind,Dy hT w hu,aI,g,aS,Qp hT A,D,dQ]
     cases ok<;>rfl
    ·rw[J8 p h h rfl]
     cases ok
     ·exact m
     ·exact⟨m,trivial,trivial⟩
   ·rename_i hm
    split at h2
    ·rename_i zv L
     cases h2;obtain⟨z1,H⟩:=Arh (w:=w) (f:=f) hT L;have D:=Vh (w:=w) (f:=f) hT A a3 hm;refine⟨f,w,_,?_,.inl rfl,Move.refl C,Wf.refl B,?_⟩
     ·simp only[execOp,E,Instr.lookup,Bj q y,Bj q F,Cj,Sem.run_bind,Dy hT w hu,aI,g,aS,Qp hT A,D,Option.map_none,z1]
      cases ok<;>rfl
     ·rw[J8 p h h rfl]
      cases ok
      ·exact H p
      ·exact⟨H p,trivial,trivial⟩
    ·cases h2
   ·cases h2
  ·cases h2
 ·cases d
omit hT in
theorem Atb(n:Nat)(k:IntKind)(a:Int):Instr.sameBits n (.int k a) (.int k a)=true:=by
 unfold Instr.sameBits;simp
omit hT in
theorem Aq4(n:Nat)(f:Loc):∀{a:List EV} {r:Bool},Fv a a=some r->((Bn f a).zip (Bn f a)).all (fun(x,y)=>Instr.sameBits n x y)=true
 | [],_,_=>rfl
 | x::r,s,h=>by
  unfold Fv at h;have u:∃c,Aiy x x=some c/\∃q,Fv r r=some q:=by
   split at h
   ·rename_i j;exact⟨_,j,_,h⟩
   ·rename_i j
    split at h
    ·rename_i q g;exact⟨_,j,_,g⟩
    ·cases h
   ·cases h
  obtain⟨c,j,q,g⟩:=u;simp only[Bn,List.zip_cons_cons,List.all_cons,Aq4 n f g,Bool.and_true];rcases Bfi j with⟨k,m,rfl⟩|⟨d,rfl⟩|⟨d,rfl⟩
  ·exact Atb n k m
  ·simp only[Cj];unfold Instr.sameBits;simp
  ·simp only[Cj];unfold Instr.sameBits;rw[<-Axr,Apm];simp
omit hT in
theorem A2r{k:EV}(d:Om T t k=true):Instr.sameBits 10000 (Cj f k) (Cj f k)=true:=by
 unfold Om at d;split at d
 ·rename_i a
  rw[Bo]at d;split at d
  ·split at d
   ·rw[Bo]at d
    split at d
    ·split at d
     ·rename_i r g
      have:=Aq4 9999 f g;simp only[Cj];unfold Instr.sameBits;simpa using this
     ·cases d
    ·cases d
   ·cases d
  ·cases d
 ·exact Atb _ _ _
 ·cases d
theorem Az3(E:Reads f tm ρ)(K:Lk p n tm)(M:Tj p h)(O:Te f h w)
 {m k:Operand} (S:o.op=.mapUpdate t m k x) (y:Dw T tm (.mapUpdate t m k x) h=some (v,h')) :
 An6 P (execOp ρ o) p f h w v h':=by
 simp only[Dw]at y;split at y
 ·rename_i Z e i G u hu hm L B
  obtain⟨H,h2⟩:=Aq y;split at h2
  ·rename_i es F
   obtain⟨r,U,ents,clock,X,a3⟩:=O.obj i _ F;obtain⟨_,a4⟩:=M.get i _ F;subst X;have C:=N7 (P:=P) U (by intro c e z B;cases B);have D:=fun o'=>Ql (P:=P) (o':=o') U (by intro c e z B;cases B)
   split at h2
   ·rename_i j Y g
    cases h2;have Q:=Vh (w:=w) (f:=f) hT H a3 g;obtain⟨a,_,b2,b3⟩:=Ak1 g;obtain rfl:=A9c b3;simp only[Nat.sub_zero]at b2;have J:((ents[j]?).map (·.key)).getD (Cj f G)=Cj f G:=by
     have A:(ents.toList.map (fun e=>(e.key,e.val)))[j]? = some (Cj f G,Cj f Y):=by
      rw[a3,av,b2];rfl
     rw[av,cD]at A;cases he:ents[j]? with
     | none=>rw[he]at A;cases A
     | some V=>rw[he]at A;simp only[dQ,cL,eJ]at A;simp[A.1]
    refine⟨f,_,.skip,?_,.inr ⟨rfl,rfl⟩,Move.setObj O F (r:=.map (ents.modify j fun V=>{ V with key:=Cj f G,val:=Cj f u }) clock) ⟨_,_,rfl,?_⟩,Wf.put M F ?_,trivial⟩
    ·simp only[execOp,S,Instr.mapUpdate,Bj E hm,Bj E L,Bj E B]
     simp only[Cj,Sem.run_bind,Dy hT w hu,aI,C,Qp hT H,Q,dQ,J,Instr.keyThatStays,A2r H,bG,aS,D]
    ·rw[List.map_set,<-a3]
     apply eA;intro q;simp only[Array.toList_modify,av,List.getElem?_modify,List.getElem?_set,bU];by_cases W:j=q
     ·subst W
      have A:j<ents.toList.length:=by
       have:=(bA.1 b2).1;have e:=congrArg List.length a3;simp only[bU]at e;omega
      simp at A;simp[A]
     ·simp[W]
    ·intro e' d
     rcases dF d with d|rfl
     ·exact a4 e' d
     ·exact⟨E6 K L,E6 K B⟩
   ·rename_i g
    cases h2;have Q:=Vh (w:=w) (f:=f) hT H a3 g;refine⟨f,_,.skip,?_,.inr ⟨rfl,rfl⟩,Move.setObj O F (r:=.map (ents.push { key:=Cj f G,val:=Cj f u,born:=clock }) (clock+1)) ⟨_,_,rfl,?_⟩,Wf.put M F ?_,trivial⟩
    ·simp only[execOp,S,Instr.mapUpdate,Bj E hm,Bj E L,Bj E B]
     simp only[Cj,Sem.run_bind,Dy hT w hu,aI,C,Qp hT H,Q,Option.map_none,aS,D]
    ·simp[a3]
    ·intro e' d
     rcases bL.1 d with d|d
     ·exact a4 e' d
     ·simp only[aO]at d;subst d;exact⟨E6 K L,E6 K B⟩
   ·cases h2
  ·cases h2
 ·cases y
end
end
section
section
variable{w:World}
theorem Te.world(a:Te f h w)(e:w'.heap=w.heap):Te f h w':=⟨fun i o d=>by rw[e];exact a.obj i o d,a.inj⟩
theorem Ax5(d:Bool)(k:IntKind):∀{l:List EV} {a:Int} {v:EV},Aby d k a l=some v->(∃b,v=.int k b) /\
 (l.map (Cj f)).foldlM (m:=Sem) (if d=true then Builtin.max2 else Builtin.min2) (.int k a)=(pure (Cj f v):Sem Value)
 | [],a,v,h=>by simp only[Aby]at h;cases h;exact⟨⟨a,rfl⟩,rfl⟩
 | .int j b::r,a,v,h=>by
  simp only[Aby]at h;obtain⟨g,h2⟩:=Ax5 d k h;refine⟨g,?_⟩;rw[dB,List.foldlM_cons,<-h2];cases d
  ·simp only[aU,aY,Cj,Builtin.min2,Bo,Avd,bE]
   rfl
  ·simp only[bG,Cj,Builtin.max2,Bo,Avd,bE,gt_iff_lt]
   rfl
 | .bool _::_,_,_,h=>by simp[Aby]at h
 | .str _::_,_,_,h=>by simp[Aby]at h
 | .ptr _ _::_,_,_,h=>by simp[Aby]at h
 | .Cl::_,_,_,h=>by simp[Aby]at h
 | .slice _ _ _ _ _::_,_,_,h=>by simp[Aby]at h
 | .tail _ _ _::_,_,_,h=>by simp[Aby]at h
 | .Ao::_,_,_,h=>by simp[Aby]at h
 | .odd _::_,_,_,h=>by simp[Aby]at h
 | .map _::_,_,_,h=>by simp[Aby]at h
 | .Akk::_,_,_,h=>by simp[Aby]at h
 | .chan _::_,_,_,h=>by simp[Aby]at h
 | .Ad3::_,_,_,h=>by simp[Aby]at h
 | .func _ _ _::_,_,_,h=>by simp[Aby]at h
 | .Sy _::_,_,_,h=>by simp[Aby]at h
 | .Ahx::_,_,_,h=>by simp[Aby]at h
 | .Abd::_,_,_,h=>by simp[Aby]at h
 | .agg _::_,_,_,h=>by simp[Aby]at h
 | .tuple _::_,_,_,h=>by simp[Aby]at h
theorem Avl {x:EV}(a:lenOf x=some n):∃b c,Cj f x=.slice b n c:=by
 unfold lenOf at a;split at a<;>first|(cases a;exact⟨_,_,rfl⟩)|(cases a)
theorem Abv(j:Tj p h)(m:Te f h w){size:Nat}{x:EV}{l:List EV}(d:cellsOf h size n x=some l):
 (Builtin.firstCells size n (Cj f x)).run P w=.ok (Bn f l).toArray w/\EV.Tg p l/\l.all EV.one=true/\l.length=n*size:=by
 unfold cellsOf at d;split at d
 ·obtain⟨g,h2⟩:=Aq d
  cases h2;have:=aJ g;subst this;exact⟨by simp[Cj,Builtin.firstCells,Bn],trivial,rfl,by simp⟩
 ·rename_i i off a b c
  rw[Bo]at d;split at d
  ·rename_i g
   cases d;have:=aJ g;subst this;refine⟨?_,trivial,rfl,by simp⟩;simp[Cj,Builtin.firstCells,Bn,loadCells,loadCellsFrom]
  ·obtain⟨g,h2,q,h4,_⟩:=Akt (P:=P) j m d
   exact⟨by simp only[Cj,Builtin.firstCells];exact g,h2,q,h4⟩
 ·obtain⟨g,h2⟩:=Aq d
  cases h2;have:=aJ g;subst this;refine⟨?_,trivial,rfl,by simp⟩;simp[Cj,Builtin.firstCells,Bn,loadCells,loadCellsFrom]
 ·cases d
variable (hT:O6 P T)
include hT
theorem Aoq {st u e':TypeId}(q:T.Tv st=some (.slice e))(hu:T.Tv u=some (.slice e')){size:Nat}(hs:T.size e=some size){z:List EV}(A:T.zero e=some z)
 {sLen sCap C:Nat} {D:Option Addr} {Cr new:Array Value} (g:¬sLen+n<=sCap) (O:sLen<=1048576) (Q:n<=65536)
 (H:∀d,(Builtin.firstCells size sLen (.slice base sLen sCap)).run P { w with drawn:=d }=.ok Cr { w with drawn:=d })
 (h2:∀d,(Builtin.firstCells size n (.slice D n C)).run P { w with drawn:=d }=.ok new { w with drawn:=d }) :
 ∃cap rest,sLen+n<=cap/\rest.size=(cap-(sLen+n))*size /\
  (Builtin.append_ #[st,u] ty #[.slice base sLen sCap,.slice D n C]).run P w=.ok (.slice (some ⟨w.heap.size,0,none⟩) (sLen+n) cap) { w with drawn:=w.drawn+1,heap:=w.heap.push (.cells (Cr++new++rest) e) }:=by
 have⟨f⟩:Nonempty Loc:=⟨⟨id,id⟩⟩;obtain⟨x,S,J,m,_,_,U,i,i1,i2,i3⟩:=Aa2 hT f w A;obtain⟨E,F,V,W⟩:=hT.size e size hs;have K:E=i:=by rw[i1]at F;cases F;rfl
 subst K;have hb:Builtin.nextslicecap (sLen+n) sCap<=4000000:=by
  unfold Builtin.nextslicecap;split
  ·omega
  ·split
   ·omega
   ·simp only[Builtin.growBy]
    repeat' split
    all_goals omega
 have j:¬(2^48<Builtin.nextslicecap (sLen+n) sCap*E.bytes):=by
  have:=fP hb i3;omega
 refine⟨(Question.appendCap (sLen+n) sCap e).cut (w.tape w.drawn (.appendCap (sLen+n) sCap e)),Builtin.zeroCells (Cj f x).cells ((Question.appendCap (sLen+n) sCap e).cut (w.tape w.drawn (.appendCap (sLen+n) sCap e))-(sLen+n)),?_,?_,?_⟩
 rotate_left 2
 ·have a:¬(((sLen+n:Nat):Int)>IntKind.i64.max):=by
   have e2:IntKind.i64.max=9223372036854775807:=rfl;omega
  have B:∀d,(zeroValue e).run P { w with drawn:=d }=.ok (Cj f x) { w with drawn:=d }:=by
   intro d;obtain⟨y,_,X,Y,_⟩:=Aa2 hT f { w with drawn:=d } A;obtain⟨L,v,Z,G,M,a3,_⟩:=hT.zero e z A;simp only[zeroValue,typeInfo,Sem.run_bind,fF,i1,aI,aS]at m⊢;rw[i1]at G;cases G;rw[M]at m⊢;simp only[aS,Result.ok.injEq]at m⊢;exact⟨m.1,trivial⟩
  simp only[Builtin.append_,Sem.run_bind,bQ,bM,b9,Dy hT w q,Dy hT w hu,G4 hT w hs,aI,aS,Builtin.lenOf,aU,aY,g];simp only[a,fR,aY,Sem.run_bind,aS,aI,typeInfo,fF,i1,gt_iff_lt,j,run_choose,Question.forced,aU,run_askRoom,H,h2,B,cO,bG];rfl
 ·simp only[Question.cut];omega
 ·rw[Builtin.zeroCells]
  have e1:(Cj f x).cells.size=size:=by rw[S9,<-J];simp[Cu];omega
  simp[e1]
end
end
section
def Aei(P:Program)(s:Sem Value)(p:Nat->Prop)(f:Loc)(h:Ab)(w:World)(v:EV)(h':Ab):Prop:=
 ∃f' w',s.run P w=.ok (Cj f' v) w'/\Move p f h w f' h' w'/\Wf p h h'/\v.ok (grow p h h')
section
variable{w:World}(hT:O6 P T)
include hT
theorem Ava(g:Tj p h)(y:Te f h w){l:List EV}(q:EV.Tg p l)(A:l.all EV.one=true){size m:Nat}(u:m<=cap){rest:Array Value}(a:rest.size=(cap-m)*size){Cr new:List EV}(j:l=Cr++new)(d:Nat):
 Move p f h w (f.set h.next w.heap.size (cap-m)) (h.new (.vec l e size)) { w with drawn:=d,heap:=w.heap.push (.cells ((Bn f Cr).toArray++(Bn f new).toArray++rest) e) }/\Wf p h (h.new (.vec l e size)) /\
  Cj (f.set h.next w.heap.size (cap-m)) (.slice h.next 0 m m true)=.slice (some ⟨w.heap.size,0,none⟩) m cap:=by
 refine⟨Move.new g y _ rfl ?_ rfl rfl rfl,Wf.new g ⟨Sk q,A⟩,?_⟩
 ·refine⟨rest.toList,?_,by simp[a,Loc.Aov]⟩
  rw[<-Gb (f.Mn _ _ g.fresh) l q,j,Sn];congr 1;apply dN;simp
 ·simp only[Cj,Loc.Wy,Loc.Aov,bG]
  congr 1;omega
theorem A8f(y:Tj p h)(D:Te f h w){st u e':TypeId}{s x:EV}(hs:s.ok p)(hu:T.Tv u=some (.slice e'))(g:append T st s x h=some (v,h')):
 Aei P (Builtin.append_ #[st,u] ty #[Cj f s,Cj f x]) p f h w v h':=by
 unfold append at g;split at g
 ·rename_i e A
  split at g
  ·rename_i size z B Z
   split at g
   ·rename_i n hn
    obtain⟨bx,cx,H⟩:=Avl (f:=f) hn;rw[Bo]at g;split at g
    ·rename_i h0
     have:=aJ h0;subst this;have V:∀(size:Nat),(Builtin.firstCells size 0 (.slice bx 0 cx)).run P w=.ok #[] w:=by
      intro size;cases bx<;>simp[Builtin.firstCells,loadCells,loadCellsFrom]
     split at g
     ·rename_i i off a room op
      obtain⟨h1,h2⟩:=Aq g;cases h2;simp only[cu]at h1;refine⟨f,w,?_,Move.refl D,Wf.refl y,by rw[J8 p h h rfl];exact hs⟩;rw[H];have hle:a<=(if op=true then room+f.sp i else room):=by split<;>omega
      simp only[Cj,Builtin.append_,Sem.run_bind,bQ,bM,b9,Dy hT w A,Dy hT w hu,G4 hT w B,aI,aS,Builtin.lenOf,aU,aY,dC,hle,bG,cO,V];simp[storeCells]
     ·cases g
      refine⟨f,w,?_,Move.refl D,Wf.refl y,trivial⟩;rw[H];simp only[Cj,Builtin.append_,Sem.run_bind,bQ,bM,b9,Dy hT w A,Dy hT w hu,G4 hT w B,aI,aS,Builtin.lenOf,aU,aY,dC,aC,bG,cO,V]
     ·cases g
    ·rename_i h0
     obtain⟨F,h2⟩:=Aq g;simp only[cu]at F;split at h2
     ·rename_i new J
      obtain⟨n1,n2,n3,n4⟩:=Abv (P:=P) y D J;have nd:∀d,(Builtin.firstCells size n (.slice bx n cx)).run P { w with drawn:=d }=.ok (Bn f new).toArray { w with drawn:=d }:=by
       intro d;rw[<-H];exact(Abv (P:=P) y (D.world (w':={ w with drawn:=d }) rfl) J).1
      split at h2
      ·cases h2
       have ay:n≠0:=fun e=>h0 (by rw[e];rfl)
       obtain⟨cap,rest,Q,S,U⟩:=Aoq (w:=w) (ty:=ty) hT A hu B Z (base:=none) (sLen:=0) (sCap:=0) (Cr:=(Bn f []).toArray) (by omega) (by omega) F
        (by intro d;simp[Builtin.firstCells,Bn]) nd
       simp only[bC]at Q S U;obtain⟨C,k2,W⟩:=Ava hT y D (e:=e) (l:=new) n2 n3 Q S (Cr:=[]) rfl (w.drawn+1);refine⟨_,_,?_,C,k2,.inr ⟨aC _,by rw[Ab.Cv];omega⟩⟩;rw[W,H];exact U
      ·rename_i i off a room op
       obtain⟨K,L⟩:=Aq h2;simp only[cu]at K;split at L
       ·rename_i Cr hold
        obtain⟨o1,o2,o3,o4⟩:=Abv (P:=P) y D hold;have od:∀d,(Builtin.firstCells size a (Cj f (.slice i off a room op))).run P { w with drawn:=d }=.ok (Bn f Cr).toArray { w with drawn:=d }:=by
         intro d;exact(Abv (P:=P) y (D.world (w':={ w with drawn:=d }) rfl) hold).1
        have hok:EV.Tg p (Cr++new):=Zo o2 n2;have m:(Cr++new).all EV.one=true:=A8o o3 n3;rw[Bo]at L;split at L
        ·rename_i E
         subst E;obtain⟨c1,h4⟩:=Aq L;obtain⟨c2,Y⟩:=Aq h4;clear L h4;have:=aJ c1;subst this;have:=aJ c2;subst this;split at Y
         ·rename_i l e1 s1 hg
          obtain⟨c3,h6⟩:=Aq Y;obtain⟨c4,h7⟩:=Aq h6;obtain⟨c5,h8⟩:=Aq h7;clear Y h6 h7;rw[Uf]at c3;have G:=aJ c3;have:=aJ c4;subst this;have:=aJ c5;subst this;cases h8;simp only[Nat.mul_eq]at G;by_cases M:n<=f.sp i
          ·
           obtain⟨r,a1,more,a2,a5⟩:=D.obj i _ hg;subst a2;have af:Cr=l:=by
            unfold cellsOf at hold;simp only at hold;rw[Bo]at hold;split at hold
            ·rename_i ag
             have:=aJ ag;subst this;cases hold;simp at G;exact G.symm
            ·unfold Jg at hold
             rw[hg]at hold;obtain⟨_,q2⟩:=Ae1 hold;rw[Ry]at q2;rw[q2];simp only[dA,Nat.mul_eq];rw[<-G,cM]
           subst af;have bb:n*s1<=more.length:=by rw[a5];exact Nat.mul_le_mul_right _ M
           have X:=run_storeCells_at (P:=P) (f.b i) (room*s1) e1 (Bn f new) 0 (Bn f Cr++more).toArray w a1 (by simp only[Cu,cV,aF];omega) (Ya f new (by simpa using n3));refine⟨f.set h.next (f.b i) (f.sp i-n),w.setRow (f.b i) (Bn f Cr++Bn f new++more.drop (n*s1)).toArray,?_,Move.Azs y D hg (f.sp i-n) (r:=.cells (Bn f (Cr++new)++more.drop (n*s1)).toArray e1 (0,0)) ?_ ?_ (fun b hb=>setRow_other _ _ _ _ hb) (setRow_size _ _ _) rfl rfl rfl,Wf.Azs y i ⟨Sk hok,m⟩,.inr ⟨aC _,by rw[Ab.Cv,Ab.Anp];omega⟩⟩
           rotate_left 1
           ·rw[setRow_heap w (f.b i) _ _ e1 (0,0) a1,Sn]
           ·refine⟨more.drop (n*s1),?_,?_⟩
            ·rw[Gb (f.Mn _ _ y.fresh) (Cr++new) hok]
            ·rw[Loc.Aov,ak,a5,Nat.sub_mul]
           ·rw[H]
            have hle:room+n<=room+f.sp i:=by omega
            simp only[Cj,Builtin.append_,Sem.run_bind,bQ,bM,b9,Dy hT w A,Dy hT w hu,G4 hT w B,aI,aS,Builtin.lenOf,aU,aY,bG,hle,cO,Loc.Wy,Loc.Aov];rw[<-H,n1];simp only[aI,Sem.run_bind,Uq,bC,X,aS];congr 1
            ·congr 1
             simp only[Nat.add_eq];omega
            ·congr 1
             simp only[dC,Cu];rw[dG (by rw[Cu];omega),bP (by rw[Cu];omega)];rw[List.drop_append,cr (by rw[Cu];omega)];simp only[Cu,dJ];congr 4;omega
          ·obtain⟨cap,rest,Q,S,U⟩:=Aoq (w:=w) (ty:=ty) hT A hu B Z (base:=some ⟨f.b i,0,none⟩) (sLen:=room) (sCap:=room+f.sp i) (Cr:=(Bn f Cr).toArray) (by omega) K F
            (by intro d;simpa [Cj]using od d) nd
           obtain⟨C,_,W⟩:=Ava hT (y.del i) (D.sub Akj) (e:=e1) (l:=Cr++new) hok m Q S rfl (w.drawn+1);refine⟨f.set h.next w.heap.size (cap-(room+n)),_,?_,⟨C.agree,C.rep,fun b hb hn=>C.kept b hb (fun j q hj=>hn j q (Akj j q hj)),C.size,C.tape,C.os,C.output,fun j q hj=>(C.own j q hj).imp id (fun⟨k,q',hk,e⟩=>⟨k,q',Akj k q' hk,e⟩)⟩,
            Wf.Azs y i ⟨Sk hok,m⟩,.inr ⟨aC _,by rw[Ab.Cv,Ab.Anp];omega⟩⟩
           rw[show Cj (f.set h.next w.heap.size (cap-(room+n))) (.slice h.next 0 (Nat.add room n) (Nat.add room n) true)=_ from W,H];simpa [Cj]using U
         ·cases Y
        ·rename_i E
         have O:op=false:=by simpa using E
         subst O;obtain⟨c1,h4⟩:=Th L;cases h4;have hc:¬a+n<=room:=by
          intro e;have:=Abn e;rw[show Nat.add a n=a+n from rfl]at c1;rw[this]at c1;cases c1
         obtain⟨cap,rest,Q,S,U⟩:=Aoq (w:=w) (ty:=ty) hT A hu B Z (base:=some ⟨f.b i,off,none⟩) (sLen:=a) (sCap:=room) (Cr:=(Bn f Cr).toArray) hc K F
          (by intro d;simpa [Cj]using od d) nd
         obtain⟨C,k2,W⟩:=Ava hT y D (e:=e) (l:=Cr++new) hok m Q S rfl (w.drawn+1);refine⟨_,_,?_,C,k2,.inr ⟨aC _,by rw[Ab.Cv];omega⟩⟩;rw[show Cj (f.set h.next w.heap.size (cap-(a+n))) (.slice h.next 0 (Nat.add a n) (Nat.add a n) true)=_ from W,H];simpa [Cj]using U
       ·cases L
      ·cases h2
     ·cases h2
   ·cases g
  ·cases g
 ·cases g
end
end
section
theorem Bay:∀l:List UInt8,Bn1 l=l.length
 | []=>rfl
 | _::r=>congrArg Nat.succ (Bay r)
section
variable{w:World}(hT:O6 P T)
include hT
omit hT in
theorem Aei.stay(a:Tj p h)(d:Te f h w){s:Sem Value}(hs:s.run P w=.ok (Cj f v) w)(g:v.ok p):Aei P s p f h w v h:=
 ⟨f,w,hs,Move.refl d,Wf.refl a,by rw[J8 p h h rfl];exact g⟩
theorem Biw(B:Tj p h)(C:Te f h w){t u ty e e':TypeId}{d s:EV}(E:T.Tv t=some (.slice e)){size dn g:Nat}(hs:T.size e=some size)(hd:lenOf d=some dn)(q:lenOf s=some g)
 (F:n=Bb (Nat.ble g dn) g dn) {cs:List EV} (G:cellsOf h size n s=some cs) {a b:Nat} {op:Bool} (y:d=.slice i off a b op) (hw:L9 h i off cs=some h') :
 Aei P (Builtin.copy_ #[t,u] ty #[Cj f d,Cj f s]) p f h w (.int .i64 (.ofNat n)) h':=by
 obtain⟨D,H,n3,n4⟩:=Abv (P:=P) B C G;obtain⟨bs,M,j⟩:=Avl (f:=f) q;obtain⟨w',J,K,L⟩:=Av2 (P:=P) B C hw H n3;subst y;have A:dn=a:=by simp only[lenOf]at hd;cases hd;rfl
 subst A;have m:Nat.min g dn=n:=by
  rw[F,Bo];show min g dn=_;by_cases hle:g<=dn
  ·rw[aN (Abn hle)];omega
  ·rw[aK (by rw[Ad8 hle];simp)];omega
 refine⟨f,w',?_,K,L,trivial⟩;rw[j];rw[j]at D;simp only[Cj,Builtin.copy_,Sem.run_bind,bQ,bM,b9,Dy hT w E,aI,Builtin.lenOf,aS,G4 hT w hs,m,D,J];rfl
theorem A5h(F:Tj p h)(E:Te f h w){b:Builtin}{cs:Array Bool}(S:EV.Tg p args)(g:builtin T b ts args h=some (v,h')):
 ∃s,(Go.builtin b ts ty cs (Bn f args).toArray)=(do pure (.value (←s)):Sem Next)/\Aei P s p f h w v h':=by
 unfold builtin at g;split at g
 ·rename_i s x
  split at g
  ·rename_i t u B
   have A:ts = #[t,u]:=by apply dN;simpa using B
   subst A;split at g
   ·rename_i e' hu
    exact⟨_,rfl,A8f hT F E S.1 hu g⟩
   ·cases g
  ·cases g
 ·rename_i x
  split at g
  ·rename_i t B
   have A:ts = #[t]:=by apply dN;simpa using B
   subst A;refine⟨_,rfl,?_⟩;split at g
   ·rename_i n e hu
    cases g;exact Aei.stay F E (by simp[Builtin.len_,Dy hT w hu,Bn,Cj,goInt]) trivial
   ·rename_i e y hu
    split at g
    ·rename_i n U
     cases g;obtain⟨bx,cx,J⟩:=Avl (f:=f) U;exact Aei.stay F E (by simp[Builtin.len_,Dy hT w hu,Bn,J,goInt,Cj]) trivial
    ·cases g
   ·rename_i s hu
    cases g;exact Aei.stay F E (by simp[Builtin.len_,Dy hT w hu,Bn,Cj,goInt,Bay]) trivial
   ·rename_i d e i hu
    split at g
    ·rename_i c buf G
     cases g;obtain⟨r,K,s1,c1,M⟩:=E.obj i _ G;subst M;have D:=N7 (P:=P) K (by intro c e z J;cases J);exact Aei.stay F E (by simp[Builtin.len_,Dy hT w hu,Bn,Cj,D,goInt,Uf,Cu]) trivial
    ·cases g
   ·cases g
  ·cases g
 ·rename_i d s
  split at g
  ·rename_i t u B
   have A:ts = #[t,u]:=by apply dN;simpa using B
   subst A;split at g
   ·rename_i e e' V hu
    split at g
    ·rename_i size dn sn hs hd O
     obtain⟨_,g⟩:=Th g;split at g
     ·rename_i W X
      split at g
      ·split at g
       ·rename_i Y hw
        cases g;exact⟨_,rfl,Biw hT F E (e':=e') V hs hd O rfl X rfl hw⟩
       ·cases g
      ·cases g
     ·cases g
    ·cases g
   ·cases g
  ·cases g
 ·rename_i m k
  split at g
  ·rename_i t tr B
   have h0:ts[0]? = some t:=by
    have:ts.toList[0]? = some t:=by rw[B];rfl
    simpa using this
   split at g
   ·rename_i kt e i hu
    obtain⟨L,h2⟩:=Aq g;split at h2
    ·rename_i es G
     obtain⟨r,K,ents,clock,M,a3⟩:=E.obj i _ G;obtain⟨_,a4⟩:=F.get i _ G;subst M;have D:=N7 (P:=P) K (by intro c e z J;cases J);have H:=fun o'=>Ql (P:=P) (o':=o') K (by intro c e z J;cases J)
     refine⟨_,rfl,?_⟩;split at h2
     ·rename_i j u' C
      cases h2;have Q:=Vh (w:=w) (f:=f) hT L a3 C;refine⟨f,_,?_,Move.setObj E G (r:=.map (ents.eraseIdxIfInBounds j) clock) ⟨_,_,rfl,?_⟩,Wf.put F G (fun q Z=>a4 q (List.mem_of_mem_eraseIdx Z)),trivial⟩
      ·simp only[Builtin.delete_,Bn,Cj,Sem.run_bind,bQ,bM,b9,h0,Dy hT w hu,aI,D,Qp hT L,Q,dQ,H,aS]
      ·have e1:(ents.eraseIdxIfInBounds j).toList=ents.toList.eraseIdx j:=by
        rw[Array.eraseIdxIfInBounds_eq];split
        ·simp
        ·rename_i hj
         rw[List.eraseIdx_of_length_le (by simpa using hj)]
       rw[e1,List.eraseIdx_eq_take_drop_succ,List.eraseIdx_eq_take_drop_succ];simp only[cB,List.map_take,List.map_drop,a3]
     ·rename_i C
      cases h2;have Q:=Vh (w:=w) (f:=f) hT L a3 C;refine⟨f,_,?_,Move.setObj E G (r:=.map ents clock) ⟨_,_,rfl,a3⟩,Wf.put F G a4,trivial⟩;simp only[Builtin.delete_,Bn,Cj,Sem.run_bind,bQ,bM,b9,h0,Dy hT w hu,aI,D,Qp hT L,Q,Option.map_none,H,aS]
     ·cases h2
    ·cases h2
   ·cases g
  ·cases g
 ·rename_i k a l
  split at g
  ·rename_i u hm
   cases g;obtain⟨⟨c,rfl⟩,h2⟩:=Ax5 (f:=f) false k hm;refine⟨_,rfl,Aei.stay F E ?_ trivial⟩;simp only[Builtin.min_,Bn,dO,Cj,Oz];simp only[aU,aY,Cj]at h2;rw[h2];rfl
  ·cases g
 ·rename_i k a l
  split at g
  ·rename_i u hm
   cases g;obtain⟨⟨c,rfl⟩,h2⟩:=Ax5 (f:=f) true k hm;refine⟨_,rfl,Aei.stay F E ?_ trivial⟩;simp only[Builtin.max_,Bn,dO,Cj,Oz];simp only[bG,Cj]at h2;rw[h2];rfl
  ·cases g
 ·cases g
end
end
section
structure FB where
 fn:Nat
 defers:List Deferred
 Dp:Option Nat
def FB.at(b:FB)(tmps:Array Value)(todo:List Item):Frame:={ fn:=b.fn,tmps,todo,defers:=b.defers,mode:=.run,kind:=.normal,roundOf:=b.Dp }
def Ja(tmps:Array Value):Operand->Value:=(Act.mk tmps []).eval
def A6v(tmps:Array Value)(d:Option Tmp)(v:Value):Array Value:=
 match d with
 | some d=>tmps.setIfInBounds d v
 | none=>tmps
theorem FB.eval_at(b:FB)(tmps:Array Value)(todo:List Item):(b.at tmps todo).eval=Ja tmps:=by funext x;cases x<;>rfl
theorem FB.finish_at(b:FB)(tmps:Array Value)(a:ops[i]? = some o)(rest:List Nat)(k:List Item)(v:Value):
 (b.at tmps (.inRegion ops (i::rest)::k)).finish v=b.at (A6v tmps o.dst v) (.inRegion ops rest::k):=by
 cases hd:o.dst<;>simp[Frame.finish,FB.at,A6v,a,hd]
def Akq:Op->Bool
 | .defer _=>true
 | _=>false
section
variable{b:FB}{rest:List Nat}{k:List Item}{cs:List Frame}{w:World}
theorem Apf(g:ops[i]? = some o)(hw:Region.wanted o (Go.yielded ops tmps)=true)(hd:Akq o.op=false):
 stepG P true { frame:=b.at tmps (.inRegion ops (i::rest)::k),callers:=cs,status:=.running,dying:=none } w =
  stepG.apply P true (b.at tmps (.inRegion ops (i::rest)::k)) cs none (execOp (Ja tmps) o) w:=by
 have he:=FB.eval_at b tmps (.inRegion ops (i::rest)::k);simp only[FB.at]at he;cases d:b.Dp<;>cases a:o.op<;>simp[stepG,stepG.exec,stepG.oper,Frame.oper?,FB.at,g,hw,d,a]<;>first|(rw[d]at he;rw[he];done)|(simp[a,Akq]at hd)
theorem A0t(a:ops[i]? = some o)(hw:Region.wanted o (Go.yielded ops tmps)=true)(hd:Akq o.op=false){v:Value}
 (d:(execOp (Ja tmps) o).run P w=.ok (.value v) w') :
 step P (lone (b.at tmps (.inRegion ops (i::rest)::k)) cs w)=.next (lone (b.at (A6v tmps o.dst v) (.inRegion ops rest::k)) cs w'):=by
 refine cC ?_;rw[Apf a hw hd,<-FB.finish_at b tmps a];simp[stepG.apply,d]
theorem A31(a:ops[i]? = some o)(hw:Region.wanted o (Go.yielded ops tmps)=true)(hd:Akq o.op=false)
 (d:(execOp (Ja tmps) o).run P w=.ok .skip w') :
 step P (lone (b.at tmps (.inRegion ops (i::rest)::k)) cs w)=.next (lone (b.at (A6v tmps o.dst undef) (.inRegion ops rest::k)) cs w'):=by
 refine cC ?_;rw[Apf a hw hd,<-FB.finish_at b tmps a];simp[stepG.apply,d]
theorem Az2(a:ops[i]? = some o)(hw:Region.wanted o (Go.yielded ops tmps)=true)(hd:Akq o.op=false){g:FuncId}{args:Array Value}
 (d:(execOp (Ja tmps) o).run P w=.ok (.enter g args) w') :
 step P (lone (b.at tmps (.inRegion ops (i::rest)::k)) cs w)=.next (lone (Frame.enter P g args .normal) (b.at tmps (.inRegion ops (i::rest)::k)::cs) w'):=by
 refine cC ?_;rw[Apf a hw hd];simp[stepG.apply,d,FB.at]
theorem Azu(a:ops[i]? = some o)(hw:Region.wanted o (Go.yielded ops tmps)=true)(hd:Akq o.op=false){l g:Nat}{ts:Array Value}{asg body:Code}
 (d:(execOp (Ja tmps) o).run P w=.ok (.round l g ts asg body) w') :
 step P (lone (b.at tmps (.inRegion ops (i::rest)::k)) cs w)=.next (lone (Frame.round l g ts asg body .normal) (b.at tmps (.inRegion ops (i::rest)::k)::cs) w'):=by
 refine cC ?_;rw[Apf a hw hd];simp[stepG.apply,d,FB.at]
theorem Awt(a:ops[i]? = some o)(hw:Region.wanted o (Go.yielded ops tmps)=false):
 step P (lone (b.at tmps (.inRegion ops (i::rest)::k)) cs w)=.next (lone (b.at (A6v tmps o.dst undef) (.inRegion ops rest::k)) cs w):=by
 refine cC ?_;rw[<-FB.finish_at b tmps a];simp[stepG,stepG.exec,FB.at,a,hw]
theorem Av1:step P (lone (b.at tmps (.inRegion ops []::k)) cs w)=.next (lone (b.at tmps k) cs w):=
 cC (by simp[stepG,stepG.exec,FB.at])
end
def Aml(P:Program)(o:Oper)(tmps:Array Value)(p:Nat->Prop)(f:Loc)(h:Ab)(w:World)(v:EV)(h':Ab):Prop:=
 ∀(b:FB) (ops:Array Oper) (i:Nat) (rest:List Nat) (k:List Item) (cs:List Frame),ops[i]? = some o->Region.wanted o (Go.yielded ops tmps)=true ->
  ∃f' w',Steps P (lone (b.at tmps (.inRegion ops (i::rest)::k)) cs w) (lone (b.at (A6v tmps o.dst (Cj f' v)) (.inRegion ops rest::k)) cs w') /\
   Move p f h w f' h' w'/\Wf p h h'/\v.ok (grow p h h')
theorem Aml.Ab1{w:World}(hd:Akq o.op=false)
 (he:An6 P (execOp (Ja tmps) o) p f h w v h'):Aml P o tmps p f h w v h':=by
 intro b ops i rest k cs a hw;obtain⟨f',w',N,d,h2,g,h4,j⟩:=he;refine⟨f',w',?_,g,h4,j⟩;rcases h2 with rfl|⟨rfl,rfl⟩
 ·exact .one (A0t a hw hd d)
 ·exact .one (A31 a hw hd d)
def Aec(P:Program)(c:Ai):Prop:=
 ∀g args h v h',c g args h=some (v,h')->(∃fn,P.funcs[g]? = some fn/\fn.body.isSome=true/\(fn.name == "runtime.NumGoroutine")=false) /\
  ∀p f w,Tj p h->Te f h w->EV.Tg p args->∀cs,∃fr f' w',Steps P (lone (Frame.enter P g (Bn f args).toArray .normal) cs w) (lone fr cs w')/\fr.fn=g /\
   fr.leaving P w' (.returned (Cj f' v))/\Move p f h w f' h' w'/\Wf p h h'/\v.ok (grow p h h')
def Ale(P:Program)(c:Ai):Prop:=
 ∀l args h v h',c l args h=some (v,h')->∃st g fn n tm ps asg body d a,h.get l=some (.loop st g fn n tm ps asg body d)/\Vw ps args n tm=some a /\
  ∀p f w,Tj p h->Te f h w->EV.Tg p args->∀caller cs,∃f' w',Steps P (lone (Frame.round (f.b l) fn (Bg f n a) asg body .normal) (caller::cs) w) (lone (caller.finish (Cj f' v)) cs w') /\
   Move p f h w f' h' w'/\Wf p h h'/\v.ok (grow p h h')
theorem Bmh(n:Nat)(tm:Ax)(d:Nat)(v:EV):Bb (Nat.ble (Nat.succ d) n) (tm.put d (some v)) tm=Ps n tm (some d) v:=rfl
theorem Ah9(f:Loc):∀{ps:List Tmp} {args:List EV} {tm a:Ax},Vw ps args n tm=some a->EV.Tg p args->Lk p n tm ->
 ps.length=args.length/\Lk p n a/\(ps.zip (Bn f args)).foldl (fun tmps (x:Tmp × Value)=>tmps.setIfInBounds x.1 x.2) (Bg f n tm)=Bg f n a
 | [],[],tm,a,h,_,d=>by cases h;exact⟨rfl,d,rfl⟩
 | q::r,v::s,tm,a,h,g,d=>by
  simp only[Vw,Bmh]at h;obtain⟨j,h2,m⟩:=Ah9 f h g.2 (d.put (some q) g.1);refine⟨by simp[j],h2,?_⟩;simp only[Bn,List.zip_cons_cons,List.foldl_cons];rw[Ayk];exact m
 | [],_::_,_,_,h,_,_=>by cases h
 | _::_,[],_,_,h,_,_=>by cases h
theorem Ti(a:Lk p n tm):Reads f tm (Ja (Bg f n tm)) where
 tmp t:=by simp only[Ja,Act.eval];exact Abh f a t
 const v:=rfl
 func g:=rfl
end
section
section
variable{w:World}(hT:O6 P T)
theorem Bnf {op:BinOp}{a b:EV}(d:bin T op t a b=some v):v.ok p:=by
 unfold bin at d;split at d
 ·rename_i k a g b
  rw[Bo]at d;split at d
  ·split at d
   ·unfold A24 at d
    split at d
    ·cases d;trivial
    ·split at d<;>(cases d;trivial)
    ·cases d
   ·cases d
  ·rw[Bo]at d
   split at d
   ·unfold Bfl at d
    split at d
    all_goals first
     | (cases d;done)
     | (cases d;trivial)
     | (obtain⟨_,h2⟩:=Th d;cases h2;trivial)
     | (split at d<;>first|(cases d;done)|(cases d;trivial))
   ·cases d
 ·split at d
  ·split at d<;>first|(cases d;trivial)|cases d
  ·split at d<;>first|(cases d;trivial)|cases d
  ·cases d
theorem Bcl{cs:List EV}(d:EV.Tg p cs)(g:cs.all EV.one=true)(a:part T t cs off=some v):v.ok p:=by
 unfold part at a;split at a
 ·split at a
  ·split at a
   ·rename_i n m l j
    cases a;obtain⟨_,h2⟩:=Ae1 j;rw[h2,Ry];exact⟨A70 d _ _,A7x g _ _⟩
   ·cases a
  ·cases a
 ·split at a
  ·rename_i q r hd
   cases a;rw[Ry]at hd;exact(H5 p cs).1 d _ (aM (by rw[hd];exact aV))
  ·cases a
 ·cases a
theorem Bgz {x:EV}{size:Nat}{j m q:Option EV}(d:x.ok p)(a:slc x size j m q=some v):v.ok p:=by
 unfold slc at a;split at a
 ·rename_i i off len room op
  have g:p i:=d;split at a
  ·split at a
   ·cases a
   ·split at a
    ·cases a
    ·simp only[Bo]at a
     repeat' split at a
     all_goals first|(cases a;exact g)|cases a
  ·split at a
   ·split at a
    ·cases a
    ·split at a
     ·cases a
     ·cases a;exact g
   ·cases a
 ·split at a
  ·split at a
   ·cases a
   ·split at a
    ·cases a
    ·cases a;exact d
  ·cases a
 ·cases a
include hT in
theorem Bl8(j:Lk p n tm)(g:Fg T tm op=some v):v.ok p:=by
 cases op with
 | move x=>exact E6 j g
 | assign x=>exact E6 j g
 | pick c a b=>
  simp only[Fg]at g;split at g
  ·exact E6 j g
  ·exact E6 j g
  ·cases g
 | binOp op t x y u=>
  simp only[Fg]at g;split at g
  ·split at g
   ·exact Bnf g
   ·cases g
  ·cases g
 | unOp u t x=>
  cases u<;>simp only[Fg]at g
  all_goals first
   | (split at g<;>first|(cases g;trivial)|cases g)
   | cases g
 | nilCheck x=>
  simp only[Fg]at g;split at g
  ·rename_i i o' he
   cases g;exact E6 j he
  ·cases g
 | fieldAddr s x K=>
  simp only[Fg]at g;split at g
  ·rename_i i off he
   have L:p i:=E6 j he;split at g
   ·split at g
    ·split at g
     ·obtain⟨_,h2⟩:=Th g;cases h2;exact L
     ·cases g
    ·cases g
   ·cases g
  ·cases g
 | indexAddr t x ix=>
  simp only[Fg]at g;split at g
  ·split at g
   ·rename_i he
    split at g
    ·obtain⟨_,h2⟩:=Aq g;cases h2;have:=E6 j he;exact this
    ·cases g
   ·rename_i he
    split at g
    ·obtain⟨_,h2⟩:=Aq g;cases h2;have:=E6 j he;exact this
    ·cases g
   ·cases g
  ·cases g
 | index t x ix=>
  simp only[Fg]at g;split at g
  ·split at g
   ·rename_i he
    split at g
    ·obtain⟨_,h2⟩:=Aq g
     have A:=E6 (v:=.agg _) j he;exact Bcl A.1 A.2 h2
    ·cases g
   ·split at g
    ·cases g;trivial
    ·cases g
   ·cases g
  ·cases g
 | field t x K=>
  simp only[Fg]at g;split at g
  ·rename_i he
   split at g
   ·have A:=E6 (v:=.agg _) j he
    exact Bcl A.1 A.2 g
   ·cases g
  ·cases g
 | convert s d x=>
  simp only[Fg]at g;split at g
  ·cases g;trivial
  ·cases g
 | extract x ix=>
  simp only[Fg]at g;split at g
  ·rename_i l he
   split at g
   ·rename_i Q r hd
    cases g;rw[Ry]at hd;exact(H5 p l).1 (E6 (v:=.tuple l) j he) _ (aM (by rw[hd];exact aV))
   ·cases g
  ·cases g
 | slice t x S U V=>
  simp only[Fg]at g;split at g
  ·split at g
   ·rename_i he
    split at g
    ·exact Bgz (x:=.slice _ _ _ _ _) (E6 (v:=.ptr _ _) j he) g
    ·cases g
   ·rename_i he
    split at g
    ·exact Bgz (E6 j he) g
    ·cases g
   ·cases g
  ·cases g
 | build t ps=>
  have key:∀{z c:List EV} {l:List (Nat × EV)} {pl:Nat->Option (Nat × Nat)},T.zero t=some z->Y8 tm ps.toList=some l->fill pl z l=some c->(EV.agg c).ok p:=by
   intro z c l pl B C m;obtain⟨i,W,X,_,_,M,J,rfl,_⟩:=hT.zero t z B;have D:=Uk (A8p p M) J;have E:=At4 j C;have F:=Aki pl m;refine⟨(H5 p c).2 (Ang pl (q:=fun v=>v.ok p) m (fun v G=>(H5 p _).1 D.1 v G) (fun q H v G=>(H5 p _).1 (Uk (E q H) (F q H)).1 v G)),?_⟩;rw[dL];exact Ang pl (q:=fun v=>v.one=true) m D.2 (fun q H v G=>(Uk (E q H) (F q H)).2 v G)
  simp only[Fg]at g;split at g
  ·rename_i B C _
   split at g
   ·split at g
    ·rename_i m;cases g;exact key B C m
    ·cases g
   ·cases g
  ·rename_i B C _
   split at g
   ·split at g
    ·rename_i m;cases g;exact key B C m
    ·cases g
   ·cases g
  ·cases g
 | makeFunc fn a b=>
  cases fn<;>simp only[Fg]at g
  all_goals first
   | (split at g
      ·rename_i O hb;cases g;exact⟨Ajd j O,Ajd j hb⟩
      ·cases g)
   | cases g
 | sliceToArrayPointer t x=>
  simp only[Fg]at g;split at g
  ·rename_i he
   obtain⟨_,h2⟩:=Aq g;cases h2;exact E6 (v:=.slice _ _ _ _ _) j he
  ·cases g
 | _=>cases g
theorem Aui(g:Tj p h)(j:Te f h w){a:List EV}(d:h.get i=some (.chan cap buf))(hb:EV.Tg p a)(s r:Nat):
 Move p f h w f (h.put i (.chan cap a)) (w.setChan (f.b i) cap (Bn f a).toArray false s r false)/\Wf p h (h.put i (.chan cap a)):=
 ⟨Move.setObj (p:=p) j d (o':=.chan cap a) (r:=.chan cap (Bn f a).toArray false s r false) ⟨s,r,rfl⟩,Wf.put g d hb⟩
theorem Av4{c:SelectCase}(m:o.op=.select #[c] false){zv:Value}(g:(zeroValue c.elem).run P w=.ok zv w)
 (b:FB) {a:Array Value} (j:execOp (Ja tmps) o=execOp (Ja a) o) (rest:List Nat) (k:List Item) (cs:List Frame) (q:ops[i]? = some o) (hw:Region.wanted o (Go.yielded ops tmps)=true) :
 ∃es,stepG P true (Conc.G (b.at tmps (.inRegion ops (i::rest)::k)) cs) w=.comm (Conc.G (b.at tmps (.inRegion ops (i::rest)::k)) cs)
  #[{ chan:=Ja a c.chan,send:=c.send.map (Ja a),zero:=zv }] false .select w es:=by
 have:=Apf (P:=P) (b:=b) (rest:=rest) (k:=k) (cs:=cs) (w:=w) q hw (by rw[m];rfl);have d:(execOp (Ja tmps) o).run P w=.ok (.comm #[{ chan:=Ja a c.chan,send:=c.send.map (Ja a),zero:=zv }] false .select) w:=by
  rw[j];simp only[execOp,m];simp[g]
 rw[Conc.G,this];simp only[stepG.apply,Sem.runT_eq,d,GStep.after,bG];exact⟨_,rfl⟩
include hT in
theorem A5f(C:Lk p n tm)(g:Tj p h)(m:Te f h w)(q:execOp (Ja tmps) o=execOp (Ja (Bg f n tm)) o){c:SelectCase}(F:o.op=.select #[c] false)
 (H:Cf tm c.chan=some (.chan i)) (hs:c.send=some x) {u:EV} (y:h.get i=some (.chan cap buf)) (D:Cf tm x=some u) (J:zeroOf T c.elem=some zv)
 (a:Bb (Nat.ble (Nat.succ (len buf)) cap) (some (EV.tuple [.int .i64 0,.bool false],h.put i (.chan cap (buf++[u])))) (some (.tuple [.int .i64 (-1),.bool false],h))=some (v,h')) :
 Aml P o tmps p f h w v h':=by
 intro b ops j rest k cs hj hw;have E:=Ti (f:=f) C;obtain⟨r0,d,s,r,rfl⟩:=m.obj i _ y;have A:=(Arh hT (f:=f) (w:=w) J).1;obtain⟨es,he⟩:=Av4 F A b q rest k cs hj hw;rw[Bj E H,hs,dQ,Bj E D]at he;have hok:=(g.get i _ y).2;by_cases hb:buf.length<cap
 ·rw[Uf,Abn (by omega),Al]at a
  cases a;have B:EV.Tg p (buf++[u]):=Zo hok ⟨E6 C D,trivial⟩;obtain⟨K,L⟩:=Aui g m y B (s+1) r;refine⟨f,_,.one ?_,K,L,?_⟩
  ·have:=Conc.step_lone_select_send_room he d (by simpa [Cu]using hb)
   rw[FB.finish_at b _ hj]at this;simpa [Sn,Bn,Cj,goInt,Conc.solo,Conc.G,lone]using this
  ·simp[EV.ok,EV.Tg]
 ·rw[Uf,Ad8 (by omega),Bl]at a
  cases a;refine⟨f,w,.one ?_,Move.refl m,Wf.refl g,?_⟩
  ·have:=Conc.step_lone_select_send_full he d (by simpa [Cu]using hb)
   rw[FB.finish_at b _ hj]at this;simpa [Sn,Bn,Cj,goInt,Conc.solo,Conc.G,lone]using this
  ·simp[EV.ok,EV.Tg]
include hT in
theorem A61(C:Lk p n tm)(m:Tj p h)(q:Te f h w)(u:execOp (Ja tmps) o=execOp (Ja (Bg f n tm)) o){c:SelectCase}(D:o.op=.select #[c] false)
 (E:Cf tm c.chan=some (.chan i)) (hs:c.send=none)
 (a:(match buf with
  | v::r=>some (EV.tuple [.int .i64 0,.bool true,v],h.put i (.chan cap r))
  | []=>some (.tuple [.int .i64 (-1),.bool false,zv],h))=some (v,h')) (y:h.get i=some (.chan cap buf)) (F:zeroOf T c.elem=some zv) :
 Aml P o tmps p f h w v h':=by
 intro b ops j rest k cs hj hw;have H:=Ti (f:=f) C;obtain⟨r0,d,s,r,rfl⟩:=q.obj i _ y;obtain⟨A,B⟩:=Arh hT (f:=f) (w:=w) F;obtain⟨es,he⟩:=Av4 D A b u rest k cs hj hw;rw[Bj H E,hs,Option.map_none]at he;have hok:=(m.get i _ y).2;cases buf with
 | cons x l=>
  cases a;obtain⟨J,K⟩:=Aui m q y hok.2 s (r+1);refine⟨f,_,.one ?_,J,K,?_⟩
  ·have:=Conc.step_lone_select_recv_buf he d (by simp[Bn])
   rw[FB.finish_at b _ hj]at this;simpa [Bn,Cj,goInt,Conc.solo,Conc.G,lone]using this
  ·exact⟨trivial,trivial,EV.ok.mono (fun _ L=>.inl L) _ hok.1,trivial⟩
 | nil=>
  cases a;refine⟨f,w,.one ?_,Move.refl q,Wf.refl m,?_⟩
  ·have:=Conc.step_lone_sel_default he (by
    intro M g;simp only[List.mem_toArray,aO]at g;subst g;exact Conc.noWay_recv d)
   rw[FB.finish_at b _ hj]at this;simpa [commResult,Bn,Cj,goInt,Conc.solo,Conc.G,lone]using this
  ·exact⟨trivial,trivial,B _,trivial⟩
include hT
theorem Bk4(B:Lk p n tm)(q:Tj p h)(u:Te f h w)(j:execOp (Ja tmps) o=execOp (Ja (Bg f n tm)) o)(d:Dw T tm o.op h=some (v,h')):
 Aml P o tmps p f h w v h':=by
 have A:=Ti (f:=f) B;cases g:o.op with
 | load t a=>
  rw[g]at d;obtain⟨rfl,h2,C⟩:=Bki hT A q u g d;refine Aml.Ab1 (by rw[g];rfl) ⟨f,w,_,(by rw[j];exact C),.inl rfl,Move.refl u,Wf.refl q,?_⟩;rw[J8 _ _ _ rfl];exact h2
 | store t a x=>rw[g]at d;exact Aml.Ab1 (by rw[g];rfl) (by rw[j];exact Bes hT A B q u g d)
 | alloc t=>rw[g]at d;exact Aml.Ab1 (by rw[g];rfl) (by rw[j];exact Bcv hT q u g d)
 | box t x=>rw[g]at d;exact Aml.Ab1 (by rw[g];rfl) (by rw[j];exact Blj A B q u g d)
 | makeSlice t x y=>rw[g]at d;exact Aml.Ab1 (by rw[g];rfl) (by rw[j];exact Az5 (n:=n) hT A q u g d)
 | buildSlice t m ps=>rw[g]at d;exact Aml.Ab1 (by rw[g];rfl) (by rw[j];exact Axv hT A B q u g d)
 | makeMap t r=>rw[g]at d;exact Aml.Ab1 (by rw[g];rfl) (by rw[j];exact A7n q u g d)
 | makeChan t x=>rw[g]at d;exact Aml.Ab1 (by rw[g];rfl) (by rw[j];exact A3l hT A q u g d)
 | lookup t x k ok=>rw[g]at d;exact Aml.Ab1 (by rw[g];rfl) (by rw[j];exact A91 (n:=n) hT A q u g d)
 | mapUpdate t m k x=>rw[g]at d;exact Aml.Ab1 (by rw[g];rfl) (by rw[j];exact Az3 hT A B q u g d)
 | call c=>
  rw[g]at d;obtain⟨callee,args,argTypes⟩:=c;cases callee with
  | builtin bi=>
   simp only[Dw]at d;split at d
   ·rename_i as has
    have key:∀cs,An6 P (Go.builtin bi argTypes o.type cs (Bn f as).toArray) p f h w v h':=by
     intro cs;obtain⟨s,E,f',w',h2,C,h4,F⟩:=A5h (ty:=o.type) (cs:=cs) hT q u (Ajd B has) d;refine⟨f',w',.value (Cj f' v),?_,.inl rfl,C,h4,F⟩;rw[E];simp only[Sem.run_bind,h2,aI,aS]
    have he:args.map (Ja (Bg f n tm))=(Bn f as).toArray:=by
     rw[<-Zu A has];simp only[<-List.map_toArray,dZ]
    obtain⟨f',w',N,E,h2,C,h4,F⟩:=key (args.map fun | .const _=>true|_=>false);refine Aml.Ab1 (by rw[g];rfl) ⟨f',w',N,?_,h2,C,h4,F⟩;rw[<-E,j];simp only[execOp,g,resolve,Sem.run_bind,aS,aI,invoke,he];rfl
   ·cases d
  | value x=>cases d
  | invoke x m=>cases d
 | select cs bl=>
  rw[g]at d;cases bl with
  | true=>cases d
  | false=>
   simp only[Dw]at d;split at d
   ·rename_i c G
    have D:cs = #[c]:=by apply dN;simpa using G
    subst D;split at d
    ·rename_i i x H hs
     split at d
     ·rename_i cap buf M J L
      split at d
      ·rename_i zv K
       exact A5f hT B q u j g H hs J L K d
      ·cases d
     ·cases d
    ·rename_i i H hs
     split at d
     ·rename_i cap buf zv J K
      exact A61 hT B q u j g H hs d J K
     ·cases d
    ·cases d
   ·cases d
 | _=>rw[g]at d;cases d
end
end
section
section
variable{w:World}(hT:O6 P T){call:Ai}(hC:Aec P call)(hR:Ale P round)
theorem Move.Bg{f':Loc}{w:World}(m:Move p f h w f' h' w')(a:Lk p n tm):Bg f n tm=Bg f' n tm:=K5 m.agree a
theorem Ahn(f:Loc)(n:Nat)(tm:Ax)(d:Option Tmp)(v:EV):A6v (Bg f n tm) d (Cj f v)=Bg f n (Ps n tm d v):=by
 cases d with
 | none=>rfl
 | some d=>exact Ayk f n tm d v
include hT hC hR in
theorem Bgc(D:Lk p n tm)(E:Tj p h)(F:Te f h w)(q:execOp (Ja tmps) o=execOp (Ja (Bg f n tm)) o)(a:aop T call round tm o.op h=some (v,h')):
 Aml P o tmps p f h w v h':=by
 have G:=Ti (f:=f) D;unfold aop at a;rw[Bo]at a;split at a
 ·rename_i Z
  split at a
  ·rename_i v' H
   cases a;refine Aml.Ab1 ?_ ⟨f,w,_,(by rw[q];exact Bg6 hT f w G H),.inl rfl,Move.refl F,Wf.refl E,?_⟩
   ·cases y:o.op<;>first|rfl|(rw[y]at Z;cases Z)
   ·rw[J8 _ _ _ rfl];exact Bl8 hT D H
  ·cases a
 ·split at a
  ·rename_i fo args ab heq
   split at a
   ·rename_i g first captured as M has
    obtain⟨⟨fn,S,U,A⟩,V⟩:=hC _ _ _ _ _ a;intro b ops i rest k cs y hw;have J:=E6 (v:=.func g first captured) D M;have u:=Ajd D has;have B:EV.Tg p (first++(as++captured)):=Zo J.1 (Zo u J.2);obtain⟨fr,f',w',hs,ad,hl,hm,Z1,C⟩:=V p f w E F B (b.at tmps (.inRegion ops (i::rest)::k)::cs);refine⟨f',w',?_,hm,Z1,C⟩;have he:args.map (Ja (Bg f n tm))=(Bn f as).toArray:=by
     rw[<-Zu G has];simp only[<-List.map_toArray,dZ]
    have j:(execOp (Ja tmps) o).run P w=.ok (.enter g (Bn f (first++(as++captured))).toArray) w:=by
     rw[q];have hb:¬fn.body=none:=by cases hx:fn.body<;>simp_all
     have hn:¬fn.name = "runtime.NumGoroutine":=by simpa using A
     simp[execOp,heq,resolve,he,Bj G M,Cj,Deferred.ofValue,invoke,callFunc,S,hn,hb,Sn]
    refine .head (Az2 y hw (by rw[heq];rfl) j) (hs.trans (.one ?_));rw[<-FB.finish_at b _ y];exact step_leave_returned hl
   ·rename_i l as M has
    obtain⟨st,pd,fn,O,K,ps,asg,body,d,L,hg,W,V⟩:=hR _ _ _ _ _ a;intro b ops i rest k cs y hw;have u:=Ajd D has;obtain⟨f',w',hs,hm,Z1,C⟩:=V p f w E F u (b.at tmps (.inRegion ops (i::rest)::k)) cs;refine⟨f',w',?_,hm,Z1,C⟩;have he:args.map (Ja (Bg f n tm))=(Bn f as).toArray:=by
     rw[<-Zu G has];simp only[<-List.map_toArray,dZ]
    obtain⟨r0,X,rfl⟩:=F.obj l _ hg;obtain⟨hlen,ah,m⟩:=Ah9 f W u (E.get l _ hg).2.1;have j:(execOp (Ja tmps) o).run P w=.ok (.round (f.b l) fn (Bg f O L) asg body) w:=by
     rw[q];have Q:Array.foldl (fun tmps (x:Tmp × Value)=>tmps.setIfInBounds x.1 x.2) (Bg f O K) (ps.toArray.zip (Bn f as).toArray)=Bg f O L:=by
      rw[<-m,List.zip_toArray,List.foldl_toArray]
     have Y:(getObj (f.b l)).run P w=.ok (.loop ⟨st,pd,fn,Bg f O K,ps.toArray,asg,body,f.b d⟩) w:=N7 X (by intros;simp);simp only[execOp,heq,resolve,he,Bj G M,Cj,Deferred.ofValue,invoke,Sem.run_bind,aS,aI,Instr.yield,Instr.getLoop,Y];simp[Cu,hlen];exact m
    refine .head (Azu y hw (by rw[heq];rfl) j) ?_;rw[<-FB.finish_at b _ y];exact hs
   ·cases a
  ·rename_i ai
   exact Bk4 hT D E F q a
theorem A82(a:Lk p n tm)(ops:Array Oper)(j:Nat):Go.yielded ops (Bg f n tm) j=Ev.yielded ops.toList tm j:=by
 unfold Go.yielded Ev.yielded;rw[Axj,cD];cases ops[j]? with
 | none=>rfl
 | some o=>
  simp only[Option.bind_some];cases o.dst with
  | none=>rfl
  | some d=>
   simp only[Option.bind_some];rw[Aeo];by_cases hd:d<n
   ·rw[aN hd]
    unfold tmp;cases g:tm.get d with
    | none=>rfl
    | some v=>cases v<;>rfl
   ·rw[aK hd,a.out d (Nat.le_of_not_lt hd)]
theorem A13(a:Lk p n tm)(ops:Array Oper)(o:Oper):Region.wanted o (Go.yielded ops (Bg f n tm))=Ev.wanted ops.toList tm o.guard:=by
 unfold Region.wanted Ev.wanted;cases o.guard with
 | none=>rfl
 | some x=>
  obtain⟨j,want⟩:=x;simp only[];rw[A82 a];cases Ev.yielded ops.toList tm j with
  | none=>rfl
  | some b=>cases b<;>cases want<;>rfl
include hT hC hR in
theorem A2f(ops:Array Oper):∀{l:List Oper} {i:Nat} {p:Nat->Prop} {f:Loc} {h:Ab} {w:World} {tm j:Ax} {h':Ab},l=ops.toList.drop i->Lk p n tm->Tj p h->Te f h w ->
 Aqh T call round n ops.toList l tm h=some (j,h')->∀(b:FB) (k:List Item) (cs:List Frame),
  ∃f' w',Steps P (lone (b.at (Bg f n tm) (.inRegion ops (List.range' i l.length)::k)) cs w) (lone (b.at (Bg f' n j) (.inRegion ops []::k)) cs w') /\
   Move p f h w f' h' w'/\Wf p h h'/\Lk (grow p h h') n j
 | [],i,p,f,h,w,tm,j,h',J,q,F,G,a,b,k,cs=>by
  simp only[Aqh]at a;cases a;exact⟨f,w,.refl _ _,Move.refl G,Wf.refl F,by rw[J8 _ _ _ rfl];exact q⟩
 | o::r,i,p,f,h,w,tm,j,h',J,q,F,G,a,b,k,cs=>by
  have H:ops[i]? = some o:=by
   have:=congrArg (fun l=>l[0]?) J;simp only[bM,cX,dC,cD]at this;exact this.symm
  have Q:r=ops.toList.drop (i+1):=by
   have:=congrArg List.tail J;simpa [List.tail_drop]using this
  obtain⟨dst,op,ty,ps,K,g⟩:=o;simp only[Aqh]at a;rw[Bo]at a;have u:=A13 (f:=f) q ops ⟨dst,op,ty,ps,K,g⟩;split at a
  ·rename_i hw
   rw[hw]at u;split at a
   ·rename_i v S E
    obtain⟨f1,w1,L,y,m,M⟩:=Bgc hT hC hR q F G (o:=⟨dst,op,ty,ps,K,g⟩) rfl E b ops i (List.range' (i+1) r.length) k cs H u;have A:Lk (grow p h S) n (Ps n tm dst v):=(q.mono fun _ H=>.inl H).put dst M;obtain⟨f2,w2,B,C,d,D⟩:=A2f ops Q A m.hok y.rep a b k cs;refine⟨f2,w2,?_,y.trans C,m.trans d,?_⟩
    ·rw[bH,List.range'_succ]
     refine L.trans ?_;rw[y.Bg q,Ahn];exact B
    ·rw[<-Ad7 p m.next d.next];exact D
   ·cases a
  ·rename_i hw
   have O:Region.wanted ⟨dst,op,ty,ps,K,g⟩ (Go.yielded ops (Bg f n tm))=false:=by rw[u];simpa using hw
   have A:Lk p n (Ps n tm dst (.tuple [])):=q.put dst trivial;obtain⟨f2,w2,B,C,d,D⟩:=A2f ops Q A F G a b k cs;refine⟨f2,w2,?_,C,d,D⟩;rw[bH,List.range'_succ];refine .head (Awt H O) ?_;have:(undef:Value)=Cj f (.tuple []):=rfl;rw[this,Ahn];exact B
end
end
structure AWf(h h':Ab):Prop where
 next:h.next<=h'.next
 mw:h'.mw<=h.mw
 same:∀q,q<h'.mw->q<h.next->h'.get q=h.get q
 live:∀q o,h'.get q=some o->(∃o',h.get q=some o')\/h.next<=q
 lt:(∀q o,h.get q=some o->q<h.next)->∀q o,h'.get q=some o->q<h'.next
theorem AWf.refl(h:Ab):AWf h h:=⟨aC _,aC _,fun _ _ _=>rfl,fun _ o a=>.inl ⟨o,a⟩,fun H=>H⟩
theorem AWf.trans {a b c:Ab}(x:AWf a b)(y:AWf b c):AWf a c where
 next:=bN x.next y.next
 mw:=bN y.mw x.mw
 same q d h2:=(y.same q d (aL h2 x.next)).trans (x.same q (aL d y.mw) h2)
 live q o g:=by
  rcases y.live q o g with⟨o',d⟩|d
  ·exact x.live q o' d
  ·exact .inr (bN x.next d)
 lt H:=y.lt (x.lt H)
theorem AWf.put{o:Dz}(d:h.get i=some o)(o':Dz):AWf h (h.put i o') where
 next:=aC _
 mw:=by rw[Ab.Aog];exact Nat.min_le_right _ _
 same q g _:=by rw[Ab.Aog]at g;rw[Ab.get_put,aK (by omega)]
 live q x a:=by
  rw[Ab.get_put]at a;split at a
  ·rename_i e;subst e;exact .inl ⟨o,d⟩
  ·exact .inl ⟨x,a⟩
 lt H q x a:=by
  rw[Ab.get_put]at a;split at a
  ·rename_i e;subst e;exact H _ _ d
  ·exact H _ _ a
theorem AWf.new(h:Ab)(o:Dz):AWf h (h.new o) where
 next:=Nat.le_succ _
 mw:=aC _
 same q _ h2:=by rw[Ab.K6,aK (by omega)]
 live q x a:=by
  rw[Ab.K6]at a;split at a
  ·rename_i e;exact .inr (by omega)
  ·exact .inl ⟨x,a⟩
 lt H q x a:=by
  rw[Ab.K6]at a;rw[Ab.Cv];split at a
  ·rename_i e;omega
  ·exact Nat.lt_succ_of_lt (H _ _ a)
theorem AWf.del(h:Ab)(i:Nat):AWf h (h.del i) where
 next:=aC _
 mw:=by rw[Ab.Azi];exact Nat.min_le_right _ _
 same q d _:=by rw[Ab.Azi]at d;rw[Ab.Aab,aK (by omega)]
 live q x a:=by
  rw[Ab.Aab]at a;split at a
  ·cases a
  ·exact .inl ⟨x,a⟩
 lt H q x a:=by
  rw[Ab.Aab]at a;split at a
  ·cases a
  ·exact H _ _ a
theorem A1s{vs:List EV}(a:L9 h i off vs=some h'):AWf h h':=by
 unfold L9 at a;split at a
 ·rename_i d
  split at a
  ·cases a;exact .put d _
  ·cases a
 ·rename_i d
  split at a
  ·cases a;exact .put d _
  ·cases a
 ·cases a
theorem Bhw{st:TypeId}{s x:EV}(a:append T st s x h=some (v,h')):AWf h h':=by
 unfold append at a;split at a
 ·split at a
  ·split at a
   ·rw[Bo]at a
    split at a
    ·split at a
     ·obtain⟨_,h2⟩:=Aq a;cases h2;exact .refl _
     ·cases a;exact .refl _
     ·cases a
    ·obtain⟨_,h2⟩:=Aq a
     split at h2
     ·split at h2
      ·cases h2;exact .new _ _
      ·obtain⟨_,d⟩:=Aq h2
       split at d
       ·rw[Bo]at d
        split at d
        ·obtain⟨_,d⟩:=Aq d
         obtain⟨_,d⟩:=Aq d;split at d
         ·obtain⟨_,d⟩:=Aq d
          obtain⟨_,d⟩:=Aq d;obtain⟨_,d⟩:=Aq d;cases d;exact(AWf.del _ _).trans (.new _ _)
         ·cases d
        ·obtain⟨_,d⟩:=Th d
         cases d;exact .new _ _
       ·cases d
      ·cases h2
     ·cases h2
   ·cases a
  ·cases a
 ·cases a
theorem Bfg{b:Builtin}(a:builtin T b ts args h=some (v,h')):AWf h h':=by
 unfold builtin at a;split at a
 ·split at a
  ·split at a
   ·exact Bhw a
   ·cases a
  ·cases a
 ·split at a
  ·split at a
   ·cases a;exact .refl _
   ·split at a<;>first|(cases a;done)|(cases a;exact .refl _)
   ·cases a;exact .refl _
   ·split at a<;>first|(cases a;done)|(cases a;exact .refl _)
   ·cases a
  ·cases a
 ·split at a
  ·split at a
   ·split at a
    ·obtain⟨_,h2⟩:=Th a
     split at h2
     ·split at h2
      ·split at h2
       ·rename_i hw;cases h2;exact A1s hw
       ·cases h2
      ·cases h2
     ·cases h2
    ·cases a
   ·cases a
  ·cases a
 ·split at a
  ·split at a
   ·obtain⟨_,h2⟩:=Aq a
    split at h2
    ·rename_i d
     split at h2
     ·cases h2;exact .put d _
     ·cases h2;exact .put d _
     ·cases h2
    ·cases h2
   ·cases a
  ·cases a
 ·split at a<;>first|(cases a;done)|(cases a;exact .refl _)
 ·split at a<;>first|(cases a;done)|(cases a;exact .refl _)
 ·cases a
theorem Bne(a:Dw T tm op h=some (v,h')):AWf h h':=by
 unfold Dw at a;split at a
 ·
  split at a
  ·split at a
   ·split at a
    ·split at a<;>first|(cases a;done)|(cases a;exact .refl _)
    ·cases a
   ·split at a<;>first|(cases a;done)|(cases a;exact .refl _)
   ·cases a
  ·cases a
 ·
  split at a
  ·obtain⟨_,h2⟩:=Aq a
   obtain⟨_,h2⟩:=Aq h2;split at h2
   ·rename_i hw;cases h2;exact A1s hw
   ·cases h2
  ·cases a
 ·split at a<;>first|(cases a;done)|(cases a;exact .new _ _)
 ·split at a
  ·obtain⟨_,h2⟩:=Aq a;cases h2;exact .new _ _
  ·cases a
 ·split at a
  ·exact Bfg a
  ·cases a
 ·split at a
  ·split at a
   ·obtain⟨_,h2⟩:=Aq a
    split at h2
    ·cases h2;exact .new _ _
    ·cases h2
   ·cases a
  ·cases a
 ·split at a
  ·split at a
   ·obtain⟨_,h2⟩:=Aq a
    obtain⟨_,h2⟩:=Aq h2;cases h2;exact .new _ _
   ·cases a
  ·cases a
 ·cases a;exact .new _ _
 ·split at a
  ·split at a
   ·obtain⟨_,h2⟩:=Aq a;cases h2;exact .new _ _
   ·cases a
  ·cases a
 ·split at a
  ·obtain⟨_,h2⟩:=Aq a
   split at h2
   ·split at h2
    ·cases h2;exact .refl _
    ·split at h2<;>first|(cases h2;done)|(cases h2;exact .refl _)
    ·cases h2
   ·cases h2
  ·cases a
 ·split at a
  ·obtain⟨_,h2⟩:=Aq a
   split at h2
   ·rename_i d
    split at h2
    ·cases h2;exact .put d _
    ·cases h2;exact .put d _
    ·cases h2
   ·cases h2
  ·cases a
 ·split at a
  ·split at a
   ·split at a
    ·rename_i d _
     split at a
     ·rw[Bo]at a
      split at a
      ·cases a;exact .put d _
      ·cases a;exact .refl _
     ·cases a
    ·cases a
   ·split at a
    ·rename_i d _
     split at a
     ·cases a;exact .put d _
     ·cases a;exact .refl _
    ·cases a
   ·cases a
  ·cases a
 ·cases a
def Vn(c:Ai):Prop:=∀g args h v h',c g args h=some (v,h')->AWf h h'
section
variable{call:Ai}(hC:Vn call)(hR:Vn round)
include hC hR
theorem Bm4(a:aop T call round tm op h=some (v,h')):AWf h h':=by
 unfold aop at a;rw[Bo]at a;split at a
 ·split at a<;>first|(cases a;done)|(cases a;exact .refl _)
 ·split at a
  ·split at a
   ·exact hC _ _ _ _ _ a
   ·exact hR _ _ _ _ _ a
   ·cases a
  ·exact Bne a
theorem Bah{ops:List Oper}:∀{l:List Oper} {tm d:Ax} {h h':Ab},Aqh T call round n ops l tm h=some (d,h')->AWf h h'
 | [],_,_,_,_,a=>by cases a;exact .refl _
 | ⟨dst,op,ty,ps,m,g⟩::r,tm,d,h,h',a=>by
  simp only[Aqh]at a;rw[Bo]at a;split at a
  ·split at a
   ·rename_i j
    exact(Bm4 hC hR j).trans (Bah a)
   ·cases a
  ·exact Bah a
end
end Go.Ev
