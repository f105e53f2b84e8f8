import Derived.Test.YtokpnommcenoaaaGreatEvOne
import Derived.Conc.LoneSelect
import Derived.Conc.LoneSelectN
set_option linter.all false
namespace Go.Ev
variable {i n cap off:Nat}{ρ:Operand->Value}{tm:Bb}{o:Oper}{e t ty:TypeId}{ps:Array (Nat × Operand)}{v zv:EV}{h h':Ab}{x:Operand}{ents:List MapEntry}{es:List (EV × EV)}{P:Program}{w':World}{base:Option Addr}{op:Op}{ts:Array TypeId}{buf args:List EV}{ops:Array Oper}{tmps:Array Value}{p:Nat->Prop}{f:Loc}{T:Hj}{round:Ai}
section
section
variable{w:World}(hT:Pv P T)
include hT
theorem A1c(L:Reads f tm ρ)(G:Lq p n tm)(M:Tt p h)(O:Tu f h w)
 {m:Nat} (Q:o.op=.buildSlice t m ps) (a:Dt T tm (.buildSlice t m ps) h=some (v,h')) :
 Arc P (execOp ρ o) p f h w v h':=by
 simp only[Dt]at a;split at a
 ·rename_i e l hu E
  split at a
  ·rename_i s z hs S
   obtain⟨U,h2⟩:=Ap a;split at h2
   ·rename_i c C
    cases h2;simp only[cv,Nat.mul_eq]at U;obtain⟨u,V,H,W,_,_,X,i,i1,i2,i3⟩:=Abs hT f w S;obtain⟨i',J,j2,j3⟩:=hT.size e s hs;have F:s=z.length:=by rw[i1]at J;cases J;omega
    subst F;obtain⟨c1,c2⟩:=Vf (X p) V;rw[<-H]at c1 c2;have d1:∀v∈c,v.ok p:=Ap4 (fun i=>some (Nat.mul i z.length,z.length)) C (fun v j=>(Hy p _).1 c1 v (Av4 j))
     (fun q y v j=>(Hy p _).1 (Vf (Au7 G E q y) (Amd _ C q y)).1 v j)
    have d2:∀v∈c,v.one=true:=Ap4 (fun i=>some (Nat.mul i z.length,z.length)) C (fun v j=>c2 v (Av4 j))
     (fun q y v j=>(Vf (Au7 G E q y) (Amd _ C q y)).2 v j)
    obtain⟨f',w',K,Y,Z,r4⟩:=Am5 (P:=P) M O e ((Hy p _).2 d1) (by simpa using d2);refine⟨f',w',_,?_,.inl rfl,Y,Z,r4⟩;have A:=Awj f (fun i=>some (Nat.mul i z.length,z.length)) (fun i=>some (i*z.length,z.length)) (fun i q y=>y) C;have D:(ps.map fun(i,x)=>(i,ρ x)).toList=l.map fun(i,v)=>(i,Cq f v):=by
     rw[Array.toList_map,Amh L E]
    have B:¬(2^24<m*z.length):=by omega
    simp only[execOp,Q,Instr.buildSlice,Sem.run_bind,Dx hT w hu,aK,Gk hT w hs,gt_iff_lt,B,aY,aS];by_cases d:m*z.length=0
    ·have er:rep z m = []:=bX.1 (by rw[Alx];exact d)
     have e0:∀g:Nat->Value,Array.map g (Array.range 0)=(Bp f []).toArray:=fun g=>by simp[Bp]
     rw[er]at A;simp only[d,bI,Sem.run_bind,aS,aK];rw[e0,D,A];simp only[Sem.run_bind,K,aK,aS];simp[Cq]
    ·rw[aM d]
     simp only[Sem.run_bind,W,aS,aK,Tw,<-H];rw[Bbk f z m d,D,A];simp only[Sem.run_bind,K,aK,aS];simp[Cq]
   ·cases h2
  ·cases a
 ·cases a
omit hT in
theorem Bai(d:Tt p h)(g:Tu f h w)
 {r:Option Operand} (j:o.op=.makeMap t r) (a:Dt T tm (.makeMap t r) h=some (v,h')) :
 Arc P (execOp ρ o) p f h w v h':=by
 cases r with
 | some x=>simp[Dt]at a
 | none=>
  simp only[Dt]at a;cases a;refine⟨f.set h.next w.heap.size 0,{ w with heap:=w.heap.push (.map #[] 0) },_,?_,.inl rfl,Move.new d g 0 rfl ⟨#[],0,rfl,rfl⟩ rfl rfl rfl,Wf.new d (by simp[Ca.ok]),.inr ⟨aD _,by rw[Ab.Dg];omega⟩⟩;simp only[execOp,j,Instr.makeMap,Cq,Loc.Yk];simp
theorem A6a(q:Reads f tm ρ)(j:Tt p h)(u:Tu f h w)
 (y:o.op=.makeChan t x) (a:Dt T tm (.makeChan t x) h=some (v,h')) :
 Arc P (execOp ρ o) p f h w v h':=by
 simp only[Dt]at a;split at a
 ·rename_i d e k n hu A
  split at a
  ·rename_i s hs
   obtain⟨m,h2⟩:=Ap a;cases h2;simp only[cv]at m;obtain⟨i,i1,i2,i3⟩:=hT.size e s hs;have g:¬(((n:Int)<0)\/((n:Int)>IntKind.i64.max)\/((i.bytes:Int)*n>2^48-112)):=by
    have:i.bytes*n<=1048576*65536:=fm i3 m;have e:((i.bytes*n:Nat):Int)=(i.bytes:Int)*n:=by simp
    have e2:IntKind.i64.max=9223372036854775807:=rfl;omega
   refine⟨f.set h.next w.heap.size 0,{ w with heap:=w.heap.push (.chan n #[] false 0 0 false) },_,?_,.inl rfl,Move.new j u 0 rfl ⟨0,0,rfl⟩ rfl rfl rfl,Wf.new j trivial,.inr ⟨aD _,by rw[Ab.Dg];omega⟩⟩;simp only[execOp,y,Instr.makeChan,Bk q A,Cq,asInt,asIntOf,Sem.run_bind,aS,aK,Dx hT w hu,typeInfo,fQ,i1,aX];rw[aM g];simp[Loc.Yk]
  ·cases a
 ·cases a
omit hT in
theorem A49:∀{a b:List EV},Ez a b=some true->a=b
 | [],[],_=>rfl
 | x::r,y::s,h=>by
  unfold Ez at h;split at h
  ·rename_i g
   have m:=A49 h;have:x=y:=by
    unfold Agc at g;split at g
    ·obtain⟨u,h2⟩:=Ap g
     obtain rfl:=Aoy u;cases d:eqB _ _ with
     | false=>rw[d]at h2;cases h2
     | true=>rw[Ajv]at d;rw[cO d]
    ·rename_i p q
     have j:=fV g;rw[A0l]at j;rw[Bir j]
    ·rename_i p q
     cases p<;>cases q<;>first|rfl|(cases g)
    ·cases g
   rw[this,m]
  ·split at h<;>cases h
  ·cases h
 | [],_::_,h=>by cases h
 | _::_,[],h=>by cases h
omit hT in
theorem Bif {a b:EV}{r:Bool}(h:Agc a b=some r):(∃k n,a=.int k n)\/(∃c,a=.bool c)\/(∃s,a=.str s):=by
 unfold Agc at h;split at h
 ·exact .inl ⟨_,_,rfl⟩
 ·exact .inr (.inr ⟨_,rfl⟩)
 ·exact .inr (.inl ⟨_,rfl⟩)
 ·cases h
theorem Q9{k:EV}(d:O6 T t k=true)(e:Bool):(Instr.checkKey e 10000 t (Cq f k)).run P w=.ok () w:=by
 unfold O6 at d;split at d
 ·rename_i a
  rw[Bo]at d;split at d
  ·rename_i g
   split at d
   ·rename_i sh j
    rw[Bo]at d;split at d
    ·rename_i hs
     split at d
     ·exact(hT.key t g).2 f w e a sh j hs
     ·cases d
    ·cases d
   ·cases d
  ·cases d
 ·rename_i kk n
  split at d
  ·rename_i m hu
   rw[Instr.checkKey.eq_def];simp[Dx hT w hu,Cq]
  ·cases d
 ·cases d
omit hT in
def A3q(f:Loc)(ents:List MapEntry)(es:List (EV × EV)):Prop:=ents.map (fun e=>(e.key,e.val))=es.map (fun e=>(Cq f e.1,Cq f e.2))
theorem A92 {g:IntKind}{kk:IntKind}{n:Int}(j:Nat.beq (Ps kk) (Ps g)=true):∀{ents:List MapEntry} {es:List (EV × EV)} {i:Nat} {r:Option (Nat × EV)},A3q f ents es->Hn (.int kk n) es i=some r ->
 Instr.findNow (.int g) (.int kk n) ents i=some (r.map fun x=>(x.1,Cq f x.2))
 | [],[],i,r,_,h=>by simp only[Hn]at h;cases h;rfl
 | u::ents,(a,b)::es,i,r,he,h=>by
  simp only[A3q,cR,List.cons.injEq,eR]at he;obtain⟨⟨e1,e2⟩,e3⟩:=he;unfold Hn at h;unfold Instr.findNow;have q:∀c,Axo (.int kk n) a=some c->Instr.sameNow (.int g) (.int kk n) u.key=some c:=by
   intro c d;unfold Axo at d;split at d
   ·rename_i m;cases m
   ·rename_i A B C b1 m
    cases m;obtain⟨y,h2⟩:=Ap d;obtain rfl:=Aoy y;cases h2;rw[e1];simp[Cq,Instr.sameNow,Ajv];rfl
   ·cases d
  split at h
  ·rename_i d
   cases h;rw[q _ d,e2];rfl
  ·rename_i d
   rw[q _ d];exact A92 j e3 h
  ·cases h
 | [],_::_,_,_,he,_=>by simp[A3q]at he
 | _::_,[],_,_,he,_=>by simp[A3q]at he
theorem Bbn{sh:List Nat}(g:T.eqs t=some sh){a:List EV}(q:shaped sh a=true):∀{ents:List MapEntry} {es:List (EV × EV)} {i:Nat} {r:Option (Nat × EV)},A3q f ents es->Hn (.agg a) es i=some r ->
 (Instr.findAsking t (Cq f (.agg a)) ents i).run P w=.ok (r.map fun x=>(x.1,Cq f x.2)) w
 | [],[],i,r,_,h=>by simp only[Hn]at h;cases h;rfl
 | y::ents,(b,c)::es,i,r,he,h=>by
  simp only[A3q,cR,List.cons.injEq,eR]at he;obtain⟨⟨e1,e2⟩,e3⟩:=he;unfold Hn at h;unfold Instr.findAsking;have u:∀d,Axo (.agg a) b=some d->(Op.equal t (Cq f (.agg a)) y.key).run P w=.ok d w:=by
   intro d hd;unfold Axo at hd;split at hd
   ·rename_i j
    cases j;rw[e1];exact(hT.eqs t sh g).2 f w _ _ d hd q
   ·rename_i j;cases j
   ·cases hd
  split at h
  ·rename_i m
   cases h;simp only[Sem.run_bind,u _ m,aK,bI,aS,e2];rfl
  ·rename_i m
   simp only[Sem.run_bind,u _ m,aK,aW,aY];exact Bbn g q e3 h
  ·cases h
 | [],_::_,_,_,he,_=>by simp[A3q]at he
 | _::_,[],_,_,he,_=>by simp[A3q]at he
theorem Ww{k:EV}(d:O6 T t k=true){r:Option (Nat × EV)}(he:A3q f ents es)(hm:Hn k es 0=some r):
 (Instr.findKey t (Cq f k) ents).run P w=.ok (r.map fun x=>(x.1,Cq f x.2)) w:=by
 unfold O6 at d;split at d
 ·rename_i a
  rw[Bo]at d;split at d
  ·rename_i g
   split at d
   ·rename_i sh q
    rw[Bo]at d;split at d
    ·rename_i y
     obtain⟨j,u,m⟩:=(hT.key t g).1;simp only[Instr.findKey,underlying,Sem.run_bind,fQ,u,aK,aS];cases ents with
     | nil=>
      cases es with
      | nil=>simp only[Hn]at hm;cases hm;rfl
      | cons x r=>simp[A3q]at he
     | cons A ents=>
      have:Instr.findNow j (Cq f (.agg a)) (A::ents) 0=none:=by
       cases j<;>first|(simp[Axz]at m;done)|simp[Instr.findNow,Instr.sameNow,Cq]
      rw[this];exact Bbn hT q y he hm
    ·cases d
   ·cases d
  ·cases d
 ·rename_i kk n
  split at d
  ·rename_i B hu
   have:=A92 (f:=f) hT d he hm;simp only[Instr.findKey,Sem.run_bind,Dx hT w hu,aK,Cq,this,aS]
  ·cases d
 ·cases d
omit hT in
theorem Amo {k:EV}:∀{es:List (EV × EV)} {i j:Nat} {v:EV},Hn k es i=some (some (j,v))->∃a,i<=j/\es[j-i]? = some (a,v)/\Axo k a=some true
 | [],i,j,v,h=>by simp[Hn]at h
 | (a,b)::es,i,j,v,h=>by
  unfold Hn at h;split at h
  ·rename_i d
   cases h;exact⟨a,aD _,by simp,d⟩
  ·obtain⟨g,q,h2,m⟩:=Amo h
   refine⟨g,by omega,?_,m⟩;have:j-i=(j-Nat.succ i)+1:=by omega
   rw[this];simpa using h2
  ·cases h
omit hT in
theorem Bcm {k a:EV}(h:Axo k a=some true):k=a:=by
 unfold Axo at h;split at h
 ·rw[A49 h]
 ·obtain⟨g,h2⟩:=Ap h
  obtain rfl:=Aoy g;cases d:eqB _ _ with
  | false=>rw[d]at h2;cases h2
  | true=>rw[Ajv]at d;rw[cO d]
 ·cases h
end
end
section
theorem Oj{w:World}{r:Nat}{o:Obj}(h:w.heap[r]? = some o)(a:∀c e z,o≠.cells c e z):(getObj r).run P w=.ok o w:=by
 unfold getObj;simp only[Sem.run,h]
theorem Q8{w:World}{r:Nat}{o o':Obj}(h:w.heap[r]? = some o)(a:∀c e z,o≠.cells c e z):(setObj r o').run P w=.ok () { w with heap:=w.heap.setIfInBounds r o' }:=by
 unfold setObj;simp only[Sem.run,h]
section
variable{w:World}
theorem Move.setObj(a:Tu f h w){o o':Ca}(d:h.get i=some o){r:Obj}(h2:Rq f i o' r):
 Move p f h w f (h.put i o') { w with heap:=w.heap.setIfInBounds (f.b i) r }:=by
 have g:=a.lt d;refine Move.put a d (r:=r) ?_ h2 (fun b hb=>?_) ?_ rfl rfl rfl
 ·simp[g]
 ·simp[Array.getElem?_setIfInBounds,cT hb]
 ·simp
variable (hT:Pv P T)
include hT
theorem Auc(a:zeroOf T t=some v):(zeroValue t).run P w=.ok (Cq f v) w/\∀q,v.ok q:=by
 unfold zeroOf at a;split at a
 ·rename_i z d
  obtain⟨u,B,C,j,y,A,m,_⟩:=Abs hT f w d;split at a
  ·rename_i g
   cases a;rw[<-y g];exact⟨j,m⟩
  ·rename_i g
   have e:=A g;split at a
   ·rename_i D
    cases a;cases e;exact⟨j,m⟩
   ·cases a
  ·cases a
 ·cases a
theorem Bef {n:Nat}(m:Reads f tm ρ)(A:Tt p h)(B:Tu f h w)
 {k:Operand} {ok:Bool} (D:o.op=.lookup t x k ok) (d:Dt T tm (.lookup t x k ok) h=some (v,h')) :
 Arc P (execOp ρ o) p f h w v h':=by
 simp only[Dt]at d;split at d
 ·rename_i L e i M hu q E
  obtain⟨y,h2⟩:=Ap d;split at h2
  ·rename_i es F
   obtain⟨r,H,ents,clock,J,a3⟩:=B.obj i _ F;obtain⟨_,a4⟩:=A.get i _ F;subst J;have Afa:=Oj (P:=P) H (by intro c e z q;cases q);split at h2
   ·rename_i j u hm
    cases h2;have C:=Ww (w:=w) (f:=f) hT y a3 hm;obtain⟨a,_,b2,_⟩:=Amo hm;have g:u.ok p:=(a4 _ (dO b2)).2;refine⟨f,w,_,?_,.inl rfl,Move.refl B,Wf.refl A,?_⟩
    ·simp only[execOp,D,Instr.lookup,Bk m q,Bk m E,Cq,Sem.run_bind,Dx hT w hu,aK,Afa,aS,Q9 hT y,C,dV]
     cases ok<;>rfl
    ·rw[J2 p h h rfl]
     cases ok
     ·exact g
     ·exact⟨g,trivial,trivial⟩
   ·rename_i hm
    split at h2
    ·rename_i zv K
     cases h2;obtain⟨z1,G⟩:=Auc (w:=w) (f:=f) hT K;have C:=Ww (w:=w) (f:=f) hT y a3 hm;refine⟨f,w,_,?_,.inl rfl,Move.refl B,Wf.refl A,?_⟩
     ·simp only[execOp,D,Instr.lookup,Bk m q,Bk m E,Cq,Sem.run_bind,Dx hT w hu,aK,Afa,aS,Q9 hT y,C,Option.map_none,z1]
      cases ok<;>rfl
     ·rw[J2 p h h rfl]
      cases ok
      ·exact G p
      ·exact⟨G p,trivial,trivial⟩
    ·cases h2
   ·cases h2
  ·cases h2
 ·cases d
omit hT in
theorem Avi(n:Nat)(k:IntKind)(a:Int):Instr.sameBits n (.int k a) (.int k a)=true:=by
 unfold Instr.sameBits;simp
omit hT in
theorem Ass(n:Nat)(f:Loc):∀{a:List EV} {r:Bool},Ez a a=some r->((Bp f a).zip (Bp f a)).all (fun(x,y)=>Instr.sameBits n x y)=true
 | [],_,_=>rfl
 | x::r,s,h=>by
  unfold Ez at h;have u:∃c,Agc x x=some c/\∃q,Ez r r=some q:=by
   split at h
   ·rename_i j;exact⟨_,j,_,h⟩
   ·rename_i j
    split at h
    ·rename_i q g;exact⟨_,j,_,g⟩
    ·cases h
   ·cases h
  obtain⟨c,j,q,g⟩:=u;simp only[Bp,List.zip_cons_cons,List.all_cons,Ass n f g,Bool.and_true];rcases Bif j with⟨k,m,rfl⟩|⟨d,rfl⟩|⟨d,rfl⟩
  ·exact Avi n k m
  ·simp only[Cq];unfold Instr.sameBits;simp
  ·simp only[Cq];unfold Instr.sameBits;rw[<-A0l,Arl];simp
omit hT in
theorem A8f{k:EV}(d:O6 T t k=true):Instr.sameBits 10000 (Cq f k) (Cq f k)=true:=by
 unfold O6 at d;split at d
 ·rename_i a
  rw[Bo]at d;split at d
  ·split at d
   ·rw[Bo]at d
    split at d
    ·split at d
     ·rename_i r g
      have:=Ass 9999 f g;simp only[Cq];unfold Instr.sameBits;simpa using this
     ·cases d
    ·cases d
   ·cases d
  ·cases d
 ·exact Avi _ _ _
 ·cases d
theorem A3f(D:Reads f tm ρ)(J:Lq p n tm)(L:Tt p h)(M:Tu f h w)
 {m k:Operand} (Q:o.op=.mapUpdate t m k x) (y:Dt T tm (.mapUpdate t m k x) h=some (v,h')) :
 Arc P (execOp ρ o) p f h w v h':=by
 simp only[Dt]at y;split at y
 ·rename_i Y e i F u hu hm K B
  obtain⟨G,h2⟩:=Ap y;split at h2
  ·rename_i es E
   obtain⟨r,S,ents,clock,W,a3⟩:=M.obj i _ E;obtain⟨_,a4⟩:=L.get i _ E;subst W;have Afa:=Oj (P:=P) S (by intro c e z B;cases B);have C:=fun o'=>Q8 (P:=P) (o':=o') S (by intro c e z B;cases B)
   split at h2
   ·rename_i j X g
    cases h2;have O:=Ww (w:=w) (f:=f) hT G a3 g;obtain⟨a,_,b2,b3⟩:=Amo g;obtain rfl:=Bcm b3;simp only[Nat.sub_zero]at b2;have H:((ents[j]?).map (·.key)).getD (Cq f F)=Cq f F:=by
     have A:(ents.toList.map (fun e=>(e.key,e.val)))[j]? = some (Cq f F,Cq f X):=by
      rw[a3,bA,b2];rfl
     rw[bA,cK]at A;cases he:ents[j]? with
     | none=>rw[he]at A;cases A
     | some U=>rw[he]at A;simp only[dV,cP,eR]at A;simp[A.1]
    refine⟨f,_,.skip,?_,.inr ⟨rfl,rfl⟩,Move.setObj M E (r:=.map (ents.modify j fun U=>{ U with key:=Cq f F,val:=Cq f u }) clock) ⟨_,_,rfl,?_⟩,Wf.put L E ?_,trivial⟩
    ·simp only[execOp,Q,Instr.mapUpdate,Bk D hm,Bk D K,Bk D B]
     simp only[Cq,Sem.run_bind,Dx hT w hu,aK,Afa,Q9 hT G,O,dV,H,Instr.keyThatStays,A8f G,bI,aS,C]
    ·rw[List.map_set,<-a3]
     apply eE;intro q;simp only[Array.toList_modify,bA,List.getElem?_modify,List.getElem?_set,bZ];by_cases V:j=q
     ·subst V
      have A:j<ents.toList.length:=by
       have:=(bJ.1 b2).1;have e:=congrArg List.length a3;simp only[bZ]at e;omega
      simp at A;simp[A]
     ·simp[V]
    ·intro e' d
     rcases dH d with d|rfl
     ·exact a4 e' d
     ·exact⟨E1 J K,E1 J B⟩
   ·rename_i g
    cases h2;have O:=Ww (w:=w) (f:=f) hT G a3 g;refine⟨f,_,.skip,?_,.inr ⟨rfl,rfl⟩,Move.setObj M E (r:=.map (ents.push { key:=Cq f F,val:=Cq f u,born:=clock }) (clock+1)) ⟨_,_,rfl,?_⟩,Wf.put L E ?_,trivial⟩
    ·simp only[execOp,Q,Instr.mapUpdate,Bk D hm,Bk D K,Bk D B]
     simp only[Cq,Sem.run_bind,Dx hT w hu,aK,Afa,Q9 hT G,O,Option.map_none,aS,C]
    ·simp[a3]
    ·intro e' d
     rcases bP.1 d with d|d
     ·exact a4 e' d
     ·simp only[aP]at d;subst d;exact⟨E1 J K,E1 J B⟩
   ·cases h2
  ·cases h2
 ·cases y
end
end
section
section
variable{w:World}
theorem Tu.world(a:Tu f h w)(e:w'.heap=w.heap):Tu f h w':=⟨fun i o d=>by rw[e];exact a.obj i o d,a.inj⟩
theorem A02(d:Bool)(k:IntKind):∀{l:List EV} {a:Int} {v:EV},Ac2 d k a l=some v->(∃b,v=.int k b) /\
 (l.map (Cq f)).foldlM (m:=Sem) (if d=true then Builtin.max2 else Builtin.min2) (.int k a)=(pure (Cq f v):Sem Value)
 | [],a,v,h=>by simp only[Ac2]at h;cases h;exact⟨⟨a,rfl⟩,rfl⟩
 | .int j b::r,a,v,h=>by
  simp only[Ac2]at h;obtain⟨g,h2⟩:=A02 d k h;refine⟨g,?_⟩;rw[cR,List.foldlM_cons,<-h2];cases d
  ·simp only[aW,aY,Cq,Builtin.min2,Bo,Aye,bM]
   rfl
  ·simp only[bI,Cq,Builtin.max2,Bo,Aye,bM,gt_iff_lt]
   rfl
 | .bool _::_,_,_,h=>by simp[Ac2]at h
 | .str _::_,_,_,h=>by simp[Ac2]at h
 | .ptr _ _::_,_,_,h=>by simp[Ac2]at h
 | .Bw::_,_,_,h=>by simp[Ac2]at h
 | .slice _ _ _ _ _::_,_,_,h=>by simp[Ac2]at h
 | .tail _ _ _::_,_,_,h=>by simp[Ac2]at h
 | .Al::_,_,_,h=>by simp[Ac2]at h
 | .odd _::_,_,_,h=>by simp[Ac2]at h
 | .map _::_,_,_,h=>by simp[Ac2]at h
 | .Al8::_,_,_,h=>by simp[Ac2]at h
 | .chan _::_,_,_,h=>by simp[Ac2]at h
 | .Ae3::_,_,_,h=>by simp[Ac2]at h
 | .func _ _ _::_,_,_,h=>by simp[Ac2]at h
 | .Vd _::_,_,_,h=>by simp[Ac2]at h
 | .Ait::_,_,_,h=>by simp[Ac2]at h
 | .Abl::_,_,_,h=>by simp[Ac2]at h
 | .agg _::_,_,_,h=>by simp[Ac2]at h
 | .tuple _::_,_,_,h=>by simp[Ac2]at h
theorem Axt {x:EV}(a:lenOf x=some n):∃b c,Cq f x=.slice b n c:=by
 unfold lenOf at a;split at a<;>first|(cases a;exact⟨_,_,rfl⟩)|(cases a)
theorem Acs(j:Tt p h)(m:Tu f h w){size:Nat}{x:EV}{l:List EV}(d:cellsOf h size n x=some l):
 (Builtin.firstCells size n (Cq f x)).run P w=.ok (Bp f l).toArray w/\EV.T5 p l/\l.all EV.one=true/\l.length=n*size:=by
 unfold cellsOf at d;split at d
 ·obtain⟨g,h2⟩:=Ap d
  cases h2;have:=aL g;subst this;exact⟨by simp[Cq,Builtin.firstCells,Bp],trivial,rfl,by simp⟩
 ·rename_i i off a b c
  rw[Bo]at d;split at d
  ·rename_i g
   cases d;have:=aL g;subst this;refine⟨?_,trivial,rfl,by simp⟩;simp[Cq,Builtin.firstCells,Bp,loadCells,loadCellsFrom]
  ·obtain⟨g,h2,q,h4,_⟩:=Amq (P:=P) j m d
   exact⟨by simp only[Cq,Builtin.firstCells];exact g,h2,q,h4⟩
 ·obtain⟨g,h2⟩:=Ap d
  cases h2;have:=aL g;subst this;refine⟨?_,trivial,rfl,by simp⟩;simp[Cq,Builtin.firstCells,Bp,loadCells,loadCellsFrom]
 ·cases d
variable (hT:Pv P T)
include hT
theorem Aqu {st u e':TypeId}(q:T.Ui st=some (.slice e))(hu:T.Ui u=some (.slice e')){size:Nat}(hs:T.size e=some size){z:List EV}(A:T.zero e=some z)
 {sLen sCap C:Nat} {D:Option Addr} {Cv new:Array Value} (g:¬sLen+n<=sCap) (O:sLen<=1048576) (Q:n<=65536)
 (H:∀d,(Builtin.firstCells size sLen (.slice base sLen sCap)).run P { w with drawn:=d }=.ok Cv { w with drawn:=d })
 (h2:∀d,(Builtin.firstCells size n (.slice D n C)).run P { w with drawn:=d }=.ok new { w with drawn:=d }) :
 ∃cap rest,sLen+n<=cap/\rest.size=(cap-(sLen+n))*size /\
  (Builtin.append_ #[st,u] ty #[.slice base sLen sCap,.slice D n C]).run P w=.ok (.slice (some ⟨w.heap.size,0,none⟩) (sLen+n) cap) { w with drawn:=w.drawn+1,heap:=w.heap.push (.cells (Cv++new++rest) e) }:=by
 have⟨f⟩:Nonempty Loc:=⟨⟨id,id⟩⟩;obtain⟨x,S,J,m,_,_,U,i,i1,i2,i3⟩:=Abs hT f w A;obtain⟨E,F,V,W⟩:=hT.size e size hs;have K:E=i:=by rw[i1]at F;cases F;rfl
 subst K;have hb:Builtin.nextslicecap (sLen+n) sCap<=4000000:=by
  unfold Builtin.nextslicecap;split
  ·omega
  ·split
   ·omega
   ·simp only[Builtin.growBy]
    repeat' split
    all_goals omega
 have j:¬(2^48<Builtin.nextslicecap (sLen+n) sCap*E.bytes):=by
  have:=fm hb i3;omega
 refine⟨(Question.appendCap (sLen+n) sCap e).cut (w.tape w.drawn (.appendCap (sLen+n) sCap e)),Builtin.zeroCells (Cq f x).cells ((Question.appendCap (sLen+n) sCap e).cut (w.tape w.drawn (.appendCap (sLen+n) sCap e))-(sLen+n)),?_,?_,?_⟩
 rotate_left 2
 ·have a:¬(((sLen+n:Nat):Int)>IntKind.i64.max):=by
   have e2:IntKind.i64.max=9223372036854775807:=rfl;omega
  have B:∀d,(zeroValue e).run P { w with drawn:=d }=.ok (Cq f x) { w with drawn:=d }:=by
   intro d;obtain⟨y,_,X,Y,_⟩:=Abs hT f { w with drawn:=d } A;obtain⟨L,v,Z,G,M,a3,_⟩:=hT.zero e z A;simp only[zeroValue,typeInfo,Sem.run_bind,fQ,i1,aK,aS]at m⊢;rw[i1]at G;cases G;rw[M]at m⊢;simp only[aS,Result.ok.injEq]at m⊢;exact⟨m.1,trivial⟩
  simp only[Builtin.append_,Sem.run_bind,bU,bN,cC,Dx hT w q,Dx hT w hu,Gk hT w hs,aK,aS,Builtin.lenOf,aW,aY,g];simp only[a,gE,aY,Sem.run_bind,aS,aK,typeInfo,fQ,i1,gt_iff_lt,j,run_choose,Question.forced,aW,run_askRoom,H,h2,B,cp,bI];rfl
 ·simp only[Question.cut];omega
 ·rw[Builtin.zeroCells]
  have e1:(Cq f x).cells.size=size:=by rw[Tw,<-J];simp[Cu];omega
  simp[e1]
end
end
section
def Ags(P:Program)(s:Sem Value)(p:Nat->Prop)(f:Loc)(h:Ab)(w:World)(v:EV)(h':Ab):Prop:=
 ∃f' w',s.run P w=.ok (Cq f' v) w'/\Move p f h w f' h' w'/\Wf p h h'/\v.ok (grow p h h')
section
variable{w:World}(hT:Pv P T)
include hT
theorem Aya(g:Tt p h)(y:Tu f h w){l:List EV}(q:EV.T5 p l)(A:l.all EV.one=true){size m:Nat}(u:m<=cap){rest:Array Value}(a:rest.size=(cap-m)*size){Cv new:List EV}(j:l=Cv++new)(d:Nat):
 Move p f h w (f.set h.next w.heap.size (cap-m)) (h.new (.vec l e size)) { w with drawn:=d,heap:=w.heap.push (.cells ((Bp f Cv).toArray++(Bp f new).toArray++rest) e) }/\Wf p h (h.new (.vec l e size)) /\
  Cq (f.set h.next w.heap.size (cap-m)) (.slice h.next 0 m m true)=.slice (some ⟨w.heap.size,0,none⟩) m cap:=by
 refine⟨Move.new g y _ rfl ?_ rfl rfl rfl,Wf.new g ⟨Tc q,A⟩,?_⟩
 ·refine⟨rest.toList,?_,by simp[a,Loc.Ap6]⟩
  rw[<-Fp (f.My _ _ g.fresh) l q,j,Td];congr 1;apply dR;simp
 ·simp only[Cq,Loc.Yk,Loc.Ap6,bI]
  congr 1;omega
theorem Be6(y:Tt p h)(D:Tu f h w){st u e':TypeId}{s x:EV}(hs:s.ok p)(hu:T.Ui u=some (.slice e'))(g:append T st s x h=some (v,h')):
 Ags P (Builtin.append_ #[st,u] ty #[Cq f s,Cq f x]) p f h w v h':=by
 unfold append at g;split at g
 ·rename_i e A
  split at g
  ·rename_i size z B Y
   split at g
   ·rename_i n Z
    obtain⟨bx,cx,H⟩:=Axt (f:=f) Z;rw[Bo]at g;split at g
    ·rename_i h0
     have:=aL h0;subst this;have U:∀(size:Nat),(Builtin.firstCells size 0 (.slice bx 0 cx)).run P w=.ok #[] w:=by
      intro size;cases bx<;>simp[Builtin.firstCells,loadCells,loadCellsFrom]
     split at g
     ·rename_i i off a room op
      obtain⟨h1,h2⟩:=Ap g;cases h2;simp only[cv]at h1;refine⟨f,w,?_,Move.refl D,Wf.refl y,by rw[J2 p h h rfl];exact hs⟩;rw[H];have hle:a<=(if op=true then room+f.sp i else room):=by split<;>omega
      simp only[Cq,Builtin.append_,Sem.run_bind,bU,bN,cC,Dx hT w A,Dx hT w hu,Gk hT w B,aK,aS,Builtin.lenOf,aW,aY,cz,hle,bI,cp,U];simp[storeCells]
     ·cases g
      refine⟨f,w,?_,Move.refl D,Wf.refl y,trivial⟩;rw[H];simp only[Cq,Builtin.append_,Sem.run_bind,bU,bN,cC,Dx hT w A,Dx hT w hu,Gk hT w B,aK,aS,Builtin.lenOf,aW,aY,cz,aD,bI,cp,U]
     ·cases g
    ·rename_i h0
     obtain⟨F,h2⟩:=Ap g;simp only[cv]at F;split at h2
     ·rename_i new J
      obtain⟨n1,n2,n3,n4⟩:=Acs (P:=P) y D J;have nd:∀d,(Builtin.firstCells size n (.slice bx n cx)).run P { w with drawn:=d }=.ok (Bp f new).toArray { w with drawn:=d }:=by
       intro d;rw[<-H];exact(Acs (P:=P) y (D.world (w':={ w with drawn:=d }) rfl) J).1
      split at h2
      ·cases h2
       have ay:n≠0:=fun e=>h0 (by rw[e];rfl)
       obtain⟨cap,rest,Q,g2,S⟩:=Aqu (w:=w) (ty:=ty) hT A hu B Y (base:=none) (sLen:=0) (sCap:=0) (Cv:=(Bp f []).toArray) (by omega) (by omega) F
        (by intro d;simp[Builtin.firstCells,Bp]) nd
       simp only[bF]at Q g2 S;obtain⟨C,k2,V⟩:=Aya hT y D (e:=e) (l:=new) n2 n3 Q g2 (Cv:=[]) rfl (w.drawn+1);refine⟨_,_,?_,C,k2,.inr ⟨aD _,by rw[Ab.Dg];omega⟩⟩;rw[V,H];exact S
      ·rename_i i off a room op
       obtain⟨K,L⟩:=Ap h2;simp only[cv]at K;split at L
       ·rename_i Cv hold
        obtain⟨o1,o2,o3,o4⟩:=Acs (P:=P) y D hold;have od:∀d,(Builtin.firstCells size a (Cq f (.slice i off a room op))).run P { w with drawn:=d }=.ok (Bp f Cv).toArray { w with drawn:=d }:=by
         intro d;exact(Acs (P:=P) y (D.world (w':={ w with drawn:=d }) rfl) hold).1
        have hok:EV.T5 p (Cv++new):=Aax o2 n2;have m:(Cv++new).all EV.one=true:=Bcd o3 n3;rw[Bo]at L;split at L
        ·rename_i E
         subst E;obtain⟨c1,h4⟩:=Ap L;obtain⟨c2,X⟩:=Ap h4;clear L h4;have:=aL c1;subst this;have:=aL c2;subst this;split at X
         ·rename_i l e1 s1 hg
          obtain⟨c3,h6⟩:=Ap X;obtain⟨c4,h7⟩:=Ap h6;obtain⟨c5,h8⟩:=Ap h7;clear X h6 h7;rw[Y9]at c3;have G:=aL c3;have:=aL c4;subst this;have:=aL c5;subst this;cases h8;simp only[Nat.mul_eq]at G;by_cases M:n<=f.sp i
          ·
           obtain⟨r,a1,more,a2,a5⟩:=D.obj i _ hg;subst a2;have ae:Cv=l:=by
            unfold cellsOf at hold;simp only at hold;rw[Bo]at hold;split at hold
            ·rename_i af
             have:=aL af;subst this;cases hold;simp at G;exact G.symm
            ·unfold I5 at hold
             rw[hg]at hold;obtain⟨_,q2⟩:=Aha hold;rw[Tp]at q2;rw[q2];simp only[dE,Nat.mul_eq];rw[<-G,cL]
           subst ae;have bb:n*s1<=more.length:=by rw[a5];exact Nat.mul_le_mul_right _ M
           have W:=run_storeCells_at (P:=P) (f.b i) (room*s1) e1 (Bp f new) 0 (Bp f Cv++more).toArray w a1 (by simp only[Cu,cW,aG];omega) (Yl f new (by simpa using n3));refine⟨f.set h.next (f.b i) (f.sp i-n),w.setRow (f.b i) (Bp f Cv++Bp f new++more.drop (n*s1)).toArray,?_,Move.A1r y D hg (f.sp i-n) (r:=.cells (Bp f (Cv++new)++more.drop (n*s1)).toArray e1 (0,0)) ?_ ?_ (fun b hb=>setRow_other _ _ _ _ hb) (setRow_size _ _ _) rfl rfl rfl,Wf.A1r y i ⟨Tc hok,m⟩,.inr ⟨aD _,by rw[Ab.Dg,Ab.Aqi];omega⟩⟩
           rotate_left 1
           ·rw[setRow_heap w (f.b i) _ _ e1 (0,0) a1,Td]
           ·refine⟨more.drop (n*s1),?_,?_⟩
            ·rw[Fp (f.My _ _ y.fresh) (Cv++new) hok]
            ·rw[Loc.Ap6,aU,a5,Nat.sub_mul]
           ·rw[H]
            have hle:room+n<=room+f.sp i:=by omega
            simp only[Cq,Builtin.append_,Sem.run_bind,bU,bN,cC,Dx hT w A,Dx hT w hu,Gk hT w B,aK,aS,Builtin.lenOf,aW,aY,bI,hle,cp,Loc.Yk,Loc.Ap6];rw[<-H,n1];simp only[aK,Sem.run_bind,Vo,bF,W,aS];congr 1
            ·congr 1
             simp only[Nat.add_eq];omega
            ·congr 1
             simp only[cz,Cu];rw[dK (by rw[Cu];omega),bR (by rw[Cu];omega)];rw[List.drop_append,ct (by rw[Cu];omega)];simp only[Cu,dN];congr 4;omega
          ·obtain⟨cap,rest,Q,g2,S⟩:=Aqu (w:=w) (ty:=ty) hT A hu B Y (base:=some ⟨f.b i,0,none⟩) (sLen:=room) (sCap:=room+f.sp i) (Cv:=(Bp f Cv).toArray) (by omega) K F
            (by intro d;simpa [Cq]using od d) nd
           obtain⟨C,_,V⟩:=Aya hT (y.del i) (D.sub Al9) (e:=e1) (l:=Cv++new) hok m Q g2 rfl (w.drawn+1);refine⟨f.set h.next w.heap.size (cap-(room+n)),_,?_,⟨C.agree,C.rep,fun b hb Z=>C.kept b hb (fun j q hj=>Z j q (Al9 j q hj)),C.size,C.tape,C.os,C.output,fun j q hj=>(C.own j q hj).imp id (fun⟨k,q',hk,e⟩=>⟨k,q',Al9 k q' hk,e⟩)⟩,
            Wf.A1r y i ⟨Tc hok,m⟩,.inr ⟨aD _,by rw[Ab.Dg,Ab.Aqi];omega⟩⟩
           rw[show Cq (f.set h.next w.heap.size (cap-(room+n))) (.slice h.next 0 (Nat.add room n) (Nat.add room n) true)=_ from V,H];simpa [Cq]using S
         ·cases X
        ·rename_i E
         have O:op=false:=by simpa using E
         subst O;obtain⟨c1,h4⟩:=Tv L;cases h4;have hc:¬a+n<=room:=by
          intro e;have:=Yr e;rw[show Nat.add a n=a+n from rfl]at c1;rw[this]at c1;cases c1
         obtain⟨cap,rest,Q,g2,S⟩:=Aqu (w:=w) (ty:=ty) hT A hu B Y (base:=some ⟨f.b i,off,none⟩) (sLen:=a) (sCap:=room) (Cv:=(Bp f Cv).toArray) hc K F
          (by intro d;simpa [Cq]using od d) nd
         obtain⟨C,k2,V⟩:=Aya hT y D (e:=e) (l:=Cv++new) hok m Q g2 rfl (w.drawn+1);refine⟨_,_,?_,C,k2,.inr ⟨aD _,by rw[Ab.Dg];omega⟩⟩;rw[show Cq (f.set h.next w.heap.size (cap-(a+n))) (.slice h.next 0 (Nat.add a n) (Nat.add a n) true)=_ from V,H];simpa [Cq]using S
       ·cases L
      ·cases h2
     ·cases h2
   ·cases g
  ·cases g
 ·cases g
end
end
section
theorem Bfl:∀l:List UInt8,Btb l=l.length
 | []=>rfl
 | _::r=>congrArg Nat.succ (Bfl r)
section
variable{w:World}(hT:Pv P T)
include hT
omit hT in
theorem Ags.stay(a:Tt p h)(d:Tu f h w){s:Sem Value}(hs:s.run P w=.ok (Cq f v) w)(g:v.ok p):Ags P s p f h w v h:=
 ⟨f,w,hs,Move.refl d,Wf.refl a,by rw[J2 p h h rfl];exact g⟩
theorem Bk7(B:Tt p h)(C:Tu f h w){t u ty e e':TypeId}{d s:EV}(E:T.Ui t=some (.slice e)){size dn g:Nat}(hs:T.size e=some size)(hd:lenOf d=some dn)(q:lenOf s=some g)
 (F:n=Ax (Nat.ble g dn) g dn) {cs:List EV} (G:cellsOf h size n s=some cs) {a b:Nat} {op:Bool} (y:d=.slice i off a b op) (hw:Mp h i off cs=some h') :
 Ags P (Builtin.copy_ #[t,u] ty #[Cq f d,Cq f s]) p f h w (.int .i64 (.ofNat n)) h':=by
 obtain⟨D,H,n3,n4⟩:=Acs (P:=P) B C G;obtain⟨bs,M,j⟩:=Axt (f:=f) q;obtain⟨w',J,K,L⟩:=Azn (P:=P) B C hw H n3;subst y;have A:dn=a:=by simp only[lenOf]at hd;cases hd;rfl
 subst A;have m:Nat.min g dn=n:=by
  rw[F,Bo];show min g dn=_;by_cases hle:g<=dn
  ·rw[aQ (Yr hle)];omega
  ·rw[aM (by rw[Aaz hle];simp)];omega
 refine⟨f,w',?_,K,L,trivial⟩;rw[j];rw[j]at D;simp only[Cq,Builtin.copy_,Sem.run_bind,bU,bN,cC,Dx hT w E,aK,Builtin.lenOf,aS,Gk hT w hs,m,D,J];rfl
theorem Bb6(E:Tt p h)(D:Tu f h w){b:Builtin}{cs:Array Bool}(Q:EV.T5 p args)(g:builtin T b ts args h=some (v,h')):
 ∃s,(Go.builtin b ts ty cs (Bp f args).toArray)=(do pure (.value (←s)):Sem Next)/\Ags P s p f h w v h':=by
 unfold builtin at g;split at g
 ·rename_i s x
  split at g
  ·rename_i t u B
   have A:ts = #[t,u]:=by apply dR;simpa using B
   subst A;split at g
   ·rename_i e' hu
    exact⟨_,rfl,Be6 hT E D Q.1 hu g⟩
   ·cases g
  ·cases g
 ·rename_i x
  split at g
  ·rename_i t B
   have A:ts = #[t]:=by apply dR;simpa using B
   subst A;refine⟨_,rfl,?_⟩;split at g
   ·rename_i n e hu
    cases g;exact Ags.stay E D (by simp[Builtin.len_,Dx hT w hu,Bp,Cq,goInt]) trivial
   ·rename_i e y hu
    split at g
    ·rename_i n S
     cases g;obtain⟨Z,cx,H⟩:=Axt (f:=f) S;exact Ags.stay E D (by simp[Builtin.len_,Dx hT w hu,Bp,H,goInt,Cq]) trivial
    ·cases g
   ·rename_i s hu
    cases g;exact Ags.stay E D (by simp[Builtin.len_,Dx hT w hu,Bp,Cq,goInt,Bfl]) trivial
   ·rename_i d e i hu
    split at g
    ·rename_i c buf F
     cases g;obtain⟨r,J,s1,c1,L⟩:=D.obj i _ F;subst L;have Afa:=Oj (P:=P) J (by intro c e z H;cases H);exact Ags.stay E D (by simp[Builtin.len_,Dx hT w hu,Bp,Cq,Afa,goInt,Y9,Cu]) trivial
    ·cases g
   ·cases g
  ·cases g
 ·rename_i d s
  split at g
  ·rename_i t u B
   have A:ts = #[t,u]:=by apply dR;simpa using B
   subst A;split at g
   ·rename_i e e' U hu
    split at g
    ·rename_i size dn sn hs hd M
     obtain⟨_,g⟩:=Tv g;split at g
     ·rename_i V W
      split at g
      ·split at g
       ·rename_i X hw
        cases g;exact⟨_,rfl,Bk7 hT E D (e':=e') U hs hd M rfl W rfl hw⟩
       ·cases g
      ·cases g
     ·cases g
    ·cases g
   ·cases g
  ·cases g
 ·rename_i m k
  split at g
  ·rename_i t tr B
   have h0:ts[0]? = some t:=by
    have:ts.toList[0]? = some t:=by rw[B];rfl
    simpa using this
   split at g
   ·rename_i kt e i hu
    obtain⟨K,h2⟩:=Ap g;split at h2
    ·rename_i es F
     obtain⟨r,J,ents,clock,L,a3⟩:=D.obj i _ F;obtain⟨_,a4⟩:=E.get i _ F;subst L;have Afa:=Oj (P:=P) J (by intro c e z H;cases H);have G:=fun o'=>Q8 (P:=P) (o':=o') J (by intro c e z H;cases H)
     refine⟨_,rfl,?_⟩;split at h2
     ·rename_i j u' C
      cases h2;have O:=Ww (w:=w) (f:=f) hT K a3 C;refine⟨f,_,?_,Move.setObj D F (r:=.map (ents.eraseIdxIfInBounds j) clock) ⟨_,_,rfl,?_⟩,Wf.put E F (fun q Y=>a4 q (List.mem_of_mem_eraseIdx Y)),trivial⟩
      ·simp only[Builtin.delete_,Bp,Cq,Sem.run_bind,bU,bN,cC,h0,Dx hT w hu,aK,Afa,Q9 hT K,O,dV,G,aS]
      ·have e1:(ents.eraseIdxIfInBounds j).toList=ents.toList.eraseIdx j:=by
        rw[Array.eraseIdxIfInBounds_eq];split
        ·simp
        ·rename_i hj
         rw[List.eraseIdx_of_length_le (by simpa using hj)]
       rw[e1,List.eraseIdx_eq_take_drop_succ,List.eraseIdx_eq_take_drop_succ];simp only[bm,List.map_take,List.map_drop,a3]
     ·rename_i C
      cases h2;have O:=Ww (w:=w) (f:=f) hT K a3 C;refine⟨f,_,?_,Move.setObj D F (r:=.map ents clock) ⟨_,_,rfl,a3⟩,Wf.put E F a4,trivial⟩;simp only[Builtin.delete_,Bp,Cq,Sem.run_bind,bU,bN,cC,h0,Dx hT w hu,aK,Afa,Q9 hT K,O,Option.map_none,G,aS]
     ·cases h2
    ·cases h2
   ·cases g
  ·cases g
 ·rename_i k a l
  split at g
  ·rename_i u hm
   cases g;obtain⟨⟨c,rfl⟩,h2⟩:=A02 (f:=f) false k hm;refine⟨_,rfl,Ags.stay E D ?_ trivial⟩;simp only[Builtin.min_,Bp,dS,Cq,O9];simp only[aW,aY,Cq]at h2;rw[h2];rfl
  ·cases g
 ·rename_i k a l
  split at g
  ·rename_i u hm
   cases g;obtain⟨⟨c,rfl⟩,h2⟩:=A02 (f:=f) true k hm;refine⟨_,rfl,Ags.stay E D ?_ trivial⟩;simp only[Builtin.max_,Bp,dS,Cq,O9];simp only[bI,Cq]at h2;rw[h2];rfl
  ·cases g
 ·cases g
end
end
section
structure FB where
 fn:Nat
 defers:List Deferred
 Dq:Option Nat
def FB.at(b:FB)(tmps:Array Value)(todo:List Item):Frame:={ fn:=b.fn,tmps,todo,defers:=b.defers,mode:=.run,kind:=.normal,roundOf:=b.Dq }
def Io(tmps:Array Value):Operand->Value:=(Act.mk tmps []).eval
def Bbq(tmps:Array Value)(d:Option Tmp)(v:Value):Array Value:=
 match d with
 | some d=>tmps.setIfInBounds d v
 | none=>tmps
theorem FB.eval_at(b:FB)(tmps:Array Value)(todo:List Item):(b.at tmps todo).eval=Io tmps:=by funext x;cases x<;>rfl
theorem FB.finish_at(b:FB)(tmps:Array Value)(a:ops[i]? = some o)(rest:List Nat)(k:List Item)(v:Value):
 (b.at tmps (.inRegion ops (i::rest)::k)).finish v=b.at (Bbq tmps o.dst v) (.inRegion ops rest::k):=by
 cases hd:o.dst<;>simp[Frame.finish,FB.at,Bbq,a,hd]
def Am1:Op->Bool
 | .defer _=>true
 | _=>false
section
variable{b:FB}{rest:List Nat}{k:List Item}{cs:List Frame}{w:World}
theorem Aq7(g:ops[i]? = some o)(hw:Region.wanted o (Go.yielded ops tmps)=true)(hd:Am1 o.op=false):
 stepG P true { frame:=b.at tmps (.inRegion ops (i::rest)::k),callers:=cs,status:=.running,dying:=none } w =
  stepG.apply P true (b.at tmps (.inRegion ops (i::rest)::k)) cs none (execOp (Io tmps) o) w:=by
 have he:=FB.eval_at b tmps (.inRegion ops (i::rest)::k);simp only[FB.at]at he;cases d:b.Dq<;>cases a:o.op<;>simp[stepG,stepG.exec,stepG.oper,Frame.oper?,FB.at,g,hw,d,a]<;>first|(rw[d]at he;rw[he];done)|(simp[a,Am1]at hd)
theorem A4e(a:ops[i]? = some o)(hw:Region.wanted o (Go.yielded ops tmps)=true)(hd:Am1 o.op=false){v:Value}
 (d:(execOp (Io tmps) o).run P w=.ok (.value v) w') :
 step P (lone (b.at tmps (.inRegion ops (i::rest)::k)) cs w)=.next (lone (b.at (Bbq tmps o.dst v) (.inRegion ops rest::k)) cs w'):=by
 refine cJ ?_;rw[Aq7 a hw hd,<-FB.finish_at b tmps a];simp[stepG.apply,d]
theorem A71(a:ops[i]? = some o)(hw:Region.wanted o (Go.yielded ops tmps)=true)(hd:Am1 o.op=false)
 (d:(execOp (Io tmps) o).run P w=.ok .skip w') :
 step P (lone (b.at tmps (.inRegion ops (i::rest)::k)) cs w)=.next (lone (b.at (Bbq tmps o.dst undef) (.inRegion ops rest::k)) cs w'):=by
 refine cJ ?_;rw[Aq7 a hw hd,<-FB.finish_at b tmps a];simp[stepG.apply,d]
theorem A3g(a:ops[i]? = some o)(hw:Region.wanted o (Go.yielded ops tmps)=true)(hd:Am1 o.op=false){g:FuncId}{args:Array Value}
 (d:(execOp (Io tmps) o).run P w=.ok (.enter g args) w') :
 step P (lone (b.at tmps (.inRegion ops (i::rest)::k)) cs w)=.next (lone (Frame.enter P g args .normal) (b.at tmps (.inRegion ops (i::rest)::k)::cs) w'):=by
 refine cJ ?_;rw[Aq7 a hw hd];simp[stepG.apply,d,FB.at]
theorem A3w(a:ops[i]? = some o)(hw:Region.wanted o (Go.yielded ops tmps)=true)(hd:Am1 o.op=false){l g:Nat}{ts:Array Value}{asg body:Code}
 (d:(execOp (Io tmps) o).run P w=.ok (.round l g ts asg body) w') :
 step P (lone (b.at tmps (.inRegion ops (i::rest)::k)) cs w)=.next (lone (Frame.round l g ts asg body .normal) (b.at tmps (.inRegion ops (i::rest)::k)::cs) w'):=by
 refine cJ ?_;rw[Aq7 a hw hd];simp[stepG.apply,d,FB.at]
theorem Ayr(a:ops[i]? = some o)(hw:Region.wanted o (Go.yielded ops tmps)=false):
 step P (lone (b.at tmps (.inRegion ops (i::rest)::k)) cs w)=.next (lone (b.at (Bbq tmps o.dst undef) (.inRegion ops rest::k)) cs w):=by
 refine cJ ?_;rw[<-FB.finish_at b tmps a];simp[stepG,stepG.exec,FB.at,a,hw]
theorem Ayp:step P (lone (b.at tmps (.inRegion ops []::k)) cs w)=.next (lone (b.at tmps k) cs w):=
 cJ (by simp[stepG,stepG.exec,FB.at])
end
def Aog(P:Program)(o:Oper)(tmps:Array Value)(p:Nat->Prop)(f:Loc)(h:Ab)(w:World)(v:EV)(h':Ab):Prop:=
 ∀(b:FB) (ops:Array Oper) (i:Nat) (rest:List Nat) (k:List Item) (cs:List Frame),ops[i]? = some o->Region.wanted o (Go.yielded ops tmps)=true ->
  ∃f' w',Steps P (lone (b.at tmps (.inRegion ops (i::rest)::k)) cs w) (lone (b.at (Bbq tmps o.dst (Cq f' v)) (.inRegion ops rest::k)) cs w') /\
   Move p f h w f' h' w'/\Wf p h h'/\v.ok (grow p h h')
theorem Aog.Ac0{w:World}(hd:Am1 o.op=false)
 (he:Arc P (execOp (Io tmps) o) p f h w v h'):Aog P o tmps p f h w v h':=by
 intro b ops i rest k cs a hw;obtain⟨f',w',N,d,h2,g,h4,j⟩:=he;refine⟨f',w',?_,g,h4,j⟩;rcases h2 with rfl|⟨rfl,rfl⟩
 ·exact .one (A4e a hw hd d)
 ·exact .one (A71 a hw hd d)
def Af7(P:Program)(c:Ai):Prop:=
 ∀g args h v h',c g args h=some (v,h')->(∃fn,P.funcs[g]? = some fn/\fn.body.isSome=true/\(fn.name == "runtime.NumGoroutine")=false) /\
  ∀p f w,Tt p h->Tu f h w->EV.T5 p args->∀cs,∃fr f' w',Steps P (lone (Frame.enter P g (Bp f args).toArray .normal) cs w) (lone fr cs w')/\fr.fn=g /\
   fr.leaving P w' (.returned (Cq f' v))/\Move p f h w f' h' w'/\Wf p h h'/\v.ok (grow p h h')
def Amu(P:Program)(c:Ai):Prop:=
 ∀l args h v h',c l args h=some (v,h')->∃st g fn n tm ps asg body d a,h.get l=some (.loop st g fn n tm ps asg body d)/\Xf ps args n tm=some a /\
  ∀p f w,Tt p h->Tu f h w->EV.T5 p args->∀caller cs,∃f' w',Steps P (lone (Frame.round (f.b l) fn (Bh f n a) asg body .normal) (caller::cs) w) (lone (caller.finish (Cq f' v)) cs w') /\
   Move p f h w f' h' w'/\Wf p h h'/\v.ok (grow p h h')
theorem Bpv(n:Nat)(tm:Bb)(d:Nat)(v:EV):Ax (Nat.ble (Nat.succ d) n) (tm.put d (some v)) tm=Qq n tm (some d) v:=rfl
theorem Aj6(f:Loc):∀{ps:List Tmp} {args:List EV} {tm a:Bb},Xf ps args n tm=some a->EV.T5 p args->Lq p n tm ->
 ps.length=args.length/\Lq p n a/\(ps.zip (Bp f args)).foldl (fun tmps (x:Tmp × Value)=>tmps.setIfInBounds x.1 x.2) (Bh f n tm)=Bh f n a
 | [],[],tm,a,h,_,d=>by cases h;exact⟨rfl,d,rfl⟩
 | q::r,v::s,tm,a,h,g,d=>by
  simp only[Xf,Bpv]at h;obtain⟨j,h2,m⟩:=Aj6 f h g.2 (d.put (some q) g.1);refine⟨by simp[j],h2,?_⟩;simp only[Bp,List.zip_cons_cons,List.foldl_cons];rw[A2k];exact m
 | [],_::_,_,_,h,_,_=>by cases h
 | _::_,[],_,_,h,_,_=>by cases h
theorem T2(a:Lq p n tm):Reads f tm (Io (Bh f n tm)) where
 tmp t:=by simp only[Io,Act.eval];exact Ab9 f a t
 const v:=rfl
 func g:=rfl
end
section
section
variable{w:World}(hT:Pv P T)
theorem Btf {op:BinOp}{a b:EV}(d:bin T op t a b=some v):v.ok p:=by
 unfold bin at d;split at d
 ·rename_i k a g b
  rw[Bo]at d;split at d
  ·split at d
   ·unfold A6h at d
    split at d
    ·cases d;trivial
    ·split at d<;>(cases d;trivial)
    ·cases d
   ·cases d
  ·rw[Bo]at d
   split at d
   ·unfold Bh4 at d
    split at d
    all_goals first
     | (cases d;done)
     | (cases d;trivial)
     | (obtain⟨_,h2⟩:=Tv d;cases h2;trivial)
     | (split at d<;>first|(cases d;done)|(cases d;trivial))
   ·cases d
 ·split at d
  ·split at d<;>first|(cases d;trivial)|cases d
  ·split at d<;>first|(cases d;trivial)|cases d
  ·cases d
theorem Bgg{cs:List EV}(d:EV.T5 p cs)(g:cs.all EV.one=true)(a:part T t cs off=some v):v.ok p:=by
 unfold part at a;split at a
 ·split at a
  ·split at a
   ·rename_i n m l j
    cases a;obtain⟨_,h2⟩:=Aha j;rw[h2,Tp];exact⟨Bb1 d _ _,A82 g _ _⟩
   ·cases a
  ·cases a
 ·split at a
  ·rename_i q r hd
   cases a;rw[Tp]at hd;exact(Hy p cs).1 d _ (aF (by rw[hd];exact aV))
  ·cases a
 ·cases a
theorem Bk6 {x:EV}{size:Nat}{j m q:Option EV}(d:x.ok p)(a:slc x size j m q=some v):v.ok p:=by
 unfold slc at a;split at a
 ·rename_i i off len room op
  have g:p i:=d;split at a
  ·split at a
   ·cases a
   ·split at a
    ·cases a
    ·simp only[Bo]at a
     repeat' split at a
     all_goals first|(cases a;exact g)|cases a
  ·split at a
   ·split at a
    ·cases a
    ·split at a
     ·cases a
     ·cases a;exact g
   ·cases a
 ·split at a
  ·split at a
   ·cases a
   ·split at a
    ·cases a
    ·cases a;exact d
  ·cases a
 ·cases a
include hT in
theorem Bpg(j:Lq p n tm)(g:E2 T tm op=some v):v.ok p:=by
 cases op with
 | move x=>exact E1 j g
 | assign x=>exact E1 j g
 | pick c a b=>
  simp only[E2]at g;split at g
  ·exact E1 j g
  ·exact E1 j g
  ·cases g
 | binOp op t x y u=>
  simp only[E2]at g;split at g
  ·split at g
   ·exact Btf g
   ·cases g
  ·cases g
 | unOp u t x=>
  cases u<;>simp only[E2]at g
  all_goals first
   | (split at g<;>first|(cases g;trivial)|cases g)
   | cases g
 | nilCheck x=>
  simp only[E2]at g;split at g
  ·rename_i i o' he
   cases g;exact E1 j he
  ·cases g
 | fieldAddr s x K=>
  simp only[E2]at g;split at g
  ·rename_i i off he
   have L:p i:=E1 j he;split at g
   ·split at g
    ·split at g
     ·obtain⟨_,h2⟩:=Tv g;cases h2;exact L
     ·cases g
    ·cases g
   ·cases g
  ·cases g
 | indexAddr t x ix=>
  simp only[E2]at g;split at g
  ·split at g
   ·rename_i he
    split at g
    ·obtain⟨_,h2⟩:=Ap g;cases h2;have:=E1 j he;exact this
    ·cases g
   ·rename_i he
    split at g
    ·obtain⟨_,h2⟩:=Ap g;cases h2;have:=E1 j he;exact this
    ·cases g
   ·cases g
  ·cases g
 | index t x ix=>
  simp only[E2]at g;split at g
  ·split at g
   ·rename_i he
    split at g
    ·obtain⟨_,h2⟩:=Ap g
     have A:=E1 (v:=.agg _) j he;exact Bgg A.1 A.2 h2
    ·cases g
   ·split at g
    ·cases g;trivial
    ·cases g
   ·cases g
  ·cases g
 | field t x K=>
  simp only[E2]at g;split at g
  ·rename_i he
   split at g
   ·have A:=E1 (v:=.agg _) j he
    exact Bgg A.1 A.2 g
   ·cases g
  ·cases g
 | convert s d x=>
  simp only[E2]at g;split at g
  ·cases g;trivial
  ·cases g
 | extract x ix=>
  simp only[E2]at g;split at g
  ·rename_i l he
   split at g
   ·rename_i Q r hd
    cases g;rw[Tp]at hd;exact(Hy p l).1 (E1 (v:=.tuple l) j he) _ (aF (by rw[hd];exact aV))
   ·cases g
  ·cases g
 | slice t x S U V=>
  simp only[E2]at g;split at g
  ·split at g
   ·rename_i he
    split at g
    ·exact Bk6 (x:=.slice _ _ _ _ _) (E1 (v:=.ptr _ _) j he) g
    ·cases g
   ·rename_i he
    split at g
    ·exact Bk6 (E1 j he) g
    ·cases g
   ·cases g
  ·cases g
 | build t ps=>
  have key:∀{z c:List EV} {l:List (Nat × EV)} {pl:Nat->Option (Nat × Nat)},T.zero t=some z->Zw tm ps.toList=some l->fill pl z l=some c->(EV.agg c).ok p:=by
   intro z c l pl B C m;obtain⟨i,W,X,_,_,M,J,rfl,_⟩:=hT.zero t z B;have D:=Vf (Bcx p M) J;have E:=Au7 j C;have F:=Amd pl m;refine⟨(Hy p c).2 (Ap4 pl (q:=fun v=>v.ok p) m (fun v G=>(Hy p _).1 D.1 v G) (fun q H v G=>(Hy p _).1 (Vf (E q H) (F q H)).1 v G)),?_⟩;rw[dP];exact Ap4 pl (q:=fun v=>v.one=true) m D.2 (fun q H v G=>(Vf (E q H) (F q H)).2 v G)
  simp only[E2]at g;split at g
  ·rename_i B C _
   split at g
   ·split at g
    ·rename_i m;cases g;exact key B C m
    ·cases g
   ·cases g
  ·rename_i B C _
   split at g
   ·split at g
    ·rename_i m;cases g;exact key B C m
    ·cases g
   ·cases g
  ·cases g
 | makeFunc fn a b=>
  cases fn<;>simp only[E2]at g
  all_goals first
   | (split at g
      ·rename_i O hb;cases g;exact⟨Ako j O,Ako j hb⟩
      ·cases g)
   | cases g
 | sliceToArrayPointer t x=>
  simp only[E2]at g;split at g
  ·rename_i he
   obtain⟨_,h2⟩:=Ap g;cases h2;exact E1 (v:=.slice _ _ _ _ _) j he
  ·cases g
 | _=>cases g
theorem Awm(g:Tt p h)(j:Tu f h w){a:List EV}(d:h.get i=some (.chan cap buf))(hb:EV.T5 p a)(s r:Nat):
 Move p f h w f (h.put i (.chan cap a)) (w.setChan (f.b i) cap (Bp f a).toArray false s r false)/\Wf p h (h.put i (.chan cap a)):=
 ⟨Move.setObj (p:=p) j d (o':=.chan cap a) (r:=.chan cap (Bp f a).toArray false s r false) ⟨s,r,rfl⟩,Wf.put g d hb⟩
theorem Ay4{c:SelectCase}(m:o.op=.select #[c] false){zv:Value}(g:(zeroValue c.elem).run P w=.ok zv w)
 (b:FB) {a:Array Value} (j:execOp (Io tmps) o=execOp (Io a) o) (rest:List Nat) (k:List Item) (cs:List Frame) (q:ops[i]? = some o) (hw:Region.wanted o (Go.yielded ops tmps)=true) :
 ∃es,stepG P true (Conc.G (b.at tmps (.inRegion ops (i::rest)::k)) cs) w=.comm (Conc.G (b.at tmps (.inRegion ops (i::rest)::k)) cs)
  #[{ chan:=Io a c.chan,send:=c.send.map (Io a),zero:=zv }] false .select w es:=by
 have:=Aq7 (P:=P) (b:=b) (rest:=rest) (k:=k) (cs:=cs) (w:=w) q hw (by rw[m];rfl);have d:(execOp (Io tmps) o).run P w=.ok (.comm #[{ chan:=Io a c.chan,send:=c.send.map (Io a),zero:=zv }] false .select) w:=by
  rw[j];simp only[execOp,m];simp[g]
 rw[Conc.G,this];simp only[stepG.apply,Sem.runT_eq,d,GStep.after,bI];exact⟨_,rfl⟩
include hT in
theorem Ba7(C:Lq p n tm)(g:Tt p h)(m:Tu f h w)(q:execOp (Io tmps) o=execOp (Io (Bh f n tm)) o){c:SelectCase}(F:o.op=.select #[c] false)
 (H:Cl tm c.chan=some (.chan i)) (hs:c.send=some x) {u:EV} (y:h.get i=some (.chan cap buf)) (D:Cl tm x=some u) (J:zeroOf T c.elem=some zv)
 (a:Ax (Nat.ble (Nat.succ (len buf)) cap) (some (EV.tuple [.int .i64 0,.bool false],h.put i (.chan cap (buf++[u])))) (some (.tuple [.int .i64 (-1),.bool false],h))=some (v,h')) :
 Aog P o tmps p f h w v h':=by
 intro b ops j rest k cs hj hw;have E:=T2 (f:=f) C;obtain⟨r0,d,s,r,rfl⟩:=m.obj i _ y;have A:=(Auc hT (f:=f) (w:=w) J).1;obtain⟨es,he⟩:=Ay4 F A b q rest k cs hj hw;rw[Bk E H,hs,dV,Bk E D]at he;have hok:=(g.get i _ y).2;by_cases hb:buf.length<cap
 ·rw[Y9,Yr (by omega),Ak]at a
  cases a;have B:EV.T5 p (buf++[u]):=Aax hok ⟨E1 C D,trivial⟩;obtain⟨K,L⟩:=Awm g m y B (s+1) r;refine⟨f,_,.one ?_,K,L,?_⟩
  ·have:=Conc.step_lone_select_send_room he d (by simpa [Cu]using hb)
   rw[FB.finish_at b _ hj]at this;simpa [Td,Bp,Cq,goInt,Conc.solo,Conc.G,lone]using this
  ·simp[EV.ok,EV.T5]
 ·rw[Y9,Aaz (by omega),Bc]at a
  cases a;refine⟨f,w,.one ?_,Move.refl m,Wf.refl g,?_⟩
  ·have:=Conc.step_lone_select_send_full he d (by simpa [Cu]using hb)
   rw[FB.finish_at b _ hj]at this;simpa [Td,Bp,Cq,goInt,Conc.solo,Conc.G,lone]using this
  ·simp[EV.ok,EV.T5]
include hT in
theorem Bar(C:Lq p n tm)(m:Tt p h)(q:Tu f h w)(u:execOp (Io tmps) o=execOp (Io (Bh f n tm)) o){c:SelectCase}(D:o.op=.select #[c] false)
 (E:Cl tm c.chan=some (.chan i)) (hs:c.send=none)
 (a:(match buf with
  | v::r=>some (EV.tuple [.int .i64 0,.bool true,v],h.put i (.chan cap r))
  | []=>some (.tuple [.int .i64 (-1),.bool false,zv],h))=some (v,h')) (y:h.get i=some (.chan cap buf)) (F:zeroOf T c.elem=some zv) :
 Aog P o tmps p f h w v h':=by
 intro b ops j rest k cs hj hw;have H:=T2 (f:=f) C;obtain⟨r0,d,s,r,rfl⟩:=q.obj i _ y;obtain⟨A,B⟩:=Auc hT (f:=f) (w:=w) F;obtain⟨es,he⟩:=Ay4 D A b u rest k cs hj hw;rw[Bk H E,hs,Option.map_none]at he;have hok:=(m.get i _ y).2;cases buf with
 | cons x l=>
  cases a;obtain⟨J,K⟩:=Awm m q y hok.2 s (r+1);refine⟨f,_,.one ?_,J,K,?_⟩
  ·have:=Conc.step_lone_select_recv_buf he d (by simp[Bp])
   rw[FB.finish_at b _ hj]at this;simpa [Bp,Cq,goInt,Conc.solo,Conc.G,lone]using this
  ·exact⟨trivial,trivial,EV.ok.mono (fun _ L=>.inl L) _ hok.1,trivial⟩
 | nil=>
  cases a;refine⟨f,w,.one ?_,Move.refl q,Wf.refl m,?_⟩
  ·have:=Conc.step_lone_sel_default he (by
    intro M g;simp only[List.mem_toArray,aP]at g;subst g;exact Conc.noWay_recv d)
   rw[FB.finish_at b _ hj]at this;simpa [commResult,Bp,Cq,goInt,Conc.solo,Conc.G,lone]using this
  ·exact⟨trivial,trivial,B _,trivial⟩
include hT
theorem Bp9(B:Lq p n tm)(q:Tt p h)(u:Tu f h w)(j:execOp (Io tmps) o=execOp (Io (Bh f n tm)) o)(d:Dt T tm o.op h=some (v,h')):
 Aog P o tmps p f h w v h':=by
 have A:=T2 (f:=f) B;cases g:o.op with
 | load t a=>
  rw[g]at d;obtain⟨rfl,h2,C⟩:=Blr hT A q u g d;refine Aog.Ac0 (by rw[g];rfl) ⟨f,w,_,(by rw[j];exact C),.inl rfl,Move.refl u,Wf.refl q,?_⟩;rw[J2 _ _ _ rfl];exact h2
 | store t a x=>rw[g]at d;exact Aog.Ac0 (by rw[g];rfl) (by rw[j];exact Biu hT A B q u g d)
 | alloc t=>rw[g]at d;exact Aog.Ac0 (by rw[g];rfl) (by rw[j];exact Bi7 hT q u g d)
 | box t x=>rw[g]at d;exact Aog.Ac0 (by rw[g];rfl) (by rw[j];exact Bqm A B q u g d)
 | makeSlice t x y=>rw[g]at d;exact Aog.Ac0 (by rw[g];rfl) (by rw[j];exact A3j (n:=n) hT A q u g d)
 | buildSlice t m ps=>rw[g]at d;exact Aog.Ac0 (by rw[g];rfl) (by rw[j];exact A1c hT A B q u g d)
 | makeMap t r=>rw[g]at d;exact Aog.Ac0 (by rw[g];rfl) (by rw[j];exact Bai q u g d)
 | makeChan t x=>rw[g]at d;exact Aog.Ac0 (by rw[g];rfl) (by rw[j];exact A6a hT A q u g d)
 | lookup t x k ok=>rw[g]at d;exact Aog.Ac0 (by rw[g];rfl) (by rw[j];exact Bef (n:=n) hT A q u g d)
 | mapUpdate t m k x=>rw[g]at d;exact Aog.Ac0 (by rw[g];rfl) (by rw[j];exact A3f hT A B q u g d)
 | call c=>
  rw[g]at d;obtain⟨callee,args,argTypes⟩:=c;cases callee with
  | builtin bi=>
   simp only[Dt]at d;split at d
   ·rename_i as has
    have key:∀cs,Arc P (Go.builtin bi argTypes o.type cs (Bp f as).toArray) p f h w v h':=by
     intro cs;obtain⟨s,E,f',w',h2,C,h4,F⟩:=Bb6 (ty:=o.type) (cs:=cs) hT q u (Ako B has) d;refine⟨f',w',.value (Cq f' v),?_,.inl rfl,C,h4,F⟩;rw[E];simp only[Sem.run_bind,h2,aK,aS]
    have he:args.map (Io (Bh f n tm))=(Bp f as).toArray:=by
     rw[<-Aat A has];simp only[<-List.map_toArray,eC]
    obtain⟨f',w',N,E,h2,C,h4,F⟩:=key (args.map fun | .const _=>true|_=>false);refine Aog.Ac0 (by rw[g];rfl) ⟨f',w',N,?_,h2,C,h4,F⟩;rw[<-E,j];simp only[execOp,g,resolve,Sem.run_bind,aS,aK,invoke,he];rfl
   ·cases d
  | value x=>cases d
  | invoke x m=>cases d
 | select cs bl=>
  rw[g]at d;cases bl with
  | true=>cases d
  | false=>
   simp only[Dt]at d;split at d
   ·rename_i c G
    have D:cs = #[c]:=by apply dR;simpa using G
    subst D;split at d
    ·rename_i i x H hs
     split at d
     ·rename_i cap buf M J L
      split at d
      ·rename_i zv K
       exact Ba7 hT B q u j g H hs J L K d
      ·cases d
     ·cases d
    ·rename_i i H hs
     split at d
     ·rename_i cap buf zv J K
      exact Bar hT B q u j g H hs d J K
     ·cases d
    ·cases d
   ·cases d
 | _=>rw[g]at d;cases d
end
end
section
section
variable{w:World}(hT:Pv P T){call:Ai}(hC:Af7 P call)(hR:Amu P round)
theorem Move.Bh{f':Loc}{w:World}(m:Move p f h w f' h' w')(a:Lq p n tm):Bh f n tm=Bh f' n tm:=K7 m.agree a
theorem Ajm(f:Loc)(n:Nat)(tm:Bb)(d:Option Tmp)(v:EV):Bbq (Bh f n tm) d (Cq f v)=Bh f n (Qq n tm d v):=by
 cases d with
 | none=>rfl
 | some d=>exact A2k f n tm d v
include hT hC hR in
theorem Bnv(D:Lq p n tm)(E:Tt p h)(F:Tu f h w)(q:execOp (Io tmps) o=execOp (Io (Bh f n tm)) o)(a:aop T call round tm o.op h=some (v,h')):
 Aog P o tmps p f h w v h':=by
 have G:=T2 (f:=f) D;unfold aop at a;rw[Bo]at a;split at a
 ·rename_i Z
  split at a
  ·rename_i v' H
   cases a;refine Aog.Ac0 ?_ ⟨f,w,_,(by rw[q];exact Bmf hT f w G H),.inl rfl,Move.refl F,Wf.refl E,?_⟩
   ·cases y:o.op<;>first|rfl|(rw[y]at Z;cases Z)
   ·rw[J2 _ _ _ rfl];exact Bpg hT D H
  ·cases a
 ·split at a
  ·rename_i fo args ab heq
   split at a
   ·rename_i g first captured as M has
    obtain⟨⟨fn,S,U,A⟩,V⟩:=hC _ _ _ _ _ a;intro b ops i rest k cs y hw;have J:=E1 (v:=.func g first captured) D M;have u:=Ako D has;have B:EV.T5 p (first++(as++captured)):=Aax J.1 (Aax u J.2);obtain⟨fr,f',w',hs,ad,hl,hm,hwf,C⟩:=V p f w E F B (b.at tmps (.inRegion ops (i::rest)::k)::cs);refine⟨f',w',?_,hm,hwf,C⟩;have he:args.map (Io (Bh f n tm))=(Bp f as).toArray:=by
     rw[<-Aat G has];simp only[<-List.map_toArray,eC]
    have j:(execOp (Io tmps) o).run P w=.ok (.enter g (Bp f (first++(as++captured))).toArray) w:=by
     rw[q];have hb:¬fn.body=none:=by cases hx:fn.body<;>simp_all
     have hn:¬fn.name = "runtime.NumGoroutine":=by simpa using A
     simp[execOp,heq,resolve,he,Bk G M,Cq,Deferred.ofValue,invoke,callFunc,S,hn,hb,Td]
    refine .head (A3g y hw (by rw[heq];rfl) j) (hs.trans (.one ?_));rw[<-FB.finish_at b _ y];exact step_leave_returned hl
   ·rename_i l as M has
    obtain⟨st,pd,fn,O,K,ps,asg,body,d,L,hg,W,V⟩:=hR _ _ _ _ _ a;intro b ops i rest k cs y hw;have u:=Ako D has;obtain⟨f',w',hs,hm,hwf,C⟩:=V p f w E F u (b.at tmps (.inRegion ops (i::rest)::k)) cs;refine⟨f',w',?_,hm,hwf,C⟩;have he:args.map (Io (Bh f n tm))=(Bp f as).toArray:=by
     rw[<-Aat G has];simp only[<-List.map_toArray,eC]
    obtain⟨r0,X,rfl⟩:=F.obj l _ hg;obtain⟨hlen,ah,m⟩:=Aj6 f W u (E.get l _ hg).2.1;have j:(execOp (Io tmps) o).run P w=.ok (.round (f.b l) fn (Bh f O L) asg body) w:=by
     rw[q];have Q:Array.foldl (fun tmps (x:Tmp × Value)=>tmps.setIfInBounds x.1 x.2) (Bh f O K) (ps.toArray.zip (Bp f as).toArray)=Bh f O L:=by
      rw[<-m,List.zip_toArray,List.foldl_toArray]
     have Y:(getObj (f.b l)).run P w=.ok (.loop ⟨st,pd,fn,Bh f O K,ps.toArray,asg,body,f.b d⟩) w:=Oj X (by intros;simp);simp only[execOp,heq,resolve,he,Bk G M,Cq,Deferred.ofValue,invoke,Sem.run_bind,aS,aK,Instr.yield,Instr.getLoop,Y];simp[Cu,hlen];exact m
    refine .head (A3w y hw (by rw[heq];rfl) j) ?_;rw[<-FB.finish_at b _ y];exact hs
   ·cases a
  ·rename_i ai
   exact Bp9 hT D E F q a
theorem Bd6(a:Lq p n tm)(ops:Array Oper)(j:Nat):Go.yielded ops (Bh f n tm) j=Ev.yielded ops.toList tm j:=by
 unfold Go.yielded Ev.yielded;rw[Az9,cK];cases ops[j]? with
 | none=>rfl
 | some o=>
  simp only[Option.bind_some];cases o.dst with
  | none=>rfl
  | some d=>
   simp only[Option.bind_some];rw[Agl];by_cases hd:d<n
   ·rw[aQ hd]
    unfold tmp;cases g:tm.get d with
    | none=>rfl
    | some v=>cases v<;>rfl
   ·rw[aM hd,a.out d (Nat.le_of_not_lt hd)]
theorem A5t(a:Lq p n tm)(ops:Array Oper)(o:Oper):Region.wanted o (Go.yielded ops (Bh f n tm))=Ev.wanted ops.toList tm o.guard:=by
 unfold Region.wanted Ev.wanted;cases o.guard with
 | none=>rfl
 | some x=>
  obtain⟨j,want⟩:=x;simp only[];rw[Bd6 a];cases Ev.yielded ops.toList tm j with
  | none=>rfl
  | some b=>cases b<;>cases want<;>rfl
include hT hC hR in
theorem A7x(ops:Array Oper):∀{l:List Oper} {i:Nat} {p:Nat->Prop} {f:Loc} {h:Ab} {w:World} {tm j:Bb} {h':Ab},l=ops.toList.drop i->Lq p n tm->Tt p h->Tu f h w ->
 Ash T call round n ops.toList l tm h=some (j,h')->∀(b:FB) (k:List Item) (cs:List Frame),
  ∃f' w',Steps P (lone (b.at (Bh f n tm) (.inRegion ops (List.range' i l.length)::k)) cs w) (lone (b.at (Bh f' n j) (.inRegion ops []::k)) cs w') /\
   Move p f h w f' h' w'/\Wf p h h'/\Lq (grow p h h') n j
 | [],i,p,f,h,w,tm,j,h',J,q,F,G,a,b,k,cs=>by
  simp only[Ash]at a;cases a;exact⟨f,w,.refl _ _,Move.refl G,Wf.refl F,by rw[J2 _ _ _ rfl];exact q⟩
 | o::r,i,p,f,h,w,tm,j,h',J,q,F,G,a,b,k,cs=>by
  have H:ops[i]? = some o:=by
   have:=congrArg (fun l=>l[0]?) J;simp only[bN,cX,cz,cK]at this;exact this.symm
  have Q:r=ops.toList.drop (i+1):=by
   have:=congrArg List.tail J;simpa [List.tail_drop]using this
  obtain⟨dst,op,ty,ps,K,g⟩:=o;simp only[Ash]at a;rw[Bo]at a;have u:=A5t (f:=f) q ops ⟨dst,op,ty,ps,K,g⟩;split at a
  ·rename_i hw
   rw[hw]at u;split at a
   ·rename_i v S E
    obtain⟨f1,w1,L,y,m,M⟩:=Bnv hT hC hR q F G (o:=⟨dst,op,ty,ps,K,g⟩) rfl E b ops i (List.range' (i+1) r.length) k cs H u;have A:Lq (grow p h S) n (Qq n tm dst v):=(q.mono fun _ H=>.inl H).put dst M;obtain⟨f2,w2,B,C,d,D⟩:=A7x ops Q A m.hok y.rep a b k cs;refine⟨f2,w2,?_,y.trans C,m.trans d,?_⟩
    ·rw[bK,List.range'_succ]
     refine L.trans ?_;rw[y.Bh q,Ajm];exact B
    ·rw[<-Afl p m.next d.next];exact D
   ·cases a
  ·rename_i hw
   have O:Region.wanted ⟨dst,op,ty,ps,K,g⟩ (Go.yielded ops (Bh f n tm))=false:=by rw[u];simpa using hw
   have A:Lq p n (Qq n tm dst (.tuple [])):=q.put dst trivial;obtain⟨f2,w2,B,C,d,D⟩:=A7x ops Q A F G a b k cs;refine⟨f2,w2,?_,C,d,D⟩;rw[bK,List.range'_succ];refine .head (Ayr H O) ?_;have:(undef:Value)=Cq f (.tuple []):=rfl;rw[this,Ajm];exact B
end
end
structure AWf(h h':Ab):Prop where
 next:h.next<=h'.next
 mw:h'.mw<=h.mw
 same:∀q,q<h'.mw->q<h.next->h'.get q=h.get q
 live:∀q o,h'.get q=some o->(∃o',h.get q=some o')\/h.next<=q
 lt:(∀q o,h.get q=some o->q<h.next)->∀q o,h'.get q=some o->q<h'.next
theorem AWf.refl(h:Ab):AWf h h:=⟨aD _,aD _,fun _ _ _=>rfl,fun _ o a=>.inl ⟨o,a⟩,fun H=>H⟩
theorem AWf.trans {a b c:Ab}(x:AWf a b)(y:AWf b c):AWf a c where
 next:=bQ x.next y.next
 mw:=bQ y.mw x.mw
 same q d h2:=(y.same q d (aN h2 x.next)).trans (x.same q (aN d y.mw) h2)
 live q o g:=by
  rcases y.live q o g with⟨o',d⟩|d
  ·exact x.live q o' d
  ·exact .inr (bQ x.next d)
 lt H:=y.lt (x.lt H)
theorem AWf.put{o:Ca}(d:h.get i=some o)(o':Ca):AWf h (h.put i o') where
 next:=aD _
 mw:=by rw[Ab.Apo];exact Nat.min_le_right _ _
 same q g _:=by rw[Ab.Apo]at g;rw[Ab.get_put,aM (by omega)]
 live q x a:=by
  rw[Ab.get_put]at a;split at a
  ·rename_i e;subst e;exact .inl ⟨o,d⟩
  ·exact .inl ⟨x,a⟩
 lt H q x a:=by
  rw[Ab.get_put]at a;split at a
  ·rename_i e;subst e;exact H _ _ d
  ·exact H _ _ a
theorem AWf.new(h:Ab)(o:Ca):AWf h (h.new o) where
 next:=fM _
 mw:=aD _
 same q _ h2:=by rw[Ab.K8,aM (by omega)]
 live q x a:=by
  rw[Ab.K8]at a;split at a
  ·rename_i e;exact .inr (by omega)
  ·exact .inl ⟨x,a⟩
 lt H q x a:=by
  rw[Ab.K8]at a;rw[Ab.Dg];split at a
  ·rename_i e;omega
  ·exact Nat.lt_succ_of_lt (H _ _ a)
theorem AWf.del(h:Ab)(i:Nat):AWf h (h.del i) where
 next:=aD _
 mw:=by rw[Ab.A07];exact Nat.min_le_right _ _
 same q d _:=by rw[Ab.A07]at d;rw[Ab.Aa8,aM (by omega)]
 live q x a:=by
  rw[Ab.Aa8]at a;split at a
  ·cases a
  ·exact .inl ⟨x,a⟩
 lt H q x a:=by
  rw[Ab.Aa8]at a;split at a
  ·cases a
  ·exact H _ _ a
theorem A4u{vs:List EV}(a:Mp h i off vs=some h'):AWf h h':=by
 unfold Mp at a;split at a
 ·rename_i d
  split at a
  ·cases a;exact .put d _
  ·cases a
 ·rename_i d
  split at a
  ·cases a;exact .put d _
  ·cases a
 ·cases a
theorem Blz{st:TypeId}{s x:EV}(a:append T st s x h=some (v,h')):AWf h h':=by
 unfold append at a;split at a
 ·split at a
  ·split at a
   ·rw[Bo]at a
    split at a
    ·split at a
     ·obtain⟨_,h2⟩:=Ap a;cases h2;exact .refl _
     ·cases a;exact .refl _
     ·cases a
    ·obtain⟨_,h2⟩:=Ap a
     split at h2
     ·split at h2
      ·cases h2;exact .new _ _
      ·obtain⟨_,d⟩:=Ap h2
       split at d
       ·rw[Bo]at d
        split at d
        ·obtain⟨_,d⟩:=Ap d
         obtain⟨_,d⟩:=Ap d;split at d
         ·obtain⟨_,d⟩:=Ap d
          obtain⟨_,d⟩:=Ap d;obtain⟨_,d⟩:=Ap d;cases d;exact(AWf.del _ _).trans (.new _ _)
         ·cases d
        ·obtain⟨_,d⟩:=Tv d
         cases d;exact .new _ _
       ·cases d
      ·cases h2
     ·cases h2
   ·cases a
  ·cases a
 ·cases a
theorem Bhd{b:Builtin}(a:builtin T b ts args h=some (v,h')):AWf h h':=by
 unfold builtin at a;split at a
 ·split at a
  ·split at a
   ·exact Blz a
   ·cases a
  ·cases a
 ·split at a
  ·split at a
   ·cases a;exact .refl _
   ·split at a<;>first|(cases a;done)|(cases a;exact .refl _)
   ·cases a;exact .refl _
   ·split at a<;>first|(cases a;done)|(cases a;exact .refl _)
   ·cases a
  ·cases a
 ·split at a
  ·split at a
   ·split at a
    ·obtain⟨_,h2⟩:=Tv a
     split at h2
     ·split at h2
      ·split at h2
       ·rename_i hw;cases h2;exact A4u hw
       ·cases h2
      ·cases h2
     ·cases h2
    ·cases a
   ·cases a
  ·cases a
 ·split at a
  ·split at a
   ·obtain⟨_,h2⟩:=Ap a
    split at h2
    ·rename_i d
     split at h2
     ·cases h2;exact .put d _
     ·cases h2;exact .put d _
     ·cases h2
    ·cases h2
   ·cases a
  ·cases a
 ·split at a<;>first|(cases a;done)|(cases a;exact .refl _)
 ·split at a<;>first|(cases a;done)|(cases a;exact .refl _)
 ·cases a
theorem Bs7(a:Dt T tm op h=some (v,h')):AWf h h':=by
 unfold Dt at a;split at a
 ·
  split at a
  ·split at a
   ·split at a
    ·split at a<;>first|(cases a;done)|(cases a;exact .refl _)
    ·cases a
   ·split at a<;>first|(cases a;done)|(cases a;exact .refl _)
   ·cases a
  ·cases a
 ·
  split at a
  ·obtain⟨_,h2⟩:=Ap a
   obtain⟨_,h2⟩:=Ap h2;split at h2
   ·rename_i hw;cases h2;exact A4u hw
   ·cases h2
  ·cases a
 ·split at a<;>first|(cases a;done)|(cases a;exact .new _ _)
 ·split at a
  ·obtain⟨_,h2⟩:=Ap a;cases h2;exact .new _ _
  ·cases a
 ·split at a
  ·exact Bhd a
  ·cases a
 ·split at a
  ·split at a
   ·obtain⟨_,h2⟩:=Ap a
    split at h2
    ·cases h2;exact .new _ _
    ·cases h2
   ·cases a
  ·cases a
 ·split at a
  ·split at a
   ·obtain⟨_,h2⟩:=Ap a
    obtain⟨_,h2⟩:=Ap h2;cases h2;exact .new _ _
   ·cases a
  ·cases a
 ·cases a;exact .new _ _
 ·split at a
  ·split at a
   ·obtain⟨_,h2⟩:=Ap a;cases h2;exact .new _ _
   ·cases a
  ·cases a
 ·split at a
  ·obtain⟨_,h2⟩:=Ap a
   split at h2
   ·split at h2
    ·cases h2;exact .refl _
    ·split at h2<;>first|(cases h2;done)|(cases h2;exact .refl _)
    ·cases h2
   ·cases h2
  ·cases a
 ·split at a
  ·obtain⟨_,h2⟩:=Ap a
   split at h2
   ·rename_i d
    split at h2
    ·cases h2;exact .put d _
    ·cases h2;exact .put d _
    ·cases h2
   ·cases h2
  ·cases a
 ·split at a
  ·split at a
   ·split at a
    ·rename_i d _
     split at a
     ·rw[Bo]at a
      split at a
      ·cases a;exact .put d _
      ·cases a;exact .refl _
     ·cases a
    ·cases a
   ·split at a
    ·rename_i d _
     split at a
     ·cases a;exact .put d _
     ·cases a;exact .refl _
    ·cases a
   ·cases a
  ·cases a
 ·cases a
def Xd(c:Ai):Prop:=∀g args h v h',c g args h=some (v,h')->AWf h h'
section
variable{call:Ai}(hC:Xd call)(hR:Xd round)
include hC hR
theorem Br7(a:aop T call round tm op h=some (v,h')):AWf h h':=by
 unfold aop at a;rw[Bo]at a;split at a
 ·split at a<;>first|(cases a;done)|(cases a;exact .refl _)
 ·split at a
  ·split at a
   ·exact hC _ _ _ _ _ a
   ·exact hR _ _ _ _ _ a
   ·cases a
  ·exact Bs7 a
theorem Bcr{ops:List Oper}:∀{l:List Oper} {tm d:Bb} {h h':Ab},Ash T call round n ops l tm h=some (d,h')->AWf h h'
 | [],_,_,_,_,a=>by cases a;exact .refl _
 | ⟨dst,op,ty,ps,m,g⟩::r,tm,d,h,h',a=>by
  simp only[Ash]at a;rw[Bo]at a;split at a
  ·split at a
   ·rename_i j
    exact(Br7 hC hR j).trans (Bcr a)
   ·cases a
  ·exact Bcr a
end
end Go.Ev
