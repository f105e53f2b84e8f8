import Derived.Test.YtadnemjjlacolaaGreatEvOne
import Derived.Conc.LoneSelect
import Derived.Conc.LoneSelectN
set_option linter.all false
namespace Go.Ev
variable {i n cap off:Nat}{ρ:Operand->Value}{tm:Az}{o:Oper}{e t ty:TypeId}{ps:Array (Nat × Operand)}{v zv:EV}{h h':Aa}{x:Operand}{ents:List MapEntry}{P:Program}{w':World}{base:Option Addr}{op:Op}{ts:Array TypeId}{buf args:List EV}{ops:Array Oper}{tmps:Array Value}{p:Nat->Prop}{f:Loc}{T:H7}{round:Ai}
section
section
variable{w:World}(hT:P6 P T)
include hT
theorem Ax6(L:Reads f tm ρ)(G:Lb p n tm)(M:S9 p h)(O:S8 f h w)
 {m:Nat} (Q:o.op=.buildSlice t m ps) (a:Dj T tm (.buildSlice t m ps) h=some (v,h')) :
 Amx P (execOp ρ o) p f h w v h':=by
 simp only[Dj]at a;split at a
 ·rename_i e l hu E
  split at a
  ·rename_i s z hs S
   obtain⟨U,h2⟩:=An a;split at h2
   ·rename_i c C
    cases h2;simp only[dD,Nat.mul_eq]at U;obtain⟨u,V,H,W,_,_,X,i,i1,i2,i3⟩:=Aab hT f w S;obtain⟨i',J,j2,j3⟩:=hT.size e s hs;have F:s=z.length:=by rw[i1]at J;cases J;omega
    subst F;obtain⟨c1,c2⟩:=T4 (X p) V;rw[<-H]at c1 c2;have d1:∀v∈c,v.ok p:=Amm (fun i=>some (Nat.mul i z.length,z.length)) C (fun v j=>(Ic p _).1 c1 v (Ast j))
     (fun q y v j=>(Ic p _).1 (T4 (Asm G E q y) (Akj _ C q y)).1 v j)
    have d2:∀v∈c,v.one=true:=Amm (fun i=>some (Nat.mul i z.length,z.length)) C (fun v j=>c2 v (Ast j))
     (fun q y v j=>(T4 (Asm G E q y) (Akj _ C q y)).2 v j)
    obtain⟨f',w',K,Y,Z,r4⟩:=Aj5 (P:=P) M O e ((Ic p _).2 d1) (by simpa using d2);refine⟨f',w',_,?_,.inl rfl,Y,Z,r4⟩;have A:=Ase f (fun i=>some (Nat.mul i z.length,z.length)) (fun i=>some (i*z.length,z.length)) (fun i q y=>y) C;have D:(ps.map fun(i,x)=>(i,ρ x)).toList=l.map fun(i,v)=>(i,Cn f v):=by
     rw[Array.toList_map,Aj2 L E]
    have B:¬(2^24<m*z.length):=by omega
    simp only[execOp,Q,Instr.buildSlice,Sem.run_bind,Ds hT w hu,aI,Gq hT w hs,gt_iff_lt,B,ak,aT];by_cases d:m*z.length=0
    ·have er:rep z m = []:=cM.1 (by rw[Ajx];exact d)
     have e0:∀g:Nat->Value,Array.map g (Array.range 0)=(Br f []).toArray:=fun g=>by simp[Br]
     rw[er]at A;simp only[d,bI,Sem.run_bind,aT,aI];rw[e0,D,A];simp only[Sem.run_bind,K,aI,aT];simp[Cn]
    ·rw[aF d]
     simp only[Sem.run_bind,W,aT,aI,Ss,<-H];rw[A4z f z m d,D,A];simp only[Sem.run_bind,K,aI,aT];simp[Cn]
   ·cases h2
  ·cases a
 ·cases a
omit hT in
theorem A59(d:S9 p h)(g:S8 f h w)
 {r:Option Operand} (j:o.op=.makeMap t r) (a:Dj T tm (.makeMap t r) h=some (v,h')) :
 Amx P (execOp ρ o) p f h w v h':=by
 cases r with
 | some x=>simp[Dj]at a
 | none=>
  simp only[Dj]at a;cases a;refine⟨f.set h.next w.heap.size 0,{ w with heap:=w.heap.push (.map #[] 0) },_,?_,.inl rfl,Move.new d g 0 rfl ⟨#[],0,rfl,rfl⟩ rfl rfl rfl,Wf.new d (by simp[Dt.ok]),.inr ⟨aE _,by rw[Aa.Dl];omega⟩⟩;simp only[execOp,j,Instr.makeMap,Cn,Loc.Aai];simp
theorem A4o(q:Reads f tm ρ)(j:S9 p h)(u:S8 f h w)
 (y:o.op=.makeChan t x) (a:Dj T tm (.makeChan t x) h=some (v,h')) :
 Amx P (execOp ρ o) p f h w v h':=by
 simp only[Dj]at a;split at a
 ·rename_i d e k n hu A
  split at a
  ·rename_i s hs
   obtain⟨m,h2⟩:=An a;cases h2;simp only[dD]at m;obtain⟨i,i1,i2,i3⟩:=hT.size e s hs;have g:¬(((n:Int)<0)\/((n:Int)>IntKind.i64.max)\/((i.bytes:Int)*n>2^48-112)):=by
    have:i.bytes*n<=1048576*65536:=gA i3 m;have e:((i.bytes*n:Nat):Int)=(i.bytes:Int)*n:=by simp
    have e2:IntKind.i64.max=9223372036854775807:=rfl;omega
   refine⟨f.set h.next w.heap.size 0,{ w with heap:=w.heap.push (.chan n #[] false 0 0 false) },_,?_,.inl rfl,Move.new j u 0 rfl ⟨0,0,rfl⟩ rfl rfl rfl,Wf.new j trivial,.inr ⟨aE _,by rw[Aa.Dl];omega⟩⟩;simp only[execOp,y,Instr.makeChan,Bh q A,Cn,asInt,asIntOf,Sem.run_bind,aT,aI,Ds hT w hu,typeInfo,fR,i1,aZ];rw[aF g];simp[Loc.Aai]
  ·cases a
 ·cases a
omit hT in
theorem A1w:∀{a b:List EV},E2 a b=some true->a=b
 | [],[],_=>rfl
 | x::r,y::s,h=>by
  unfold E2 at h;split at h
  ·rename_i g
   have m:=A1w h;have:x=y:=by
    unfold Aje at g;split at g
    ·obtain⟨u,h2⟩:=An g
     obtain rfl:=Ans u;cases d:eqB _ _ with
     | false=>rw[d]at h2;cases h2
     | true=>rw[Ah1]at d;rw[dI d]
    ·rename_i p q
     have j:=fW g;rw[Aw6]at j;rw[Bdd j]
    ·rename_i p q
     cases p<;>cases q<;>first|rfl|(cases g)
    ·cases g
   rw[this,m]
  ·split at h<;>cases h
  ·cases h
 | [],_::_,h=>by cases h
 | _::_,[],h=>by cases h
omit hT in
theorem Bfc {a b:EV}{r:Bool}(h:Aje a b=some r):(∃k n,a=.int k n)\/(∃c,a=.bool c)\/(∃s,a=.str s):=by
 unfold Aje at h;split at h
 ·exact .inl ⟨_,_,rfl⟩
 ·exact .inr (.inr ⟨_,rfl⟩)
 ·exact .inr (.inl ⟨_,rfl⟩)
 ·cases h
theorem P8{k:EV}(d:N5 T t k=true)(e:Bool):(Instr.checkKey e 10000 t (Cn f k)).run P w=.ok () w:=by
 unfold N5 at d;split at d
 ·rename_i a
  rw[Bn]at d;split at d
  ·rename_i g
   split at d
   ·rename_i sh j
    rw[Bn]at d;split at d
    ·rename_i hs
     split at d
     ·exact(hT.key t g).2 f w e a sh j hs
     ·cases d
    ·cases d
   ·cases d
  ·cases d
 ·rename_i m n
  split at d
  ·rename_i q hu
   rw[Instr.checkKey.eq_def];simp[Ds hT w hu,Cn]
  ·cases d
 ·cases d
omit hT in
def Azs(f:Loc)(ents:List MapEntry)(es:List (EV × EV)):Prop:=ents.map (fun e=>(e.key,e.val))=es.map (fun e=>(Cn f e.1,Cn f e.2))
theorem A6f {j:IntKind}{g:IntKind}{n:Int}(m:Nat.beq (P7 g) (P7 j)=true):∀{ents:List MapEntry} {es:List (EV × EV)} {i:Nat} {r:Option (Nat × EV)},Azs f ents es->Hr (.int g n) es i=some r ->
 Instr.findNow (.int j) (.int g n) ents i=some (r.map fun x=>(x.1,Cn f x.2))
 | [],[],i,r,_,h=>by simp only[Hr]at h;cases h;rfl
 | y::ents,(a,b)::es,i,r,he,h=>by
  simp only[Azs,dL,List.cons.injEq,Prod.mk.injEq]at he;obtain⟨⟨e1,e2⟩,e3⟩:=he;unfold Hr at h;unfold Instr.findNow;have u:∀c,Asy (.int g n) a=some c->Instr.sameNow (.int j) (.int g n) y.key=some c:=by
   intro c d;unfold Asy at d;split at d
   ·rename_i q;cases q
   ·rename_i B C D b1 q
    cases q;obtain⟨A,h2⟩:=An d;obtain rfl:=Ans A;cases h2;rw[e1];simp[Cn,Instr.sameNow,Ah1];rfl
   ·cases d
  split at h
  ·rename_i d
   cases h;rw[u _ d,e2];rfl
  ·rename_i d
   rw[u _ d];exact A6f m e3 h
  ·cases h
 | [],_::_,_,_,he,_=>by simp[Azs]at he
 | _::_,[],_,_,he,_=>by simp[Azs]at he
theorem A71{sh:List Nat}(g:T.eqs t=some sh){a:List EV}(q:shaped sh a=true):∀{ents:List MapEntry} {es:List (EV × EV)} {i:Nat} {r:Option (Nat × EV)},Azs f ents es->Hr (.agg a) es i=some r ->
 (Instr.findAsking t (Cn f (.agg a)) ents i).run P w=.ok (r.map fun x=>(x.1,Cn f x.2)) w
 | [],[],i,r,_,h=>by simp only[Hr]at h;cases h;rfl
 | y::ents,(b,c)::es,i,r,he,h=>by
  simp only[Azs,dL,List.cons.injEq,Prod.mk.injEq]at he;obtain⟨⟨e1,e2⟩,e3⟩:=he;unfold Hr at h;unfold Instr.findAsking;have u:∀d,Asy (.agg a) b=some d->(Op.equal t (Cn f (.agg a)) y.key).run P w=.ok d w:=by
   intro d hd;unfold Asy at hd;split at hd
   ·rename_i j
    cases j;rw[e1];exact(hT.eqs t sh g).2 f w _ _ d hd q
   ·rename_i j;cases j
   ·cases hd
  split at h
  ·rename_i m
   cases h;simp only[Sem.run_bind,u _ m,aI,bI,aT,e2];rfl
  ·rename_i m
   simp only[Sem.run_bind,u _ m,aI,aX,ak];exact A71 g q e3 h
  ·cases h
 | [],_::_,_,_,he,_=>by simp[Azs]at he
 | _::_,[],_,_,he,_=>by simp[Azs]at he
theorem U2{k:EV}(d:N5 T t k=true){es:List (EV × EV)}{r:Option (Nat × EV)}(he:Azs f ents es)(hm:Hr k es 0=some r):
 (Instr.findKey t (Cn f k) ents).run P w=.ok (r.map fun x=>(x.1,Cn f x.2)) w:=by
 unfold N5 at d;split at d
 ·rename_i a
  rw[Bn]at d;split at d
  ·rename_i g
   split at d
   ·rename_i sh q
    rw[Bn]at d;split at d
    ·rename_i y
     obtain⟨j,u,m⟩:=(hT.key t g).1;simp only[Instr.findKey,underlying,Sem.run_bind,fR,u,aI,aT];cases ents with
     | nil=>
      cases es with
      | nil=>simp only[Hr]at hm;cases hm;rfl
      | cons x r=>simp[Azs]at he
     | cons A ents=>
      have:Instr.findNow j (Cn f (.agg a)) (A::ents) 0=none:=by
       cases j<;>first|(simp[Auh]at m;done)|simp[Instr.findNow,Instr.sameNow,Cn]
      rw[this];exact A71 hT q y he hm
    ·cases d
   ·cases d
  ·cases d
 ·rename_i B n
  split at d
  ·rename_i C hu
   have:=A6f (f:=f) hT d he hm;simp only[Instr.findKey,Sem.run_bind,Ds hT w hu,aI,Cn,this,aT]
  ·cases d
 ·cases d
omit hT in
theorem Ajw {k:EV}:∀{es:List (EV × EV)} {i j:Nat} {v:EV},Hr k es i=some (some (j,v))->∃a,i<=j/\es[j-i]? = some (a,v)/\Asy k a=some true
 | [],i,j,v,h=>by simp[Hr]at h
 | (a,b)::es,i,j,v,h=>by
  unfold Hr at h;split at h
  ·rename_i d
   cases h;exact⟨a,aE _,by simp,d⟩
  ·obtain⟨g,q,h2,m⟩:=Ajw h
   refine⟨g,by omega,?_,m⟩;have:j-i=(j-Nat.succ i)+1:=by omega
   rw[this];simpa using h2
  ·cases h
omit hT in
theorem A9n {k a:EV}(h:Asy k a=some true):k=a:=by
 unfold Asy at h;split at h
 ·rw[A1w h]
 ·obtain⟨g,h2⟩:=An h
  obtain rfl:=Ans g;cases d:eqB _ _ with
  | false=>rw[d]at h2;cases h2
  | true=>rw[Ah1]at d;rw[dI d]
 ·cases h
end
end
section
theorem Nn{w:World}{r:Nat}{o:Obj}(h:w.heap[r]? = some o)(a:∀c e z,o≠.cells c e z):(getObj r).run P w=.ok o w:=by
 unfold getObj;simp only[Sem.run,h]
theorem Qc{w:World}{r:Nat}{o o':Obj}(h:w.heap[r]? = some o)(a:∀c e z,o≠.cells c e z):(setObj r o').run P w=.ok () { w with heap:=w.heap.setIfInBounds r o' }:=by
 unfold setObj;simp only[Sem.run,h]
section
variable{w:World}
theorem Move.setObj(a:S8 f h w){o o':Dt}(d:h.get i=some o){r:Obj}(h2:Ul f i o' r):
 Move p f h w f (h.put i o') { w with heap:=w.heap.setIfInBounds (f.b i) r }:=by
 have g:=a.lt d;refine Move.put a d (r:=r) ?_ h2 (fun b hb=>?_) ?_ rfl rfl rfl
 ·simp[g]
 ·simp[Array.getElem?_setIfInBounds,cP hb]
 ·simp
variable (hT:P6 P T)
include hT
theorem Aru(a:zeroOf T t=some v):(zeroValue t).run P w=.ok (Cn f v) w/\∀q,v.ok q:=by
 unfold zeroOf at a;split at a
 ·rename_i z d
  obtain⟨u,B,C,j,y,A,m,_⟩:=Aab hT f w d;split at a
  ·rename_i g
   cases a;rw[<-y g];exact⟨j,m⟩
  ·rename_i g
   have e:=A g;split at a
   ·rename_i D
    cases a;cases e;exact⟨j,m⟩
   ·cases a
  ·cases a
 ·cases a
theorem A9m {n:Nat}(q:Reads f tm ρ)(B:S9 p h)(C:S8 f h w)
 {k:Operand} {ok:Bool} (E:o.op=.lookup t x k ok) (d:Dj T tm (.lookup t x k ok) h=some (v,h')) :
 Amx P (execOp ρ o) p f h w v h':=by
 simp only[Dj]at d;split at d
 ·rename_i Q e i S hu y F
  obtain⟨A,h2⟩:=An d;split at h2
  ·rename_i es G
   obtain⟨r,K,ents,clock,L,H⟩:=C.obj i _ G;obtain⟨_,M⟩:=B.get i _ G;subst L;have g:=Nn (P:=P) K (by intro c e z y;cases y);split at h2
   ·rename_i j u hm
    cases h2;have D:=U2 (w:=w) (f:=f) hT A H hm;obtain⟨a,_,b2,_⟩:=Ajw hm;have m:u.ok p:=(M _ (bU b2)).2;refine⟨f,w,_,?_,.inl rfl,Move.refl C,Wf.refl B,?_⟩
    ·simp only[execOp,E,Instr.lookup,Bh q y,Bh q F,Cn,Sem.run_bind,Ds hT w hu,aI,g,aT,P8 hT A,D,dc]
     cases ok<;>rfl
    ·rw[J7 p h h rfl]
     cases ok
     ·exact m
     ·exact⟨m,trivial,trivial⟩
   ·rename_i hm
    split at h2
    ·rename_i zv O
     cases h2;obtain⟨z1,J⟩:=Aru (w:=w) (f:=f) hT O;have D:=U2 (w:=w) (f:=f) hT A H hm;refine⟨f,w,_,?_,.inl rfl,Move.refl C,Wf.refl B,?_⟩
     ·simp only[execOp,E,Instr.lookup,Bh q y,Bh q F,Cn,Sem.run_bind,Ds hT w hu,aI,g,aT,P8 hT A,D,Option.map_none,z1]
      cases ok<;>rfl
     ·rw[J7 p h h rfl]
      cases ok
      ·exact J p
      ·exact⟨J p,trivial,trivial⟩
    ·cases h2
   ·cases h2
  ·cases h2
 ·cases d
omit hT in
theorem Asw(n:Nat)(k:IntKind)(a:Int):Instr.sameBits n (.int k a) (.int k a)=true:=by
 unfold Instr.sameBits;simp
omit hT in
theorem Aqj(n:Nat)(f:Loc):∀{a:List EV} {r:Bool},E2 a a=some r->((Br f a).zip (Br f a)).all (fun(x,y)=>Instr.sameBits n x y)=true
 | [],_,_=>rfl
 | x::r,s,h=>by
  unfold E2 at h;have u:∃c,Aje x x=some c/\∃q,E2 r r=some q:=by
   split at h
   ·rename_i j;exact⟨_,j,_,h⟩
   ·rename_i j
    split at h
    ·rename_i q g;exact⟨_,j,_,g⟩
    ·cases h
   ·cases h
  obtain⟨c,j,q,g⟩:=u;simp only[Br,List.zip_cons_cons,List.all_cons,Aqj n f g,Bool.and_true];rcases Bfc j with⟨k,m,rfl⟩|⟨d,rfl⟩|⟨d,rfl⟩
  ·exact Asw n k m
  ·simp only[Cn];unfold Instr.sameBits;simp
  ·simp only[Cn];unfold Instr.sameBits;rw[<-Aw6,Ao8];simp
omit hT in
theorem A39{k:EV}(d:N5 T t k=true):Instr.sameBits 10000 (Cn f k) (Cn f k)=true:=by
 unfold N5 at d;split at d
 ·rename_i a
  rw[Bn]at d;split at d
  ·split at d
   ·rw[Bn]at d
    split at d
    ·split at d
     ·rename_i r g
      have:=Aqj 9999 f g;simp only[Cn];unfold Instr.sameBits;simpa using this
     ·cases d
    ·cases d
   ·cases d
  ·cases d
 ·exact Asw _ _ _
 ·cases d
theorem Az9(E:Reads f tm ρ)(L:Lb p n tm)(O:S9 p h)(Q:S8 f h w)
 {m k:Operand} (U:o.op=.mapUpdate t m k x) (y:Dj T tm (.mapUpdate t m k x) h=some (v,h')) :
 Amx P (execOp ρ o) p f h w v h':=by
 simp only[Dj]at y;split at y
 ·rename_i kt e i H u hu hm M B
  obtain⟨J,h2⟩:=An y;split at h2
  ·rename_i es F
   obtain⟨r,V,ents,clock,Z,G⟩:=Q.obj i _ F;obtain⟨_,W⟩:=O.get i _ F;subst Z;have C:=Nn (P:=P) V (by intro c e z B;cases B);have D:=fun o'=>Qc (P:=P) (o':=o') V (by intro c e z B;cases B)
   split at h2
   ·rename_i j u' g
    cases h2;have S:=U2 (w:=w) (f:=f) hT J G g;obtain⟨a,_,b2,b3⟩:=Ajw g;obtain rfl:=A9n b3;simp only[Nat.sub_zero]at b2;have K:((ents[j]?).map (·.key)).getD (Cn f H)=Cn f H:=by
     have A:(ents.toList.map (fun e=>(e.key,e.val)))[j]? = some (Cn f H,Cn f u'):=by
      rw[G,bB,b2];rfl
     rw[bB,cF]at A;cases he:ents[j]? with
     | none=>rw[he]at A;cases A
     | some X=>rw[he]at A;simp only[dc,cN,Prod.mk.injEq]at A;simp[A.1]
    refine⟨f,_,.skip,?_,.inr ⟨rfl,rfl⟩,Move.setObj Q F (r:=.map (ents.modify j fun X=>{ X with key:=Cn f H,val:=Cn f u }) clock) ⟨_,_,rfl,?_⟩,Wf.put O F ?_,trivial⟩
    ·simp only[execOp,U,Instr.mapUpdate,Bh E hm,Bh E M,Bh E B]
     simp only[Cn,Sem.run_bind,Ds hT w hu,aI,C,P8 hT J,S,dc,K,Instr.keyThatStays,A39 J,bI,aT,D]
    ·rw[List.map_set,<-G]
     apply dW;intro q;simp only[Array.toList_modify,bB,List.getElem?_modify,dH,bZ];by_cases Y:j=q
     ·subst Y
      have A:j<ents.toList.length:=by
       have:=(aY.1 b2).1;have e:=congrArg List.length G;simp only[bZ]at e;omega
      simp at A;simp[A]
     ·simp[Y]
    ·intro e' d
     rcases cm d with d|rfl
     ·exact W e' d
     ·exact⟨Em L M,Em L B⟩
   ·rename_i g
    cases h2;have S:=U2 (w:=w) (f:=f) hT J G g;refine⟨f,_,.skip,?_,.inr ⟨rfl,rfl⟩,Move.setObj Q F (r:=.map (ents.push { key:=Cn f H,val:=Cn f u,born:=clock }) (clock+1)) ⟨_,_,rfl,?_⟩,Wf.put O F ?_,trivial⟩
    ·simp only[execOp,U,Instr.mapUpdate,Bh E hm,Bh E M,Bh E B]
     simp only[Cn,Sem.run_bind,Ds hT w hu,aI,C,P8 hT J,S,Option.map_none,aT,D]
    ·simp[G]
    ·intro e' d
     rcases bJ.1 d with d|d
     ·exact W e' d
     ·simp only[aM]at d;subst d;exact⟨Em L M,Em L B⟩
   ·cases h2
  ·cases h2
 ·cases y
end
end
section
section
variable{w:World}
theorem S8.world(a:S8 f h w)(e:w'.heap=w.heap):S8 f h w':=⟨fun i o d=>by rw[e];exact a.obj i o d,a.inj⟩
theorem Axn(d:Bool)(k:IntKind):∀{l:List EV} {a:Int} {v:EV},Abo d k a l=some v->(∃b,v=.int k b) /\
 (l.map (Cn f)).foldlM (m:=Sem) (if d=true then Builtin.max2 else Builtin.min2) (.int k a)=(pure (Cn f v):Sem Value)
 | [],a,v,h=>by simp only[Abo]at h;cases h;exact⟨⟨a,rfl⟩,rfl⟩
 | .int j b::r,a,v,h=>by
  simp only[Abo]at h;obtain⟨g,h2⟩:=Axn d k h;refine⟨g,?_⟩;rw[dL,List.foldlM_cons,<-h2];cases d
  ·simp only[aX,ak,Cn,Builtin.min2,Bn,Auv,aU]
   rfl
  ·simp only[bI,Cn,Builtin.max2,Bn,Auv,aU,gt_iff_lt]
   rfl
 | .bool _::_,_,_,h=>by simp[Abo]at h
 | .str _::_,_,_,h=>by simp[Abo]at h
 | .ptr _ _::_,_,_,h=>by simp[Abo]at h
 | .Ga::_,_,_,h=>by simp[Abo]at h
 | .slice _ _ _ _ _::_,_,_,h=>by simp[Abo]at h
 | .tail _ _ _::_,_,_,h=>by simp[Abo]at h
 | .Ao::_,_,_,h=>by simp[Abo]at h
 | .odd _::_,_,_,h=>by simp[Abo]at h
 | .map _::_,_,_,h=>by simp[Abo]at h
 | .Akg::_,_,_,h=>by simp[Abo]at h
 | .chan _::_,_,_,h=>by simp[Abo]at h
 | .Ac8::_,_,_,h=>by simp[Abo]at h
 | .func _ _ _::_,_,_,h=>by simp[Abo]at h
 | .Uv _::_,_,_,h=>by simp[Abo]at h
 | .Aft::_,_,_,h=>by simp[Abo]at h
 | .Z8::_,_,_,h=>by simp[Abo]at h
 | .agg _::_,_,_,h=>by simp[Abo]at h
 | .tuple _::_,_,_,h=>by simp[Abo]at h
theorem Auj {x:EV}(a:lenOf x=some n):∃b c,Cn f x=.slice b n c:=by
 unfold lenOf at a;split at a<;>first|(cases a;exact⟨_,_,rfl⟩)|(cases a)
theorem Aak(j:S9 p h)(m:S8 f h w){size:Nat}{x:EV}{l:List EV}(d:cellsOf h size n x=some l):
 (Builtin.firstCells size n (Cn f x)).run P w=.ok (Br f l).toArray w/\EV.Tf p l/\l.all EV.one=true/\l.length=n*size:=by
 unfold cellsOf at d;split at d
 ·obtain⟨g,h2⟩:=An d
  cases h2;have:=aJ g;subst this;exact⟨by simp[Cn,Builtin.firstCells,Br],trivial,rfl,by simp⟩
 ·rename_i i off a b c
  rw[Bn]at d;split at d
  ·rename_i g
   cases d;have:=aJ g;subst this;refine⟨?_,trivial,rfl,by simp⟩;simp[Cn,Builtin.firstCells,Br,loadCells,loadCellsFrom]
  ·obtain⟨g,h2,q,h4,_⟩:=Ako (P:=P) j m d
   exact⟨by simp only[Cn,Builtin.firstCells];exact g,h2,q,h4⟩
 ·obtain⟨g,h2⟩:=An d
  cases h2;have:=aJ g;subst this;refine⟨?_,trivial,rfl,by simp⟩;simp[Cn,Builtin.firstCells,Br,loadCells,loadCellsFrom]
 ·cases d
variable (hT:P6 P T)
include hT
theorem Anr {st u e':TypeId}(q:T.Th st=some (.slice e))(hu:T.Th u=some (.slice e')){size:Nat}(hs:T.size e=some size){z:List EV}(A:T.zero e=some z)
 {sLen sCap C:Nat} {D:Option Addr} {Bt new:Array Value} (g:¬sLen+n<=sCap) (O:sLen<=1048576) (Q:n<=65536)
 (H:∀d,(Builtin.firstCells size sLen (.slice base sLen sCap)).run P { w with drawn:=d }=.ok Bt { w with drawn:=d })
 (h2:∀d,(Builtin.firstCells size n (.slice D n C)).run P { w with drawn:=d }=.ok new { w with drawn:=d }) :
 ∃cap rest,sLen+n<=cap/\rest.size=(cap-(sLen+n))*size /\
  (Builtin.append_ #[st,u] ty #[.slice base sLen sCap,.slice D n C]).run P w=.ok (.slice (some ⟨w.heap.size,0,none⟩) (sLen+n) cap) { w with drawn:=w.drawn+1,heap:=w.heap.push (.cells (Bt++new++rest) e) }:=by
 have⟨f⟩:Nonempty Loc:=⟨⟨id,id⟩⟩;obtain⟨x,S,J,m,_,_,U,i,i1,i2,i3⟩:=Aab hT f w A;obtain⟨E,F,V,W⟩:=hT.size e size hs;have K:E=i:=by rw[i1]at F;cases F;rfl
 subst K;have hb:Builtin.nextslicecap (sLen+n) sCap<=4000000:=by
  unfold Builtin.nextslicecap;split
  ·omega
  ·split
   ·omega
   ·simp only[Builtin.growBy]
    repeat' split
    all_goals omega
 have j:¬(2^48<Builtin.nextslicecap (sLen+n) sCap*E.bytes):=by
  have:=gA hb i3;omega
 refine⟨(Question.appendCap (sLen+n) sCap e).cut (w.tape w.drawn (.appendCap (sLen+n) sCap e)),Builtin.zeroCells (Cn f x).cells ((Question.appendCap (sLen+n) sCap e).cut (w.tape w.drawn (.appendCap (sLen+n) sCap e))-(sLen+n)),?_,?_,?_⟩
 rotate_left 2
 ·have a:¬(((sLen+n:Nat):Int)>IntKind.i64.max):=by
   have e2:IntKind.i64.max=9223372036854775807:=rfl;omega
  have B:∀d,(zeroValue e).run P { w with drawn:=d }=.ok (Cn f x) { w with drawn:=d }:=by
   intro d;obtain⟨y,_,X,Y,_⟩:=Aab hT f { w with drawn:=d } A;obtain⟨L,v,Z,G,M,a3,_⟩:=hT.zero e z A;simp only[zeroValue,typeInfo,Sem.run_bind,fR,i1,aI,aT]at m⊢;rw[i1]at G;cases G;rw[M]at m⊢;simp only[aT,Result.ok.injEq]at m⊢;exact⟨m.1,trivial⟩
  simp only[Builtin.append_,Sem.run_bind,cD,bH,bY,Ds hT w q,Ds hT w hu,Gq hT w hs,aI,aT,Builtin.lenOf,aX,ak,g];simp only[a,gF,ak,Sem.run_bind,aT,aI,typeInfo,fR,i1,gt_iff_lt,j,run_choose,Question.forced,aX,run_askRoom,H,h2,B,cu,bI];rfl
 ·simp only[Question.cut];omega
 ·rw[Builtin.zeroCells]
  have e1:(Cn f x).cells.size=size:=by rw[Ss,<-J];simp[C0];omega
  simp[e1]
end
end
section
def Adq(P:Program)(s:Sem Value)(p:Nat->Prop)(f:Loc)(h:Aa)(w:World)(v:EV)(h':Aa):Prop:=
 ∃f' w',s.run P w=.ok (Cn f' v) w'/\Move p f h w f' h' w'/\Wf p h h'/\v.ok (grow p h h')
section
variable{w:World}(hT:P6 P T)
include hT
theorem Aur(g:S9 p h)(y:S8 f h w){l:List EV}(q:EV.Tf p l)(A:l.all EV.one=true){size m:Nat}(u:m<=cap){rest:Array Value}(a:rest.size=(cap-m)*size){Bt new:List EV}(j:l=Bt++new)(d:Nat):
 Move p f h w (f.set h.next w.heap.size (cap-m)) (h.new (.vec l e size)) { w with drawn:=d,heap:=w.heap.push (.cells ((Br f Bt).toArray++(Br f new).toArray++rest) e) }/\Wf p h (h.new (.vec l e size)) /\
  Cn (f.set h.next w.heap.size (cap-m)) (.slice h.next 0 m m true)=.slice (some ⟨w.heap.size,0,none⟩) m cap:=by
 refine⟨Move.new g y _ rfl ?_ rfl rfl rfl,Wf.new g ⟨Z0 q,A⟩,?_⟩
 ·refine⟨rest.toList,?_,by simp[a,Loc.A18]⟩
  rw[<-G7 (f.P9 _ _ g.fresh) l q,j,Rz];congr 1;apply eK;simp
 ·simp only[Cn,Loc.Aai,Loc.A18,bI]
  congr 1;omega
theorem A82(y:S9 p h)(D:S8 f h w){st u e':TypeId}{s x:EV}(hs:s.ok p)(hu:T.Th u=some (.slice e'))(g:append T st s x h=some (v,h')):
 Adq P (Builtin.append_ #[st,u] ty #[Cn f s,Cn f x]) p f h w v h':=by
 unfold append at g;split at g
 ·rename_i e A
  split at g
  ·rename_i size z B Z
   split at g
   ·rename_i n hn
    obtain⟨bx,cx,H⟩:=Auj (f:=f) hn;rw[Bn]at g;split at g
    ·rename_i h0
     have:=aJ h0;subst this;have V:∀(size:Nat),(Builtin.firstCells size 0 (.slice bx 0 cx)).run P w=.ok #[] w:=by
      intro size;cases bx<;>simp[Builtin.firstCells,loadCells,loadCellsFrom]
     split at g
     ·rename_i i off a room op
      obtain⟨h1,h2⟩:=An g;cases h2;simp only[dD]at h1;refine⟨f,w,?_,Move.refl D,Wf.refl y,by rw[J7 p h h rfl];exact hs⟩;rw[H];have hle:a<=(if op=true then room+f.sp i else room):=by split<;>omega
      simp only[Cn,Builtin.append_,Sem.run_bind,cD,bH,bY,Ds hT w A,Ds hT w hu,Gq hT w B,aI,aT,Builtin.lenOf,aX,ak,dO,hle,bI,cu,V];simp[storeCells]
     ·cases g
      refine⟨f,w,?_,Move.refl D,Wf.refl y,trivial⟩;rw[H];simp only[Cn,Builtin.append_,Sem.run_bind,cD,bH,bY,Ds hT w A,Ds hT w hu,Gq hT w B,aI,aT,Builtin.lenOf,aX,ak,dO,aE,bI,cu,V]
     ·cases g
    ·rename_i h0
     obtain⟨F,h2⟩:=An g;simp only[dD]at F;split at h2
     ·rename_i new J
      obtain⟨n1,n2,n3,n4⟩:=Aak (P:=P) y D J;have nd:∀d,(Builtin.firstCells size n (.slice bx n cx)).run P { w with drawn:=d }=.ok (Br f new).toArray { w with drawn:=d }:=by
       intro d;rw[<-H];exact(Aak (P:=P) y (D.world (w':={ w with drawn:=d }) rfl) J).1
      split at h2
      ·cases h2
       have az:n≠0:=fun e=>h0 (by rw[e];rfl)
       obtain⟨cap,rest,Q,S,U⟩:=Anr (w:=w) (ty:=ty) hT A hu B Z (base:=none) (sLen:=0) (sCap:=0) (Bt:=(Br f []).toArray) (by omega) (by omega) F
        (by intro d;simp[Builtin.firstCells,Br]) nd
       simp only[bK]at Q S U;obtain⟨C,k2,W⟩:=Aur hT y D (e:=e) (l:=new) n2 n3 Q S (Bt:=[]) rfl (w.drawn+1);refine⟨_,_,?_,C,k2,.inr ⟨aE _,by rw[Aa.Dl];omega⟩⟩;rw[W,H];exact U
      ·rename_i i off a room op
       obtain⟨K,L⟩:=An h2;simp only[dD]at K;split at L
       ·rename_i Bt hold
        obtain⟨o1,o2,o3,o4⟩:=Aak (P:=P) y D hold;have od:∀d,(Builtin.firstCells size a (Cn f (.slice i off a room op))).run P { w with drawn:=d }=.ok (Br f Bt).toArray { w with drawn:=d }:=by
         intro d;exact(Aak (P:=P) y (D.world (w':={ w with drawn:=d }) rfl) hold).1
        have hok:EV.Tf p (Bt++new):=Y3 o2 n2;have m:(Bt++new).all EV.one=true:=Baa o3 n3;rw[Bn]at L;split at L
        ·rename_i E
         subst E;obtain⟨c1,h4⟩:=An L;obtain⟨c2,Y⟩:=An h4;clear L h4;have:=aJ c1;subst this;have:=aJ c2;subst this;split at Y
         ·rename_i l e1 s1 hg
          obtain⟨c3,h6⟩:=An Y;obtain⟨c4,h7⟩:=An h6;obtain⟨c5,h8⟩:=An h7;clear Y h6 h7;rw[Tq]at c3;have G:=aJ c3;have:=aJ c4;subst this;have:=aJ c5;subst this;cases h8;simp only[Nat.mul_eq]at G;by_cases M:n<=f.sp i
          ·
           obtain⟨r,a1,more,a2,a5⟩:=D.obj i _ hg;subst a2;have af:Bt=l:=by
            unfold cellsOf at hold;simp only at hold;rw[Bn]at hold;split at hold
            ·rename_i ag
             have:=aJ ag;subst this;cases hold;simp at G;exact G.symm
            ·unfold Ir at hold
             rw[hg]at hold;obtain⟨_,q2⟩:=Adn hold;rw[Rp]at q2;rw[q2];simp only[dF,Nat.mul_eq];rw[<-G,cO]
           subst af;have ba:n*s1<=more.length:=by rw[a5];exact Nat.mul_le_mul_right _ M
           have X:=run_storeCells_at (P:=P) (f.b i) (room*s1) e1 (Br f new) 0 (Br f Bt++more).toArray w a1 (by simp only[C0,dY,aG];omega) (Ar7 f new (by simpa using n3));refine⟨f.set h.next (f.b i) (f.sp i-n),w.setRow (f.b i) (Br f Bt++Br f new++more.drop (n*s1)).toArray,?_,Move.Bcf y D hg (f.sp i-n) (r:=.cells (Br f (Bt++new)++more.drop (n*s1)).toArray e1 (0,0)) ?_ ?_ (fun b hb=>setRow_other _ _ _ _ hb) (setRow_size _ _ _) rfl rfl rfl,Wf.Bcf y i ⟨Z0 hok,m⟩,.inr ⟨aE _,by rw[Aa.Dl,Aa.Ayp];omega⟩⟩
           rotate_left 1
           ·rw[setRow_heap w (f.b i) _ _ e1 (0,0) a1,Rz]
           ·refine⟨more.drop (n*s1),?_,?_⟩
            ·rw[G7 (f.P9 _ _ y.fresh) (Bt++new) hok]
            ·rw[Loc.A18,bT,a5,Nat.sub_mul]
           ·rw[H]
            have hle:room+n<=room+f.sp i:=by omega
            simp only[Cn,Builtin.append_,Sem.run_bind,cD,bH,bY,Ds hT w A,Ds hT w hu,Gq hT w B,aI,aT,Builtin.lenOf,aX,ak,bI,hle,cu,Loc.Aai,Loc.A18];rw[<-H,n1];simp only[aI,Sem.run_bind,T8,bK,X,aT];congr 1
            ·congr 1
             simp only[Nat.add_eq];omega
            ·congr 1
             simp only[dO,C0];rw[eV (by rw[C0];omega),bQ (by rw[C0];omega)];rw[List.drop_append,dV (by rw[C0];omega)];simp only[C0,dQ];congr 4;omega
          ·obtain⟨cap,rest,Q,S,U⟩:=Anr (w:=w) (ty:=ty) hT A hu B Z (base:=some ⟨f.b i,0,none⟩) (sLen:=room) (sCap:=room+f.sp i) (Bt:=(Br f Bt).toArray) (by omega) K F
            (by intro d;simpa [Cn]using od d) nd
           obtain⟨C,_,W⟩:=Aur hT (y.del i) (D.sub Aw3) (e:=e1) (l:=Bt++new) hok m Q S rfl (w.drawn+1);refine⟨f.set h.next w.heap.size (cap-(room+n)),_,?_,⟨C.E9,C.rep,fun b hb hn=>C.kept b hb (fun j q hj=>hn j q (Aw3 j q hj)),C.size,C.tape,C.os,C.output,fun j q hj=>(C.own j q hj).imp id (fun⟨k,q',hk,e⟩=>⟨k,q',Aw3 k q' hk,e⟩)⟩,
            Wf.Bcf y i ⟨Z0 hok,m⟩,.inr ⟨aE _,by rw[Aa.Dl,Aa.Ayp];omega⟩⟩
           rw[show Cn (f.set h.next w.heap.size (cap-(room+n))) (.slice h.next 0 (Nat.add room n) (Nat.add room n) true)=_ from W,H];simpa [Cn]using U
         ·cases Y
        ·rename_i E
         have O:op=false:=by simpa using E
         subst O;obtain⟨c1,h4⟩:=Sv L;cases h4;have hc:¬a+n<=room:=by
          intro e;have:=Aap e;rw[show Nat.add a n=a+n from rfl]at c1;rw[this]at c1;cases c1
         obtain⟨cap,rest,Q,S,U⟩:=Anr (w:=w) (ty:=ty) hT A hu B Z (base:=some ⟨f.b i,off,none⟩) (sLen:=a) (sCap:=room) (Bt:=(Br f Bt).toArray) hc K F
          (by intro d;simpa [Cn]using od d) nd
         obtain⟨C,k2,W⟩:=Aur hT y D (e:=e) (l:=Bt++new) hok m Q S rfl (w.drawn+1);refine⟨_,_,?_,C,k2,.inr ⟨aE _,by rw[Aa.Dl];omega⟩⟩;rw[show Cn (f.set h.next w.heap.size (cap-(a+n))) (.slice h.next 0 (Nat.add a n) (Nat.add a n) true)=_ from W,H];simpa [Cn]using U
       ·cases L
      ·cases h2
     ·cases h2
   ·cases g
  ·cases g
 ·cases g
end
end
section
theorem Bbq:∀l:List UInt8,Bnw l=l.length
 | []=>rfl
 | _::r=>congrArg Nat.succ (Bbq r)
section
variable{w:World}(hT:P6 P T)
include hT
omit hT in
theorem Adq.stay(a:S9 p h)(d:S8 f h w){s:Sem Value}(hs:s.run P w=.ok (Cn f v) w)(g:v.ok p):Adq P s p f h w v h:=
 ⟨f,w,hs,Move.refl d,Wf.refl a,by rw[J7 p h h rfl];exact g⟩
theorem Bi6(B:S9 p h)(C:S8 f h w){t u ty e e':TypeId}{d s:EV}(E:T.Th t=some (.slice e)){size dn g:Nat}(hs:T.size e=some size)(hd:lenOf d=some dn)(q:lenOf s=some g)
 (F:n=Ba (Nat.ble g dn) g dn) {cs:List EV} (G:cellsOf h size n s=some cs) {a b:Nat} {op:Bool} (y:d=.slice i off a b op) (hw:L5 h i off cs=some h') :
 Adq P (Builtin.copy_ #[t,u] ty #[Cn f d,Cn f s]) p f h w (.int .i64 (.ofNat n)) h':=by
 obtain⟨D,H,n3,n4⟩:=Aak (P:=P) B C G;obtain⟨bs,M,j⟩:=Auj (f:=f) q;obtain⟨w',J,K,L⟩:=Avq (P:=P) B C hw H n3;subst y;have A:dn=a:=by simp only[lenOf]at hd;cases hd;rfl
 subst A;have m:Nat.min g dn=n:=by
  rw[F,Bn];show min g dn=_;by_cases hle:g<=dn
  ·rw[aH (Aap hle)];omega
  ·rw[aF (by rw[Adj hle];simp)];omega
 refine⟨f,w',?_,K,L,trivial⟩;rw[j];rw[j]at D;simp only[Cn,Builtin.copy_,Sem.run_bind,cD,bH,bY,Ds hT w E,aI,Builtin.lenOf,aT,Gq hT w hs,m,D,J];rfl
theorem A7y(F:S9 p h)(E:S8 f h w){b:Builtin}{cs:Array Bool}(V:EV.Tf p args)(g:builtin T b ts args h=some (v,h')):
 ∃s,(Go.builtin b ts ty cs (Br f args).toArray)=(do pure (.value (←s)):Sem Next)/\Adq P s p f h w v h':=by
 unfold builtin at g;split at g
 ·rename_i s x
  split at g
  ·rename_i t u B
   have A:ts = #[t,u]:=by apply eK;simpa using B
   subst A;split at g
   ·rename_i e' hu
    exact⟨_,rfl,A82 hT F E V.1 hu g⟩
   ·cases g
  ·cases g
 ·rename_i x
  split at g
  ·rename_i t B
   have A:ts = #[t]:=by apply eK;simpa using B
   subst A;refine⟨_,rfl,?_⟩;split at g
   ·rename_i n e hu
    cases g;exact Adq.stay F E (by simp[Builtin.len_,Ds hT w hu,Br,Cn,goInt]) trivial
   ·rename_i e y hu
    split at g
    ·rename_i n W
     cases g;obtain⟨bx,cx,J⟩:=Auj (f:=f) W;exact Adq.stay F E (by simp[Builtin.len_,Ds hT w hu,Br,J,goInt,Cn]) trivial
    ·cases g
   ·rename_i s hu
    cases g;exact Adq.stay F E (by simp[Builtin.len_,Ds hT w hu,Br,Cn,goInt,Bbq]) trivial
   ·rename_i d e i hu
    split at g
    ·rename_i c buf G
     cases g;obtain⟨r,K,s1,c1,O⟩:=E.obj i _ G;subst O;have D:=Nn (P:=P) K (by intro c e z J;cases J);exact Adq.stay F E (by simp[Builtin.len_,Ds hT w hu,Br,Cn,D,goInt,Tq,C0]) trivial
    ·cases g
   ·cases g
  ·cases g
 ·rename_i d s
  split at g
  ·rename_i t u B
   have A:ts = #[t,u]:=by apply eK;simpa using B
   subst A;split at g
   ·rename_i e e' X hu
    split at g
    ·rename_i size dn sn hs hd Q
     obtain⟨_,g⟩:=Sv g;split at g
     ·rename_i Y Z
      split at g
      ·split at g
       ·rename_i aa hw
        cases g;exact⟨_,rfl,Bi6 hT F E (e':=e') X hs hd Q rfl Z rfl hw⟩
       ·cases g
      ·cases g
     ·cases g
    ·cases g
   ·cases g
  ·cases g
 ·rename_i m k
  split at g
  ·rename_i t tr B
   have h0:ts[0]? = some t:=by
    have:ts.toList[0]? = some t:=by rw[B];rfl
    simpa using this
   split at g
   ·rename_i kt e i hu
    obtain⟨L,h2⟩:=An g;split at h2
    ·rename_i es G
     obtain⟨r,K,ents,clock,O,M⟩:=E.obj i _ G;obtain⟨_,U⟩:=F.get i _ G;subst O;have D:=Nn (P:=P) K (by intro c e z J;cases J);have H:=fun o'=>Qc (P:=P) (o':=o') K (by intro c e z J;cases J)
     refine⟨_,rfl,?_⟩;split at h2
     ·rename_i j u' C
      cases h2;have S:=U2 (w:=w) (f:=f) hT L M C;refine⟨f,_,?_,Move.setObj E G (r:=.map (ents.eraseIdxIfInBounds j) clock) ⟨_,_,rfl,?_⟩,Wf.put F G (fun q hq=>U q (List.mem_of_mem_eraseIdx hq)),trivial⟩
      ·simp only[Builtin.delete_,Br,Cn,Sem.run_bind,cD,bH,bY,h0,Ds hT w hu,aI,D,P8 hT L,S,dc,H,aT]
      ·have e1:(ents.eraseIdxIfInBounds j).toList=ents.toList.eraseIdx j:=by
        rw[Array.eraseIdxIfInBounds_eq];split
        ·simp
        ·rename_i hj
         rw[List.eraseIdx_of_length_le (by simpa using hj)]
       rw[e1,List.eraseIdx_eq_take_drop_succ,List.eraseIdx_eq_take_drop_succ];simp only[cS,List.map_take,List.map_drop,M]
     ·rename_i C
      cases h2;have S:=U2 (w:=w) (f:=f) hT L M C;refine⟨f,_,?_,Move.setObj E G (r:=.map ents clock) ⟨_,_,rfl,M⟩,Wf.put F G U,trivial⟩;simp only[Builtin.delete_,Br,Cn,Sem.run_bind,cD,bH,bY,h0,Ds hT w hu,aI,D,P8 hT L,S,Option.map_none,H,aT]
     ·cases h2
    ·cases h2
   ·cases g
  ·cases g
 ·rename_i k a l
  split at g
  ·rename_i u hm
   cases g;obtain⟨⟨c,rfl⟩,h2⟩:=Axn (f:=f) false k hm;refine⟨_,rfl,Adq.stay F E ?_ trivial⟩;simp only[Builtin.min_,Br,List.toList_toArray,Cn,Py];simp only[aX,ak,Cn]at h2;rw[h2];rfl
  ·cases g
 ·rename_i k a l
  split at g
  ·rename_i u hm
   cases g;obtain⟨⟨c,rfl⟩,h2⟩:=Axn (f:=f) true k hm;refine⟨_,rfl,Adq.stay F E ?_ trivial⟩;simp only[Builtin.max_,Br,List.toList_toArray,Cn,Py];simp only[bI,Cn]at h2;rw[h2];rfl
  ·cases g
 ·cases g
end
end
section
structure FB where
 fn:Nat
 defers:List Deferred
 Dc:Option Nat
def FB.at(b:FB)(tmps:Array Value)(todo:List Item):Frame:={ fn:=b.fn,tmps,todo,defers:=b.defers,mode:=.run,kind:=.normal,roundOf:=b.Dc }
def Ik(tmps:Array Value):Operand->Value:=(Act.mk tmps []).eval
def A7d(tmps:Array Value)(d:Option Tmp)(v:Value):Array Value:=
 match d with
 | some d=>tmps.setIfInBounds d v
 | none=>tmps
theorem FB.eval_at(b:FB)(tmps:Array Value)(todo:List Item):(b.at tmps todo).eval=Ik tmps:=by funext x;cases x<;>rfl
theorem FB.finish_at(b:FB)(tmps:Array Value)(a:ops[i]? = some o)(rest:List Nat)(k:List Item)(v:Value):
 (b.at tmps (.inRegion ops (i::rest)::k)).finish v=b.at (A7d tmps o.dst v) (.inRegion ops rest::k):=by
 cases hd:o.dst<;>simp[Frame.finish,FB.at,A7d,a,hd]
def Aj0:Op->Bool
 | .defer _=>true
 | _=>false
section
variable{b:FB}{rest:List Nat}{k:List Item}{cs:List Frame}{w:World}
theorem Anb(g:ops[i]? = some o)(hw:Region.wanted o (Go.yielded ops tmps)=true)(hd:Aj0 o.op=false):
 stepG P true { frame:=b.at tmps (.inRegion ops (i::rest)::k),callers:=cs,status:=.running,dying:=none } w =
  stepG.apply P true (b.at tmps (.inRegion ops (i::rest)::k)) cs none (execOp (Ik tmps) o) w:=by
 have he:=FB.eval_at b tmps (.inRegion ops (i::rest)::k);simp only[FB.at]at he;cases d:b.Dc<;>cases a:o.op<;>simp[stepG,stepG.exec,stepG.oper,Frame.oper?,FB.at,g,hw,d,a]<;>first|(rw[d]at he;rw[he];done)|(simp[a,Aj0]at hd)
theorem Azt(a:ops[i]? = some o)(hw:Region.wanted o (Go.yielded ops tmps)=true)(hd:Aj0 o.op=false){v:Value}
 (d:(execOp (Ik tmps) o).run P w=.ok (.value v) w') :
 step P (lone (b.at tmps (.inRegion ops (i::rest)::k)) cs w)=.next (lone (b.at (A7d tmps o.dst v) (.inRegion ops rest::k)) cs w'):=by
 refine cC ?_;rw[Anb a hw hd,<-FB.finish_at b tmps a];simp[stepG.apply,d]
theorem A29(a:ops[i]? = some o)(hw:Region.wanted o (Go.yielded ops tmps)=true)(hd:Aj0 o.op=false)
 (d:(execOp (Ik tmps) o).run P w=.ok .skip w') :
 step P (lone (b.at tmps (.inRegion ops (i::rest)::k)) cs w)=.next (lone (b.at (A7d tmps o.dst undef) (.inRegion ops rest::k)) cs w'):=by
 refine cC ?_;rw[Anb a hw hd,<-FB.finish_at b tmps a];simp[stepG.apply,d]
theorem Az2(a:ops[i]? = some o)(hw:Region.wanted o (Go.yielded ops tmps)=true)(hd:Aj0 o.op=false){g:FuncId}{args:Array Value}
 (d:(execOp (Ik tmps) o).run P w=.ok (.enter g args) w') :
 step P (lone (b.at tmps (.inRegion ops (i::rest)::k)) cs w)=.next (lone (Frame.enter P g args .normal) (b.at tmps (.inRegion ops (i::rest)::k)::cs) w'):=by
 refine cC ?_;rw[Anb a hw hd];simp[stepG.apply,d,FB.at]
theorem Az8(a:ops[i]? = some o)(hw:Region.wanted o (Go.yielded ops tmps)=true)(hd:Aj0 o.op=false){l g:Nat}{ts:Array Value}{asg body:Code}
 (d:(execOp (Ik tmps) o).run P w=.ok (.round l g ts asg body) w') :
 step P (lone (b.at tmps (.inRegion ops (i::rest)::k)) cs w)=.next (lone (Frame.round l g ts asg body .normal) (b.at tmps (.inRegion ops (i::rest)::k)::cs) w'):=by
 refine cC ?_;rw[Anb a hw hd];simp[stepG.apply,d,FB.at]
theorem Avi(a:ops[i]? = some o)(hw:Region.wanted o (Go.yielded ops tmps)=false):
 step P (lone (b.at tmps (.inRegion ops (i::rest)::k)) cs w)=.next (lone (b.at (A7d tmps o.dst undef) (.inRegion ops rest::k)) cs w):=by
 refine cC ?_;rw[<-FB.finish_at b tmps a];simp[stepG,stepG.exec,FB.at,a,hw]
theorem Awc:step P (lone (b.at tmps (.inRegion ops []::k)) cs w)=.next (lone (b.at tmps k) cs w):=
 cC (by simp[stepG,stepG.exec,FB.at])
end
def Alw(P:Program)(o:Oper)(tmps:Array Value)(p:Nat->Prop)(f:Loc)(h:Aa)(w:World)(v:EV)(h':Aa):Prop:=
 ∀(b:FB) (ops:Array Oper) (i:Nat) (rest:List Nat) (k:List Item) (cs:List Frame),ops[i]? = some o->Region.wanted o (Go.yielded ops tmps)=true ->
  ∃f' w',Steps P (lone (b.at tmps (.inRegion ops (i::rest)::k)) cs w) (lone (b.at (A7d tmps o.dst (Cn f' v)) (.inRegion ops rest::k)) cs w') /\
   Move p f h w f' h' w'/\Wf p h h'/\v.ok (grow p h h')
theorem Alw.Abb{w:World}(hd:Aj0 o.op=false)
 (he:Amx P (execOp (Ik tmps) o) p f h w v h'):Alw P o tmps p f h w v h':=by
 intro b ops i rest k cs a hw;obtain⟨f',w',N,d,h2,g,h4,j⟩:=he;refine⟨f',w',?_,g,h4,j⟩;rcases h2 with rfl|⟨rfl,rfl⟩
 ·exact .one (Azt a hw hd d)
 ·exact .one (A29 a hw hd d)
def Aeh(P:Program)(c:Ai):Prop:=
 ∀g args h v h',c g args h=some (v,h')->(∃fn,P.funcs[g]? = some fn/\fn.body.isSome=true/\(fn.name == "runtime.NumGoroutine")=false) /\
  ∀p f w,S9 p h->S8 f h w->EV.Tf p args->∀cs,∃fr f' w',Steps P (lone (Frame.enter P g (Br f args).toArray .normal) cs w) (lone fr cs w')/\fr.fn=g /\
   fr.leaving P w' (.returned (Cn f' v))/\Move p f h w f' h' w'/\Wf p h h'/\v.ok (grow p h h')
def Ajt(P:Program)(c:Ai):Prop:=
 ∀l args h v h',c l args h=some (v,h')->∃st g fn n tm ps asg body d a,h.get l=some (.loop st g fn n tm ps asg body d)/\Vg ps args n tm=some a /\
  ∀p f w,S9 p h->S8 f h w->EV.Tf p args->∀caller cs,∃f' w',Steps P (lone (Frame.round (f.b l) fn (Be f n a) asg body .normal) (caller::cs) w) (lone (caller.finish (Cn f' v)) cs w') /\
   Move p f h w f' h' w'/\Wf p h h'/\v.ok (grow p h h')
theorem Bkt(n:Nat)(tm:Az)(d:Nat)(v:EV):Ba (Nat.ble (Nat.succ d) n) (tm.put d (some v)) tm=Pc n tm (some d) v:=rfl
theorem Ah8(f:Loc):∀{ps:List Tmp} {args:List EV} {tm a:Az},Vg ps args n tm=some a->EV.Tf p args->Lb p n tm ->
 ps.length=args.length/\Lb p n a/\(ps.zip (Br f args)).foldl (fun tmps (x:Tmp × Value)=>tmps.setIfInBounds x.1 x.2) (Be f n tm)=Be f n a
 | [],[],tm,a,h,_,d=>by cases h;exact⟨rfl,d,rfl⟩
 | q::r,v::s,tm,a,h,g,d=>by
  simp only[Vg,Bkt]at h;obtain⟨j,h2,m⟩:=Ah8 f h g.2 (d.put (some q) g.1);refine⟨by simp[j],h2,?_⟩;simp only[Br,List.zip_cons_cons,List.foldl_cons];rw[Ayc];exact m
 | [],_::_,_,_,h,_,_=>by cases h
 | _::_,[],_,_,h,_,_=>by cases h
theorem So(a:Lb p n tm):Reads f tm (Ik (Be f n tm)) where
 tmp t:=by simp only[Ik,Act.eval];exact Z6 f a t
 const v:=rfl
 func g:=rfl
end
section
section
variable{w:World}(hT:P6 P T)
theorem Bny {op:BinOp}{a b:EV}(d:bin T op t a b=some v):v.ok p:=by
 unfold bin at d;split at d
 ·rename_i k a g b
  rw[Bn]at d;split at d
  ·split at d
   ·unfold A3s at d
    split at d
    ·cases d;trivial
    ·split at d<;>(cases d;trivial)
    ·cases d
   ·cases d
  ·rw[Bn]at d
   split at d
   ·unfold Bfi at d
    split at d
    all_goals first
     | (cases d;done)
     | (cases d;trivial)
     | (obtain⟨_,h2⟩:=Sv d;cases h2;trivial)
     | (split at d<;>first|(cases d;done)|(cases d;trivial))
   ·cases d
 ·split at d
  ·split at d<;>first|(cases d;trivial)|cases d
  ·split at d<;>first|(cases d;trivial)|cases d
  ·cases d
theorem Ba1{cs:List EV}(d:EV.Tf p cs)(g:cs.all EV.one=true)(a:part T t cs off=some v):v.ok p:=by
 unfold part at a;split at a
 ·split at a
  ·split at a
   ·rename_i n m l j
    cases a;obtain⟨_,h2⟩:=Adn j;rw[h2,Rp];exact⟨A5r d _ _,A5t g _ _⟩
   ·cases a
  ·cases a
 ·split at a
  ·rename_i q r hd
   cases a;rw[Rp]at hd;exact(Ic p cs).1 d _ (aS (by rw[hd];exact aW))
  ·cases a
 ·cases a
theorem Bjn {x:EV}{size:Nat}{g j m:Option EV}(d:x.ok p)(a:slc x size g j m=some v):v.ok p:=by
 unfold slc at a;split at a
 ·rename_i i off len room op
  have hp:p i:=d;split at a
  ·split at a
   ·cases a
   ·split at a
    ·cases a
    ·simp only[Bn]at a
     repeat' split at a
     all_goals first|(cases a;exact hp)|cases a
  ·split at a
   ·split at a
    ·cases a
    ·split at a
     ·cases a
     ·cases a;exact hp
   ·cases a
 ·split at a
  ·split at a
   ·cases a
   ·split at a
    ·cases a
    ·cases a;exact d
  ·cases a
 ·cases a
include hT in
theorem Bmm(j:Lb p n tm)(g:Eu T tm op=some v):v.ok p:=by
 cases op with
 | move x=>exact Em j g
 | assign x=>exact Em j g
 | pick c a b=>
  simp only[Eu]at g;split at g
  ·exact Em j g
  ·exact Em j g
  ·cases g
 | binOp op t x y u=>
  simp only[Eu]at g;split at g
  ·split at g
   ·exact Bny g
   ·cases g
  ·cases g
 | unOp u t x=>
  cases u<;>simp only[Eu]at g
  all_goals first
   | (split at g<;>first|(cases g;trivial)|cases g)
   | cases g
 | nilCheck x=>
  simp only[Eu]at g;split at g
  ·rename_i i o' he
   cases g;exact Em j he
  ·cases g
 | fieldAddr s x K=>
  simp only[Eu]at g;split at g
  ·rename_i i off he
   have hp:p i:=Em j he;split at g
   ·split at g
    ·split at g
     ·obtain⟨_,h2⟩:=Sv g;cases h2;exact hp
     ·cases g
    ·cases g
   ·cases g
  ·cases g
 | indexAddr t x ix=>
  simp only[Eu]at g;split at g
  ·split at g
   ·rename_i he
    split at g
    ·obtain⟨_,h2⟩:=An g;cases h2;have:=Em j he;exact this
    ·cases g
   ·rename_i he
    split at g
    ·obtain⟨_,h2⟩:=An g;cases h2;have:=Em j he;exact this
    ·cases g
   ·cases g
  ·cases g
 | index t x ix=>
  simp only[Eu]at g;split at g
  ·split at g
   ·rename_i he
    split at g
    ·obtain⟨_,h2⟩:=An g
     have A:=Em (v:=.agg _) j he;exact Ba1 A.1 A.2 h2
    ·cases g
   ·split at g
    ·cases g;trivial
    ·cases g
   ·cases g
  ·cases g
 | field t x K=>
  simp only[Eu]at g;split at g
  ·rename_i he
   split at g
   ·have A:=Em (v:=.agg _) j he
    exact Ba1 A.1 A.2 g
   ·cases g
  ·cases g
 | convert s d x=>
  simp only[Eu]at g;split at g
  ·cases g;trivial
  ·cases g
 | extract x ix=>
  simp only[Eu]at g;split at g
  ·rename_i l he
   split at g
   ·rename_i O r hd
    cases g;rw[Rp]at hd;exact(Ic p l).1 (Em (v:=.tuple l) j he) _ (aS (by rw[hd];exact aW))
   ·cases g
  ·cases g
 | slice t x Q S U=>
  simp only[Eu]at g;split at g
  ·split at g
   ·rename_i he
    split at g
    ·exact Bjn (x:=.slice _ _ _ _ _) (Em (v:=.ptr _ _) j he) g
    ·cases g
   ·rename_i he
    split at g
    ·exact Bjn (Em j he) g
    ·cases g
   ·cases g
  ·cases g
 | build t ps=>
  have key:∀{z c:List EV} {l:List (Nat × EV)} {pl:Nat->Option (Nat × Nat)},T.zero t=some z->Yi tm ps.toList=some l->fill pl z l=some c->(EV.agg c).ok p:=by
   intro z c l pl B C m;obtain⟨i,V,W,_,_,L,J,rfl,_⟩:=hT.zero t z B;have D:=T4 (A87 p L) J;have E:=Asm j C;have F:=Akj pl m;refine⟨(Ic p c).2 (Amm pl (q:=fun v=>v.ok p) m (fun v G=>(Ic p _).1 D.1 v G) (fun q H v G=>(Ic p _).1 (T4 (E q H) (F q H)).1 v G)),?_⟩;rw[dN];exact Amm pl (q:=fun v=>v.one=true) m D.2 (fun q H v G=>(T4 (E q H) (F q H)).2 v G)
  simp only[Eu]at g;split at g
  ·rename_i B C _
   split at g
   ·split at g
    ·rename_i m;cases g;exact key B C m
    ·cases g
   ·cases g
  ·rename_i B C _
   split at g
   ·split at g
    ·rename_i m;cases g;exact key B C m
    ·cases g
   ·cases g
  ·cases g
 | makeFunc fn a b=>
  cases fn<;>simp only[Eu]at g
  all_goals first
   | (split at g
      ·rename_i M hb;cases g;exact⟨Aik j M,Aik j hb⟩
      ·cases g)
   | cases g
 | sliceToArrayPointer t x=>
  simp only[Eu]at g;split at g
  ·rename_i he
   obtain⟨_,h2⟩:=An g;cases h2;exact Em (v:=.slice _ _ _ _ _) j he
  ·cases g
 | _=>cases g
theorem As5(g:S9 p h)(j:S8 f h w){a:List EV}(d:h.get i=some (.chan cap buf))(hb:EV.Tf p a)(s r:Nat):
 Move p f h w f (h.put i (.chan cap a)) (w.setChan (f.b i) cap (Br f a).toArray false s r false)/\Wf p h (h.put i (.chan cap a)):=
 ⟨Move.setObj (p:=p) j d (o':=.chan cap a) (r:=.chan cap (Br f a).toArray false s r false) ⟨s,r,rfl⟩,Wf.put g d hb⟩
theorem Avw{c:SelectCase}(m:o.op=.select #[c] false){zv:Value}(g:(zeroValue c.elem).run P w=.ok zv w)
 (b:FB) {a:Array Value} (j:execOp (Ik tmps) o=execOp (Ik a) o) (rest:List Nat) (k:List Item) (cs:List Frame) (q:ops[i]? = some o) (hw:Region.wanted o (Go.yielded ops tmps)=true) :
 ∃es,stepG P true (Conc.G (b.at tmps (.inRegion ops (i::rest)::k)) cs) w=.comm (Conc.G (b.at tmps (.inRegion ops (i::rest)::k)) cs)
  #[{ chan:=Ik a c.chan,send:=c.send.map (Ik a),zero:=zv }] false .select w es:=by
 have:=Anb (P:=P) (b:=b) (rest:=rest) (k:=k) (cs:=cs) (w:=w) q hw (by rw[m];rfl);have d:(execOp (Ik tmps) o).run P w=.ok (.comm #[{ chan:=Ik a c.chan,send:=c.send.map (Ik a),zero:=zv }] false .select) w:=by
  rw[j];simp only[execOp,m];simp[g]
 rw[Conc.G,this];simp only[stepG.apply,Sem.runT_eq,d,GStep.after,bI];exact⟨_,rfl⟩
include hT in
theorem A6a(C:Lb p n tm)(g:S9 p h)(m:S8 f h w)(q:execOp (Ik tmps) o=execOp (Ik (Be f n tm)) o){c:SelectCase}(F:o.op=.select #[c] false)
 (H:Cf tm c.chan=some (.chan i)) (hs:c.send=some x) {u:EV} (y:h.get i=some (.chan cap buf)) (D:Cf tm x=some u) (J:zeroOf T c.elem=some zv)
 (a:Ba (Nat.ble (Nat.succ (len buf)) cap) (some (EV.tuple [.int .i64 0,.bool false],h.put i (.chan cap (buf++[u])))) (some (.tuple [.int .i64 (-1),.bool false],h))=some (v,h')) :
 Alw P o tmps p f h w v h':=by
 intro b ops j rest k cs hj hw;have E:=So (f:=f) C;obtain⟨r0,d,s,r,rfl⟩:=m.obj i _ y;have A:=(Aru hT (f:=f) (w:=w) J).1;obtain⟨es,he⟩:=Avw F A b q rest k cs hj hw;rw[Bh E H,hs,dc,Bh E D]at he;have hok:=(g.get i _ y).2;by_cases hb:buf.length<cap
 ·rw[Tq,Aap (by omega),Aj]at a
  cases a;have B:EV.Tf p (buf++[u]):=Y3 hok ⟨Em C D,trivial⟩;obtain⟨m1,m2⟩:=As5 g m y B (s+1) r;refine⟨f,_,.one ?_,m1,m2,?_⟩
  ·have:=Conc.step_lone_select_send_room he d (by simpa [C0]using hb)
   rw[FB.finish_at b _ hj]at this;simpa [Rz,Br,Cn,goInt,Conc.solo,Conc.G,lone]using this
  ·simp[EV.ok,EV.Tf]
 ·rw[Tq,Adj (by omega),Bl]at a
  cases a;refine⟨f,w,.one ?_,Move.refl m,Wf.refl g,?_⟩
  ·have:=Conc.step_lone_select_send_full he d (by simpa [C0]using hb)
   rw[FB.finish_at b _ hj]at this;simpa [Rz,Br,Cn,goInt,Conc.solo,Conc.G,lone]using this
  ·simp[EV.ok,EV.Tf]
include hT in
theorem A7s(C:Lb p n tm)(m:S9 p h)(q:S8 f h w)(u:execOp (Ik tmps) o=execOp (Ik (Be f n tm)) o){c:SelectCase}(D:o.op=.select #[c] false)
 (E:Cf tm c.chan=some (.chan i)) (hs:c.send=none)
 (a:(match buf with
  | v::r=>some (EV.tuple [.int .i64 0,.bool true,v],h.put i (.chan cap r))
  | []=>some (.tuple [.int .i64 (-1),.bool false,zv],h))=some (v,h')) (y:h.get i=some (.chan cap buf)) (F:zeroOf T c.elem=some zv) :
 Alw P o tmps p f h w v h':=by
 intro b ops j rest k cs hj hw;have H:=So (f:=f) C;obtain⟨r0,d,s,r,rfl⟩:=q.obj i _ y;obtain⟨A,B⟩:=Aru hT (f:=f) (w:=w) F;obtain⟨es,he⟩:=Avw D A b u rest k cs hj hw;rw[Bh H E,hs,Option.map_none]at he;have hok:=(m.get i _ y).2;cases buf with
 | cons x l=>
  cases a;obtain⟨m1,m2⟩:=As5 m q y hok.2 s (r+1);refine⟨f,_,.one ?_,m1,m2,?_⟩
  ·have:=Conc.step_lone_select_recv_buf he d (by simp[Br])
   rw[FB.finish_at b _ hj]at this;simpa [Br,Cn,goInt,Conc.solo,Conc.G,lone]using this
  ·exact⟨trivial,trivial,EV.ok.mono (fun _ J=>.inl J) _ hok.1,trivial⟩
 | nil=>
  cases a;refine⟨f,w,.one ?_,Move.refl q,Wf.refl m,?_⟩
  ·have:=Conc.step_lone_sel_default he (by
    intro K g;simp only[List.mem_toArray,aM]at g;subst g;exact Conc.noWay_recv d)
   rw[FB.finish_at b _ hj]at this;simpa [commResult,Br,Cn,goInt,Conc.solo,Conc.G,lone]using this
  ·exact⟨trivial,trivial,B _,trivial⟩
include hT
theorem Bk4(B:Lb p n tm)(q:S9 p h)(u:S8 f h w)(j:execOp (Ik tmps) o=execOp (Ik (Be f n tm)) o)(d:Dj T tm o.op h=some (v,h')):
 Alw P o tmps p f h w v h':=by
 have A:=So (f:=f) B;cases g:o.op with
 | load t a=>
  rw[g]at d;obtain⟨rfl,h2,C⟩:=Bhe hT A q u g d;refine Alw.Abb (by rw[g];rfl) ⟨f,w,_,(by rw[j];exact C),.inl rfl,Move.refl u,Wf.refl q,?_⟩;rw[J7 _ _ _ rfl];exact h2
 | store t a x=>rw[g]at d;exact Alw.Abb (by rw[g];rfl) (by rw[j];exact Bc8 hT A B q u g d)
 | alloc t=>rw[g]at d;exact Alw.Abb (by rw[g];rfl) (by rw[j];exact Bdj hT q u g d)
 | box t x=>rw[g]at d;exact Alw.Abb (by rw[g];rfl) (by rw[j];exact Blo A B q u g d)
 | makeSlice t x y=>rw[g]at d;exact Alw.Abb (by rw[g];rfl) (by rw[j];exact Az7 (n:=n) hT A q u g d)
 | buildSlice t m ps=>rw[g]at d;exact Alw.Abb (by rw[g];rfl) (by rw[j];exact Ax6 hT A B q u g d)
 | makeMap t r=>rw[g]at d;exact Alw.Abb (by rw[g];rfl) (by rw[j];exact A59 q u g d)
 | makeChan t x=>rw[g]at d;exact Alw.Abb (by rw[g];rfl) (by rw[j];exact A4o hT A q u g d)
 | lookup t x k ok=>rw[g]at d;exact Alw.Abb (by rw[g];rfl) (by rw[j];exact A9m (n:=n) hT A q u g d)
 | mapUpdate t m k x=>rw[g]at d;exact Alw.Abb (by rw[g];rfl) (by rw[j];exact Az9 hT A B q u g d)
 | call c=>
  rw[g]at d;obtain⟨callee,args,argTypes⟩:=c;cases callee with
  | builtin bi=>
   simp only[Dj]at d;split at d
   ·rename_i as has
    have key:∀cs,Amx P (Go.builtin bi argTypes o.type cs (Br f as).toArray) p f h w v h':=by
     intro cs;obtain⟨s,E,f',w',h2,C,h4,F⟩:=A7y (ty:=o.type) (cs:=cs) hT q u (Aik B has) d;refine⟨f',w',.value (Cn f' v),?_,.inl rfl,C,h4,F⟩;rw[E];simp only[Sem.run_bind,h2,aI,aT]
    have he:args.map (Ik (Be f n tm))=(Br f as).toArray:=by
     rw[<-Yu A has];simp only[<-List.map_toArray,eA]
    obtain⟨f',w',N,E,h2,C,h4,F⟩:=key (args.map fun | .const _=>true|_=>false);refine Alw.Abb (by rw[g];rfl) ⟨f',w',N,?_,h2,C,h4,F⟩;rw[<-E,j];simp only[execOp,g,resolve,Sem.run_bind,aT,aI,invoke,he];rfl
   ·cases d
  | value x=>cases d
  | invoke x m=>cases d
 | select cs bl=>
  rw[g]at d;cases bl with
  | true=>cases d
  | false=>
   simp only[Dj]at d;split at d
   ·rename_i c G
    have D:cs = #[c]:=by apply eK;simpa using G
    subst D;split at d
    ·rename_i i x H hs
     split at d
     ·rename_i cap buf M J L
      split at d
      ·rename_i zv K
       exact A6a hT B q u j g H hs J L K d
      ·cases d
     ·cases d
    ·rename_i i H hs
     split at d
     ·rename_i cap buf zv J K
      exact A7s hT B q u j g H hs d J K
     ·cases d
    ·cases d
   ·cases d
 | _=>rw[g]at d;cases d
end
end
section
section
variable{w:World}(hT:P6 P T){call:Ai}(hC:Aeh P call)(hR:Ajt P round)
theorem Move.Be{f':Loc}{w:World}(m:Move p f h w f' h' w')(a:Lb p n tm):Be f n tm=Be f' n tm:=Ku m.E9 a
theorem Agr(f:Loc)(n:Nat)(tm:Az)(d:Option Tmp)(v:EV):A7d (Be f n tm) d (Cn f v)=Be f n (Pc n tm d v):=by
 cases d with
 | none=>rfl
 | some d=>exact Ayc f n tm d v
include hT hC hR in
theorem Bj0(D:Lb p n tm)(E:S9 p h)(F:S8 f h w)(q:execOp (Ik tmps) o=execOp (Ik (Be f n tm)) o)(a:aop T call round tm o.op h=some (v,h')):
 Alw P o tmps p f h w v h':=by
 have G:=So (f:=f) D;unfold aop at a;rw[Bn]at a;split at a
 ·rename_i Z
  split at a
  ·rename_i v' H
   cases a;refine Alw.Abb ?_ ⟨f,w,_,(by rw[q];exact Bh2 hT f w G H),.inl rfl,Move.refl F,Wf.refl E,?_⟩
   ·cases y:o.op<;>first|rfl|(rw[y]at Z;cases Z)
   ·rw[J7 _ _ _ rfl];exact Bmm hT D H
  ·cases a
 ·split at a
  ·rename_i fo args ab heq
   split at a
   ·rename_i g first captured as M has
    obtain⟨⟨fn,S,U,A⟩,V⟩:=hC _ _ _ _ _ a;intro b ops i rest k cs y hw;have J:=Em (v:=.func g first captured) D M;have u:=Aik D has;have B:EV.Tf p (first++(as++captured)):=Y3 J.1 (Y3 u J.2);obtain⟨fr,f',w',hs,ad,hl,hm,hwf,C⟩:=V p f w E F B (b.at tmps (.inRegion ops (i::rest)::k)::cs);refine⟨f',w',?_,hm,hwf,C⟩;have he:args.map (Ik (Be f n tm))=(Br f as).toArray:=by
     rw[<-Yu G has];simp only[<-List.map_toArray,eA]
    have j:(execOp (Ik tmps) o).run P w=.ok (.enter g (Br f (first++(as++captured))).toArray) w:=by
     rw[q];have hb:¬fn.body=none:=by cases hx:fn.body<;>simp_all
     have hn:¬fn.name = "runtime.NumGoroutine":=by simpa using A
     simp[execOp,heq,resolve,he,Bh G M,Cn,Deferred.ofValue,invoke,callFunc,S,hn,hb,Rz]
    refine .head (Az2 y hw (by rw[heq];rfl) j) (hs.trans (.one ?_));rw[<-FB.finish_at b _ y];exact step_leave_returned hl
   ·rename_i l as M has
    obtain⟨st,pd,fn,O,K,ps,asg,body,d,L,hg,W,V⟩:=hR _ _ _ _ _ a;intro b ops i rest k cs y hw;have u:=Aik D has;obtain⟨f',w',hs,hm,hwf,C⟩:=V p f w E F u (b.at tmps (.inRegion ops (i::rest)::k)) cs;refine⟨f',w',?_,hm,hwf,C⟩;have he:args.map (Ik (Be f n tm))=(Br f as).toArray:=by
     rw[<-Yu G has];simp only[<-List.map_toArray,eA]
    obtain⟨r0,X,rfl⟩:=F.obj l _ hg;obtain⟨hlen,ah,m⟩:=Ah8 f W u (E.get l _ hg).2.1;have j:(execOp (Ik tmps) o).run P w=.ok (.round (f.b l) fn (Be f O L) asg body) w:=by
     rw[q];have Q:Array.foldl (fun tmps (x:Tmp × Value)=>tmps.setIfInBounds x.1 x.2) (Be f O K) (ps.toArray.zip (Br f as).toArray)=Be f O L:=by
      rw[<-m,List.zip_toArray,List.foldl_toArray]
     have Y:(getObj (f.b l)).run P w=.ok (.loop ⟨st,pd,fn,Be f O K,ps.toArray,asg,body,f.b d⟩) w:=Nn X (by intros;simp);simp only[execOp,heq,resolve,he,Bh G M,Cn,Deferred.ofValue,invoke,Sem.run_bind,aT,aI,Instr.yield,Instr.getLoop,Y];simp[C0,hlen];exact m
    refine .head (Az8 y hw (by rw[heq];rfl) j) ?_;rw[<-FB.finish_at b _ y];exact hs
   ·cases a
  ·rename_i ai
   exact Bk4 hT D E F q a
theorem A96(a:Lb p n tm)(ops:Array Oper)(j:Nat):Go.yielded ops (Be f n tm) j=Ev.yielded ops.toList tm j:=by
 unfold Go.yielded Ev.yielded;rw[Aw2,cF];cases ops[j]? with
 | none=>rfl
 | some o=>
  simp only[Option.bind_some];cases o.dst with
  | none=>rfl
  | some d=>
   simp only[Option.bind_some];rw[Aem];by_cases hd:d<n
   ·rw[aH hd]
    unfold tmp;cases g:tm.get d with
    | none=>rfl
    | some v=>cases v<;>rfl
   ·rw[aF hd,a.out d (Nat.le_of_not_lt hd)]
theorem A1e(a:Lb p n tm)(ops:Array Oper)(o:Oper):Region.wanted o (Go.yielded ops (Be f n tm))=Ev.wanted ops.toList tm o.guard:=by
 unfold Region.wanted Ev.wanted;cases o.guard with
 | none=>rfl
 | some x=>
  obtain⟨j,want⟩:=x;simp only[];rw[A96 a];cases Ev.yielded ops.toList tm j with
  | none=>rfl
  | some b=>cases b<;>cases want<;>rfl
include hT hC hR in
theorem A37(ops:Array Oper):∀{l:List Oper} {i:Nat} {p:Nat->Prop} {f:Loc} {h:Aa} {w:World} {tm j:Az} {h':Aa},l=ops.toList.drop i->Lb p n tm->S9 p h->S8 f h w ->
 Api T call round n ops.toList l tm h=some (j,h')->∀(b:FB) (k:List Item) (cs:List Frame),
  ∃f' w',Steps P (lone (b.at (Be f n tm) (.inRegion ops (List.range' i l.length)::k)) cs w) (lone (b.at (Be f' n j) (.inRegion ops []::k)) cs w') /\
   Move p f h w f' h' w'/\Wf p h h'/\Lb (grow p h h') n j
 | [],i,p,f,h,w,tm,j,h',J,q,F,G,a,b,k,cs=>by
  simp only[Api]at a;cases a;exact⟨f,w,.refl _ _,Move.refl G,Wf.refl F,by rw[J7 _ _ _ rfl];exact q⟩
 | o::r,i,p,f,h,w,tm,j,h',J,q,F,G,a,b,k,cs=>by
  have H:ops[i]? = some o:=by
   have:=congrArg (fun l=>l[0]?) J;simp only[bH,dJ,dO,cF]at this;exact this.symm
  have Q:r=ops.toList.drop (i+1):=by
   have:=congrArg List.tail J;simpa [List.tail_drop]using this
  obtain⟨dst,op,ty,ps,K,g⟩:=o;simp only[Api]at a;rw[Bn]at a;have u:=A1e (f:=f) q ops ⟨dst,op,ty,ps,K,g⟩;split at a
  ·rename_i hw
   rw[hw]at u;split at a
   ·rename_i v S E
    obtain⟨f1,w1,L,y,m,M⟩:=Bj0 hT hC hR q F G (o:=⟨dst,op,ty,ps,K,g⟩) rfl E b ops i (List.range' (i+1) r.length) k cs H u;have A:Lb (grow p h S) n (Pc n tm dst v):=(q.mono fun _ H=>.inl H).put dst M;obtain⟨f2,w2,B,C,d,D⟩:=A37 ops Q A m.hok y.rep a b k cs;refine⟨f2,w2,?_,y.trans C,m.trans d,?_⟩
    ·rw[bF,fM]
     refine L.trans ?_;rw[y.Be q,Agr];exact B
    ·rw[<-Adh p m.next d.next];exact D
   ·cases a
  ·rename_i hw
   have O:Region.wanted ⟨dst,op,ty,ps,K,g⟩ (Go.yielded ops (Be f n tm))=false:=by rw[u];simpa using hw
   have A:Lb p n (Pc n tm dst (.tuple [])):=q.put dst trivial;obtain⟨f2,w2,B,C,d,D⟩:=A37 ops Q A F G a b k cs;refine⟨f2,w2,?_,C,d,D⟩;rw[bF,fM];refine .head (Avi H O) ?_;have:(undef:Value)=Cn f (.tuple []):=rfl;rw[this,Agr];exact B
end
end
structure AWf(h h':Aa):Prop where
 next:h.next<=h'.next
 mw:h'.mw<=h.mw
 same:∀q,q<h'.mw->q<h.next->h'.get q=h.get q
 live:∀q o,h'.get q=some o->(∃o',h.get q=some o')\/h.next<=q
 lt:(∀q o,h.get q=some o->q<h.next)->∀q o,h'.get q=some o->q<h'.next
theorem AWf.refl(h:Aa):AWf h h:=⟨aE _,aE _,fun _ _ _=>rfl,fun _ o a=>.inl ⟨o,a⟩,fun H=>H⟩
theorem AWf.trans {a b c:Aa}(x:AWf a b)(y:AWf b c):AWf a c where
 next:=bN x.next y.next
 mw:=bN y.mw x.mw
 same q d h2:=(y.same q d (aK h2 x.next)).trans (x.same q (aK d y.mw) h2)
 live q o g:=by
  rcases y.live q o g with⟨o',d⟩|d
  ·exact x.live q o' d
  ·exact .inr (bN x.next d)
 lt H:=y.lt (x.lt H)
theorem AWf.put{o:Dt}(d:h.get i=some o)(o':Dt):AWf h (h.put i o') where
 next:=aE _
 mw:=by rw[Aa.Am7];exact Nat.min_le_right _ _
 same q g _:=by rw[Aa.Am7]at g;rw[Aa.get_put,aF (by omega)]
 live q x a:=by
  rw[Aa.get_put]at a;split at a
  ·rename_i e;subst e;exact .inl ⟨o,d⟩
  ·exact .inl ⟨x,a⟩
 lt H q x a:=by
  rw[Aa.get_put]at a;split at a
  ·rename_i e;subst e;exact H _ _ d
  ·exact H _ _ a
theorem AWf.new(h:Aa)(o:Dt):AWf h (h.new o) where
 next:=Nat.le_succ _
 mw:=aE _
 same q _ h2:=by rw[Aa.K1,aF (by omega)]
 live q x a:=by
  rw[Aa.K1]at a;split at a
  ·rename_i e;exact .inr (by omega)
  ·exact .inl ⟨x,a⟩
 lt H q x a:=by
  rw[Aa.K1]at a;rw[Aa.Dl];split at a
  ·rename_i e;omega
  ·exact Nat.lt_succ_of_lt (H _ _ a)
theorem AWf.del(h:Aa)(i:Nat):AWf h (h.del i) where
 next:=aE _
 mw:=by rw[Aa.Axy];exact Nat.min_le_right _ _
 same q d _:=by rw[Aa.Axy]at d;rw[Aa.Ze,aF (by omega)]
 live q x a:=by
  rw[Aa.Ze]at a;split at a
  ·cases a
  ·exact .inl ⟨x,a⟩
 lt H q x a:=by
  rw[Aa.Ze]at a;split at a
  ·cases a
  ·exact H _ _ a
theorem A0w{vs:List EV}(a:L5 h i off vs=some h'):AWf h h':=by
 unfold L5 at a;split at a
 ·rename_i d
  split at a
  ·cases a;exact .put d _
  ·cases a
 ·rename_i d
  split at a
  ·cases a;exact .put d _
  ·cases a
 ·cases a
theorem Bjz{st:TypeId}{s x:EV}(a:append T st s x h=some (v,h')):AWf h h':=by
 unfold append at a;split at a
 ·split at a
  ·split at a
   ·rw[Bn]at a
    split at a
    ·split at a
     ·obtain⟨_,h2⟩:=An a;cases h2;exact .refl _
     ·cases a;exact .refl _
     ·cases a
    ·obtain⟨_,h2⟩:=An a
     split at h2
     ·split at h2
      ·cases h2;exact .new _ _
      ·obtain⟨_,d⟩:=An h2
       split at d
       ·rw[Bn]at d
        split at d
        ·obtain⟨_,d⟩:=An d
         obtain⟨_,d⟩:=An d;split at d
         ·obtain⟨_,d⟩:=An d
          obtain⟨_,d⟩:=An d;obtain⟨_,d⟩:=An d;cases d;exact(AWf.del _ _).trans (.new _ _)
         ·cases d
        ·obtain⟨_,d⟩:=Sv d
         cases d;exact .new _ _
       ·cases d
      ·cases h2
     ·cases h2
   ·cases a
  ·cases a
 ·cases a
theorem Bfe{b:Builtin}(a:builtin T b ts args h=some (v,h')):AWf h h':=by
 unfold builtin at a;split at a
 ·split at a
  ·split at a
   ·exact Bjz a
   ·cases a
  ·cases a
 ·split at a
  ·split at a
   ·cases a;exact .refl _
   ·split at a<;>first|(cases a;done)|(cases a;exact .refl _)
   ·cases a;exact .refl _
   ·split at a<;>first|(cases a;done)|(cases a;exact .refl _)
   ·cases a
  ·cases a
 ·split at a
  ·split at a
   ·split at a
    ·obtain⟨_,h2⟩:=Sv a
     split at h2
     ·split at h2
      ·split at h2
       ·rename_i hw;cases h2;exact A0w hw
       ·cases h2
      ·cases h2
     ·cases h2
    ·cases a
   ·cases a
  ·cases a
 ·split at a
  ·split at a
   ·obtain⟨_,h2⟩:=An a
    split at h2
    ·rename_i d
     split at h2
     ·cases h2;exact .put d _
     ·cases h2;exact .put d _
     ·cases h2
    ·cases h2
   ·cases a
  ·cases a
 ·split at a<;>first|(cases a;done)|(cases a;exact .refl _)
 ·split at a<;>first|(cases a;done)|(cases a;exact .refl _)
 ·cases a
theorem Bon(a:Dj T tm op h=some (v,h')):AWf h h':=by
 unfold Dj at a;split at a
 ·
  split at a
  ·split at a
   ·split at a
    ·split at a<;>first|(cases a;done)|(cases a;exact .refl _)
    ·cases a
   ·split at a<;>first|(cases a;done)|(cases a;exact .refl _)
   ·cases a
  ·cases a
 ·
  split at a
  ·obtain⟨_,h2⟩:=An a
   obtain⟨_,h2⟩:=An h2;split at h2
   ·rename_i hw;cases h2;exact A0w hw
   ·cases h2
  ·cases a
 ·split at a<;>first|(cases a;done)|(cases a;exact .new _ _)
 ·split at a
  ·obtain⟨_,h2⟩:=An a;cases h2;exact .new _ _
  ·cases a
 ·split at a
  ·exact Bfe a
  ·cases a
 ·split at a
  ·split at a
   ·obtain⟨_,h2⟩:=An a
    split at h2
    ·cases h2;exact .new _ _
    ·cases h2
   ·cases a
  ·cases a
 ·split at a
  ·split at a
   ·obtain⟨_,h2⟩:=An a
    obtain⟨_,h2⟩:=An h2;cases h2;exact .new _ _
   ·cases a
  ·cases a
 ·cases a;exact .new _ _
 ·split at a
  ·split at a
   ·obtain⟨_,h2⟩:=An a;cases h2;exact .new _ _
   ·cases a
  ·cases a
 ·split at a
  ·obtain⟨_,h2⟩:=An a
   split at h2
   ·split at h2
    ·cases h2;exact .refl _
    ·split at h2<;>first|(cases h2;done)|(cases h2;exact .refl _)
    ·cases h2
   ·cases h2
  ·cases a
 ·split at a
  ·obtain⟨_,h2⟩:=An a
   split at h2
   ·rename_i d
    split at h2
    ·cases h2;exact .put d _
    ·cases h2;exact .put d _
    ·cases h2
   ·cases h2
  ·cases a
 ·split at a
  ·split at a
   ·split at a
    ·rename_i d _
     split at a
     ·rw[Bn]at a
      split at a
      ·cases a;exact .put d _
      ·cases a;exact .refl _
     ·cases a
    ·cases a
   ·split at a
    ·rename_i d _
     split at a
     ·cases a;exact .put d _
     ·cases a;exact .refl _
    ·cases a
   ·cases a
  ·cases a
 ·cases a
def U7(c:Ai):Prop:=∀g args h v h',c g args h=some (v,h')->AWf h h'
section
variable{call:Ai}(hC:U7 call)(hR:U7 round)
include hC hR
theorem Bm7(a:aop T call round tm op h=some (v,h')):AWf h h':=by
 unfold aop at a;rw[Bn]at a;split at a
 ·split at a<;>first|(cases a;done)|(cases a;exact .refl _)
 ·split at a
  ·split at a
   ·exact hC _ _ _ _ _ a
   ·exact hR _ _ _ _ _ a
   ·cases a
  ·exact Bon a
theorem A8x{ops:List Oper}:∀{l:List Oper} {tm d:Az} {h h':Aa},Api T call round n ops l tm h=some (d,h')->AWf h h'
 | [],_,_,_,_,a=>by cases a;exact .refl _
 | ⟨dst,op,ty,ps,m,g⟩::r,tm,d,h,h',a=>by
  simp only[Api]at a;rw[Bn]at a;split at a
  ·split at a
   ·rename_i j
    exact(Bm7 hC hR j).trans (A8x a)
   ·cases a
  ·exact A8x a
end
end Go.Ev
