import Derived.Test.YtadnemjjlacolaaGreatEvOne
import Derived.Conc.LoneSelect
import Derived.Conc.LoneSelectN
set_option linter.all false
namespace Go.Ev
variable {i n cap off:Nat}{ρ:Operand->Value}{tm:Ax}{o:Oper}{e t ty:TypeId}{ps:Array (Nat × Operand)}{v zv:EV}{h h':Ab}{x:Operand}{ents:List MapEntry}{P:Program}{base:Option Addr}{op:Op}{ts:Array TypeId}{buf args:List EV}{ops:Array Oper}{tmps:Array Value}{p:Nat->Prop}{f:Loc}{T:Kh}{round:Ah}
section
section
variable{w:World}(hT:Uf P T)
include hT
theorem A36(L:Reads f tm ρ)(G:N2 p n tm)(M:Y9 p h)(O:Y5 f h w)
 {m:Nat} (Q:o.op=.buildSlice t m ps) (a:D7 T tm (.buildSlice t m ps) h=some (v,h')) :
 As2 P (execOp ρ o) p f h w v h':=by
 simp only[D7]at a;split at a
 ·rename_i e l hu E
  split at a
  ·rename_i s z hs S
   obtain⟨U,h2⟩:=Aq a;split at h2
   ·rename_i c C
    cases h2;simp only[dJ,Nat.mul_eq]at U;obtain⟨u,V,H,W,_,_,X,i,i1,i2,i3⟩:=Af2 hT f w S;obtain⟨i',J,j2,j3⟩:=hT.size e s hs;have F:s=z.length:=by rw[i1]at J;cases J;omega
    subst F;obtain⟨c1,c2⟩:=Z7 (X p) V;rw[<-H]at c1 c2;have d1:∀v∈c,v.ok p:=Atg (fun i=>some (Nat.mul i z.length,z.length)) C (fun v j=>(Km p _).1 c1 v (Az9 j))
     (fun q y v j=>(Km p _).1 (Z7 (Azk G E q y) (Ap8 _ C q y)).1 v j)
    have d2:∀v∈c,v.one=true:=Atg (fun i=>some (Nat.mul i z.length,z.length)) C (fun v j=>c2 v (Az9 j))
     (fun q y v j=>(Z7 (Azk G E q y) (Ap8 _ C q y)).2 v j)
    obtain⟨f',w',K,Y,Z,r4⟩:=Ap9 (P:=P) M O e ((Km p _).2 d1) (by simpa using d2);refine⟨f',w',_,?_,.inl rfl,Y,Z,r4⟩;have A:=Azt f (fun i=>some (Nat.mul i z.length,z.length)) (fun i=>some (i*z.length,z.length)) (fun i q y=>y) C;have D:(ps.map fun(i,x)=>(i,ρ x)).toList=l.map fun(i,v)=>(i,Cr f v):=by
     rw[Array.toList_map,Ap0 L E]
    have B:¬(2^24<m*z.length):=by omega
    simp only[execOp,Q,Instr.buildSlice,Sem.run_bind,Ea hT w hu,aI,H4 hT w hs,gt_iff_lt,B,bD,aV];by_cases d:m*z.length=0
    ·have er:rep z m = []:=cR.1 (by rw[Aql];exact d)
     have e0:∀g:Nat->Value,Array.map g (Array.range 0)=(Bx f []).toArray:=fun g=>by simp[Bx]
     rw[er]at A;simp only[d,bM,Sem.run_bind,aV,aI];rw[e0,D,A];simp only[Sem.run_bind,K,aI,aV];simp[Cr]
    ·rw[aF d]
     simp only[Sem.run_bind,W,aV,aI,Yw,<-H];rw[Bc4 f z m d,D,A];simp only[Sem.run_bind,K,aI,aV];simp[Cr]
   ·cases h2
  ·cases a
 ·cases a
omit hT in
theorem Bcw(d:Y9 p h)(g:Y5 f h w)
 {r:Option Operand} (j:o.op=.makeMap t r) (a:D7 T tm (.makeMap t r) h=some (v,h')) :
 As2 P (execOp ρ o) p f h w v h':=by
 cases r with
 | some x=>simp[D7]at a
 | none=>
  simp only[D7]at a;cases a;refine⟨f.set h.next w.heap.size 0,{ w with heap:=w.heap.push (.map #[] 0) },_,?_,.inl rfl,Move.new d g 0 rfl ⟨#[],0,rfl,rfl⟩ rfl rfl rfl,Wf.new d (by simp[Ec.ok]),.inr ⟨aE _,by rw[Ab.D8];omega⟩⟩;simp only[execOp,j,Instr.makeMap,Cr,Loc.Agf];simp
theorem Bap(q:Reads f tm ρ)(j:Y9 p h)(u:Y5 f h w)
 (y:o.op=.makeChan t x) (a:D7 T tm (.makeChan t x) h=some (v,h')) :
 As2 P (execOp ρ o) p f h w v h':=by
 simp only[D7]at a;split at a
 ·rename_i d e k n hu A
  split at a
  ·rename_i s hs
   obtain⟨m,h2⟩:=Aq a;cases h2;simp only[dJ]at m;obtain⟨i,i1,i2,i3⟩:=hT.size e s hs;have g:¬(((n:Int)<0)\/((n:Int)>IntKind.i64.max)\/((i.bytes:Int)*n>2^48-112)):=by
    have:i.bytes*n<=1048576*65536:=gI i3 m;have e:((i.bytes*n:Nat):Int)=(i.bytes:Int)*n:=by simp
    have e2:IntKind.i64.max=9223372036854775807:=rfl;omega
   refine⟨f.set h.next w.heap.size 0,{ w with heap:=w.heap.push (.chan n #[] false 0 0 false) },_,?_,.inl rfl,Move.new j u 0 rfl ⟨0,0,rfl⟩ rfl rfl rfl,Wf.new j trivial,.inr ⟨aE _,by rw[Ab.D8];omega⟩⟩;simp only[execOp,y,Instr.makeChan,Bl q A,Cr,asInt,asIntOf,Sem.run_bind,aV,aI,Ea hT w hu,typeInfo,fm,i1,bB];rw[aF g];simp[Loc.Agf]
  ·cases a
 ·cases a
omit hT in
theorem A7k:∀{a b:List EV},F1 a b=some true->a=b
 | [],[],_=>rfl
 | x::r,y::s,h=>by
  unfold F1 at h;split at h
  ·rename_i g
   have m:=A7k h;have:x=y:=by
    unfold Ao6 at g;split at g
    ·obtain⟨u,h2⟩:=Aq g
     obtain rfl:=Aur u;cases d:eqB _ _ with
     | false=>rw[d]at h2;cases h2
     | true=>rw[An6]at d;rw[dN d]
    ·rename_i p q
     have j:=gF g;rw[A3c]at j;rw[Bj6 j]
    ·rename_i p q
     cases p<;>cases q<;>first|rfl|(cases g)
    ·cases g
   rw[this,m]
  ·split at h<;>cases h
  ·cases h
 | [],_::_,h=>by cases h
 | _::_,[],h=>by cases h
omit hT in
theorem Blk {a b:EV}{r:Bool}(h:Ao6 a b=some r):(∃k n,a=.int k n)\/(∃c,a=.bool c)\/(∃s,a=.str s):=by
 unfold Ao6 at h;split at h
 ·exact .inl ⟨_,_,rfl⟩
 ·exact .inr (.inr ⟨_,rfl⟩)
 ·exact .inr (.inl ⟨_,rfl⟩)
 ·cases h
theorem U5{k:EV}(d:Q1 T t k=true)(e:Bool):(Instr.checkKey e 10000 t (Cr f k)).run P w=.ok () w:=by
 unfold Q1 at d;split at d
 ·rename_i a
  rw[Bt]at d;split at d
  ·rename_i g
   split at d
   ·rename_i sh j
    rw[Bt]at d;split at d
    ·rename_i hs
     split at d
     ·exact(hT.key t g).2 f w e a sh j hs
     ·cases d
    ·cases d
   ·cases d
  ·cases d
 ·rename_i m n
  split at d
  ·rename_i q hu
   rw[Instr.checkKey.eq_def];simp[Ea hT w hu,Cr]
  ·cases d
 ·cases d
omit hT in
def A6s(f:Loc)(ents:List MapEntry)(es:List (EV × EV)):Prop:=ents.map (fun e=>(e.key,e.val))=es.map (fun e=>(Cr f e.1,Cr f e.2))
theorem Bdo {j:IntKind}{g:IntKind}{n:Int}(m:Nat.beq (T4 g) (T4 j)=true):∀{ents:List MapEntry} {es:List (EV × EV)} {i:Nat} {r:Option (Nat × EV)},A6s f ents es->J4 (.int g n) es i=some r ->
 Instr.findNow (.int j) (.int g n) ents i=some (r.map fun x=>(x.1,Cr f x.2))
 | [],[],i,r,_,h=>by simp only[J4]at h;cases h;rfl
 | y::ents,(a,b)::es,i,r,he,h=>by
  simp only[A6s,dQ,List.cons.injEq,Prod.mk.injEq]at he;obtain⟨⟨e1,e2⟩,e3⟩:=he;unfold J4 at h;unfold Instr.findNow;have u:∀c,Ayw (.int g n) a=some c->Instr.sameNow (.int j) (.int g n) y.key=some c:=by
   intro c d;unfold Ayw at d;split at d
   ·rename_i q;cases q
   ·rename_i B C D b1 q
    cases q;obtain⟨A,h2⟩:=Aq d;obtain rfl:=Aur A;cases h2;rw[e1];simp[Cr,Instr.sameNow,An6];rfl
   ·cases d
  split at h
  ·rename_i d
   cases h;rw[u _ d,e2];rfl
  ·rename_i d
   rw[u _ d];exact Bdo m e3 h
  ·cases h
 | [],_::_,_,_,he,_=>by simp[A6s]at he
 | _::_,[],_,_,he,_=>by simp[A6s]at he
theorem Bdm{sh:List Nat}(g:T.eqs t=some sh){a:List EV}(q:shaped sh a=true):∀{ents:List MapEntry} {es:List (EV × EV)} {i:Nat} {r:Option (Nat × EV)},A6s f ents es->J4 (.agg a) es i=some r ->
 (Instr.findAsking t (Cr f (.agg a)) ents i).run P w=.ok (r.map fun x=>(x.1,Cr f x.2)) w
 | [],[],i,r,_,h=>by simp only[J4]at h;cases h;rfl
 | y::ents,(b,c)::es,i,r,he,h=>by
  simp only[A6s,dQ,List.cons.injEq,Prod.mk.injEq]at he;obtain⟨⟨e1,e2⟩,e3⟩:=he;unfold J4 at h;unfold Instr.findAsking;have u:∀d,Ayw (.agg a) b=some d->(Op.equal t (Cr f (.agg a)) y.key).run P w=.ok d w:=by
   intro d hd;unfold Ayw at hd;split at hd
   ·rename_i j
    cases j;rw[e1];exact(hT.eqs t sh g).2 f w _ _ d hd q
   ·rename_i j;cases j
   ·cases hd
  split at h
  ·rename_i m
   cases h;simp only[Sem.run_bind,u _ m,aI,bM,aV,e2];rfl
  ·rename_i m
   simp only[Sem.run_bind,u _ m,aI,ak,bD];exact Bdm g q e3 h
  ·cases h
 | [],_::_,_,_,he,_=>by simp[A6s]at he
 | _::_,[],_,_,he,_=>by simp[A6s]at he
theorem Aba{k:EV}(d:Q1 T t k=true){es:List (EV × EV)}{r:Option (Nat × EV)}(he:A6s f ents es)(hm:J4 k es 0=some r):
 (Instr.findKey t (Cr f k) ents).run P w=.ok (r.map fun x=>(x.1,Cr f x.2)) w:=by
 unfold Q1 at d;split at d
 ·rename_i a
  rw[Bt]at d;split at d
  ·rename_i g
   split at d
   ·rename_i sh q
    rw[Bt]at d;split at d
    ·rename_i y
     obtain⟨j,u,m⟩:=(hT.key t g).1;simp only[Instr.findKey,underlying,Sem.run_bind,fm,u,aI,aV];cases ents with
     | nil=>
      cases es with
      | nil=>simp only[J4]at hm;cases hm;rfl
      | cons x r=>simp[A6s]at he
     | cons A ents=>
      have:Instr.findNow j (Cr f (.agg a)) (A::ents) 0=none:=by
       cases j<;>first|(simp[A0s]at m;done)|simp[Instr.findNow,Instr.sameNow,Cr]
      rw[this];exact Bdm hT q y he hm
    ·cases d
   ·cases d
  ·cases d
 ·rename_i B n
  split at d
  ·rename_i C hu
   have:=Bdo (f:=f) hT d he hm;simp only[Instr.findKey,Sem.run_bind,Ea hT w hu,aI,Cr,this,aV]
  ·cases d
 ·cases d
omit hT in
theorem Ap6 {k:EV}:∀{es:List (EV × EV)} {i j:Nat} {v:EV},J4 k es i=some (some (j,v))->∃a,i<=j/\es[j-i]? = some (a,v)/\Ayw k a=some true
 | [],i,j,v,h=>by simp[J4]at h
 | (a,b)::es,i,j,v,h=>by
  unfold J4 at h;split at h
  ·rename_i d
   cases h;exact⟨a,aE _,by simp,d⟩
  ·obtain⟨g,q,h2,m⟩:=Ap6 h
   refine⟨g,by omega,?_,m⟩;have:j-i=(j-Nat.succ i)+1:=by omega
   rw[this];simpa using h2
  ·cases h
omit hT in
theorem Bfq {k a:EV}(h:Ayw k a=some true):k=a:=by
 unfold Ayw at h;split at h
 ·rw[A7k h]
 ·obtain⟨g,h2⟩:=Aq h
  obtain rfl:=Aur g;cases d:eqB _ _ with
  | false=>rw[d]at h2;cases h2
  | true=>rw[An6]at d;rw[dN d]
 ·cases h
end
end
section
theorem Qf{w:World}{r:Nat}{o:Obj}(h:w.heap[r]? = some o)(a:∀c e z,o≠.cells c e z):(getObj r).run P w=.ok o w:=by
 unfold getObj;simp only[Sem.run,h]
theorem U7{w:World}{r:Nat}{o o':Obj}(h:w.heap[r]? = some o)(a:∀c e z,o≠.cells c e z):(setObj r o').run P w=.ok () { w with heap:=w.heap.setIfInBounds r o' }:=by
 unfold setObj;simp only[Sem.run,h]
section
variable{w:World}
theorem Move.setObj(a:Y5 f h w){o o':Ec}(d:h.get i=some o){r:Obj}(h2:Aaq f i o' r):
 Move p f h w f (h.put i o') { w with heap:=w.heap.setIfInBounds (f.b i) r }:=by
 have g:=a.lt d;refine Move.put a d (r:=r) ?_ h2 (fun b hb=>?_) ?_ rfl rfl rfl
 ·simp[g]
 ·simp[Array.getElem?_setIfInBounds,cV hb]
 ·simp
variable (hT:Uf P T)
include hT
theorem Aw0(a:zeroOf T t=some v):(zeroValue t).run P w=.ok (Cr f v) w/\∀q,v.ok q:=by
 unfold zeroOf at a;split at a
 ·rename_i z d
  obtain⟨u,B,C,j,y,A,m,_⟩:=Af2 hT f w d;split at a
  ·rename_i g
   cases a;rw[<-y g];exact⟨j,m⟩
  ·rename_i g
   have e:=A g;split at a
   ·rename_i D
    cases a;cases e;exact⟨j,m⟩
   ·cases a
  ·cases a
 ·cases a
theorem Bfe {n:Nat}(q:Reads f tm ρ)(B:Y9 p h)(C:Y5 f h w)
 {k:Operand} {ok:Bool} (E:o.op=.lookup t x k ok) (d:D7 T tm (.lookup t x k ok) h=some (v,h')) :
 As2 P (execOp ρ o) p f h w v h':=by
 simp only[D7]at d;split at d
 ·rename_i O e i Q hu y F
  obtain⟨A,h2⟩:=Aq d;split at h2
  ·rename_i es G
   obtain⟨r,K,ents,clock,L,H⟩:=C.obj i _ G;obtain⟨_,a4⟩:=B.get i _ G;subst L;have g:=Qf (P:=P) K (by intro c e z y;cases y);split at h2
   ·rename_i j u hm
    cases h2;have D:=Aba (w:=w) (f:=f) hT A H hm;obtain⟨a,_,b2,_⟩:=Ap6 hm;have m:u.ok p:=(a4 _ (bY b2)).2;refine⟨f,w,_,?_,.inl rfl,Move.refl C,Wf.refl B,?_⟩
    ·simp only[execOp,E,Instr.lookup,Bl q y,Bl q F,Cr,Sem.run_bind,Ea hT w hu,aI,g,aV,U5 hT A,D,eA]
     cases ok<;>rfl
    ·rw[L9 p h h rfl]
     cases ok
     ·exact m
     ·exact⟨m,trivial,trivial⟩
   ·rename_i hm
    split at h2
    ·rename_i zv M
     cases h2;obtain⟨z1,J⟩:=Aw0 (w:=w) (f:=f) hT M;have D:=Aba (w:=w) (f:=f) hT A H hm;refine⟨f,w,_,?_,.inl rfl,Move.refl C,Wf.refl B,?_⟩
     ·simp only[execOp,E,Instr.lookup,Bl q y,Bl q F,Cr,Sem.run_bind,Ea hT w hu,aI,g,aV,U5 hT A,D,Option.map_none,z1]
      cases ok<;>rfl
     ·rw[L9 p h h rfl]
      cases ok
      ·exact J p
      ·exact⟨J p,trivial,trivial⟩
    ·cases h2
   ·cases h2
  ·cases h2
 ·cases d
omit hT in
theorem Azi(n:Nat)(k:IntKind)(a:Int):Instr.sameBits n (.int k a) (.int k a)=true:=by
 unfold Instr.sameBits;simp
omit hT in
theorem Awg(n:Nat)(f:Loc):∀{a:List EV} {r:Bool},F1 a a=some r->((Bx f a).zip (Bx f a)).all (fun(x,y)=>Instr.sameBits n x y)=true
 | [],_,_=>rfl
 | x::r,s,h=>by
  unfold F1 at h;have u:∃c,Ao6 x x=some c/\∃q,F1 r r=some q:=by
   split at h
   ·rename_i j;exact⟨_,j,_,h⟩
   ·rename_i j
    split at h
    ·rename_i q g;exact⟨_,j,_,g⟩
    ·cases h
   ·cases h
  obtain⟨c,j,q,g⟩:=u;simp only[Bx,List.zip_cons_cons,List.all_cons,Awg n f g,Bool.and_true];rcases Blk j with⟨k,m,rfl⟩|⟨d,rfl⟩|⟨d,rfl⟩
  ·exact Azi n k m
  ·simp only[Cr];unfold Instr.sameBits;simp
  ·simp only[Cr];unfold Instr.sameBits;rw[<-A3c,Avg];simp
omit hT in
theorem Bbd{k:EV}(d:Q1 T t k=true):Instr.sameBits 10000 (Cr f k) (Cr f k)=true:=by
 unfold Q1 at d;split at d
 ·rename_i a
  rw[Bt]at d;split at d
  ·split at d
   ·rw[Bt]at d
    split at d
    ·split at d
     ·rename_i r g
      have:=Awg 9999 f g;simp only[Cr];unfold Instr.sameBits;simpa using this
     ·cases d
    ·cases d
   ·cases d
  ·cases d
 ·exact Azi _ _ _
 ·cases d
theorem A6g(E:Reads f tm ρ)(L:N2 p n tm)(O:Y9 p h)(Q:Y5 f h w)
 {m k:Operand} (U:o.op=.mapUpdate t m k x) (y:D7 T tm (.mapUpdate t m k x) h=some (v,h')) :
 As2 P (execOp ρ o) p f h w v h':=by
 simp only[D7]at y;split at y
 ·rename_i kt e i H u hu hm M B
  obtain⟨J,h2⟩:=Aq y;split at h2
  ·rename_i es F
   obtain⟨r,V,ents,clock,Y,G⟩:=Q.obj i _ F;obtain⟨_,a4⟩:=O.get i _ F;subst Y;have C:=Qf (P:=P) V (by intro c e z B;cases B);have D:=fun o'=>U7 (P:=P) (o':=o') V (by intro c e z B;cases B)
   split at h2
   ·rename_i j Z g
    cases h2;have S:=Aba (w:=w) (f:=f) hT J G g;obtain⟨a,_,b2,b3⟩:=Ap6 g;obtain rfl:=Bfq b3;simp only[Nat.sub_zero]at b2;have K:((ents[j]?).map (·.key)).getD (Cr f H)=Cr f H:=by
     have A:(ents.toList.map (fun e=>(e.key,e.val)))[j]? = some (Cr f H,Cr f Z):=by
      rw[G,bG,b2];rfl
     rw[bG,cJ]at A;cases he:ents[j]? with
     | none=>rw[he]at A;cases A
     | some W=>rw[he]at A;simp only[eA,cU,Prod.mk.injEq]at A;simp[A.1]
    refine⟨f,_,.skip,?_,.inr ⟨rfl,rfl⟩,Move.setObj Q F (r:=.map (ents.modify j fun W=>{ W with key:=Cr f H,val:=Cr f u }) clock) ⟨_,_,rfl,?_⟩,Wf.put O F ?_,trivial⟩
    ·simp only[execOp,U,Instr.mapUpdate,Bl E hm,Bl E M,Bl E B]
     simp only[Cr,Sem.run_bind,Ea hT w hu,aI,C,U5 hT J,S,eA,K,Instr.keyThatStays,Bbd J,bM,aV,D]
    ·rw[List.map_set,<-G]
     apply dY;intro q;simp only[Array.toList_modify,bG,List.getElem?_modify,dD,bX];by_cases X:j=q
     ·subst X
      have A:j<ents.toList.length:=by
       have:=(aW.1 b2).1;have e:=congrArg List.length G;simp only[bX]at e;omega
      simp at A;simp[A]
     ·simp[X]
    ·intro e' d
     rcases cm d with d|rfl
     ·exact a4 e' d
     ·exact⟨Fu L M,Fu L B⟩
   ·rename_i g
    cases h2;have S:=Aba (w:=w) (f:=f) hT J G g;refine⟨f,_,.skip,?_,.inr ⟨rfl,rfl⟩,Move.setObj Q F (r:=.map (ents.push { key:=Cr f H,val:=Cr f u,born:=clock }) (clock+1)) ⟨_,_,rfl,?_⟩,Wf.put O F ?_,trivial⟩
    ·simp only[execOp,U,Instr.mapUpdate,Bl E hm,Bl E M,Bl E B]
     simp only[Cr,Sem.run_bind,Ea hT w hu,aI,C,U5 hT J,S,Option.map_none,aV,D]
    ·simp[G]
    ·intro e' d
     rcases bO.1 d with d|d
     ·exact a4 e' d
     ·simp only[aO]at d;subst d;exact⟨Fu L M,Fu L B⟩
   ·cases h2
  ·cases h2
 ·cases y
end
end
section
section
variable{w:World}
theorem Y5.world {w':World}(a:Y5 f h w)(e:w'.heap=w.heap):Y5 f h w':=⟨fun i o d=>by rw[e];exact a.obj i o d,a.inj⟩
theorem A4j(d:Bool)(k:IntKind):∀{l:List EV} {a:Int} {v:EV},Agv d k a l=some v->(∃b,v=.int k b) /\
 (l.map (Cr f)).foldlM (m:=Sem) (if d=true then Builtin.max2 else Builtin.min2) (.int k a)=(pure (Cr f v):Sem Value)
 | [],a,v,h=>by simp only[Agv]at h;cases h;exact⟨⟨a,rfl⟩,rfl⟩
 | .int j b::r,a,v,h=>by
  simp only[Agv]at h;obtain⟨g,h2⟩:=A4j d k h;refine⟨g,?_⟩;rw[dQ,List.foldlM_cons,<-h2];cases d
  ·simp only[ak,bD,Cr,Builtin.min2,Bt,A0m,aQ]
   rfl
  ·simp only[bM,Cr,Builtin.max2,Bt,A0m,aQ,gt_iff_lt]
   rfl
 | .bool _::_,_,_,h=>by simp[Agv]at h
 | .str _::_,_,_,h=>by simp[Agv]at h
 | .ptr _ _::_,_,_,h=>by simp[Agv]at h
 | .E3::_,_,_,h=>by simp[Agv]at h
 | .slice _ _ _ _ _::_,_,_,h=>by simp[Agv]at h
 | .tail _ _ _::_,_,_,h=>by simp[Agv]at h
 | .Ao::_,_,_,h=>by simp[Agv]at h
 | .odd _::_,_,_,h=>by simp[Agv]at h
 | .map _::_,_,_,h=>by simp[Agv]at h
 | .Apt::_,_,_,h=>by simp[Agv]at h
 | .chan _::_,_,_,h=>by simp[Agv]at h
 | .Ai4::_,_,_,h=>by simp[Agv]at h
 | .func _ _ _::_,_,_,h=>by simp[Agv]at h
 | .yld _::_,_,_,h=>by simp[Agv]at h
 | .Amp::_,_,_,h=>by simp[Agv]at h
 | .Af8::_,_,_,h=>by simp[Agv]at h
 | .agg _::_,_,_,h=>by simp[Agv]at h
 | .tuple _::_,_,_,h=>by simp[Agv]at h
theorem A00 {x:EV}(a:lenOf x=some n):∃b c,Cr f x=.slice b n c:=by
 unfold lenOf at a;split at a<;>first|(cases a;exact⟨_,_,rfl⟩)|(cases a)
theorem Af7(j:Y9 p h)(m:Y5 f h w){size:Nat}{x:EV}{l:List EV}(d:cellsOf h size n x=some l):
 (Builtin.firstCells size n (Cr f x)).run P w=.ok (Bx f l).toArray w/\EV.Wz p l/\l.all EV.one=true/\l.length=n*size:=by
 unfold cellsOf at d;split at d
 ·obtain⟨g,h2⟩:=Aq d
  cases h2;have:=aJ g;subst this;exact⟨by simp[Cr,Builtin.firstCells,Bx],trivial,rfl,by simp⟩
 ·rename_i i off a b c
  rw[Bt]at d;split at d
  ·rename_i g
   cases d;have:=aJ g;subst this;refine⟨?_,trivial,rfl,by simp⟩;simp[Cr,Builtin.firstCells,Bx,loadCells,loadCellsFrom]
  ·obtain⟨g,h2,q,h4,_⟩:=Apw (P:=P) j m d
   exact⟨by simp only[Cr,Builtin.firstCells];exact g,h2,q,h4⟩
 ·obtain⟨g,h2⟩:=Aq d
  cases h2;have:=aJ g;subst this;refine⟨?_,trivial,rfl,by simp⟩;simp[Cr,Builtin.firstCells,Bx,loadCells,loadCellsFrom]
 ·cases d
variable (hT:Uf P T)
include hT
theorem Aul {st u e':TypeId}(q:T.Za st=some (.slice e))(hu:T.Za u=some (.slice e')){size:Nat}(hs:T.size e=some size){z:List EV}(A:T.zero e=some z)
 {sLen sCap C:Nat} {D:Option Addr} {By new:Array Value} (g:¬sLen+n<=sCap) (O:sLen<=1048576) (Q:n<=65536)
 (H:∀d,(Builtin.firstCells size sLen (.slice base sLen sCap)).run P { w with drawn:=d }=.ok By { w with drawn:=d })
 (h2:∀d,(Builtin.firstCells size n (.slice D n C)).run P { w with drawn:=d }=.ok new { w with drawn:=d }) :
 ∃cap rest,sLen+n<=cap/\rest.size=(cap-(sLen+n))*size /\
  (Builtin.append_ #[st,u] ty #[.slice base sLen sCap,.slice D n C]).run P w=.ok (.slice (some ⟨w.heap.size,0,none⟩) (sLen+n) cap) { w with drawn:=w.drawn+1,heap:=w.heap.push (.cells (By++new++rest) e) }:=by
 have⟨f⟩:Nonempty Loc:=⟨⟨id,id⟩⟩;obtain⟨x,S,J,m,_,_,U,i,i1,i2,i3⟩:=Af2 hT f w A;obtain⟨E,F,V,W⟩:=hT.size e size hs;have K:E=i:=by rw[i1]at F;cases F;rfl
 subst K;have hb:Builtin.nextslicecap (sLen+n) sCap<=4000000:=by
  unfold Builtin.nextslicecap;split
  ·omega
  ·split
   ·omega
   ·simp only[Builtin.growBy]
    repeat' split
    all_goals omega
 have j:¬(2^48<Builtin.nextslicecap (sLen+n) sCap*E.bytes):=by
  have:=gI hb i3;omega
 refine⟨(Question.appendCap (sLen+n) sCap e).cut (w.tape w.drawn (.appendCap (sLen+n) sCap e)),Builtin.zeroCells (Cr f x).cells ((Question.appendCap (sLen+n) sCap e).cut (w.tape w.drawn (.appendCap (sLen+n) sCap e))-(sLen+n)),?_,?_,?_⟩
 rotate_left 2
 ·have a:¬(((sLen+n:Nat):Int)>IntKind.i64.max):=by
   have e2:IntKind.i64.max=9223372036854775807:=rfl;omega
  have B:∀d,(zeroValue e).run P { w with drawn:=d }=.ok (Cr f x) { w with drawn:=d }:=by
   intro d;obtain⟨y,_,X,Y,_⟩:=Af2 hT f { w with drawn:=d } A;obtain⟨L,v,Z,G,M,a3,_⟩:=hT.zero e z A;simp only[zeroValue,typeInfo,Sem.run_bind,fm,i1,aI,aV]at m⊢;rw[i1]at G;cases G;rw[M]at m⊢;simp only[aV,Result.ok.injEq]at m⊢;exact⟨m.1,trivial⟩
  simp only[Builtin.append_,Sem.run_bind,cI,bL,bm,Ea hT w q,Ea hT w hu,H4 hT w hs,aI,aV,Builtin.lenOf,ak,bD,g];simp only[a,gN,bD,Sem.run_bind,aV,aI,typeInfo,fm,i1,gt_iff_lt,j,run_choose,Question.forced,ak,run_askRoom,H,h2,B,cu,bM];rfl
 ·simp only[Question.cut];omega
 ·rw[Builtin.zeroCells]
  have e1:(Cr f x).cells.size=size:=by rw[Yw,<-J];simp[Dh];omega
  simp[e1]
end
end
section
def Ajs(P:Program)(s:Sem Value)(p:Nat->Prop)(f:Loc)(h:Ab)(w:World)(v:EV)(h':Ab):Prop:=
 ∃f' w',s.run P w=.ok (Cr f' v) w'/\Move p f h w f' h' w'/\Wf p h h'/\v.ok (grow p h h')
section
variable{w:World}(hT:Uf P T)
include hT
theorem A0h(g:Y9 p h)(y:Y5 f h w){l:List EV}(q:EV.Wz p l)(A:l.all EV.one=true){size m:Nat}(u:m<=cap){rest:Array Value}(a:rest.size=(cap-m)*size){By new:List EV}(j:l=By++new)(d:Nat):
 Move p f h w (f.set h.next w.heap.size (cap-m)) (h.new (.vec l e size)) { w with drawn:=d,heap:=w.heap.push (.cells ((Bx f By).toArray++(Bx f new).toArray++rest) e) }/\Wf p h (h.new (.vec l e size)) /\
  Cr (f.set h.next w.heap.size (cap-m)) (.slice h.next 0 m m true)=.slice (some ⟨w.heap.size,0,none⟩) m cap:=by
 refine⟨Move.new g y _ rfl ?_ rfl rfl rfl,Wf.new g ⟨Afy q,A⟩,?_⟩
 ·refine⟨rest.toList,?_,by simp[a,Loc.A96]⟩
  rw[<-Ir (f.U4 _ _ g.fresh) l q,j,X1];congr 1;apply eQ;simp
 ·simp only[Cr,Loc.Agf,Loc.A96,bM]
  congr 1;omega
theorem Bgq(y:Y9 p h)(D:Y5 f h w){st u e':TypeId}{s x:EV}(hs:s.ok p)(hu:T.Za u=some (.slice e'))(g:append T st s x h=some (v,h')):
 Ajs P (Builtin.append_ #[st,u] ty #[Cr f s,Cr f x]) p f h w v h':=by
 unfold append at g;split at g
 ·rename_i e A
  split at g
  ·rename_i size z B Z
   split at g
   ·rename_i n hn
    obtain⟨bx,cx,H⟩:=A00 (f:=f) hn;rw[Bt]at g;split at g
    ·rename_i h0
     have:=aJ h0;subst this;have V:∀(size:Nat),(Builtin.firstCells size 0 (.slice bx 0 cx)).run P w=.ok #[] w:=by
      intro size;cases bx<;>simp[Builtin.firstCells,loadCells,loadCellsFrom]
     split at g
     ·rename_i i off a room op
      obtain⟨h1,h2⟩:=Aq g;cases h2;simp only[dJ]at h1;refine⟨f,w,?_,Move.refl D,Wf.refl y,by rw[L9 p h h rfl];exact hs⟩;rw[H];have hle:a<=(if op=true then room+f.sp i else room):=by split<;>omega
      simp only[Cr,Builtin.append_,Sem.run_bind,cI,bL,bm,Ea hT w A,Ea hT w hu,H4 hT w B,aI,aV,Builtin.lenOf,ak,bD,dL,hle,bM,cu,V];simp[storeCells]
     ·cases g
      refine⟨f,w,?_,Move.refl D,Wf.refl y,trivial⟩;rw[H];simp only[Cr,Builtin.append_,Sem.run_bind,cI,bL,bm,Ea hT w A,Ea hT w hu,H4 hT w B,aI,aV,Builtin.lenOf,ak,bD,dL,aE,bM,cu,V]
     ·cases g
    ·rename_i h0
     obtain⟨F,h2⟩:=Aq g;simp only[dJ]at F;split at h2
     ·rename_i new J
      obtain⟨n1,n2,n3,n4⟩:=Af7 (P:=P) y D J;have nd:∀d,(Builtin.firstCells size n (.slice bx n cx)).run P { w with drawn:=d }=.ok (Bx f new).toArray { w with drawn:=d }:=by
       intro d;rw[<-H];exact(Af7 (P:=P) y (D.world (w':={ w with drawn:=d }) rfl) J).1
      split at h2
      ·cases h2
       have ay:n≠0:=fun e=>h0 (by rw[e];rfl)
       obtain⟨cap,rest,Q,S,U⟩:=Aul (w:=w) (ty:=ty) hT A hu B Z (base:=none) (sLen:=0) (sCap:=0) (By:=(Bx f []).toArray) (by omega) (by omega) F
        (by intro d;simp[Builtin.firstCells,Bx]) nd
       simp only[bJ]at Q S U;obtain⟨C,k2,W⟩:=A0h hT y D (e:=e) (l:=new) n2 n3 Q S (By:=[]) rfl (w.drawn+1);refine⟨_,_,?_,C,k2,.inr ⟨aE _,by rw[Ab.D8];omega⟩⟩;rw[W,H];exact U
      ·rename_i i off a room op
       obtain⟨K,L⟩:=Aq h2;simp only[dJ]at K;split at L
       ·rename_i By hold
        obtain⟨o1,o2,o3,o4⟩:=Af7 (P:=P) y D hold;have od:∀d,(Builtin.firstCells size a (Cr f (.slice i off a room op))).run P { w with drawn:=d }=.ok (Bx f By).toArray { w with drawn:=d }:=by
         intro d;exact(Af7 (P:=P) y (D.world (w':={ w with drawn:=d }) rfl) hold).1
        have hok:EV.Wz p (By++new):=Aep o2 n2;have m:(By++new).all EV.one=true:=Bhe o3 n3;rw[Bt]at L;split at L
        ·rename_i E
         subst E;obtain⟨c1,h4⟩:=Aq L;obtain⟨c2,Y⟩:=Aq h4;clear L h4;have:=aJ c1;subst this;have:=aJ c2;subst this;split at Y
         ·rename_i l e1 s1 hg
          obtain⟨c3,h6⟩:=Aq Y;obtain⟨c4,h7⟩:=Aq h6;obtain⟨c5,h8⟩:=Aq h7;clear Y h6 h7;rw[Zr]at c3;have G:=aJ c3;have:=aJ c4;subst this;have:=aJ c5;subst this;cases h8;simp only[Nat.mul_eq]at G;by_cases M:n<=f.sp i
          ·
           obtain⟨r,a1,more,a2,a5⟩:=D.obj i _ hg;subst a2;have af:By=l:=by
            unfold cellsOf at hold;simp only at hold;rw[Bt]at hold;split at hold
            ·rename_i ag
             have:=aJ ag;subst this;cases hold;simp at G;exact G.symm
            ·unfold K0 at hold
             rw[hg]at hold;obtain⟨_,q2⟩:=Aj7 hold;rw[Yi]at q2;rw[q2];simp only[dC,Nat.mul_eq];rw[<-G,cN]
           subst af;have ba:n*s1<=more.length:=by rw[a5];exact Nat.mul_le_mul_right _ M
           have X:=run_storeCells_at (P:=P) (f.b i) (room*s1) e1 (Bx f new) 0 (Bx f By++more).toArray w a1 (by simp only[Dh,dc,aH];omega) (Az4 f new (by simpa using n3));refine⟨f.set h.next (f.b i) (f.sp i-n),w.setRow (f.b i) (Bx f By++Bx f new++more.drop (n*s1)).toArray,?_,Move.Bh8 y D hg (f.sp i-n) (r:=.cells (Bx f (By++new)++more.drop (n*s1)).toArray e1 (0,0)) ?_ ?_ (fun b hb=>setRow_other _ _ _ _ hb) (setRow_size _ _ _) rfl rfl rfl,Wf.Bh8 y i ⟨Afy hok,m⟩,.inr ⟨aE _,by rw[Ab.D8,Ab.A5i];omega⟩⟩
           rotate_left 1
           ·rw[setRow_heap w (f.b i) _ _ e1 (0,0) a1,X1]
           ·refine⟨more.drop (n*s1),?_,?_⟩
            ·rw[Ir (f.U4 _ _ y.fresh) (By++new) hok]
            ·rw[Loc.A96,bW,a5,Nat.sub_mul]
           ·rw[H]
            have hle:room+n<=room+f.sp i:=by omega
            simp only[Cr,Builtin.append_,Sem.run_bind,cI,bL,bm,Ea hT w A,Ea hT w hu,H4 hT w B,aI,aV,Builtin.lenOf,ak,bD,bM,hle,cu,Loc.Agf,Loc.A96];rw[<-H,n1];simp only[aI,Sem.run_bind,Aac,bJ,X,aV];congr 1
            ·congr 1
             simp only[Nat.add_eq];omega
            ·congr 1
             simp only[dL,Dh];rw[fD (by rw[Dh];omega),bR (by rw[Dh];omega)];rw[List.drop_append,dX (by rw[Dh];omega)];simp only[Dh,dS];congr 4;omega
          ·obtain⟨cap,rest,Q,S,U⟩:=Aul (w:=w) (ty:=ty) hT A hu B Z (base:=some ⟨f.b i,0,none⟩) (sLen:=room) (sCap:=room+f.sp i) (By:=(Bx f By).toArray) (by omega) K F
            (by intro d;simpa [Cr]using od d) nd
           obtain⟨C,_,W⟩:=A0h hT (y.del i) (D.sub A3e) (e:=e1) (l:=By++new) hok m Q S rfl (w.drawn+1);refine⟨f.set h.next w.heap.size (cap-(room+n)),_,?_,⟨C.Gf,C.rep,fun b hb hn=>C.kept b hb (fun j q hj=>hn j q (A3e j q hj)),C.size,C.tape,C.os,C.output,fun j q hj=>(C.own j q hj).imp id (fun⟨k,q',hk,e⟩=>⟨k,q',A3e k q' hk,e⟩)⟩,
            Wf.Bh8 y i ⟨Afy hok,m⟩,.inr ⟨aE _,by rw[Ab.D8,Ab.A5i];omega⟩⟩
           rw[show Cr (f.set h.next w.heap.size (cap-(room+n))) (.slice h.next 0 (Nat.add room n) (Nat.add room n) true)=_ from W,H];simpa [Cr]using U
         ·cases Y
        ·rename_i E
         have O:op=false:=by simpa using E
         subst O;obtain⟨c1,h4⟩:=Yq L;cases h4;have hc:¬a+n<=room:=by
          intro e;have:=Af3 e;rw[show Nat.add a n=a+n from rfl]at c1;rw[this]at c1;cases c1
         obtain⟨cap,rest,Q,S,U⟩:=Aul (w:=w) (ty:=ty) hT A hu B Z (base:=some ⟨f.b i,off,none⟩) (sLen:=a) (sCap:=room) (By:=(Bx f By).toArray) hc K F
          (by intro d;simpa [Cr]using od d) nd
         obtain⟨C,k2,W⟩:=A0h hT y D (e:=e) (l:=By++new) hok m Q S rfl (w.drawn+1);refine⟨_,_,?_,C,k2,.inr ⟨aE _,by rw[Ab.D8];omega⟩⟩;rw[show Cr (f.set h.next w.heap.size (cap-(a+n))) (.slice h.next 0 (Nat.add a n) (Nat.add a n) true)=_ from W,H];simpa [Cr]using U
       ·cases L
      ·cases h2
     ·cases h2
   ·cases g
  ·cases g
 ·cases g
end
end
section
theorem Bjk:∀l:List UInt8,Bup l=l.length
 | []=>rfl
 | _::r=>congrArg Nat.succ (Bjk r)
section
variable{w:World}(hT:Uf P T)
include hT
omit hT in
theorem Ajs.stay(a:Y9 p h)(d:Y5 f h w){s:Sem Value}(hs:s.run P w=.ok (Cr f v) w)(g:v.ok p):Ajs P s p f h w v h:=
 ⟨f,w,hs,Move.refl d,Wf.refl a,by rw[L9 p h h rfl];exact g⟩
theorem Bp4(B:Y9 p h)(C:Y5 f h w){t u ty e e':TypeId}{d s:EV}(E:T.Za t=some (.slice e)){size dn g:Nat}(hs:T.size e=some size)(hd:lenOf d=some dn)(q:lenOf s=some g)
 (F:n=Bf (Nat.ble g dn) g dn) {cs:List EV} (G:cellsOf h size n s=some cs) {a b:Nat} {op:Bool} (y:d=.slice i off a b op) (hw:Oq h i off cs=some h') :
 Ajs P (Builtin.copy_ #[t,u] ty #[Cr f d,Cr f s]) p f h w (.int .i64 (.ofNat n)) h':=by
 obtain⟨D,H,n3,n4⟩:=Af7 (P:=P) B C G;obtain⟨bs,M,j⟩:=A00 (f:=f) q;obtain⟨w',J,K,L⟩:=A1w (P:=P) B C hw H n3;subst y;have A:dn=a:=by simp only[lenOf]at hd;cases hd;rfl
 subst A;have m:Nat.min g dn=n:=by
  rw[F,Bt];show min g dn=_;by_cases hle:g<=dn
  ·rw[aG (Af3 hle)];omega
  ·rw[aF (by rw[Ai8 hle];simp)];omega
 refine⟨f,w',?_,K,L,trivial⟩;rw[j];rw[j]at D;simp only[Cr,Builtin.copy_,Sem.run_bind,cI,bL,bm,Ea hT w E,aI,Builtin.lenOf,aV,H4 hT w hs,m,D,J];rfl
theorem Bdy(F:Y9 p h)(E:Y5 f h w){b:Builtin}{cs:Array Bool}(U:EV.Wz p args)(g:builtin T b ts args h=some (v,h')):
 ∃s,(Go.builtin b ts ty cs (Bx f args).toArray)=(do pure (.value (←s)):Sem Next)/\Ajs P s p f h w v h':=by
 unfold builtin at g;split at g
 ·rename_i s x
  split at g
  ·rename_i t u B
   have A:ts = #[t,u]:=by apply eQ;simpa using B
   subst A;split at g
   ·rename_i e' hu
    exact⟨_,rfl,Bgq hT F E U.1 hu g⟩
   ·cases g
  ·cases g
 ·rename_i x
  split at g
  ·rename_i t B
   have A:ts = #[t]:=by apply eQ;simpa using B
   subst A;refine⟨_,rfl,?_⟩;split at g
   ·rename_i n e hu
    cases g;exact Ajs.stay F E (by simp[Builtin.len_,Ea hT w hu,Bx,Cr,goInt]) trivial
   ·rename_i e y hu
    split at g
    ·rename_i n V
     cases g;obtain⟨bx,cx,J⟩:=A00 (f:=f) V;exact Ajs.stay F E (by simp[Builtin.len_,Ea hT w hu,Bx,J,goInt,Cr]) trivial
    ·cases g
   ·rename_i s hu
    cases g;exact Ajs.stay F E (by simp[Builtin.len_,Ea hT w hu,Bx,Cr,goInt,Bjk]) trivial
   ·rename_i d e i hu
    split at g
    ·rename_i c buf G
     cases g;obtain⟨r,K,s1,c1,O⟩:=E.obj i _ G;subst O;have D:=Qf (P:=P) K (by intro c e z J;cases J);exact Ajs.stay F E (by simp[Builtin.len_,Ea hT w hu,Bx,Cr,D,goInt,Zr,Dh]) trivial
    ·cases g
   ·cases g
  ·cases g
 ·rename_i d s
  split at g
  ·rename_i t u B
   have A:ts = #[t,u]:=by apply eQ;simpa using B
   subst A;split at g
   ·rename_i e e' W hu
    split at g
    ·rename_i size dn sn hs hd Q
     obtain⟨_,g⟩:=Yq g;split at g
     ·rename_i X Y
      split at g
      ·split at g
       ·rename_i Z hw
        cases g;exact⟨_,rfl,Bp4 hT F E (e':=e') W hs hd Q rfl Y rfl hw⟩
       ·cases g
      ·cases g
     ·cases g
    ·cases g
   ·cases g
  ·cases g
 ·rename_i m k
  split at g
  ·rename_i t tr B
   have h0:ts[0]? = some t:=by
    have:ts.toList[0]? = some t:=by rw[B];rfl
    simpa using this
   split at g
   ·rename_i kt e i hu
    obtain⟨L,h2⟩:=Aq g;split at h2
    ·rename_i es G
     obtain⟨r,K,ents,clock,O,M⟩:=E.obj i _ G;obtain⟨_,a4⟩:=F.get i _ G;subst O;have D:=Qf (P:=P) K (by intro c e z J;cases J);have H:=fun o'=>U7 (P:=P) (o':=o') K (by intro c e z J;cases J)
     refine⟨_,rfl,?_⟩;split at h2
     ·rename_i j u' C
      cases h2;have S:=Aba (w:=w) (f:=f) hT L M C;refine⟨f,_,?_,Move.setObj E G (r:=.map (ents.eraseIdxIfInBounds j) clock) ⟨_,_,rfl,?_⟩,Wf.put F G (fun q hq=>a4 q (List.mem_of_mem_eraseIdx hq)),trivial⟩
      ·simp only[Builtin.delete_,Bx,Cr,Sem.run_bind,cI,bL,bm,h0,Ea hT w hu,aI,D,U5 hT L,S,eA,H,aV]
      ·have e1:(ents.eraseIdxIfInBounds j).toList=ents.toList.eraseIdx j:=by
        rw[Array.eraseIdxIfInBounds_eq];split
        ·simp
        ·rename_i hj
         rw[List.eraseIdx_of_length_le (by simpa using hj)]
       rw[e1,List.eraseIdx_eq_take_drop_succ,List.eraseIdx_eq_take_drop_succ];simp only[cX,List.map_take,List.map_drop,M]
     ·rename_i C
      cases h2;have S:=Aba (w:=w) (f:=f) hT L M C;refine⟨f,_,?_,Move.setObj E G (r:=.map ents clock) ⟨_,_,rfl,M⟩,Wf.put F G a4,trivial⟩;simp only[Builtin.delete_,Bx,Cr,Sem.run_bind,cI,bL,bm,h0,Ea hT w hu,aI,D,U5 hT L,S,Option.map_none,H,aV]
     ·cases h2
    ·cases h2
   ·cases g
  ·cases g
 ·rename_i k a l
  split at g
  ·rename_i u hm
   cases g;obtain⟨⟨c,rfl⟩,h2⟩:=A4j (f:=f) false k hm;refine⟨_,rfl,Ajs.stay F E ?_ trivial⟩;simp only[Builtin.min_,Bx,List.toList_toArray,Cr,Um];simp only[ak,bD,Cr]at h2;rw[h2];rfl
  ·cases g
 ·rename_i k a l
  split at g
  ·rename_i u hm
   cases g;obtain⟨⟨c,rfl⟩,h2⟩:=A4j (f:=f) true k hm;refine⟨_,rfl,Ajs.stay F E ?_ trivial⟩;simp only[Builtin.max_,Bx,List.toList_toArray,Cr,Um];simp only[bM,Cr]at h2;rw[h2];rfl
  ·cases g
 ·cases g
end
end
section
structure FB where
 fn:Nat
 defers:List Deferred
 Dx:Option Nat
def FB.at(b:FB)(tmps:Array Value)(todo:List Item):Frame:={ fn:=b.fn,tmps,todo,defers:=b.defers,mode:=.run,kind:=.normal,roundOf:=b.Dx }
def Ks(tmps:Array Value):Operand->Value:=(Act.mk tmps []).eval
def Bcf(tmps:Array Value)(d:Option Tmp)(v:Value):Array Value:=
 match d with
 | some d=>tmps.setIfInBounds d v
 | none=>tmps
theorem FB.eval_at(b:FB)(tmps:Array Value)(todo:List Item):(b.at tmps todo).eval=Ks tmps:=by funext x;cases x<;>rfl
theorem FB.finish_at(b:FB)(tmps:Array Value)(a:ops[i]? = some o)(rest:List Nat)(k:List Item)(v:Value):
 (b.at tmps (.inRegion ops (i::rest)::k)).finish v=b.at (Bcf tmps o.dst v) (.inRegion ops rest::k):=by
 cases hd:o.dst<;>simp[Frame.finish,FB.at,Bcf,a,hd]
def Ap2:Op->Bool
 | .defer _=>true
 | _=>false
section
variable{b:FB}{rest:List Nat}{k:List Item}{cs:List Frame}{w:World}
theorem Atc(g:ops[i]? = some o)(hw:Region.wanted o (Go.yielded ops tmps)=true)(hd:Ap2 o.op=false):
 stepG P true { frame:=b.at tmps (.inRegion ops (i::rest)::k),callers:=cs,status:=.running,dying:=none } w =
  stepG.apply P true (b.at tmps (.inRegion ops (i::rest)::k)) cs none (execOp (Ks tmps) o) w:=by
 have he:=FB.eval_at b tmps (.inRegion ops (i::rest)::k);simp only[FB.at]at he;cases d:b.Dx<;>cases a:o.op<;>simp[stepG,stepG.exec,stepG.oper,Frame.oper?,FB.at,g,hw,d,a]<;>first|(rw[d]at he;rw[he];done)|(simp[a,Ap2]at hd)
theorem A57(a:ops[i]? = some o)(hw:Region.wanted o (Go.yielded ops tmps)=true)(hd:Ap2 o.op=false){v:Value}{w':World}
 (d:(execOp (Ks tmps) o).run P w=.ok (.value v) w') :
 step P (lone (b.at tmps (.inRegion ops (i::rest)::k)) cs w)=.next (lone (b.at (Bcf tmps o.dst v) (.inRegion ops rest::k)) cs w'):=by
 refine cF ?_;rw[Atc a hw hd,<-FB.finish_at b tmps a];simp[stepG.apply,d]
theorem A90(a:ops[i]? = some o)(hw:Region.wanted o (Go.yielded ops tmps)=true)(hd:Ap2 o.op=false){w':World}
 (d:(execOp (Ks tmps) o).run P w=.ok .skip w') :
 step P (lone (b.at tmps (.inRegion ops (i::rest)::k)) cs w)=.next (lone (b.at (Bcf tmps o.dst undef) (.inRegion ops rest::k)) cs w'):=by
 refine cF ?_;rw[Atc a hw hd,<-FB.finish_at b tmps a];simp[stepG.apply,d]
theorem A6h(a:ops[i]? = some o)(hw:Region.wanted o (Go.yielded ops tmps)=true)(hd:Ap2 o.op=false){g:FuncId}{args:Array Value}{w':World}
 (d:(execOp (Ks tmps) o).run P w=.ok (.enter g args) w') :
 step P (lone (b.at tmps (.inRegion ops (i::rest)::k)) cs w)=.next (lone (Frame.enter P g args .normal) (b.at tmps (.inRegion ops (i::rest)::k)::cs) w'):=by
 refine cF ?_;rw[Atc a hw hd];simp[stepG.apply,d,FB.at]
theorem A6j(a:ops[i]? = some o)(hw:Region.wanted o (Go.yielded ops tmps)=true)(hd:Ap2 o.op=false){l g:Nat}{ts:Array Value}{asg body:Code}{w':World}
 (d:(execOp (Ks tmps) o).run P w=.ok (.round l g ts asg body) w') :
 step P (lone (b.at tmps (.inRegion ops (i::rest)::k)) cs w)=.next (lone (Frame.round l g ts asg body .normal) (b.at tmps (.inRegion ops (i::rest)::k)::cs) w'):=by
 refine cF ?_;rw[Atc a hw hd];simp[stepG.apply,d,FB.at]
theorem A2d(a:ops[i]? = some o)(hw:Region.wanted o (Go.yielded ops tmps)=false):
 step P (lone (b.at tmps (.inRegion ops (i::rest)::k)) cs w)=.next (lone (b.at (Bcf tmps o.dst undef) (.inRegion ops rest::k)) cs w):=by
 refine cF ?_;rw[<-FB.finish_at b tmps a];simp[stepG,stepG.exec,FB.at,a,hw]
theorem A1h:step P (lone (b.at tmps (.inRegion ops []::k)) cs w)=.next (lone (b.at tmps k) cs w):=
 cF (by simp[stepG,stepG.exec,FB.at])
end
def Ar7(P:Program)(o:Oper)(tmps:Array Value)(p:Nat->Prop)(f:Loc)(h:Ab)(w:World)(v:EV)(h':Ab):Prop:=
 ∀(b:FB) (ops:Array Oper) (i:Nat) (rest:List Nat) (k:List Item) (cs:List Frame),ops[i]? = some o->Region.wanted o (Go.yielded ops tmps)=true ->
  ∃f' w',Steps P (lone (b.at tmps (.inRegion ops (i::rest)::k)) cs w) (lone (b.at (Bcf tmps o.dst (Cr f' v)) (.inRegion ops rest::k)) cs w') /\
   Move p f h w f' h' w'/\Wf p h h'/\v.ok (grow p h h')
theorem Ar7.Ag5{w:World}(hd:Ap2 o.op=false)
 (he:As2 P (execOp (Ks tmps) o) p f h w v h'):Ar7 P o tmps p f h w v h':=by
 intro b ops i rest k cs a hw;obtain⟨f',w',N,d,h2,g,h4,j⟩:=he;refine⟨f',w',?_,g,h4,j⟩;rcases h2 with rfl|⟨rfl,rfl⟩
 ·exact .one (A57 a hw hd d)
 ·exact .one (A90 a hw hd d)
def Ak3(P:Program)(c:Ah):Prop:=
 ∀g args h v h',c g args h=some (v,h')->(∃fn,P.funcs[g]? = some fn/\fn.body.isSome=true/\(fn.name == "runtime.NumGoroutine")=false) /\
  ∀p f w,Y9 p h->Y5 f h w->EV.Wz p args->∀cs,∃fr f' w',Steps P (lone (Frame.enter P g (Bx f args).toArray .normal) cs w) (lone fr cs w')/\fr.fn=g /\
   fr.leaving P w' (.returned (Cr f' v))/\Move p f h w f' h' w'/\Wf p h h'/\v.ok (grow p h h')
def Aqx(P:Program)(c:Ah):Prop:=
 ∀l args h v h',c l args h=some (v,h')->∃st g fn n tm ps asg body d a,h.get l=some (.loop st g fn n tm ps asg body d)/\Yx ps args n tm=some a /\
  ∀p f w,Y9 p h->Y5 f h w->EV.Wz p args->∀caller cs,∃f' w',Steps P (lone (Frame.round (f.b l) fn (Bi f n a) asg body .normal) (caller::cs) w) (lone (caller.finish (Cr f' v)) cs w') /\
   Move p f h w f' h' w'/\Wf p h h'/\v.ok (grow p h h')
theorem Bsp(n:Nat)(tm:Ax)(d:Nat)(v:EV):Bf (Nat.ble (Nat.succ d) n) (tm.put d (some v)) tm=Tj n tm (some d) v:=rfl
theorem An1(f:Loc):∀{ps:List Tmp} {args:List EV} {tm a:Ax},Yx ps args n tm=some a->EV.Wz p args->N2 p n tm ->
 ps.length=args.length/\N2 p n a/\(ps.zip (Bx f args)).foldl (fun tmps (x:Tmp × Value)=>tmps.setIfInBounds x.1 x.2) (Bi f n tm)=Bi f n a
 | [],[],tm,a,h,_,d=>by cases h;exact⟨rfl,d,rfl⟩
 | q::r,v::s,tm,a,h,g,d=>by
  simp only[Yx,Bsp]at h;obtain⟨j,h2,m⟩:=An1 f h g.2 (d.put (some q) g.1);refine⟨by simp[j],h2,?_⟩;simp only[Bx,List.zip_cons_cons,List.foldl_cons];rw[A4h];exact m
 | [],_::_,_,_,h,_,_=>by cases h
 | _::_,[],_,_,h,_,_=>by cases h
theorem Yn(a:N2 p n tm):Reads f tm (Ks (Bi f n tm)) where
 tmp t:=by simp only[Ks,Act.eval];exact Afw f a t
 const v:=rfl
 func g:=rfl
end
section
section
variable{w:World}(hT:Uf P T)
theorem Bu2 {op:BinOp}{a b:EV}(d:bin T op t a b=some v):v.ok p:=by
 unfold bin at d;split at d
 ·rename_i k a g b
  rw[Bt]at d;split at d
  ·split at d
   ·unfold A95 at d
    split at d
    ·cases d;trivial
    ·split at d<;>(cases d;trivial)
    ·cases d
   ·cases d
  ·rw[Bt]at d
   split at d
   ·unfold Bj0 at d
    split at d
    all_goals first
     | (cases d;done)
     | (cases d;trivial)
     | (obtain⟨_,h2⟩:=Yq d;cases h2;trivial)
     | (split at d<;>first|(cases d;done)|(cases d;trivial))
   ·cases d
 ·split at d
  ·split at d<;>first|(cases d;trivial)|cases d
  ·split at d<;>first|(cases d;trivial)|cases d
  ·cases d
theorem Bjq{cs:List EV}(d:EV.Wz p cs)(g:cs.all EV.one=true)(a:part T t cs off=some v):v.ok p:=by
 unfold part at a;split at a
 ·split at a
  ·split at a
   ·rename_i n m l j
    cases a;obtain⟨_,h2⟩:=Aj7 j;rw[h2,Yi];exact⟨Bdf d _ _,Bd4 g _ _⟩
   ·cases a
  ·cases a
 ·split at a
  ·rename_i q r hd
   cases a;rw[Yi]at hd;exact(Km p cs).1 d _ (aU (by rw[hd];exact aX))
  ·cases a
 ·cases a
theorem Bo9 {x:EV}{size:Nat}{g j m:Option EV}(d:x.ok p)(a:slc x size g j m=some v):v.ok p:=by
 unfold slc at a;split at a
 ·rename_i i off len room op
  have hp:p i:=d;split at a
  ·split at a
   ·cases a
   ·split at a
    ·cases a
    ·simp only[Bt]at a
     repeat' split at a
     all_goals first|(cases a;exact hp)|cases a
  ·split at a
   ·split at a
    ·cases a
    ·split at a
     ·cases a
     ·cases a;exact hp
   ·cases a
 ·split at a
  ·split at a
   ·cases a
   ·split at a
    ·cases a
    ·cases a;exact d
  ·cases a
 ·cases a
include hT in
theorem Brk(j:N2 p n tm)(g:Fz T tm op=some v):v.ok p:=by
 cases op with
 | move x=>exact Fu j g
 | assign x=>exact Fu j g
 | pick c a b=>
  simp only[Fz]at g;split at g
  ·exact Fu j g
  ·exact Fu j g
  ·cases g
 | binOp op t x y u=>
  simp only[Fz]at g;split at g
  ·split at g
   ·exact Bu2 g
   ·cases g
  ·cases g
 | unOp u t x=>
  cases u<;>simp only[Fz]at g
  all_goals first
   | (split at g<;>first|(cases g;trivial)|cases g)
   | cases g
 | nilCheck x=>
  simp only[Fz]at g;split at g
  ·rename_i i o' he
   cases g;exact Fu j he
  ·cases g
 | fieldAddr s x K=>
  simp only[Fz]at g;split at g
  ·rename_i i off he
   have hp:p i:=Fu j he;split at g
   ·split at g
    ·split at g
     ·obtain⟨_,h2⟩:=Yq g;cases h2;exact hp
     ·cases g
    ·cases g
   ·cases g
  ·cases g
 | indexAddr t x ix=>
  simp only[Fz]at g;split at g
  ·split at g
   ·rename_i he
    split at g
    ·obtain⟨_,h2⟩:=Aq g;cases h2;have:=Fu j he;exact this
    ·cases g
   ·rename_i he
    split at g
    ·obtain⟨_,h2⟩:=Aq g;cases h2;have:=Fu j he;exact this
    ·cases g
   ·cases g
  ·cases g
 | index t x ix=>
  simp only[Fz]at g;split at g
  ·split at g
   ·rename_i he
    split at g
    ·obtain⟨_,h2⟩:=Aq g
     have A:=Fu (v:=.agg _) j he;exact Bjq A.1 A.2 h2
    ·cases g
   ·split at g
    ·cases g;trivial
    ·cases g
   ·cases g
  ·cases g
 | field t x K=>
  simp only[Fz]at g;split at g
  ·rename_i he
   split at g
   ·have A:=Fu (v:=.agg _) j he
    exact Bjq A.1 A.2 g
   ·cases g
  ·cases g
 | convert s d x=>
  simp only[Fz]at g;split at g
  ·cases g;trivial
  ·cases g
 | extract x ix=>
  simp only[Fz]at g;split at g
  ·rename_i l he
   split at g
   ·rename_i O r hd
    cases g;rw[Yi]at hd;exact(Km p l).1 (Fu (v:=.tuple l) j he) _ (aU (by rw[hd];exact aX))
   ·cases g
  ·cases g
 | slice t x Q S U=>
  simp only[Fz]at g;split at g
  ·split at g
   ·rename_i he
    split at g
    ·exact Bo9 (x:=.slice _ _ _ _ _) (Fu (v:=.ptr _ _) j he) g
    ·cases g
   ·rename_i he
    split at g
    ·exact Bo9 (Fu j he) g
    ·cases g
   ·cases g
  ·cases g
 | build t ps=>
  have key:∀{z c:List EV} {l:List (Nat × EV)} {pl:Nat->Option (Nat × Nat)},T.zero t=some z->Ad2 tm ps.toList=some l->fill pl z l=some c->(EV.agg c).ok p:=by
   intro z c l pl B C m;obtain⟨i,V,W,_,_,L,J,rfl,_⟩:=hT.zero t z B;have D:=Z7 (Be5 p L) J;have E:=Azk j C;have F:=Ap8 pl m;refine⟨(Km p c).2 (Atg pl (q:=fun v=>v.ok p) m (fun v G=>(Km p _).1 D.1 v G) (fun q H v G=>(Km p _).1 (Z7 (E q H) (F q H)).1 v G)),?_⟩;rw[dM];exact Atg pl (q:=fun v=>v.one=true) m D.2 (fun q H v G=>(Z7 (E q H) (F q H)).2 v G)
  simp only[Fz]at g;split at g
  ·rename_i B C _
   split at g
   ·split at g
    ·rename_i m;cases g;exact key B C m
    ·cases g
   ·cases g
  ·rename_i B C _
   split at g
   ·split at g
    ·rename_i m;cases g;exact key B C m
    ·cases g
   ·cases g
  ·cases g
 | makeFunc fn a b=>
  cases fn<;>simp only[Fz]at g
  all_goals first
   | (split at g
      ·rename_i M hb;cases g;exact⟨Apk j M,Apk j hb⟩
      ·cases g)
   | cases g
 | sliceToArrayPointer t x=>
  simp only[Fz]at g;split at g
  ·rename_i he
   obtain⟨_,h2⟩:=Aq g;cases h2;exact Fu (v:=.slice _ _ _ _ _) j he
  ·cases g
 | _=>cases g
theorem Aza(g:Y9 p h)(j:Y5 f h w){a:List EV}(d:h.get i=some (.chan cap buf))(hb:EV.Wz p a)(s r:Nat):
 Move p f h w f (h.put i (.chan cap a)) (w.setChan (f.b i) cap (Bx f a).toArray false s r false)/\Wf p h (h.put i (.chan cap a)):=
 ⟨Move.setObj (p:=p) j d (o':=.chan cap a) (r:=.chan cap (Bx f a).toArray false s r false) ⟨s,r,rfl⟩,Wf.put g d hb⟩
theorem A17{c:SelectCase}(m:o.op=.select #[c] false){zv:Value}(g:(zeroValue c.elem).run P w=.ok zv w)
 (b:FB) {a:Array Value} (j:execOp (Ks tmps) o=execOp (Ks a) o) (rest:List Nat) (k:List Item) (cs:List Frame) (q:ops[i]? = some o) (hw:Region.wanted o (Go.yielded ops tmps)=true) :
 ∃es,stepG P true (Conc.G (b.at tmps (.inRegion ops (i::rest)::k)) cs) w=.comm (Conc.G (b.at tmps (.inRegion ops (i::rest)::k)) cs)
  #[{ chan:=Ks a c.chan,send:=c.send.map (Ks a),zero:=zv }] false .select w es:=by
 have:=Atc (P:=P) (b:=b) (rest:=rest) (k:=k) (cs:=cs) (w:=w) q hw (by rw[m];rfl);have d:(execOp (Ks tmps) o).run P w=.ok (.comm #[{ chan:=Ks a c.chan,send:=c.send.map (Ks a),zero:=zv }] false .select) w:=by
  rw[j];simp only[execOp,m];simp[g]
 rw[Conc.G,this];simp only[stepG.apply,Sem.runT_eq,d,GStep.after,bM];exact⟨_,rfl⟩
include hT in
theorem Bcd(C:N2 p n tm)(g:Y9 p h)(m:Y5 f h w)(q:execOp (Ks tmps) o=execOp (Ks (Bi f n tm)) o){c:SelectCase}(F:o.op=.select #[c] false)
 (H:Cm tm c.chan=some (.chan i)) (hs:c.send=some x) {u:EV} (y:h.get i=some (.chan cap buf)) (D:Cm tm x=some u) (J:zeroOf T c.elem=some zv)
 (a:Bf (Nat.ble (Nat.succ (len buf)) cap) (some (EV.tuple [.int .i64 0,.bool false],h.put i (.chan cap (buf++[u])))) (some (.tuple [.int .i64 (-1),.bool false],h))=some (v,h')) :
 Ar7 P o tmps p f h w v h':=by
 intro b ops j rest k cs hj hw;have E:=Yn (f:=f) C;obtain⟨r0,d,s,r,rfl⟩:=m.obj i _ y;have A:=(Aw0 hT (f:=f) (w:=w) J).1;obtain⟨es,he⟩:=A17 F A b q rest k cs hj hw;rw[Bl E H,hs,eA,Bl E D]at he;have hok:=(g.get i _ y).2;by_cases hb:buf.length<cap
 ·rw[Zr,Af3 (by omega),Ak]at a
  cases a;have B:EV.Wz p (buf++[u]):=Aep hok ⟨Fu C D,trivial⟩;obtain⟨m1,m2⟩:=Aza g m y B (s+1) r;refine⟨f,_,.one ?_,m1,m2,?_⟩
  ·have:=Conc.step_lone_select_send_room he d (by simpa [Dh]using hb)
   rw[FB.finish_at b _ hj]at this;simpa [X1,Bx,Cr,goInt,Conc.solo,Conc.G,lone]using this
  ·simp[EV.ok,EV.Wz]
 ·rw[Zr,Ai8 (by omega),Bo]at a
  cases a;refine⟨f,w,.one ?_,Move.refl m,Wf.refl g,?_⟩
  ·have:=Conc.step_lone_select_send_full he d (by simpa [Dh]using hb)
   rw[FB.finish_at b _ hj]at this;simpa [X1,Bx,Cr,goInt,Conc.solo,Conc.G,lone]using this
  ·simp[EV.ok,EV.Wz]
include hT in
theorem Beg(C:N2 p n tm)(m:Y9 p h)(q:Y5 f h w)(u:execOp (Ks tmps) o=execOp (Ks (Bi f n tm)) o){c:SelectCase}(D:o.op=.select #[c] false)
 (E:Cm tm c.chan=some (.chan i)) (hs:c.send=none)
 (a:(match buf with
  | v::r=>some (EV.tuple [.int .i64 0,.bool true,v],h.put i (.chan cap r))
  | []=>some (.tuple [.int .i64 (-1),.bool false,zv],h))=some (v,h')) (y:h.get i=some (.chan cap buf)) (F:zeroOf T c.elem=some zv) :
 Ar7 P o tmps p f h w v h':=by
 intro b ops j rest k cs hj hw;have H:=Yn (f:=f) C;obtain⟨r0,d,s,r,rfl⟩:=q.obj i _ y;obtain⟨A,B⟩:=Aw0 hT (f:=f) (w:=w) F;obtain⟨es,he⟩:=A17 D A b u rest k cs hj hw;rw[Bl H E,hs,Option.map_none]at he;have hok:=(m.get i _ y).2;cases buf with
 | cons x l=>
  cases a;obtain⟨m1,m2⟩:=Aza m q y hok.2 s (r+1);refine⟨f,_,.one ?_,m1,m2,?_⟩
  ·have:=Conc.step_lone_select_recv_buf he d (by simp[Bx])
   rw[FB.finish_at b _ hj]at this;simpa [Bx,Cr,goInt,Conc.solo,Conc.G,lone]using this
  ·exact⟨trivial,trivial,EV.ok.mono (fun _ J=>.inl J) _ hok.1,trivial⟩
 | nil=>
  cases a;refine⟨f,w,.one ?_,Move.refl q,Wf.refl m,?_⟩
  ·have:=Conc.step_lone_sel_default he (by
    intro K g;simp only[List.mem_toArray,aO]at g;subst g;exact Conc.noWay_recv d)
   rw[FB.finish_at b _ hj]at this;simpa [commResult,Bx,Cr,goInt,Conc.solo,Conc.G,lone]using this
  ·exact⟨trivial,trivial,B _,trivial⟩
include hT
theorem Bq9(B:N2 p n tm)(q:Y9 p h)(u:Y5 f h w)(j:execOp (Ks tmps) o=execOp (Ks (Bi f n tm)) o)(d:D7 T tm o.op h=some (v,h')):
 Ar7 P o tmps p f h w v h':=by
 have A:=Yn (f:=f) B;cases g:o.op with
 | load t a=>
  rw[g]at d;obtain⟨rfl,h2,C⟩:=Boy hT A q u g d;refine Ar7.Ag5 (by rw[g];rfl) ⟨f,w,_,(by rw[j];exact C),.inl rfl,Move.refl u,Wf.refl q,?_⟩;rw[L9 _ _ _ rfl];exact h2
 | store t a x=>rw[g]at d;exact Ar7.Ag5 (by rw[g];rfl) (by rw[j];exact Bli hT A B q u g d)
 | alloc t=>rw[g]at d;exact Ar7.Ag5 (by rw[g];rfl) (by rw[j];exact Bld hT q u g d)
 | box t x=>rw[g]at d;exact Ar7.Ag5 (by rw[g];rfl) (by rw[j];exact Bqz A B q u g d)
 | makeSlice t x y=>rw[g]at d;exact Ar7.Ag5 (by rw[g];rfl) (by rw[j];exact A6d (n:=n) hT A q u g d)
 | buildSlice t m ps=>rw[g]at d;exact Ar7.Ag5 (by rw[g];rfl) (by rw[j];exact A36 hT A B q u g d)
 | makeMap t r=>rw[g]at d;exact Ar7.Ag5 (by rw[g];rfl) (by rw[j];exact Bcw q u g d)
 | makeChan t x=>rw[g]at d;exact Ar7.Ag5 (by rw[g];rfl) (by rw[j];exact Bap hT A q u g d)
 | lookup t x k ok=>rw[g]at d;exact Ar7.Ag5 (by rw[g];rfl) (by rw[j];exact Bfe (n:=n) hT A q u g d)
 | mapUpdate t m k x=>rw[g]at d;exact Ar7.Ag5 (by rw[g];rfl) (by rw[j];exact A6g hT A B q u g d)
 | call c=>
  rw[g]at d;obtain⟨callee,args,argTypes⟩:=c;cases callee with
  | builtin bi=>
   simp only[D7]at d;split at d
   ·rename_i as has
    have key:∀cs,As2 P (Go.builtin bi argTypes o.type cs (Bx f as).toArray) p f h w v h':=by
     intro cs;obtain⟨s,E,f',w',h2,C,h4,F⟩:=Bdy (ty:=o.type) (cs:=cs) hT q u (Apk B has) d;refine⟨f',w',.value (Cr f' v),?_,.inl rfl,C,h4,F⟩;rw[E];simp only[Sem.run_bind,h2,aI,aV]
    have he:args.map (Ks (Bi f n tm))=(Bx f as).toArray:=by
     rw[<-Aet A has];simp only[<-List.map_toArray,eH]
    obtain⟨f',w',N,E,h2,C,h4,F⟩:=key (args.map fun | .const _=>true|_=>false);refine Ar7.Ag5 (by rw[g];rfl) ⟨f',w',N,?_,h2,C,h4,F⟩;rw[<-E,j];simp only[execOp,g,resolve,Sem.run_bind,aV,aI,invoke,he];rfl
   ·cases d
  | value x=>cases d
  | invoke x m=>cases d
 | select cs bl=>
  rw[g]at d;cases bl with
  | true=>cases d
  | false=>
   simp only[D7]at d;split at d
   ·rename_i c G
    have D:cs = #[c]:=by apply eQ;simpa using G
    subst D;split at d
    ·rename_i i x H hs
     split at d
     ·rename_i cap buf M J L
      split at d
      ·rename_i zv K
       exact Bcd hT B q u j g H hs J L K d
      ·cases d
     ·cases d
    ·rename_i i H hs
     split at d
     ·rename_i cap buf zv J K
      exact Beg hT B q u j g H hs d J K
     ·cases d
    ·cases d
   ·cases d
 | _=>rw[g]at d;cases d
end
end
section
section
variable{w:World}(hT:Uf P T){call:Ah}(hC:Ak3 P call)(hR:Aqx P round)
theorem Move.Bi{f':Loc}{w w':World}(m:Move p f h w f' h' w')(a:N2 p n tm):Bi f n tm=Bi f' n tm:=Nt m.Gf a
theorem Amr(f:Loc)(n:Nat)(tm:Ax)(d:Option Tmp)(v:EV):Bcf (Bi f n tm) d (Cr f v)=Bi f n (Tj n tm d v):=by
 cases d with
 | none=>rfl
 | some d=>exact A4h f n tm d v
include hT hC hR in
theorem Bnh(D:N2 p n tm)(E:Y9 p h)(F:Y5 f h w)(q:execOp (Ks tmps) o=execOp (Ks (Bi f n tm)) o)(a:aop T call round tm o.op h=some (v,h')):
 Ar7 P o tmps p f h w v h':=by
 have G:=Yn (f:=f) D;unfold aop at a;rw[Bt]at a;split at a
 ·rename_i Z
  split at a
  ·rename_i v' H
   cases a;refine Ar7.Ag5 ?_ ⟨f,w,_,(by rw[q];exact Bmt hT f w G H),.inl rfl,Move.refl F,Wf.refl E,?_⟩
   ·cases y:o.op<;>first|rfl|(rw[y]at Z;cases Z)
   ·rw[L9 _ _ _ rfl];exact Brk hT D H
  ·cases a
 ·split at a
  ·rename_i fo args ab heq
   split at a
   ·rename_i g first captured as M has
    obtain⟨⟨fn,S,U,A⟩,V⟩:=hC _ _ _ _ _ a;intro b ops i rest k cs y hw;have J:=Fu (v:=.func g first captured) D M;have u:=Apk D has;have B:EV.Wz p (first++(as++captured)):=Aep J.1 (Aep u J.2);obtain⟨fr,f',w',hs,ad,hl,hm,hwf,C⟩:=V p f w E F B (b.at tmps (.inRegion ops (i::rest)::k)::cs);refine⟨f',w',?_,hm,hwf,C⟩;have he:args.map (Ks (Bi f n tm))=(Bx f as).toArray:=by
     rw[<-Aet G has];simp only[<-List.map_toArray,eH]
    have j:(execOp (Ks tmps) o).run P w=.ok (.enter g (Bx f (first++(as++captured))).toArray) w:=by
     rw[q];have hb:¬fn.body=none:=by cases hx:fn.body<;>simp_all
     have hn:¬fn.name = "runtime.NumGoroutine":=by simpa using A
     simp[execOp,heq,resolve,he,Bl G M,Cr,Deferred.ofValue,invoke,callFunc,S,hn,hb,X1]
    refine .head (A6h y hw (by rw[heq];rfl) j) (hs.trans (.one ?_));rw[<-FB.finish_at b _ y];exact step_leave_returned hl
   ·rename_i l as M has
    obtain⟨st,pd,fn,O,K,ps,asg,body,d,L,hg,W,V⟩:=hR _ _ _ _ _ a;intro b ops i rest k cs y hw;have u:=Apk D has;obtain⟨f',w',hs,hm,hwf,C⟩:=V p f w E F u (b.at tmps (.inRegion ops (i::rest)::k)) cs;refine⟨f',w',?_,hm,hwf,C⟩;have he:args.map (Ks (Bi f n tm))=(Bx f as).toArray:=by
     rw[<-Aet G has];simp only[<-List.map_toArray,eH]
    obtain⟨r0,X,rfl⟩:=F.obj l _ hg;obtain⟨hlen,ah,m⟩:=An1 f W u (E.get l _ hg).2.1;have j:(execOp (Ks tmps) o).run P w=.ok (.round (f.b l) fn (Bi f O L) asg body) w:=by
     rw[q];have Q:Array.foldl (fun tmps (x:Tmp × Value)=>tmps.setIfInBounds x.1 x.2) (Bi f O K) (ps.toArray.zip (Bx f as).toArray)=Bi f O L:=by
      rw[<-m,List.zip_toArray,List.foldl_toArray]
     have Y:(getObj (f.b l)).run P w=.ok (.loop ⟨st,pd,fn,Bi f O K,ps.toArray,asg,body,f.b d⟩) w:=Qf X (by intros;simp);simp only[execOp,heq,resolve,he,Bl G M,Cr,Deferred.ofValue,invoke,Sem.run_bind,aV,aI,Instr.yield,Instr.getLoop,Y];simp[Dh,hlen];exact m
    refine .head (A6j y hw (by rw[heq];rfl) j) ?_;rw[<-FB.finish_at b _ y];exact hs
   ·cases a
  ·rename_i ai
   exact Bq9 hT D E F q a
theorem Bgh(a:N2 p n tm)(ops:Array Oper)(j:Nat):Go.yielded ops (Bi f n tm) j=Ev.yielded ops.toList tm j:=by
 unfold Go.yielded Ev.yielded;rw[A3h,cJ];cases ops[j]? with
 | none=>rfl
 | some o=>
  simp only[Option.bind_some];cases o.dst with
  | none=>rfl
  | some d=>
   simp only[Option.bind_some];rw[Akc];by_cases hd:d<n
   ·rw[aG hd]
    unfold tmp;cases g:tm.get d with
    | none=>rfl
    | some v=>cases v<;>rfl
   ·rw[aF hd,a.out d (Nat.le_of_not_lt hd)]
theorem A7n(a:N2 p n tm)(ops:Array Oper)(o:Oper):Region.wanted o (Go.yielded ops (Bi f n tm))=Ev.wanted ops.toList tm o.guard:=by
 unfold Region.wanted Ev.wanted;cases o.guard with
 | none=>rfl
 | some x=>
  obtain⟨j,want⟩:=x;simp only[];rw[Bgh a];cases Ev.yielded ops.toList tm j with
  | none=>rfl
  | some b=>cases b<;>cases want<;>rfl
include hT hC hR in
theorem A9y(ops:Array Oper):∀{l:List Oper} {i:Nat} {p:Nat->Prop} {f:Loc} {h:Ab} {w:World} {tm j:Ax} {h':Ab},l=ops.toList.drop i->N2 p n tm->Y9 p h->Y5 f h w ->
 Avx T call round n ops.toList l tm h=some (j,h')->∀(b:FB) (k:List Item) (cs:List Frame),
  ∃f' w',Steps P (lone (b.at (Bi f n tm) (.inRegion ops (List.range' i l.length)::k)) cs w) (lone (b.at (Bi f' n j) (.inRegion ops []::k)) cs w') /\
   Move p f h w f' h' w'/\Wf p h h'/\N2 (grow p h h') n j
 | [],i,p,f,h,w,tm,j,h',J,q,F,G,a,b,k,cs=>by
  simp only[Avx]at a;cases a;exact⟨f,w,.refl _ _,Move.refl G,Wf.refl F,by rw[L9 _ _ _ rfl];exact q⟩
 | o::r,i,p,f,h,w,tm,j,h',J,q,F,G,a,b,k,cs=>by
  have H:ops[i]? = some o:=by
   have:=congrArg (fun l=>l[0]?) J;simp only[bL,dO,dL,cJ]at this;exact this.symm
  have Q:r=ops.toList.drop (i+1):=by
   have:=congrArg List.tail J;simpa [List.tail_drop]using this
  obtain⟨dst,op,ty,ps,K,g⟩:=o;simp only[Avx]at a;rw[Bt]at a;have u:=A7n (f:=f) q ops ⟨dst,op,ty,ps,K,g⟩;split at a
  ·rename_i hw
   rw[hw]at u;split at a
   ·rename_i v S E
    obtain⟨f1,w1,L,y,m,M⟩:=Bnh hT hC hR q F G (o:=⟨dst,op,ty,ps,K,g⟩) rfl E b ops i (List.range' (i+1) r.length) k cs H u;have A:N2 (grow p h S) n (Tj n tm dst v):=(q.mono fun _ H=>.inl H).put dst M;obtain⟨f2,w2,B,C,d,D⟩:=A9y ops Q A m.hok y.rep a b k cs;refine⟨f2,w2,?_,y.trans C,m.trans d,?_⟩
    ·rw[bH,fT]
     refine L.trans ?_;rw[y.Bi q,Amr];exact B
    ·rw[<-Aja p m.next d.next];exact D
   ·cases a
  ·rename_i hw
   have O:Region.wanted ⟨dst,op,ty,ps,K,g⟩ (Go.yielded ops (Bi f n tm))=false:=by rw[u];simpa using hw
   have A:N2 p n (Tj n tm dst (.tuple [])):=q.put dst trivial;obtain⟨f2,w2,B,C,d,D⟩:=A9y ops Q A F G a b k cs;refine⟨f2,w2,?_,C,d,D⟩;rw[bH,fT];refine .head (A2d H O) ?_;have:(undef:Value)=Cr f (.tuple []):=rfl;rw[this,Amr];exact B
end
end
structure AWf(h h':Ab):Prop where
 next:h.next<=h'.next
 mw:h'.mw<=h.mw
 same:∀q,q<h'.mw->q<h.next->h'.get q=h.get q
 live:∀q o,h'.get q=some o->(∃o',h.get q=some o')\/h.next<=q
 lt:(∀q o,h.get q=some o->q<h.next)->∀q o,h'.get q=some o->q<h'.next
theorem AWf.refl(h:Ab):AWf h h:=⟨aE _,aE _,fun _ _ _=>rfl,fun _ o a=>.inl ⟨o,a⟩,fun H=>H⟩
theorem AWf.trans {a b c:Ab}(x:AWf a b)(y:AWf b c):AWf a c where
 next:=bN x.next y.next
 mw:=bN y.mw x.mw
 same q d h2:=(y.same q d (aK h2 x.next)).trans (x.same q (aK d y.mw) h2)
 live q o g:=by
  rcases y.live q o g with⟨o',d⟩|d
  ·exact x.live q o' d
  ·exact .inr (bN x.next d)
 lt H:=y.lt (x.lt H)
theorem AWf.put{o:Ec}(d:h.get i=some o)(o':Ec):AWf h (h.put i o') where
 next:=aE _
 mw:=by rw[Ab.Atl];exact Nat.min_le_right _ _
 same q g _:=by rw[Ab.Atl]at g;rw[Ab.get_put,aF (by omega)]
 live q x a:=by
  rw[Ab.get_put]at a;split at a
  ·rename_i e;subst e;exact .inl ⟨o,d⟩
  ·exact .inl ⟨x,a⟩
 lt H q x a:=by
  rw[Ab.get_put]at a;split at a
  ·rename_i e;subst e;exact H _ _ d
  ·exact H _ _ a
theorem AWf.new(h:Ab)(o:Ec):AWf h (h.new o) where
 next:=Nat.le_succ _
 mw:=aE _
 same q _ h2:=by rw[Ab.Nq,aF (by omega)]
 live q x a:=by
  rw[Ab.Nq]at a;split at a
  ·rename_i e;exact .inr (by omega)
  ·exact .inl ⟨x,a⟩
 lt H q x a:=by
  rw[Ab.Nq]at a;rw[Ab.D8];split at a
  ·rename_i e;omega
  ·exact Nat.lt_succ_of_lt (H _ _ a)
theorem AWf.del(h:Ab)(i:Nat):AWf h (h.del i) where
 next:=aE _
 mw:=by rw[Ab.A45];exact Nat.min_le_right _ _
 same q d _:=by rw[Ab.A45]at d;rw[Ab.Ae0,aF (by omega)]
 live q x a:=by
  rw[Ab.Ae0]at a;split at a
  ·cases a
  ·exact .inl ⟨x,a⟩
 lt H q x a:=by
  rw[Ab.Ae0]at a;split at a
  ·cases a
  ·exact H _ _ a
theorem A7b{vs:List EV}(a:Oq h i off vs=some h'):AWf h h':=by
 unfold Oq at a;split at a
 ·rename_i d
  split at a
  ·cases a;exact .put d _
  ·cases a
 ·rename_i d
  split at a
  ·cases a;exact .put d _
  ·cases a
 ·cases a
theorem Bqg{st:TypeId}{s x:EV}(a:append T st s x h=some (v,h')):AWf h h':=by
 unfold append at a;split at a
 ·split at a
  ·split at a
   ·rw[Bt]at a
    split at a
    ·split at a
     ·obtain⟨_,h2⟩:=Aq a;cases h2;exact .refl _
     ·cases a;exact .refl _
     ·cases a
    ·obtain⟨_,h2⟩:=Aq a
     split at h2
     ·split at h2
      ·cases h2;exact .new _ _
      ·obtain⟨_,d⟩:=Aq h2
       split at d
       ·rw[Bt]at d
        split at d
        ·obtain⟨_,d⟩:=Aq d
         obtain⟨_,d⟩:=Aq d;split at d
         ·obtain⟨_,d⟩:=Aq d
          obtain⟨_,d⟩:=Aq d;obtain⟨_,d⟩:=Aq d;cases d;exact(AWf.del _ _).trans (.new _ _)
         ·cases d
        ·obtain⟨_,d⟩:=Yq d
         cases d;exact .new _ _
       ·cases d
      ·cases h2
     ·cases h2
   ·cases a
  ·cases a
 ·cases a
theorem Bkr{b:Builtin}(a:builtin T b ts args h=some (v,h')):AWf h h':=by
 unfold builtin at a;split at a
 ·split at a
  ·split at a
   ·exact Bqg a
   ·cases a
  ·cases a
 ·split at a
  ·split at a
   ·cases a;exact .refl _
   ·split at a<;>first|(cases a;done)|(cases a;exact .refl _)
   ·cases a;exact .refl _
   ·split at a<;>first|(cases a;done)|(cases a;exact .refl _)
   ·cases a
  ·cases a
 ·split at a
  ·split at a
   ·split at a
    ·obtain⟨_,h2⟩:=Yq a
     split at h2
     ·split at h2
      ·split at h2
       ·rename_i hw;cases h2;exact A7b hw
       ·cases h2
      ·cases h2
     ·cases h2
    ·cases a
   ·cases a
  ·cases a
 ·split at a
  ·split at a
   ·obtain⟨_,h2⟩:=Aq a
    split at h2
    ·rename_i d
     split at h2
     ·cases h2;exact .put d _
     ·cases h2;exact .put d _
     ·cases h2
    ·cases h2
   ·cases a
  ·cases a
 ·split at a<;>first|(cases a;done)|(cases a;exact .refl _)
 ·split at a<;>first|(cases a;done)|(cases a;exact .refl _)
 ·cases a
theorem Bve(a:D7 T tm op h=some (v,h')):AWf h h':=by
 unfold D7 at a;split at a
 ·
  split at a
  ·split at a
   ·split at a
    ·split at a<;>first|(cases a;done)|(cases a;exact .refl _)
    ·cases a
   ·split at a<;>first|(cases a;done)|(cases a;exact .refl _)
   ·cases a
  ·cases a
 ·
  split at a
  ·obtain⟨_,h2⟩:=Aq a
   obtain⟨_,h2⟩:=Aq h2;split at h2
   ·rename_i hw;cases h2;exact A7b hw
   ·cases h2
  ·cases a
 ·split at a<;>first|(cases a;done)|(cases a;exact .new _ _)
 ·split at a
  ·obtain⟨_,h2⟩:=Aq a;cases h2;exact .new _ _
  ·cases a
 ·split at a
  ·exact Bkr a
  ·cases a
 ·split at a
  ·split at a
   ·obtain⟨_,h2⟩:=Aq a
    split at h2
    ·cases h2;exact .new _ _
    ·cases h2
   ·cases a
  ·cases a
 ·split at a
  ·split at a
   ·obtain⟨_,h2⟩:=Aq a
    obtain⟨_,h2⟩:=Aq h2;cases h2;exact .new _ _
   ·cases a
  ·cases a
 ·cases a;exact .new _ _
 ·split at a
  ·split at a
   ·obtain⟨_,h2⟩:=Aq a;cases h2;exact .new _ _
   ·cases a
  ·cases a
 ·split at a
  ·obtain⟨_,h2⟩:=Aq a
   split at h2
   ·split at h2
    ·cases h2;exact .refl _
    ·split at h2<;>first|(cases h2;done)|(cases h2;exact .refl _)
    ·cases h2
   ·cases h2
  ·cases a
 ·split at a
  ·obtain⟨_,h2⟩:=Aq a
   split at h2
   ·rename_i d
    split at h2
    ·cases h2;exact .put d _
    ·cases h2;exact .put d _
    ·cases h2
   ·cases h2
  ·cases a
 ·split at a
  ·split at a
   ·split at a
    ·rename_i d _
     split at a
     ·rw[Bt]at a
      split at a
      ·cases a;exact .put d _
      ·cases a;exact .refl _
     ·cases a
    ·cases a
   ·split at a
    ·rename_i d _
     split at a
     ·cases a;exact .put d _
     ·cases a;exact .refl _
    ·cases a
   ·cases a
  ·cases a
 ·cases a
def Aa2(c:Ah):Prop:=∀g args h v h',c g args h=some (v,h')->AWf h h'
section
variable{call:Ah}(hC:Aa2 call)(hR:Aa2 round)
include hC hR
theorem Btf(a:aop T call round tm op h=some (v,h')):AWf h h':=by
 unfold aop at a;rw[Bt]at a;split at a
 ·split at a<;>first|(cases a;done)|(cases a;exact .refl _)
 ·split at a
  ·split at a
   ·exact hC _ _ _ _ _ a
   ·exact hR _ _ _ _ _ a
   ·cases a
  ·exact Bve a
theorem Bhb{ops:List Oper}:∀{l:List Oper} {tm d:Ax} {h h':Ab},Avx T call round n ops l tm h=some (d,h')->AWf h h'
 | [],_,_,_,_,a=>by cases a;exact .refl _
 | ⟨dst,op,ty,ps,m,g⟩::r,tm,d,h,h',a=>by
  simp only[Avx]at a;rw[Bt]at a;split at a
  ·split at a
   ·rename_i j
    exact(Btf hC hR j).trans (Bhb a)
   ·cases a
  ·exact Bhb a
end
end Go.Ev
