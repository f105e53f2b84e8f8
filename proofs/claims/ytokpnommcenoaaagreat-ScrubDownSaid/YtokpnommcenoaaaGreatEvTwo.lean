import Derived.Test.YtokpnommcenoaaaGreatEvOne
import Derived.Conc.LoneSelect
import Derived.Conc.LoneSelectN
set_option linter.all false
namespace Go.Ev
variable {i n cap off:Nat}{ρ:Operand->Value}{tm:Bb}{o:Oper}{e t ty:TypeId}{ps:Array (Nat × Operand)}{v zv:EV}{h h':Ab}{x:Operand}{ents:List MapEntry}{es:List (EV × EV)}{P:Program}{w':World}{base:Option Addr}{op:Op}{ts:Array TypeId}{buf args:List EV}{ops:Array Oper}{tmps:Array Value}{p:Nat->Prop}{f:Loc}{T:Hh}{round:Ai}
section
section
variable{w:World}(hT:Pe P T)
include hT
theorem A1e(L:Reads f tm ρ)(G:Lh p n tm)(M:Tk p h)(O:Tz f h w)
 {m:Nat} (Q:o.op=.buildSlice t m ps) (a:Du T tm (.buildSlice t m ps) h=some (v,h')) :
 Apn P (execOp ρ o) p f h w v h':=by
 simp only[Du]at a;split at a
 ·rename_i e l hu E
  split at a
  ·rename_i s z hs S
   obtain⟨U,h2⟩:=Aq a;split at h2
   ·rename_i c C
    cases h2;simp only[cv,Nat.mul_eq]at U;obtain⟨u,V,H,W,_,_,X,i,i1,i2,i3⟩:=Acf hT f w S;obtain⟨i',J,j2,j3⟩:=hT.size e s hs;have F:s=z.length:=by rw[i1]at J;cases J;omega
    subst F;obtain⟨c1,c2⟩:=U5 (X p) V;rw[<-H]at c1 c2;have d1:∀v∈c,v.ok p:=Aqi (fun i=>some (Nat.mul i z.length,z.length)) C (fun v j=>(Ho p _).1 c1 v (Av5 j))
     (fun q y v j=>(Ho p _).1 (U5 (Avk G E q y) (Ama _ C q y)).1 v j)
    have d2:∀v∈c,v.one=true:=Aqi (fun i=>some (Nat.mul i z.length,z.length)) C (fun v j=>c2 v (Av5 j))
     (fun q y v j=>(U5 (Avk G E q y) (Ama _ C q y)).2 v j)
    obtain⟨f',w',K,Y,Z,r4⟩:=Aml (P:=P) M O e ((Ho p _).2 d1) (by simpa using d2);refine⟨f',w',_,?_,.inl rfl,Y,Z,r4⟩;have A:=Avb f (fun i=>some (Nat.mul i z.length,z.length)) (fun i=>some (i*z.length,z.length)) (fun i q y=>y) C;have D:(ps.map fun(i,x)=>(i,ρ x)).toList=l.map fun(i,v)=>(i,Cp f v):=by
     rw[Array.toList_map,Amu L E]
    have B:¬(2^24<m*z.length):=by omega
    simp only[execOp,Q,Instr.buildSlice,Sem.run_bind,Dx hT w hu,aI,Gg hT w hs,gt_iff_lt,B,aY,aS];by_cases d:m*z.length=0
    ·have er:rep z m = []:=bX.1 (by rw[Al3];exact d)
     have e0:∀g:Nat->Value,Array.map g (Array.range 0)=(Bp f []).toArray:=fun g=>by simp[Bp]
     rw[er]at A;simp only[d,bI,Sem.run_bind,aS,aI];rw[e0,D,A];simp only[Sem.run_bind,K,aI,aS];simp[Cp]
    ·rw[aM d]
     simp only[Sem.run_bind,W,aS,aI,Ts,<-H];rw[Ba7 f z m d,D,A];simp only[Sem.run_bind,K,aI,aS];simp[Cp]
   ·cases h2
  ·cases a
 ·cases a
omit hT in
theorem A9o(d:Tk p h)(g:Tz f h w)
 {r:Option Operand} (j:o.op=.makeMap t r) (a:Du T tm (.makeMap t r) h=some (v,h')) :
 Apn P (execOp ρ o) p f h w v h':=by
 cases r with
 | some x=>simp[Du]at a
 | none=>
  simp only[Du]at a;cases a;refine⟨f.set h.next w.heap.size 0,{ w with heap:=w.heap.push (.map #[] 0) },_,?_,.inl rfl,Move.new d g 0 rfl ⟨#[],0,rfl,rfl⟩ rfl rfl rfl,Wf.new d (by simp[By.ok]),.inr ⟨aD _,by rw[Ab.Di];omega⟩⟩;simp only[execOp,j,Instr.makeMap,Cp,Loc.Xr];simp
theorem A6u(q:Reads f tm ρ)(j:Tk p h)(u:Tz f h w)
 (y:o.op=.makeChan t x) (a:Du T tm (.makeChan t x) h=some (v,h')) :
 Apn P (execOp ρ o) p f h w v h':=by
 simp only[Du]at a;split at a
 ·rename_i d e k n hu A
  split at a
  ·rename_i s hs
   obtain⟨m,h2⟩:=Aq a;cases h2;simp only[cv]at m;obtain⟨i,i1,i2,i3⟩:=hT.size e s hs;have g:¬(((n:Int)<0)\/((n:Int)>IntKind.i64.max)\/((i.bytes:Int)*n>2^48-112)):=by
    have:i.bytes*n<=1048576*65536:=fm i3 m;have e:((i.bytes*n:Nat):Int)=(i.bytes:Int)*n:=by simp
    have e2:IntKind.i64.max=9223372036854775807:=rfl;omega
   refine⟨f.set h.next w.heap.size 0,{ w with heap:=w.heap.push (.chan n #[] false 0 0 false) },_,?_,.inl rfl,Move.new j u 0 rfl ⟨0,0,rfl⟩ rfl rfl rfl,Wf.new j trivial,.inr ⟨aD _,by rw[Ab.Di];omega⟩⟩;simp only[execOp,y,Instr.makeChan,Bl q A,Cp,asInt,asIntOf,Sem.run_bind,aS,aI,Dx hT w hu,typeInfo,fP,i1,aX];rw[aM g];simp[Loc.Xr]
  ·cases a
 ·cases a
omit hT in
theorem A47:∀{a b:List EV},Ey a b=some true->a=b
 | [],[],_=>rfl
 | x::r,y::s,h=>by
  unfold Ey at h;split at h
  ·rename_i g
   have m:=A47 h;have:x=y:=by
    unfold Agv at g;split at g
    ·obtain⟨u,h2⟩:=Aq g
     obtain rfl:=Aqb u;cases d:eqB _ _ with
     | false=>rw[d]at h2;cases h2
     | true=>rw[Ajz]at d;rw[cO d]
    ·rename_i p q
     have j:=fU g;rw[Az7]at j;rw[Bh8 j]
    ·rename_i p q
     cases p<;>cases q<;>first|rfl|(cases g)
    ·cases g
   rw[this,m]
  ·split at h<;>cases h
  ·cases h
 | [],_::_,h=>by cases h
 | _::_,[],h=>by cases h
omit hT in
theorem Bg9 {a b:EV}{r:Bool}(h:Agv a b=some r):(∃k n,a=.int k n)\/(∃c,a=.bool c)\/(∃s,a=.str s):=by
 unfold Agv at h;split at h
 ·exact .inl ⟨_,_,rfl⟩
 ·exact .inr (.inr ⟨_,rfl⟩)
 ·exact .inr (.inl ⟨_,rfl⟩)
 ·cases h
theorem Qr{k:EV}(d:Om T t k=true)(e:Bool):(Instr.checkKey e 10000 t (Cp f k)).run P w=.ok () w:=by
 unfold Om at d;split at d
 ·rename_i a
  rw[Bn]at d;split at d
  ·rename_i g
   split at d
   ·rename_i sh j
    rw[Bn]at d;split at d
    ·rename_i hs
     split at d
     ·exact(hT.key t g).2 f w e a sh j hs
     ·cases d
    ·cases d
   ·cases d
  ·cases d
 ·rename_i kk n
  split at d
  ·rename_i m hu
   rw[Instr.checkKey.eq_def];simp[Dx hT w hu,Cp]
  ·cases d
 ·cases d
omit hT in
def A30(f:Loc)(ents:List MapEntry)(es:List (EV × EV)):Prop:=ents.map (fun e=>(e.key,e.val))=es.map (fun e=>(Cp f e.1,Cp f e.2))
theorem Bbn {g:IntKind}{kk:IntKind}{n:Int}(j:Nat.beq (O2 kk) (O2 g)=true):∀{ents:List MapEntry} {es:List (EV × EV)} {i:Nat} {r:Option (Nat × EV)},A30 f ents es->Hn (.int kk n) es i=some r ->
 Instr.findNow (.int g) (.int kk n) ents i=some (r.map fun x=>(x.1,Cp f x.2))
 | [],[],i,r,_,h=>by simp only[Hn]at h;cases h;rfl
 | u::ents,(a,b)::es,i,r,he,h=>by
  simp only[A30,cR,List.cons.injEq,eR]at he;obtain⟨⟨e1,e2⟩,e3⟩:=he;unfold Hn at h;unfold Instr.findNow;have q:∀c,Axg (.int kk n) a=some c->Instr.sameNow (.int g) (.int kk n) u.key=some c:=by
   intro c d;unfold Axg at d;split at d
   ·rename_i m;cases m
   ·rename_i A B C b1 m
    cases m;obtain⟨y,h2⟩:=Aq d;obtain rfl:=Aqb y;cases h2;rw[e1];simp[Cp,Instr.sameNow,Ajz];rfl
   ·cases d
  split at h
  ·rename_i d
   cases h;rw[q _ d,e2];rfl
  ·rename_i d
   rw[q _ d];exact Bbn j e3 h
  ·cases h
 | [],_::_,_,_,he,_=>by simp[A30]at he
 | _::_,[],_,_,he,_=>by simp[A30]at he
theorem A8o{sh:List Nat}(g:T.eqs t=some sh){a:List EV}(q:shaped sh a=true):∀{ents:List MapEntry} {es:List (EV × EV)} {i:Nat} {r:Option (Nat × EV)},A30 f ents es->Hn (.agg a) es i=some r ->
 (Instr.findAsking t (Cp f (.agg a)) ents i).run P w=.ok (r.map fun x=>(x.1,Cp f x.2)) w
 | [],[],i,r,_,h=>by simp only[Hn]at h;cases h;rfl
 | y::ents,(b,c)::es,i,r,he,h=>by
  simp only[A30,cR,List.cons.injEq,eR]at he;obtain⟨⟨e1,e2⟩,e3⟩:=he;unfold Hn at h;unfold Instr.findAsking;have u:∀d,Axg (.agg a) b=some d->(Op.equal t (Cp f (.agg a)) y.key).run P w=.ok d w:=by
   intro d hd;unfold Axg at hd;split at hd
   ·rename_i j
    cases j;rw[e1];exact(hT.eqs t sh g).2 f w _ _ d hd q
   ·rename_i j;cases j
   ·cases hd
  split at h
  ·rename_i m
   cases h;simp only[Sem.run_bind,u _ m,aI,bI,aS,e2];rfl
  ·rename_i m
   simp only[Sem.run_bind,u _ m,aI,aW,aY];exact A8o g q e3 h
  ·cases h
 | [],_::_,_,_,he,_=>by simp[A30]at he
 | _::_,[],_,_,he,_=>by simp[A30]at he
theorem Wh{k:EV}(d:Om T t k=true){r:Option (Nat × EV)}(he:A30 f ents es)(hm:Hn k es 0=some r):
 (Instr.findKey t (Cp f k) ents).run P w=.ok (r.map fun x=>(x.1,Cp f x.2)) w:=by
 unfold Om at d;split at d
 ·rename_i a
  rw[Bn]at d;split at d
  ·rename_i g
   split at d
   ·rename_i sh q
    rw[Bn]at d;split at d
    ·rename_i y
     obtain⟨j,u,m⟩:=(hT.key t g).1;simp only[Instr.findKey,underlying,Sem.run_bind,fP,u,aI,aS];cases ents with
     | nil=>
      cases es with
      | nil=>simp only[Hn]at hm;cases hm;rfl
      | cons x r=>simp[A30]at he
     | cons A ents=>
      have:Instr.findNow j (Cp f (.agg a)) (A::ents) 0=none:=by
       cases j<;>first|(simp[Ax1]at m;done)|simp[Instr.findNow,Instr.sameNow,Cp]
      rw[this];exact A8o hT q y he hm
    ·cases d
   ·cases d
  ·cases d
 ·rename_i kk n
  split at d
  ·rename_i B hu
   have:=Bbn (f:=f) hT d he hm;simp only[Instr.findKey,Sem.run_bind,Dx hT w hu,aI,Cp,this,aS]
  ·cases d
 ·cases d
omit hT in
theorem Al5 {k:EV}:∀{es:List (EV × EV)} {i j:Nat} {v:EV},Hn k es i=some (some (j,v))->∃a,i<=j/\es[j-i]? = some (a,v)/\Axg k a=some true
 | [],i,j,v,h=>by simp[Hn]at h
 | (a,b)::es,i,j,v,h=>by
  unfold Hn at h;split at h
  ·rename_i d
   cases h;exact⟨a,aD _,by simp,d⟩
  ·obtain⟨g,q,h2,m⟩:=Al5 h
   refine⟨g,by omega,?_,m⟩;have:j-i=(j-Nat.succ i)+1:=by omega
   rw[this];simpa using h2
  ·cases h
omit hT in
theorem Bey {k a:EV}(h:Axg k a=some true):k=a:=by
 unfold Axg at h;split at h
 ·rw[A47 h]
 ·obtain⟨g,h2⟩:=Aq h
  obtain rfl:=Aqb g;cases d:eqB _ _ with
  | false=>rw[d]at h2;cases h2
  | true=>rw[Ajz]at d;rw[cO d]
 ·cases h
end
end
section
theorem Od{w:World}{r:Nat}{o:Obj}(h:w.heap[r]? = some o)(a:∀c e z,o≠.cells c e z):(getObj r).run P w=.ok o w:=by
 unfold getObj;simp only[Sem.run,h]
theorem Qp{w:World}{r:Nat}{o o':Obj}(h:w.heap[r]? = some o)(a:∀c e z,o≠.cells c e z):(setObj r o').run P w=.ok () { w with heap:=w.heap.setIfInBounds r o' }:=by
 unfold setObj;simp only[Sem.run,h]
section
variable{w:World}
theorem Move.setObj(a:Tz f h w){o o':By}(d:h.get i=some o){r:Obj}(h2:Q7 f i o' r):
 Move p f h w f (h.put i o') { w with heap:=w.heap.setIfInBounds (f.b i) r }:=by
 have g:=a.lt d;refine Move.put a d (r:=r) ?_ h2 (fun b hb=>?_) ?_ rfl rfl rfl
 ·simp[g]
 ·simp[Array.getElem?_setIfInBounds,cT hb]
 ·simp
variable (hT:Pe P T)
include hT
theorem Atg(a:zeroOf T t=some v):(zeroValue t).run P w=.ok (Cp f v) w/\∀q,v.ok q:=by
 unfold zeroOf at a;split at a
 ·rename_i z d
  obtain⟨u,B,C,j,y,A,m,_⟩:=Acf hT f w d;split at a
  ·rename_i g
   cases a;rw[<-y g];exact⟨j,m⟩
  ·rename_i g
   have e:=A g;split at a
   ·rename_i D
    cases a;cases e;exact⟨j,m⟩
   ·cases a
  ·cases a
 ·cases a
theorem Bcc {n:Nat}(m:Reads f tm ρ)(A:Tk p h)(B:Tz f h w)
 {k:Operand} {ok:Bool} (D:o.op=.lookup t x k ok) (d:Du T tm (.lookup t x k ok) h=some (v,h')) :
 Apn P (execOp ρ o) p f h w v h':=by
 simp only[Du]at d;split at d
 ·rename_i L e i M hu q E
  obtain⟨y,h2⟩:=Aq d;split at h2
  ·rename_i es F
   obtain⟨r,H,ents,clock,J,a3⟩:=B.obj i _ F;obtain⟨_,a4⟩:=A.get i _ F;subst J;have Ae8:=Od (P:=P) H (by intro c e z q;cases q);split at h2
   ·rename_i j u hm
    cases h2;have C:=Wh (w:=w) (f:=f) hT y a3 hm;obtain⟨a,_,b2,_⟩:=Al5 hm;have g:u.ok p:=(a4 _ (dO b2)).2;refine⟨f,w,_,?_,.inl rfl,Move.refl B,Wf.refl A,?_⟩
    ·simp only[execOp,D,Instr.lookup,Bl m q,Bl m E,Cp,Sem.run_bind,Dx hT w hu,aI,Ae8,aS,Qr hT y,C,dV]
     cases ok<;>rfl
    ·rw[Ju p h h rfl]
     cases ok
     ·exact g
     ·exact⟨g,trivial,trivial⟩
   ·rename_i hm
    split at h2
    ·rename_i zv K
     cases h2;obtain⟨z1,G⟩:=Atg (w:=w) (f:=f) hT K;have C:=Wh (w:=w) (f:=f) hT y a3 hm;refine⟨f,w,_,?_,.inl rfl,Move.refl B,Wf.refl A,?_⟩
     ·simp only[execOp,D,Instr.lookup,Bl m q,Bl m E,Cp,Sem.run_bind,Dx hT w hu,aI,Ae8,aS,Qr hT y,C,Option.map_none,z1]
      cases ok<;>rfl
     ·rw[Ju p h h rfl]
      cases ok
      ·exact G p
      ·exact⟨G p,trivial,trivial⟩
    ·cases h2
   ·cases h2
  ·cases h2
 ·cases d
omit hT in
theorem Aw1(n:Nat)(k:IntKind)(a:Int):Instr.sameBits n (.int k a) (.int k a)=true:=by
 unfold Instr.sameBits;simp
omit hT in
theorem Asm(n:Nat)(f:Loc):∀{a:List EV} {r:Bool},Ey a a=some r->((Bp f a).zip (Bp f a)).all (fun(x,y)=>Instr.sameBits n x y)=true
 | [],_,_=>rfl
 | x::r,s,h=>by
  unfold Ey at h;have u:∃c,Agv x x=some c/\∃q,Ey r r=some q:=by
   split at h
   ·rename_i j;exact⟨_,j,_,h⟩
   ·rename_i j
    split at h
    ·rename_i q g;exact⟨_,j,_,g⟩
    ·cases h
   ·cases h
  obtain⟨c,j,q,g⟩:=u;simp only[Bp,List.zip_cons_cons,List.all_cons,Asm n f g,Bool.and_true];rcases Bg9 j with⟨k,m,rfl⟩|⟨d,rfl⟩|⟨d,rfl⟩
  ·exact Aw1 n k m
  ·simp only[Cp];unfold Instr.sameBits;simp
  ·simp only[Cp];unfold Instr.sameBits;rw[<-Az7,Arj];simp
omit hT in
theorem A7g{k:EV}(d:Om T t k=true):Instr.sameBits 10000 (Cp f k) (Cp f k)=true:=by
 unfold Om at d;split at d
 ·rename_i a
  rw[Bn]at d;split at d
  ·split at d
   ·rw[Bn]at d
    split at d
    ·split at d
     ·rename_i r g
      have:=Asm 9999 f g;simp only[Cp];unfold Instr.sameBits;simpa using this
     ·cases d
    ·cases d
   ·cases d
  ·cases d
 ·exact Aw1 _ _ _
 ·cases d
theorem A31(D:Reads f tm ρ)(J:Lh p n tm)(L:Tk p h)(M:Tz f h w)
 {m k:Operand} (Q:o.op=.mapUpdate t m k x) (y:Du T tm (.mapUpdate t m k x) h=some (v,h')) :
 Apn P (execOp ρ o) p f h w v h':=by
 simp only[Du]at y;split at y
 ·rename_i Y e i F u hu hm K B
  obtain⟨G,h2⟩:=Aq y;split at h2
  ·rename_i es E
   obtain⟨r,S,ents,clock,W,a3⟩:=M.obj i _ E;obtain⟨_,a4⟩:=L.get i _ E;subst W;have Ae8:=Od (P:=P) S (by intro c e z B;cases B);have C:=fun o'=>Qp (P:=P) (o':=o') S (by intro c e z B;cases B)
   split at h2
   ·rename_i j X g
    cases h2;have O:=Wh (w:=w) (f:=f) hT G a3 g;obtain⟨a,_,b2,b3⟩:=Al5 g;obtain rfl:=Bey b3;simp only[Nat.sub_zero]at b2;have H:((ents[j]?).map (·.key)).getD (Cp f F)=Cp f F:=by
     have A:(ents.toList.map (fun e=>(e.key,e.val)))[j]? = some (Cp f F,Cp f X):=by
      rw[a3,bA,b2];rfl
     rw[bA,cK]at A;cases he:ents[j]? with
     | none=>rw[he]at A;cases A
     | some U=>rw[he]at A;simp only[dV,cP,eR]at A;simp[A.1]
    refine⟨f,_,.skip,?_,.inr ⟨rfl,rfl⟩,Move.setObj M E (r:=.map (ents.modify j fun U=>{ U with key:=Cp f F,val:=Cp f u }) clock) ⟨_,_,rfl,?_⟩,Wf.put L E ?_,trivial⟩
    ·simp only[execOp,Q,Instr.mapUpdate,Bl D hm,Bl D K,Bl D B]
     simp only[Cp,Sem.run_bind,Dx hT w hu,aI,Ae8,Qr hT G,O,dV,H,Instr.keyThatStays,A7g G,bI,aS,C]
    ·rw[List.map_set,<-a3]
     apply eE;intro q;simp only[Array.toList_modify,bA,List.getElem?_modify,List.getElem?_set,bZ];by_cases V:j=q
     ·subst V
      have A:j<ents.toList.length:=by
       have:=(bJ.1 b2).1;have e:=congrArg List.length a3;simp only[bZ]at e;omega
      simp at A;simp[A]
     ·simp[V]
    ·intro e' d
     rcases dH d with d|rfl
     ·exact a4 e' d
     ·exact⟨Ez J K,Ez J B⟩
   ·rename_i g
    cases h2;have O:=Wh (w:=w) (f:=f) hT G a3 g;refine⟨f,_,.skip,?_,.inr ⟨rfl,rfl⟩,Move.setObj M E (r:=.map (ents.push { key:=Cp f F,val:=Cp f u,born:=clock }) (clock+1)) ⟨_,_,rfl,?_⟩,Wf.put L E ?_,trivial⟩
    ·simp only[execOp,Q,Instr.mapUpdate,Bl D hm,Bl D K,Bl D B]
     simp only[Cp,Sem.run_bind,Dx hT w hu,aI,Ae8,Qr hT G,O,Option.map_none,aS,C]
    ·simp[a3]
    ·intro e' d
     rcases bP.1 d with d|d
     ·exact a4 e' d
     ·simp only[aP]at d;subst d;exact⟨Ez J K,Ez J B⟩
   ·cases h2
  ·cases h2
 ·cases y
end
end
section
section
variable{w:World}
theorem Tz.world(a:Tz f h w)(e:w'.heap=w.heap):Tz f h w':=⟨fun i o d=>by rw[e];exact a.obj i o d,a.inj⟩
theorem A17(d:Bool)(k:IntKind):∀{l:List EV} {a:Int} {v:EV},Ac4 d k a l=some v->(∃b,v=.int k b) /\
 (l.map (Cp f)).foldlM (m:=Sem) (if d=true then Builtin.max2 else Builtin.min2) (.int k a)=(pure (Cp f v):Sem Value)
 | [],a,v,h=>by simp only[Ac4]at h;cases h;exact⟨⟨a,rfl⟩,rfl⟩
 | .int j b::r,a,v,h=>by
  simp only[Ac4]at h;obtain⟨g,h2⟩:=A17 d k h;refine⟨g,?_⟩;rw[cR,List.foldlM_cons,<-h2];cases d
  ·simp only[aW,aY,Cp,Builtin.min2,Bn,Axx,bM]
   rfl
  ·simp only[bI,Cp,Builtin.max2,Bn,Axx,bM,gt_iff_lt]
   rfl
 | .bool _::_,_,_,h=>by simp[Ac4]at h
 | .str _::_,_,_,h=>by simp[Ac4]at h
 | .ptr _ _::_,_,_,h=>by simp[Ac4]at h
 | .Bu::_,_,_,h=>by simp[Ac4]at h
 | .slice _ _ _ _ _::_,_,_,h=>by simp[Ac4]at h
 | .tail _ _ _::_,_,_,h=>by simp[Ac4]at h
 | .Al::_,_,_,h=>by simp[Ac4]at h
 | .odd _::_,_,_,h=>by simp[Ac4]at h
 | .map _::_,_,_,h=>by simp[Ac4]at h
 | .Alq::_,_,_,h=>by simp[Ac4]at h
 | .chan _::_,_,_,h=>by simp[Ac4]at h
 | .Aev::_,_,_,h=>by simp[Ac4]at h
 | .func _ _ _::_,_,_,h=>by simp[Ac4]at h
 | .U1 _::_,_,_,h=>by simp[Ac4]at h
 | .Ahu::_,_,_,h=>by simp[Ac4]at h
 | .Ab9::_,_,_,h=>by simp[Ac4]at h
 | .agg _::_,_,_,h=>by simp[Ac4]at h
 | .tuple _::_,_,_,h=>by simp[Ac4]at h
theorem Ax3 {x:EV}(a:lenOf x=some n):∃b c,Cp f x=.slice b n c:=by
 unfold lenOf at a;split at a<;>first|(cases a;exact⟨_,_,rfl⟩)|(cases a)
theorem Ab3(j:Tk p h)(m:Tz f h w){size:Nat}{x:EV}{l:List EV}(d:cellsOf h size n x=some l):
 (Builtin.firstCells size n (Cp f x)).run P w=.ok (Bp f l).toArray w/\EV.Tn p l/\l.all EV.one=true/\l.length=n*size:=by
 unfold cellsOf at d;split at d
 ·obtain⟨g,h2⟩:=Aq d
  cases h2;have:=aL g;subst this;exact⟨by simp[Cp,Builtin.firstCells,Bp],trivial,rfl,by simp⟩
 ·rename_i i off a b c
  rw[Bn]at d;split at d
  ·rename_i g
   cases d;have:=aL g;subst this;refine⟨?_,trivial,rfl,by simp⟩;simp[Cp,Builtin.firstCells,Bp,loadCells,loadCellsFrom]
  ·obtain⟨g,h2,q,h4,_⟩:=Amk (P:=P) j m d
   exact⟨by simp only[Cp,Builtin.firstCells];exact g,h2,q,h4⟩
 ·obtain⟨g,h2⟩:=Aq d
  cases h2;have:=aL g;subst this;refine⟨?_,trivial,rfl,by simp⟩;simp[Cp,Builtin.firstCells,Bp,loadCells,loadCellsFrom]
 ·cases d
variable (hT:Pe P T)
include hT
theorem Ao0 {st u e':TypeId}(q:T.T8 st=some (.slice e))(hu:T.T8 u=some (.slice e')){size:Nat}(hs:T.size e=some size){z:List EV}(A:T.zero e=some z)
 {sLen sCap C:Nat} {D:Option Addr} {Cv new:Array Value} (g:¬sLen+n<=sCap) (O:sLen<=1048576) (Q:n<=65536)
 (H:∀d,(Builtin.firstCells size sLen (.slice base sLen sCap)).run P { w with drawn:=d }=.ok Cv { w with drawn:=d })
 (h2:∀d,(Builtin.firstCells size n (.slice D n C)).run P { w with drawn:=d }=.ok new { w with drawn:=d }) :
 ∃cap rest,sLen+n<=cap/\rest.size=(cap-(sLen+n))*size /\
  (Builtin.append_ #[st,u] ty #[.slice base sLen sCap,.slice D n C]).run P w=.ok (.slice (some ⟨w.heap.size,0,none⟩) (sLen+n) cap) { w with drawn:=w.drawn+1,heap:=w.heap.push (.cells (Cv++new++rest) e) }:=by
 have⟨f⟩:Nonempty Loc:=⟨⟨id,id⟩⟩;obtain⟨x,S,J,m,_,_,U,i,i1,i2,i3⟩:=Acf hT f w A;obtain⟨E,F,V,W⟩:=hT.size e size hs;have K:E=i:=by rw[i1]at F;cases F;rfl
 subst K;have hb:Builtin.nextslicecap (sLen+n) sCap<=4000000:=by
  unfold Builtin.nextslicecap;split
  ·omega
  ·split
   ·omega
   ·simp only[Builtin.growBy]
    repeat' split
    all_goals omega
 have j:¬(2^48<Builtin.nextslicecap (sLen+n) sCap*E.bytes):=by
  have:=fm hb i3;omega
 refine⟨(Question.appendCap (sLen+n) sCap e).cut (w.tape w.drawn (.appendCap (sLen+n) sCap e)),Builtin.zeroCells (Cp f x).cells ((Question.appendCap (sLen+n) sCap e).cut (w.tape w.drawn (.appendCap (sLen+n) sCap e))-(sLen+n)),?_,?_,?_⟩
 rotate_left 2
 ·have a:¬(((sLen+n:Nat):Int)>IntKind.i64.max):=by
   have e2:IntKind.i64.max=9223372036854775807:=rfl;omega
  have B:∀d,(zeroValue e).run P { w with drawn:=d }=.ok (Cp f x) { w with drawn:=d }:=by
   intro d;obtain⟨y,_,X,Y,_⟩:=Acf hT f { w with drawn:=d } A;obtain⟨L,v,Z,G,M,a3,_⟩:=hT.zero e z A;simp only[zeroValue,typeInfo,Sem.run_bind,fP,i1,aI,aS]at m⊢;rw[i1]at G;cases G;rw[M]at m⊢;simp only[aS,Result.ok.injEq]at m⊢;exact⟨m.1,trivial⟩
  simp only[Builtin.append_,Sem.run_bind,bU,bN,cC,Dx hT w q,Dx hT w hu,Gg hT w hs,aI,aS,Builtin.lenOf,aW,aY,g];simp only[a,gE,aY,Sem.run_bind,aS,aI,typeInfo,fP,i1,gt_iff_lt,j,run_choose,Question.forced,aW,run_askRoom,H,h2,B,cp,bI];rfl
 ·simp only[Question.cut];omega
 ·rw[Builtin.zeroCells]
  have e1:(Cp f x).cells.size=size:=by rw[Ts,<-J];simp[Cs];omega
  simp[e1]
end
end
section
def Af0(P:Program)(s:Sem Value)(p:Nat->Prop)(f:Loc)(h:Ab)(w:World)(v:EV)(h':Ab):Prop:=
 ∃f' w',s.run P w=.ok (Cp f' v) w'/\Move p f h w f' h' w'/\Wf p h h'/\v.ok (grow p h h')
section
variable{w:World}(hT:Pe P T)
include hT
theorem Axh(g:Tk p h)(y:Tz f h w){l:List EV}(q:EV.Tn p l)(A:l.all EV.one=true){size m:Nat}(u:m<=cap){rest:Array Value}(a:rest.size=(cap-m)*size){Cv new:List EV}(j:l=Cv++new)(d:Nat):
 Move p f h w (f.set h.next w.heap.size (cap-m)) (h.new (.vec l e size)) { w with drawn:=d,heap:=w.heap.push (.cells ((Bp f Cv).toArray++(Bp f new).toArray++rest) e) }/\Wf p h (h.new (.vec l e size)) /\
  Cp (f.set h.next w.heap.size (cap-m)) (.slice h.next 0 m m true)=.slice (some ⟨w.heap.size,0,none⟩) m cap:=by
 refine⟨Move.new g y _ rfl ?_ rfl rfl rfl,Wf.new g ⟨S7 q,A⟩,?_⟩
 ·refine⟨rest.toList,?_,by simp[a,Loc.Ao3]⟩
  rw[<-Fv (f.Mr _ _ g.fresh) l q,j,Sy];congr 1;apply dR;simp
 ·simp only[Cp,Loc.Xr,Loc.Ao3,bI]
  congr 1;omega
theorem Bd2(y:Tk p h)(D:Tz f h w){st u e':TypeId}{s x:EV}(hs:s.ok p)(hu:T.T8 u=some (.slice e'))(g:append T st s x h=some (v,h')):
 Af0 P (Builtin.append_ #[st,u] ty #[Cp f s,Cp f x]) p f h w v h':=by
 unfold append at g;split at g
 ·rename_i e A
  split at g
  ·rename_i size z B Z
   split at g
   ·rename_i n hn
    obtain⟨bx,cx,H⟩:=Ax3 (f:=f) hn;rw[Bn]at g;split at g
    ·rename_i h0
     have:=aL h0;subst this;have V:∀(size:Nat),(Builtin.firstCells size 0 (.slice bx 0 cx)).run P w=.ok #[] w:=by
      intro size;cases bx<;>simp[Builtin.firstCells,loadCells,loadCellsFrom]
     split at g
     ·rename_i i off a room op
      obtain⟨h1,h2⟩:=Aq g;cases h2;simp only[cv]at h1;refine⟨f,w,?_,Move.refl D,Wf.refl y,by rw[Ju p h h rfl];exact hs⟩;rw[H];have hle:a<=(if op=true then room+f.sp i else room):=by split<;>omega
      simp only[Cp,Builtin.append_,Sem.run_bind,bU,bN,cC,Dx hT w A,Dx hT w hu,Gg hT w B,aI,aS,Builtin.lenOf,aW,aY,cz,hle,bI,cp,V];simp[storeCells]
     ·cases g
      refine⟨f,w,?_,Move.refl D,Wf.refl y,trivial⟩;rw[H];simp only[Cp,Builtin.append_,Sem.run_bind,bU,bN,cC,Dx hT w A,Dx hT w hu,Gg hT w B,aI,aS,Builtin.lenOf,aW,aY,cz,aD,bI,cp,V]
     ·cases g
    ·rename_i h0
     obtain⟨F,h2⟩:=Aq g;simp only[cv]at F;split at h2
     ·rename_i new J
      obtain⟨n1,n2,n3,n4⟩:=Ab3 (P:=P) y D J;have nd:∀d,(Builtin.firstCells size n (.slice bx n cx)).run P { w with drawn:=d }=.ok (Bp f new).toArray { w with drawn:=d }:=by
       intro d;rw[<-H];exact(Ab3 (P:=P) y (D.world (w':={ w with drawn:=d }) rfl) J).1
      split at h2
      ·cases h2
       have az:n≠0:=fun e=>h0 (by rw[e];rfl)
       obtain⟨cap,rest,Q,S,U⟩:=Ao0 (w:=w) (ty:=ty) hT A hu B Z (base:=none) (sLen:=0) (sCap:=0) (Cv:=(Bp f []).toArray) (by omega) (by omega) F
        (by intro d;simp[Builtin.firstCells,Bp]) nd
       simp only[bF]at Q S U;obtain⟨C,k2,W⟩:=Axh hT y D (e:=e) (l:=new) n2 n3 Q S (Cv:=[]) rfl (w.drawn+1);refine⟨_,_,?_,C,k2,.inr ⟨aD _,by rw[Ab.Di];omega⟩⟩;rw[W,H];exact U
      ·rename_i i off a room op
       obtain⟨K,L⟩:=Aq h2;simp only[cv]at K;split at L
       ·rename_i Cv hold
        obtain⟨o1,o2,o3,o4⟩:=Ab3 (P:=P) y D hold;have od:∀d,(Builtin.firstCells size a (Cp f (.slice i off a room op))).run P { w with drawn:=d }=.ok (Bp f Cv).toArray { w with drawn:=d }:=by
         intro d;exact(Ab3 (P:=P) y (D.world (w':={ w with drawn:=d }) rfl) hold).1
        have hok:EV.Tn p (Cv++new):=Aas o2 n2;have m:(Cv++new).all EV.one=true:=Bc8 o3 n3;rw[Bn]at L;split at L
        ·rename_i E
         subst E;obtain⟨c1,h4⟩:=Aq L;obtain⟨c2,Y⟩:=Aq h4;clear L h4;have:=aL c1;subst this;have:=aL c2;subst this;split at Y
         ·rename_i l e1 s1 hg
          obtain⟨c3,h6⟩:=Aq Y;obtain⟨c4,h7⟩:=Aq h6;obtain⟨c5,h8⟩:=Aq h7;clear Y h6 h7;rw[X8]at c3;have G:=aL c3;have:=aL c4;subst this;have:=aL c5;subst this;cases h8;simp only[Nat.mul_eq]at G;by_cases M:n<=f.sp i
          ·
           obtain⟨r,a1,more,a2,a5⟩:=D.obj i _ hg;subst a2;have af:Cv=l:=by
            unfold cellsOf at hold;simp only at hold;rw[Bn]at hold;split at hold
            ·rename_i ag
             have:=aL ag;subst this;cases hold;simp at G;exact G.symm
            ·unfold Iw at hold
             rw[hg]at hold;obtain⟨_,q2⟩:=Afr hold;rw[St]at q2;rw[q2];simp only[dE,Nat.mul_eq];rw[<-G,cL]
           subst af;have bf:n*s1<=more.length:=by rw[a5];exact Nat.mul_le_mul_right _ M
           have X:=run_storeCells_at (P:=P) (f.b i) (room*s1) e1 (Bp f new) 0 (Bp f Cv++more).toArray w a1 (by simp only[Cs,cW,aG];omega) (Yg f new (by simpa using n3));refine⟨f.set h.next (f.b i) (f.sp i-n),w.setRow (f.b i) (Bp f Cv++Bp f new++more.drop (n*s1)).toArray,?_,Move.A2x y D hg (f.sp i-n) (r:=.cells (Bp f (Cv++new)++more.drop (n*s1)).toArray e1 (0,0)) ?_ ?_ (fun b hb=>setRow_other _ _ _ _ hb) (setRow_size _ _ _) rfl rfl rfl,Wf.A2x y i ⟨S7 hok,m⟩,.inr ⟨aD _,by rw[Ab.Di,Ab.Aqt];omega⟩⟩
           rotate_left 1
           ·rw[setRow_heap w (f.b i) _ _ e1 (0,0) a1,Sy]
           ·refine⟨more.drop (n*s1),?_,?_⟩
            ·rw[Fv (f.Mr _ _ y.fresh) (Cv++new) hok]
            ·rw[Loc.Ao3,aU,a5,Nat.sub_mul]
           ·rw[H]
            have hle:room+n<=room+f.sp i:=by omega
            simp only[Cp,Builtin.append_,Sem.run_bind,bU,bN,cC,Dx hT w A,Dx hT w hu,Gg hT w B,aI,aS,Builtin.lenOf,aW,aY,bI,hle,cp,Loc.Xr,Loc.Ao3];rw[<-H,n1];simp only[aI,Sem.run_bind,U9,bF,X,aS];congr 1
            ·congr 1
             simp only[Nat.add_eq];omega
            ·congr 1
             simp only[cz,Cs];rw[dK (by rw[Cs];omega),bR (by rw[Cs];omega)];rw[List.drop_append,ct (by rw[Cs];omega)];simp only[Cs,dN];congr 4;omega
          ·obtain⟨cap,rest,Q,S,U⟩:=Ao0 (w:=w) (ty:=ty) hT A hu B Z (base:=some ⟨f.b i,0,none⟩) (sLen:=room) (sCap:=room+f.sp i) (Cv:=(Bp f Cv).toArray) (by omega) K F
            (by intro d;simpa [Cp]using od d) nd
           obtain⟨C,_,W⟩:=Axh hT (y.del i) (D.sub Amb) (e:=e1) (l:=Cv++new) hok m Q S rfl (w.drawn+1);refine⟨f.set h.next w.heap.size (cap-(room+n)),_,?_,⟨C.agree,C.rep,fun b hb hn=>C.kept b hb (fun j q hj=>hn j q (Amb j q hj)),C.size,C.tape,C.os,C.output,fun j q hj=>(C.own j q hj).imp id (fun⟨k,q',hk,e⟩=>⟨k,q',Amb k q' hk,e⟩)⟩,
            Wf.A2x y i ⟨S7 hok,m⟩,.inr ⟨aD _,by rw[Ab.Di,Ab.Aqt];omega⟩⟩
           rw[show Cp (f.set h.next w.heap.size (cap-(room+n))) (.slice h.next 0 (Nat.add room n) (Nat.add room n) true)=_ from W,H];simpa [Cp]using U
         ·cases Y
        ·rename_i E
         have O:op=false:=by simpa using E
         subst O;obtain⟨c1,h4⟩:=Tw L;cases h4;have hc:¬a+n<=room:=by
          intro e;have:=X0 e;rw[show Nat.add a n=a+n from rfl]at c1;rw[this]at c1;cases c1
         obtain⟨cap,rest,Q,S,U⟩:=Ao0 (w:=w) (ty:=ty) hT A hu B Z (base:=some ⟨f.b i,off,none⟩) (sLen:=a) (sCap:=room) (Cv:=(Bp f Cv).toArray) hc K F
          (by intro d;simpa [Cp]using od d) nd
         obtain⟨C,k2,W⟩:=Axh hT y D (e:=e) (l:=Cv++new) hok m Q S rfl (w.drawn+1);refine⟨_,_,?_,C,k2,.inr ⟨aD _,by rw[Ab.Di];omega⟩⟩;rw[show Cp (f.set h.next w.heap.size (cap-(a+n))) (.slice h.next 0 (Nat.add a n) (Nat.add a n) true)=_ from W,H];simpa [Cp]using U
       ·cases L
      ·cases h2
     ·cases h2
   ·cases g
  ·cases g
 ·cases g
end
end
section
theorem Bfo:∀l:List UInt8,Br2 l=l.length
 | []=>rfl
 | _::r=>congrArg Nat.succ (Bfo r)
section
variable{w:World}(hT:Pe P T)
include hT
omit hT in
theorem Af0.stay(a:Tk p h)(d:Tz f h w){s:Sem Value}(hs:s.run P w=.ok (Cp f v) w)(g:v.ok p):Af0 P s p f h w v h:=
 ⟨f,w,hs,Move.refl d,Wf.refl a,by rw[Ju p h h rfl];exact g⟩
theorem Blh(B:Tk p h)(C:Tz f h w){t u ty e e':TypeId}{d s:EV}(E:T.T8 t=some (.slice e)){size dn g:Nat}(hs:T.size e=some size)(hd:lenOf d=some dn)(q:lenOf s=some g)
 (F:n=Ax (Nat.ble g dn) g dn) {cs:List EV} (G:cellsOf h size n s=some cs) {a b:Nat} {op:Bool} (y:d=.slice i off a b op) (hw:Mc h i off cs=some h') :
 Af0 P (Builtin.copy_ #[t,u] ty #[Cp f d,Cp f s]) p f h w (.int .i64 (.ofNat n)) h':=by
 obtain⟨D,H,n3,n4⟩:=Ab3 (P:=P) B C G;obtain⟨bs,M,j⟩:=Ax3 (f:=f) q;obtain⟨w',J,K,L⟩:=Ayl (P:=P) B C hw H n3;subst y;have A:dn=a:=by simp only[lenOf]at hd;cases hd;rfl
 subst A;have m:Nat.min g dn=n:=by
  rw[F,Bn];show min g dn=_;by_cases hle:g<=dn
  ·rw[aQ (X0 hle)];omega
  ·rw[aM (by rw[Aap hle];simp)];omega
 refine⟨f,w',?_,K,L,trivial⟩;rw[j];rw[j]at D;simp only[Cp,Builtin.copy_,Sem.run_bind,bU,bN,cC,Dx hT w E,aI,Builtin.lenOf,aS,Gg hT w hs,m,D,J];rfl
theorem Bai(E:Tk p h)(D:Tz f h w){b:Builtin}{cs:Array Bool}(Q:EV.Tn p args)(g:builtin T b ts args h=some (v,h')):
 ∃s,(Go.builtin b ts ty cs (Bp f args).toArray)=(do pure (.value (←s)):Sem Next)/\Af0 P s p f h w v h':=by
 unfold builtin at g;split at g
 ·rename_i s x
  split at g
  ·rename_i t u B
   have A:ts = #[t,u]:=by apply dR;simpa using B
   subst A;split at g
   ·rename_i e' hu
    exact⟨_,rfl,Bd2 hT E D Q.1 hu g⟩
   ·cases g
  ·cases g
 ·rename_i x
  split at g
  ·rename_i t B
   have A:ts = #[t]:=by apply dR;simpa using B
   subst A;refine⟨_,rfl,?_⟩;split at g
   ·rename_i n e hu
    cases g;exact Af0.stay E D (by simp[Builtin.len_,Dx hT w hu,Bp,Cp,goInt]) trivial
   ·rename_i e y hu
    split at g
    ·rename_i n S
     cases g;obtain⟨Z,cx,H⟩:=Ax3 (f:=f) S;exact Af0.stay E D (by simp[Builtin.len_,Dx hT w hu,Bp,H,goInt,Cp]) trivial
    ·cases g
   ·rename_i s hu
    cases g;exact Af0.stay E D (by simp[Builtin.len_,Dx hT w hu,Bp,Cp,goInt,Bfo]) trivial
   ·rename_i d e i hu
    split at g
    ·rename_i c buf F
     cases g;obtain⟨r,J,s1,c1,L⟩:=D.obj i _ F;subst L;have Ae8:=Od (P:=P) J (by intro c e z H;cases H);exact Af0.stay E D (by simp[Builtin.len_,Dx hT w hu,Bp,Cp,Ae8,goInt,X8,Cs]) trivial
    ·cases g
   ·cases g
  ·cases g
 ·rename_i d s
  split at g
  ·rename_i t u B
   have A:ts = #[t,u]:=by apply dR;simpa using B
   subst A;split at g
   ·rename_i e e' U hu
    split at g
    ·rename_i size dn sn hs hd M
     obtain⟨_,g⟩:=Tw g;split at g
     ·rename_i V W
      split at g
      ·split at g
       ·rename_i X hw
        cases g;exact⟨_,rfl,Blh hT E D (e':=e') U hs hd M rfl W rfl hw⟩
       ·cases g
      ·cases g
     ·cases g
    ·cases g
   ·cases g
  ·cases g
 ·rename_i m k
  split at g
  ·rename_i t tr B
   have h0:ts[0]? = some t:=by
    have:ts.toList[0]? = some t:=by rw[B];rfl
    simpa using this
   split at g
   ·rename_i kt e i hu
    obtain⟨K,h2⟩:=Aq g;split at h2
    ·rename_i es F
     obtain⟨r,J,ents,clock,L,a3⟩:=D.obj i _ F;obtain⟨_,a4⟩:=E.get i _ F;subst L;have Ae8:=Od (P:=P) J (by intro c e z H;cases H);have G:=fun o'=>Qp (P:=P) (o':=o') J (by intro c e z H;cases H)
     refine⟨_,rfl,?_⟩;split at h2
     ·rename_i j u' C
      cases h2;have O:=Wh (w:=w) (f:=f) hT K a3 C;refine⟨f,_,?_,Move.setObj D F (r:=.map (ents.eraseIdxIfInBounds j) clock) ⟨_,_,rfl,?_⟩,Wf.put E F (fun q Y=>a4 q (List.mem_of_mem_eraseIdx Y)),trivial⟩
      ·simp only[Builtin.delete_,Bp,Cp,Sem.run_bind,bU,bN,cC,h0,Dx hT w hu,aI,Ae8,Qr hT K,O,dV,G,aS]
      ·have e1:(ents.eraseIdxIfInBounds j).toList=ents.toList.eraseIdx j:=by
        rw[Array.eraseIdxIfInBounds_eq];split
        ·simp
        ·rename_i hj
         rw[List.eraseIdx_of_length_le (by simpa using hj)]
       rw[e1,List.eraseIdx_eq_take_drop_succ,List.eraseIdx_eq_take_drop_succ];simp only[bm,List.map_take,List.map_drop,a3]
     ·rename_i C
      cases h2;have O:=Wh (w:=w) (f:=f) hT K a3 C;refine⟨f,_,?_,Move.setObj D F (r:=.map ents clock) ⟨_,_,rfl,a3⟩,Wf.put E F a4,trivial⟩;simp only[Builtin.delete_,Bp,Cp,Sem.run_bind,bU,bN,cC,h0,Dx hT w hu,aI,Ae8,Qr hT K,O,Option.map_none,G,aS]
     ·cases h2
    ·cases h2
   ·cases g
  ·cases g
 ·rename_i k a l
  split at g
  ·rename_i u hm
   cases g;obtain⟨⟨c,rfl⟩,h2⟩:=A17 (f:=f) false k hm;refine⟨_,rfl,Af0.stay E D ?_ trivial⟩;simp only[Builtin.min_,Bp,dS,Cp,O6];simp only[aW,aY,Cp]at h2;rw[h2];rfl
  ·cases g
 ·rename_i k a l
  split at g
  ·rename_i u hm
   cases g;obtain⟨⟨c,rfl⟩,h2⟩:=A17 (f:=f) true k hm;refine⟨_,rfl,Af0.stay E D ?_ trivial⟩;simp only[Builtin.max_,Bp,dS,Cp,O6];simp only[bI,Cp]at h2;rw[h2];rfl
  ·cases g
 ·cases g
end
end
section
structure FB where
 fn:Nat
 defers:List Deferred
 Dt:Option Nat
def FB.at(b:FB)(tmps:Array Value)(todo:List Item):Frame:={ fn:=b.fn,tmps,todo,defers:=b.defers,mode:=.run,kind:=.normal,roundOf:=b.Dt }
def Im(tmps:Array Value):Operand->Value:=(Act.mk tmps []).eval
def Bbd(tmps:Array Value)(d:Option Tmp)(v:Value):Array Value:=
 match d with
 | some d=>tmps.setIfInBounds d v
 | none=>tmps
theorem FB.eval_at(b:FB)(tmps:Array Value)(todo:List Item):(b.at tmps todo).eval=Im tmps:=by funext x;cases x<;>rfl
theorem FB.finish_at(b:FB)(tmps:Array Value)(a:ops[i]? = some o)(rest:List Nat)(k:List Item)(v:Value):
 (b.at tmps (.inRegion ops (i::rest)::k)).finish v=b.at (Bbd tmps o.dst v) (.inRegion ops rest::k):=by
 cases hd:o.dst<;>simp[Frame.finish,FB.at,Bbd,a,hd]
def Amv:Op->Bool
 | .defer _=>true
 | _=>false
section
variable{b:FB}{rest:List Nat}{k:List Item}{cs:List Frame}{w:World}
theorem Ao1(g:ops[i]? = some o)(hw:Region.wanted o (Go.yielded ops tmps)=true)(hd:Amv o.op=false):
 stepG P true { frame:=b.at tmps (.inRegion ops (i::rest)::k),callers:=cs,status:=.running,dying:=none } w =
  stepG.apply P true (b.at tmps (.inRegion ops (i::rest)::k)) cs none (execOp (Im tmps) o) w:=by
 have he:=FB.eval_at b tmps (.inRegion ops (i::rest)::k);simp only[FB.at]at he;cases d:b.Dt<;>cases a:o.op<;>simp[stepG,stepG.exec,stepG.oper,Frame.oper?,FB.at,g,hw,d,a]<;>first|(rw[d]at he;rw[he];done)|(simp[a,Amv]at hd)
theorem A3f(a:ops[i]? = some o)(hw:Region.wanted o (Go.yielded ops tmps)=true)(hd:Amv o.op=false){v:Value}
 (d:(execOp (Im tmps) o).run P w=.ok (.value v) w') :
 step P (lone (b.at tmps (.inRegion ops (i::rest)::k)) cs w)=.next (lone (b.at (Bbd tmps o.dst v) (.inRegion ops rest::k)) cs w'):=by
 refine cJ ?_;rw[Ao1 a hw hd,<-FB.finish_at b tmps a];simp[stepG.apply,d]
theorem A63(a:ops[i]? = some o)(hw:Region.wanted o (Go.yielded ops tmps)=true)(hd:Amv o.op=false)
 (d:(execOp (Im tmps) o).run P w=.ok .skip w') :
 step P (lone (b.at tmps (.inRegion ops (i::rest)::k)) cs w)=.next (lone (b.at (Bbd tmps o.dst undef) (.inRegion ops rest::k)) cs w'):=by
 refine cJ ?_;rw[Ao1 a hw hd,<-FB.finish_at b tmps a];simp[stepG.apply,d]
theorem A3h(a:ops[i]? = some o)(hw:Region.wanted o (Go.yielded ops tmps)=true)(hd:Amv o.op=false){g:FuncId}{args:Array Value}
 (d:(execOp (Im tmps) o).run P w=.ok (.enter g args) w') :
 step P (lone (b.at tmps (.inRegion ops (i::rest)::k)) cs w)=.next (lone (Frame.enter P g args .normal) (b.at tmps (.inRegion ops (i::rest)::k)::cs) w'):=by
 refine cJ ?_;rw[Ao1 a hw hd];simp[stepG.apply,d,FB.at]
theorem A3v(a:ops[i]? = some o)(hw:Region.wanted o (Go.yielded ops tmps)=true)(hd:Amv o.op=false){l g:Nat}{ts:Array Value}{asg body:Code}
 (d:(execOp (Im tmps) o).run P w=.ok (.round l g ts asg body) w') :
 step P (lone (b.at tmps (.inRegion ops (i::rest)::k)) cs w)=.next (lone (Frame.round l g ts asg body .normal) (b.at tmps (.inRegion ops (i::rest)::k)::cs) w'):=by
 refine cJ ?_;rw[Ao1 a hw hd];simp[stepG.apply,d,FB.at]
theorem Ay9(a:ops[i]? = some o)(hw:Region.wanted o (Go.yielded ops tmps)=false):
 step P (lone (b.at tmps (.inRegion ops (i::rest)::k)) cs w)=.next (lone (b.at (Bbd tmps o.dst undef) (.inRegion ops rest::k)) cs w):=by
 refine cJ ?_;rw[<-FB.finish_at b tmps a];simp[stepG,stepG.exec,FB.at,a,hw]
theorem Aza:step P (lone (b.at tmps (.inRegion ops []::k)) cs w)=.next (lone (b.at tmps k) cs w):=
 cJ (by simp[stepG,stepG.exec,FB.at])
end
def Anv(P:Program)(o:Oper)(tmps:Array Value)(p:Nat->Prop)(f:Loc)(h:Ab)(w:World)(v:EV)(h':Ab):Prop:=
 ∀(b:FB) (ops:Array Oper) (i:Nat) (rest:List Nat) (k:List Item) (cs:List Frame),ops[i]? = some o->Region.wanted o (Go.yielded ops tmps)=true ->
  ∃f' w',Steps P (lone (b.at tmps (.inRegion ops (i::rest)::k)) cs w) (lone (b.at (Bbd tmps o.dst (Cp f' v)) (.inRegion ops rest::k)) cs w') /\
   Move p f h w f' h' w'/\Wf p h h'/\v.ok (grow p h h')
theorem Anv.Acv{w:World}(hd:Amv o.op=false)
 (he:Apn P (execOp (Im tmps) o) p f h w v h'):Anv P o tmps p f h w v h':=by
 intro b ops i rest k cs a hw;obtain⟨f',w',N,d,h2,g,h4,j⟩:=he;refine⟨f',w',?_,g,h4,j⟩;rcases h2 with rfl|⟨rfl,rfl⟩
 ·exact .one (A3f a hw hd d)
 ·exact .one (A63 a hw hd d)
def Age(P:Program)(c:Ai):Prop:=
 ∀g args h v h',c g args h=some (v,h')->(∃fn,P.funcs[g]? = some fn/\fn.body.isSome=true/\(fn.name == "runtime.NumGoroutine")=false) /\
  ∀p f w,Tk p h->Tz f h w->EV.Tn p args->∀cs,∃fr f' w',Steps P (lone (Frame.enter P g (Bp f args).toArray .normal) cs w) (lone fr cs w')/\fr.fn=g /\
   fr.leaving P w' (.returned (Cp f' v))/\Move p f h w f' h' w'/\Wf p h h'/\v.ok (grow p h h')
def Amw(P:Program)(c:Ai):Prop:=
 ∀l args h v h',c l args h=some (v,h')->∃st g fn n tm ps asg body d a,h.get l=some (.loop st g fn n tm ps asg body d)/\Wz ps args n tm=some a /\
  ∀p f w,Tk p h->Tz f h w->EV.Tn p args->∀caller cs,∃f' w',Steps P (lone (Frame.round (f.b l) fn (Bh f n a) asg body .normal) (caller::cs) w) (lone (caller.finish (Cp f' v)) cs w') /\
   Move p f h w f' h' w'/\Wf p h h'/\v.ok (grow p h h')
theorem Bq0(n:Nat)(tm:Bb)(d:Nat)(v:EV):Ax (Nat.ble (Nat.succ d) n) (tm.put d (some v)) tm=Po n tm (some d) v:=rfl
theorem Ajt(f:Loc):∀{ps:List Tmp} {args:List EV} {tm a:Bb},Wz ps args n tm=some a->EV.Tn p args->Lh p n tm ->
 ps.length=args.length/\Lh p n a/\(ps.zip (Bp f args)).foldl (fun tmps (x:Tmp × Value)=>tmps.setIfInBounds x.1 x.2) (Bh f n tm)=Bh f n a
 | [],[],tm,a,h,_,d=>by cases h;exact⟨rfl,d,rfl⟩
 | q::r,v::s,tm,a,h,g,d=>by
  simp only[Wz,Bq0]at h;obtain⟨j,h2,m⟩:=Ajt f h g.2 (d.put (some q) g.1);refine⟨by simp[j],h2,?_⟩;simp only[Bp,List.zip_cons_cons,List.foldl_cons];rw[A0q];exact m
 | [],_::_,_,_,h,_,_=>by cases h
 | _::_,[],_,_,h,_,_=>by cases h
theorem Tv(a:Lh p n tm):Reads f tm (Im (Bh f n tm)) where
 tmp t:=by simp only[Im,Act.eval];exact Ace f a t
 const v:=rfl
 func g:=rfl
end
section
section
variable{w:World}(hT:Pe P T)
theorem Bsf {op:BinOp}{a b:EV}(d:bin T op t a b=some v):v.ok p:=by
 unfold bin at d;split at d
 ·rename_i k a g b
  rw[Bn]at d;split at d
  ·split at d
   ·unfold A58 at d
    split at d
    ·cases d;trivial
    ·split at d<;>(cases d;trivial)
    ·cases d
   ·cases d
  ·rw[Bn]at d
   split at d
   ·unfold Bjb at d
    split at d
    all_goals first
     | (cases d;done)
     | (cases d;trivial)
     | (obtain⟨_,h2⟩:=Tw d;cases h2;trivial)
     | (split at d<;>first|(cases d;done)|(cases d;trivial))
   ·cases d
 ·split at d
  ·split at d<;>first|(cases d;trivial)|cases d
  ·split at d<;>first|(cases d;trivial)|cases d
  ·cases d
theorem Bfp{cs:List EV}(d:EV.Tn p cs)(g:cs.all EV.one=true)(a:part T t cs off=some v):v.ok p:=by
 unfold part at a;split at a
 ·split at a
  ·split at a
   ·rename_i n m l j
    cases a;obtain⟨_,h2⟩:=Afr j;rw[h2,St];exact⟨A99 d _ _,A9c g _ _⟩
   ·cases a
  ·cases a
 ·split at a
  ·rename_i q r hd
   cases a;rw[St]at hd;exact(Ho p cs).1 d _ (aE (by rw[hd];exact aV))
  ·cases a
 ·cases a
theorem Bmu {x:EV}{size:Nat}{j m q:Option EV}(d:x.ok p)(a:slc x size j m q=some v):v.ok p:=by
 unfold slc at a;split at a
 ·rename_i i off len room op
  have g:p i:=d;split at a
  ·split at a
   ·cases a
   ·split at a
    ·cases a
    ·simp only[Bn]at a
     repeat' split at a
     all_goals first|(cases a;exact g)|cases a
  ·split at a
   ·split at a
    ·cases a
    ·split at a
     ·cases a
     ·cases a;exact g
   ·cases a
 ·split at a
  ·split at a
   ·cases a
   ·split at a
    ·cases a
    ·cases a;exact d
  ·cases a
 ·cases a
include hT in
theorem Bra(j:Lh p n tm)(g:E1 T tm op=some v):v.ok p:=by
 cases op with
 | move x=>exact Ez j g
 | assign x=>exact Ez j g
 | pick c a b=>
  simp only[E1]at g;split at g
  ·exact Ez j g
  ·exact Ez j g
  ·cases g
 | binOp op t x y u=>
  simp only[E1]at g;split at g
  ·split at g
   ·exact Bsf g
   ·cases g
  ·cases g
 | unOp u t x=>
  cases u<;>simp only[E1]at g
  all_goals first
   | (split at g<;>first|(cases g;trivial)|cases g)
   | cases g
 | nilCheck x=>
  simp only[E1]at g;split at g
  ·rename_i i o' he
   cases g;exact Ez j he
  ·cases g
 | fieldAddr s x K=>
  simp only[E1]at g;split at g
  ·rename_i i off he
   have L:p i:=Ez j he;split at g
   ·split at g
    ·split at g
     ·obtain⟨_,h2⟩:=Tw g;cases h2;exact L
     ·cases g
    ·cases g
   ·cases g
  ·cases g
 | indexAddr t x ix=>
  simp only[E1]at g;split at g
  ·split at g
   ·rename_i he
    split at g
    ·obtain⟨_,h2⟩:=Aq g;cases h2;have:=Ez j he;exact this
    ·cases g
   ·rename_i he
    split at g
    ·obtain⟨_,h2⟩:=Aq g;cases h2;have:=Ez j he;exact this
    ·cases g
   ·cases g
  ·cases g
 | index t x ix=>
  simp only[E1]at g;split at g
  ·split at g
   ·rename_i he
    split at g
    ·obtain⟨_,h2⟩:=Aq g
     have A:=Ez (v:=.agg _) j he;exact Bfp A.1 A.2 h2
    ·cases g
   ·split at g
    ·cases g;trivial
    ·cases g
   ·cases g
  ·cases g
 | field t x K=>
  simp only[E1]at g;split at g
  ·rename_i he
   split at g
   ·have A:=Ez (v:=.agg _) j he
    exact Bfp A.1 A.2 g
   ·cases g
  ·cases g
 | convert s d x=>
  simp only[E1]at g;split at g
  ·cases g;trivial
  ·cases g
 | extract x ix=>
  simp only[E1]at g;split at g
  ·rename_i l he
   split at g
   ·rename_i Q r hd
    cases g;rw[St]at hd;exact(Ho p l).1 (Ez (v:=.tuple l) j he) _ (aE (by rw[hd];exact aV))
   ·cases g
  ·cases g
 | slice t x S U V=>
  simp only[E1]at g;split at g
  ·split at g
   ·rename_i he
    split at g
    ·exact Bmu (x:=.slice _ _ _ _ _) (Ez (v:=.ptr _ _) j he) g
    ·cases g
   ·rename_i he
    split at g
    ·exact Bmu (Ez j he) g
    ·cases g
   ·cases g
  ·cases g
 | build t ps=>
  have key:∀{z c:List EV} {l:List (Nat × EV)} {pl:Nat->Option (Nat × Nat)},T.zero t=some z->Zo tm ps.toList=some l->fill pl z l=some c->(EV.agg c).ok p:=by
   intro z c l pl B C m;obtain⟨i,W,X,_,_,M,J,rfl,_⟩:=hT.zero t z B;have D:=U5 (Bes p M) J;have E:=Avk j C;have F:=Ama pl m;refine⟨(Ho p c).2 (Aqi pl (q:=fun v=>v.ok p) m (fun v G=>(Ho p _).1 D.1 v G) (fun q H v G=>(Ho p _).1 (U5 (E q H) (F q H)).1 v G)),?_⟩;rw[dP];exact Aqi pl (q:=fun v=>v.one=true) m D.2 (fun q H v G=>(U5 (E q H) (F q H)).2 v G)
  simp only[E1]at g;split at g
  ·rename_i B C _
   split at g
   ·split at g
    ·rename_i m;cases g;exact key B C m
    ·cases g
   ·cases g
  ·rename_i B C _
   split at g
   ·split at g
    ·rename_i m;cases g;exact key B C m
    ·cases g
   ·cases g
  ·cases g
 | makeFunc fn a b=>
  cases fn<;>simp only[E1]at g
  all_goals first
   | (split at g
      ·rename_i O hb;cases g;exact⟨Akq j O,Akq j hb⟩
      ·cases g)
   | cases g
 | sliceToArrayPointer t x=>
  simp only[E1]at g;split at g
  ·rename_i he
   obtain⟨_,h2⟩:=Aq g;cases h2;exact Ez (v:=.slice _ _ _ _ _) j he
  ·cases g
 | _=>cases g
theorem Aw5(g:Tk p h)(j:Tz f h w){a:List EV}(d:h.get i=some (.chan cap buf))(hb:EV.Tn p a)(s r:Nat):
 Move p f h w f (h.put i (.chan cap a)) (w.setChan (f.b i) cap (Bp f a).toArray false s r false)/\Wf p h (h.put i (.chan cap a)):=
 ⟨Move.setObj (p:=p) j d (o':=.chan cap a) (r:=.chan cap (Bp f a).toArray false s r false) ⟨s,r,rfl⟩,Wf.put g d hb⟩
theorem Ax7{c:SelectCase}(m:o.op=.select #[c] false){zv:Value}(g:(zeroValue c.elem).run P w=.ok zv w)
 (b:FB) {a:Array Value} (j:execOp (Im tmps) o=execOp (Im a) o) (rest:List Nat) (k:List Item) (cs:List Frame) (q:ops[i]? = some o) (hw:Region.wanted o (Go.yielded ops tmps)=true) :
 ∃es,stepG P true (Conc.G (b.at tmps (.inRegion ops (i::rest)::k)) cs) w=.comm (Conc.G (b.at tmps (.inRegion ops (i::rest)::k)) cs)
  #[{ chan:=Im a c.chan,send:=c.send.map (Im a),zero:=zv }] false .select w es:=by
 have:=Ao1 (P:=P) (b:=b) (rest:=rest) (k:=k) (cs:=cs) (w:=w) q hw (by rw[m];rfl);have d:(execOp (Im tmps) o).run P w=.ok (.comm #[{ chan:=Im a c.chan,send:=c.send.map (Im a),zero:=zv }] false .select) w:=by
  rw[j];simp only[execOp,m];simp[g]
 rw[Conc.G,this];simp only[stepG.apply,Sem.runT_eq,d,GStep.after,bI];exact⟨_,rfl⟩
include hT in
theorem A9t(C:Lh p n tm)(g:Tk p h)(m:Tz f h w)(q:execOp (Im tmps) o=execOp (Im (Bh f n tm)) o){c:SelectCase}(F:o.op=.select #[c] false)
 (H:Cj tm c.chan=some (.chan i)) (hs:c.send=some x) {u:EV} (y:h.get i=some (.chan cap buf)) (D:Cj tm x=some u) (J:zeroOf T c.elem=some zv)
 (a:Ax (Nat.ble (Nat.succ (len buf)) cap) (some (EV.tuple [.int .i64 0,.bool false],h.put i (.chan cap (buf++[u])))) (some (.tuple [.int .i64 (-1),.bool false],h))=some (v,h')) :
 Anv P o tmps p f h w v h':=by
 intro b ops j rest k cs hj hw;have E:=Tv (f:=f) C;obtain⟨r0,d,s,r,rfl⟩:=m.obj i _ y;have A:=(Atg hT (f:=f) (w:=w) J).1;obtain⟨es,he⟩:=Ax7 F A b q rest k cs hj hw;rw[Bl E H,hs,dV,Bl E D]at he;have hok:=(g.get i _ y).2;by_cases hb:buf.length<cap
 ·rw[X8,X0 (by omega),Aj]at a
  cases a;have B:EV.Tn p (buf++[u]):=Aas hok ⟨Ez C D,trivial⟩;obtain⟨K,L⟩:=Aw5 g m y B (s+1) r;refine⟨f,_,.one ?_,K,L,?_⟩
  ·have:=Conc.step_lone_select_send_room he d (by simpa [Cs]using hb)
   rw[FB.finish_at b _ hj]at this;simpa [Sy,Bp,Cp,goInt,Conc.solo,Conc.G,lone]using this
  ·simp[EV.ok,EV.Tn]
 ·rw[X8,Aap (by omega),Bc]at a
  cases a;refine⟨f,w,.one ?_,Move.refl m,Wf.refl g,?_⟩
  ·have:=Conc.step_lone_select_send_full he d (by simpa [Cs]using hb)
   rw[FB.finish_at b _ hj]at this;simpa [Sy,Bp,Cp,goInt,Conc.solo,Conc.G,lone]using this
  ·simp[EV.ok,EV.Tn]
include hT in
theorem Ba4(C:Lh p n tm)(m:Tk p h)(q:Tz f h w)(u:execOp (Im tmps) o=execOp (Im (Bh f n tm)) o){c:SelectCase}(D:o.op=.select #[c] false)
 (E:Cj tm c.chan=some (.chan i)) (hs:c.send=none)
 (a:(match buf with
  | v::r=>some (EV.tuple [.int .i64 0,.bool true,v],h.put i (.chan cap r))
  | []=>some (.tuple [.int .i64 (-1),.bool false,zv],h))=some (v,h')) (y:h.get i=some (.chan cap buf)) (F:zeroOf T c.elem=some zv) :
 Anv P o tmps p f h w v h':=by
 intro b ops j rest k cs hj hw;have H:=Tv (f:=f) C;obtain⟨r0,d,s,r,rfl⟩:=q.obj i _ y;obtain⟨A,B⟩:=Atg hT (f:=f) (w:=w) F;obtain⟨es,he⟩:=Ax7 D A b u rest k cs hj hw;rw[Bl H E,hs,Option.map_none]at he;have hok:=(m.get i _ y).2;cases buf with
 | cons x l=>
  cases a;obtain⟨J,K⟩:=Aw5 m q y hok.2 s (r+1);refine⟨f,_,.one ?_,J,K,?_⟩
  ·have:=Conc.step_lone_select_recv_buf he d (by simp[Bp])
   rw[FB.finish_at b _ hj]at this;simpa [Bp,Cp,goInt,Conc.solo,Conc.G,lone]using this
  ·exact⟨trivial,trivial,EV.ok.mono (fun _ L=>.inl L) _ hok.1,trivial⟩
 | nil=>
  cases a;refine⟨f,w,.one ?_,Move.refl q,Wf.refl m,?_⟩
  ·have:=Conc.step_lone_sel_default he (by
    intro M g;simp only[List.mem_toArray,aP]at g;subst g;exact Conc.noWay_recv d)
   rw[FB.finish_at b _ hj]at this;simpa [commResult,Bp,Cp,goInt,Conc.solo,Conc.G,lone]using this
  ·exact⟨trivial,trivial,B _,trivial⟩
include hT
theorem Bpq(B:Lh p n tm)(q:Tk p h)(u:Tz f h w)(j:execOp (Im tmps) o=execOp (Im (Bh f n tm)) o)(d:Du T tm o.op h=some (v,h')):
 Anv P o tmps p f h w v h':=by
 have A:=Tv (f:=f) B;cases g:o.op with
 | load t a=>
  rw[g]at d;obtain⟨rfl,h2,C⟩:=Bn2 hT A q u g d;refine Anv.Acv (by rw[g];rfl) ⟨f,w,_,(by rw[j];exact C),.inl rfl,Move.refl u,Wf.refl q,?_⟩;rw[Ju _ _ _ rfl];exact h2
 | store t a x=>rw[g]at d;exact Anv.Acv (by rw[g];rfl) (by rw[j];exact Bjf hT A B q u g d)
 | alloc t=>rw[g]at d;exact Anv.Acv (by rw[g];rfl) (by rw[j];exact Bhx hT q u g d)
 | box t x=>rw[g]at d;exact Anv.Acv (by rw[g];rfl) (by rw[j];exact Bqw A B q u g d)
 | makeSlice t x y=>rw[g]at d;exact Anv.Acv (by rw[g];rfl) (by rw[j];exact A3a (n:=n) hT A q u g d)
 | buildSlice t m ps=>rw[g]at d;exact Anv.Acv (by rw[g];rfl) (by rw[j];exact A1e hT A B q u g d)
 | makeMap t r=>rw[g]at d;exact Anv.Acv (by rw[g];rfl) (by rw[j];exact A9o q u g d)
 | makeChan t x=>rw[g]at d;exact Anv.Acv (by rw[g];rfl) (by rw[j];exact A6u hT A q u g d)
 | lookup t x k ok=>rw[g]at d;exact Anv.Acv (by rw[g];rfl) (by rw[j];exact Bcc (n:=n) hT A q u g d)
 | mapUpdate t m k x=>rw[g]at d;exact Anv.Acv (by rw[g];rfl) (by rw[j];exact A31 hT A B q u g d)
 | call c=>
  rw[g]at d;obtain⟨callee,args,argTypes⟩:=c;cases callee with
  | builtin bi=>
   simp only[Du]at d;split at d
   ·rename_i as has
    have key:∀cs,Apn P (Go.builtin bi argTypes o.type cs (Bp f as).toArray) p f h w v h':=by
     intro cs;obtain⟨s,E,f',w',h2,C,h4,F⟩:=Bai (ty:=o.type) (cs:=cs) hT q u (Akq B has) d;refine⟨f',w',.value (Cp f' v),?_,.inl rfl,C,h4,F⟩;rw[E];simp only[Sem.run_bind,h2,aI,aS]
    have he:args.map (Im (Bh f n tm))=(Bp f as).toArray:=by
     rw[<-Aak A has];simp only[<-List.map_toArray,eC]
    obtain⟨f',w',N,E,h2,C,h4,F⟩:=key (args.map fun | .const _=>true|_=>false);refine Anv.Acv (by rw[g];rfl) ⟨f',w',N,?_,h2,C,h4,F⟩;rw[<-E,j];simp only[execOp,g,resolve,Sem.run_bind,aS,aI,invoke,he];rfl
   ·cases d
  | value x=>cases d
  | invoke x m=>cases d
 | select cs bl=>
  rw[g]at d;cases bl with
  | true=>cases d
  | false=>
   simp only[Du]at d;split at d
   ·rename_i c G
    have D:cs = #[c]:=by apply dR;simpa using G
    subst D;split at d
    ·rename_i i x H hs
     split at d
     ·rename_i cap buf M J L
      split at d
      ·rename_i zv K
       exact A9t hT B q u j g H hs J L K d
      ·cases d
     ·cases d
    ·rename_i i H hs
     split at d
     ·rename_i cap buf zv J K
      exact Ba4 hT B q u j g H hs d J K
     ·cases d
    ·cases d
   ·cases d
 | _=>rw[g]at d;cases d
end
end
section
section
variable{w:World}(hT:Pe P T){call:Ai}(hC:Age P call)(hR:Amw P round)
theorem Move.Bh{f':Loc}{w:World}(m:Move p f h w f' h' w')(a:Lh p n tm):Bh f n tm=Bh f' n tm:=K4 m.agree a
theorem Aix(f:Loc)(n:Nat)(tm:Bb)(d:Option Tmp)(v:EV):Bbd (Bh f n tm) d (Cp f v)=Bh f n (Po n tm d v):=by
 cases d with
 | none=>rfl
 | some d=>exact A0q f n tm d v
include hT hC hR in
theorem Bm4(D:Lh p n tm)(E:Tk p h)(F:Tz f h w)(q:execOp (Im tmps) o=execOp (Im (Bh f n tm)) o)(a:aop T call round tm o.op h=some (v,h')):
 Anv P o tmps p f h w v h':=by
 have G:=Tv (f:=f) D;unfold aop at a;rw[Bn]at a;split at a
 ·rename_i Z
  split at a
  ·rename_i v' H
   cases a;refine Anv.Acv ?_ ⟨f,w,_,(by rw[q];exact Bnh hT f w G H),.inl rfl,Move.refl F,Wf.refl E,?_⟩
   ·cases y:o.op<;>first|rfl|(rw[y]at Z;cases Z)
   ·rw[Ju _ _ _ rfl];exact Bra hT D H
  ·cases a
 ·split at a
  ·rename_i fo args ab heq
   split at a
   ·rename_i g first captured as M has
    obtain⟨⟨fn,S,U,A⟩,V⟩:=hC _ _ _ _ _ a;intro b ops i rest k cs y hw;have J:=Ez (v:=.func g first captured) D M;have u:=Akq D has;have B:EV.Tn p (first++(as++captured)):=Aas J.1 (Aas u J.2);obtain⟨fr,f',w',hs,ad,hl,hm,hwf,C⟩:=V p f w E F B (b.at tmps (.inRegion ops (i::rest)::k)::cs);refine⟨f',w',?_,hm,hwf,C⟩;have he:args.map (Im (Bh f n tm))=(Bp f as).toArray:=by
     rw[<-Aak G has];simp only[<-List.map_toArray,eC]
    have j:(execOp (Im tmps) o).run P w=.ok (.enter g (Bp f (first++(as++captured))).toArray) w:=by
     rw[q];have hb:¬fn.body=none:=by cases hx:fn.body<;>simp_all
     have hn:¬fn.name = "runtime.NumGoroutine":=by simpa using A
     simp[execOp,heq,resolve,he,Bl G M,Cp,Deferred.ofValue,invoke,callFunc,S,hn,hb,Sy]
    refine .head (A3h y hw (by rw[heq];rfl) j) (hs.trans (.one ?_));rw[<-FB.finish_at b _ y];exact step_leave_returned hl
   ·rename_i l as M has
    obtain⟨st,pd,fn,O,K,ps,asg,body,d,L,hg,W,V⟩:=hR _ _ _ _ _ a;intro b ops i rest k cs y hw;have u:=Akq D has;obtain⟨f',w',hs,hm,hwf,C⟩:=V p f w E F u (b.at tmps (.inRegion ops (i::rest)::k)) cs;refine⟨f',w',?_,hm,hwf,C⟩;have he:args.map (Im (Bh f n tm))=(Bp f as).toArray:=by
     rw[<-Aak G has];simp only[<-List.map_toArray,eC]
    obtain⟨r0,X,rfl⟩:=F.obj l _ hg;obtain⟨hlen,ah,m⟩:=Ajt f W u (E.get l _ hg).2.1;have j:(execOp (Im tmps) o).run P w=.ok (.round (f.b l) fn (Bh f O L) asg body) w:=by
     rw[q];have Q:Array.foldl (fun tmps (x:Tmp × Value)=>tmps.setIfInBounds x.1 x.2) (Bh f O K) (ps.toArray.zip (Bp f as).toArray)=Bh f O L:=by
      rw[<-m,List.zip_toArray,List.foldl_toArray]
     have Y:(getObj (f.b l)).run P w=.ok (.loop ⟨st,pd,fn,Bh f O K,ps.toArray,asg,body,f.b d⟩) w:=Od X (by intros;simp);simp only[execOp,heq,resolve,he,Bl G M,Cp,Deferred.ofValue,invoke,Sem.run_bind,aS,aI,Instr.yield,Instr.getLoop,Y];simp[Cs,hlen];exact m
    refine .head (A3v y hw (by rw[heq];rfl) j) ?_;rw[<-FB.finish_at b _ y];exact hs
   ·cases a
  ·rename_i ai
   exact Bpq hT D E F q a
theorem Bd9(a:Lh p n tm)(ops:Array Oper)(j:Nat):Go.yielded ops (Bh f n tm) j=Ev.yielded ops.toList tm j:=by
 unfold Go.yielded Ev.yielded;rw[Az5,cK];cases ops[j]? with
 | none=>rfl
 | some o=>
  simp only[Option.bind_some];cases o.dst with
  | none=>rfl
  | some d=>
   simp only[Option.bind_some];rw[Afn];by_cases hd:d<n
   ·rw[aQ hd]
    unfold tmp;cases g:tm.get d with
    | none=>rfl
    | some v=>cases v<;>rfl
   ·rw[aM hd,a.out d (Nat.le_of_not_lt hd)]
theorem A4o(a:Lh p n tm)(ops:Array Oper)(o:Oper):Region.wanted o (Go.yielded ops (Bh f n tm))=Ev.wanted ops.toList tm o.guard:=by
 unfold Region.wanted Ev.wanted;cases o.guard with
 | none=>rfl
 | some x=>
  obtain⟨j,want⟩:=x;simp only[];rw[Bd9 a];cases Ev.yielded ops.toList tm j with
  | none=>rfl
  | some b=>cases b<;>cases want<;>rfl
include hT hC hR in
theorem A72(ops:Array Oper):∀{l:List Oper} {i:Nat} {p:Nat->Prop} {f:Loc} {h:Ab} {w:World} {tm j:Bb} {h':Ab},l=ops.toList.drop i->Lh p n tm->Tk p h->Tz f h w ->
 Ar9 T call round n ops.toList l tm h=some (j,h')->∀(b:FB) (k:List Item) (cs:List Frame),
  ∃f' w',Steps P (lone (b.at (Bh f n tm) (.inRegion ops (List.range' i l.length)::k)) cs w) (lone (b.at (Bh f' n j) (.inRegion ops []::k)) cs w') /\
   Move p f h w f' h' w'/\Wf p h h'/\Lh (grow p h h') n j
 | [],i,p,f,h,w,tm,j,h',J,q,F,G,a,b,k,cs=>by
  simp only[Ar9]at a;cases a;exact⟨f,w,.refl _ _,Move.refl G,Wf.refl F,by rw[Ju _ _ _ rfl];exact q⟩
 | o::r,i,p,f,h,w,tm,j,h',J,q,F,G,a,b,k,cs=>by
  have H:ops[i]? = some o:=by
   have:=congrArg (fun l=>l[0]?) J;simp only[bN,cX,cz,cK]at this;exact this.symm
  have Q:r=ops.toList.drop (i+1):=by
   have:=congrArg List.tail J;simpa [List.tail_drop]using this
  obtain⟨dst,op,ty,ps,K,g⟩:=o;simp only[Ar9]at a;rw[Bn]at a;have u:=A4o (f:=f) q ops ⟨dst,op,ty,ps,K,g⟩;split at a
  ·rename_i hw
   rw[hw]at u;split at a
   ·rename_i v S E
    obtain⟨f1,w1,L,y,m,M⟩:=Bm4 hT hC hR q F G (o:=⟨dst,op,ty,ps,K,g⟩) rfl E b ops i (List.range' (i+1) r.length) k cs H u;have A:Lh (grow p h S) n (Po n tm dst v):=(q.mono fun _ H=>.inl H).put dst M;obtain⟨f2,w2,B,C,d,D⟩:=A72 ops Q A m.hok y.rep a b k cs;refine⟨f2,w2,?_,y.trans C,m.trans d,?_⟩
    ·rw[bK,List.range'_succ]
     refine L.trans ?_;rw[y.Bh q,Aix];exact B
    ·rw[<-Afb p m.next d.next];exact D
   ·cases a
  ·rename_i hw
   have O:Region.wanted ⟨dst,op,ty,ps,K,g⟩ (Go.yielded ops (Bh f n tm))=false:=by rw[u];simpa using hw
   have A:Lh p n (Po n tm dst (.tuple [])):=q.put dst trivial;obtain⟨f2,w2,B,C,d,D⟩:=A72 ops Q A F G a b k cs;refine⟨f2,w2,?_,C,d,D⟩;rw[bK,List.range'_succ];refine .head (Ay9 H O) ?_;have:(undef:Value)=Cp f (.tuple []):=rfl;rw[this,Aix];exact B
end
end
structure AWf(h h':Ab):Prop where
 next:h.next<=h'.next
 mw:h'.mw<=h.mw
 same:∀q,q<h'.mw->q<h.next->h'.get q=h.get q
 live:∀q o,h'.get q=some o->(∃o',h.get q=some o')\/h.next<=q
 lt:(∀q o,h.get q=some o->q<h.next)->∀q o,h'.get q=some o->q<h'.next
theorem AWf.refl(h:Ab):AWf h h:=⟨aD _,aD _,fun _ _ _=>rfl,fun _ o a=>.inl ⟨o,a⟩,fun H=>H⟩
theorem AWf.trans {a b c:Ab}(x:AWf a b)(y:AWf b c):AWf a c where
 next:=bQ x.next y.next
 mw:=bQ y.mw x.mw
 same q d h2:=(y.same q d (aN h2 x.next)).trans (x.same q (aN d y.mw) h2)
 live q o g:=by
  rcases y.live q o g with⟨o',d⟩|d
  ·exact x.live q o' d
  ·exact .inr (bQ x.next d)
 lt H:=y.lt (x.lt H)
theorem AWf.put{o:By}(d:h.get i=some o)(o':By):AWf h (h.put i o') where
 next:=aD _
 mw:=by rw[Ab.Apc];exact Nat.min_le_right _ _
 same q g _:=by rw[Ab.Apc]at g;rw[Ab.get_put,aM (by omega)]
 live q x a:=by
  rw[Ab.get_put]at a;split at a
  ·rename_i e;subst e;exact .inl ⟨o,d⟩
  ·exact .inl ⟨x,a⟩
 lt H q x a:=by
  rw[Ab.get_put]at a;split at a
  ·rename_i e;subst e;exact H _ _ d
  ·exact H _ _ a
theorem AWf.new(h:Ab)(o:By):AWf h (h.new o) where
 next:=fL _
 mw:=aD _
 same q _ h2:=by rw[Ab.Lb,aM (by omega)]
 live q x a:=by
  rw[Ab.Lb]at a;split at a
  ·rename_i e;exact .inr (by omega)
  ·exact .inl ⟨x,a⟩
 lt H q x a:=by
  rw[Ab.Lb]at a;rw[Ab.Di];split at a
  ·rename_i e;omega
  ·exact Nat.lt_succ_of_lt (H _ _ a)
theorem AWf.del(h:Ab)(i:Nat):AWf h (h.del i) where
 next:=aD _
 mw:=by rw[Ab.A2u];exact Nat.min_le_right _ _
 same q d _:=by rw[Ab.A2u]at d;rw[Ab.Aa1,aM (by omega)]
 live q x a:=by
  rw[Ab.Aa1]at a;split at a
  ·cases a
  ·exact .inl ⟨x,a⟩
 lt H q x a:=by
  rw[Ab.Aa1]at a;split at a
  ·cases a
  ·exact H _ _ a
theorem A4t{vs:List EV}(a:Mc h i off vs=some h'):AWf h h':=by
 unfold Mc at a;split at a
 ·rename_i d
  split at a
  ·cases a;exact .put d _
  ·cases a
 ·rename_i d
  split at a
  ·cases a;exact .put d _
  ·cases a
 ·cases a
theorem Bor{st:TypeId}{s x:EV}(a:append T st s x h=some (v,h')):AWf h h':=by
 unfold append at a;split at a
 ·split at a
  ·split at a
   ·rw[Bn]at a
    split at a
    ·split at a
     ·obtain⟨_,h2⟩:=Aq a;cases h2;exact .refl _
     ·cases a;exact .refl _
     ·cases a
    ·obtain⟨_,h2⟩:=Aq a
     split at h2
     ·split at h2
      ·cases h2;exact .new _ _
      ·obtain⟨_,d⟩:=Aq h2
       split at d
       ·rw[Bn]at d
        split at d
        ·obtain⟨_,d⟩:=Aq d
         obtain⟨_,d⟩:=Aq d;split at d
         ·obtain⟨_,d⟩:=Aq d
          obtain⟨_,d⟩:=Aq d;obtain⟨_,d⟩:=Aq d;cases d;exact(AWf.del _ _).trans (.new _ _)
         ·cases d
        ·obtain⟨_,d⟩:=Tw d
         cases d;exact .new _ _
       ·cases d
      ·cases h2
     ·cases h2
   ·cases a
  ·cases a
 ·cases a
theorem Bhs{b:Builtin}(a:builtin T b ts args h=some (v,h')):AWf h h':=by
 unfold builtin at a;split at a
 ·split at a
  ·split at a
   ·exact Bor a
   ·cases a
  ·cases a
 ·split at a
  ·split at a
   ·cases a;exact .refl _
   ·split at a<;>first|(cases a;done)|(cases a;exact .refl _)
   ·cases a;exact .refl _
   ·split at a<;>first|(cases a;done)|(cases a;exact .refl _)
   ·cases a
  ·cases a
 ·split at a
  ·split at a
   ·split at a
    ·obtain⟨_,h2⟩:=Tw a
     split at h2
     ·split at h2
      ·split at h2
       ·rename_i hw;cases h2;exact A4t hw
       ·cases h2
      ·cases h2
     ·cases h2
    ·cases a
   ·cases a
  ·cases a
 ·split at a
  ·split at a
   ·obtain⟨_,h2⟩:=Aq a
    split at h2
    ·rename_i d
     split at h2
     ·cases h2;exact .put d _
     ·cases h2;exact .put d _
     ·cases h2
    ·cases h2
   ·cases a
  ·cases a
 ·split at a<;>first|(cases a;done)|(cases a;exact .refl _)
 ·split at a<;>first|(cases a;done)|(cases a;exact .refl _)
 ·cases a
theorem Btb(a:Du T tm op h=some (v,h')):AWf h h':=by
 unfold Du at a;split at a
 ·
  split at a
  ·split at a
   ·split at a
    ·split at a<;>first|(cases a;done)|(cases a;exact .refl _)
    ·cases a
   ·split at a<;>first|(cases a;done)|(cases a;exact .refl _)
   ·cases a
  ·cases a
 ·
  split at a
  ·obtain⟨_,h2⟩:=Aq a
   obtain⟨_,h2⟩:=Aq h2;split at h2
   ·rename_i hw;cases h2;exact A4t hw
   ·cases h2
  ·cases a
 ·split at a<;>first|(cases a;done)|(cases a;exact .new _ _)
 ·split at a
  ·obtain⟨_,h2⟩:=Aq a;cases h2;exact .new _ _
  ·cases a
 ·split at a
  ·exact Bhs a
  ·cases a
 ·split at a
  ·split at a
   ·obtain⟨_,h2⟩:=Aq a
    split at h2
    ·cases h2;exact .new _ _
    ·cases h2
   ·cases a
  ·cases a
 ·split at a
  ·split at a
   ·obtain⟨_,h2⟩:=Aq a
    obtain⟨_,h2⟩:=Aq h2;cases h2;exact .new _ _
   ·cases a
  ·cases a
 ·cases a;exact .new _ _
 ·split at a
  ·split at a
   ·obtain⟨_,h2⟩:=Aq a;cases h2;exact .new _ _
   ·cases a
  ·cases a
 ·split at a
  ·obtain⟨_,h2⟩:=Aq a
   split at h2
   ·split at h2
    ·cases h2;exact .refl _
    ·split at h2<;>first|(cases h2;done)|(cases h2;exact .refl _)
    ·cases h2
   ·cases h2
  ·cases a
 ·split at a
  ·obtain⟨_,h2⟩:=Aq a
   split at h2
   ·rename_i d
    split at h2
    ·cases h2;exact .put d _
    ·cases h2;exact .put d _
    ·cases h2
   ·cases h2
  ·cases a
 ·split at a
  ·split at a
   ·split at a
    ·rename_i d _
     split at a
     ·rw[Bn]at a
      split at a
      ·cases a;exact .put d _
      ·cases a;exact .refl _
     ·cases a
    ·cases a
   ·split at a
    ·rename_i d _
     split at a
     ·cases a;exact .put d _
     ·cases a;exact .refl _
    ·cases a
   ·cases a
  ·cases a
 ·cases a
def Wo(c:Ai):Prop:=∀g args h v h',c g args h=some (v,h')->AWf h h'
section
variable{call:Ai}(hC:Wo call)(hR:Wo round)
include hC hR
theorem Brv(a:aop T call round tm op h=some (v,h')):AWf h h':=by
 unfold aop at a;rw[Bn]at a;split at a
 ·split at a<;>first|(cases a;done)|(cases a;exact .refl _)
 ·split at a
  ·split at a
   ·exact hC _ _ _ _ _ a
   ·exact hR _ _ _ _ _ a
   ·cases a
  ·exact Btb a
theorem Bdc{ops:List Oper}:∀{l:List Oper} {tm d:Bb} {h h':Ab},Ar9 T call round n ops l tm h=some (d,h')->AWf h h'
 | [],_,_,_,_,a=>by cases a;exact .refl _
 | ⟨dst,op,ty,ps,m,g⟩::r,tm,d,h,h',a=>by
  simp only[Ar9]at a;rw[Bn]at a;split at a
  ·split at a
   ·rename_i j
    exact(Brv hC hR j).trans (Bdc a)
   ·cases a
  ·exact Bdc a
end
end Go.Ev
