import Derived.Test.YtokpnommcenoaaaGreatEvOne
import Derived.Conc.LoneSelect
import Derived.Conc.LoneSelectN
set_option linter.unusedVariables false
set_option linter.unusedSimpArgs false
set_option linter.unusedSectionVars false
namespace Go.Ev
section
variable {P:Program}{T:Cr}{p:Nat->Prop}{f:Loc}{h:Ac}{w:World}(hT:Fi P T)
include hT
theorem Yf {n:Nat}{ρ:Operand->Value}{tm:Ag}(hr:Reads f tm ρ)(ht:Ec p n tm)(hh:Gr p h)(rp:Gz f h w)
 {o:Oper} {t:TypeId} {m:Nat} {ps:Array (Nat × Operand)} (ho:o.op=.buildSlice t m ps) {v:EV} {h':Ac} (hop:Bq T tm (.buildSlice t m ps) h=some (v,h')) :
 Ps P (execOp ρ o) p f h w v h':=by
 simp only[Bq]at hop
 split at hop
 ·rename_i e l hu hl
  split at hop
  ·rename_i s z hs hz
   obtain⟨h1,h2⟩:=Ah hop
   split at h2
   ·rename_i c hc
    cases h2
    simp only[Nat.ble_eq,Nat.mul_eq]at h1
    obtain⟨u,x1,x2,x3,_,_,x4,i,i1,i2,i3⟩:=Jr hT f w hz
    obtain⟨i',j1,j2,j3⟩:=hT.size e s hs
    have hsz:s=z.length:=by rw[i1]at j1;cases j1;omega
    subst hsz
    obtain⟨c1,c2⟩:=Hf (x4 p) x1
    rw[<-x2]at c1 c2
    have d1:∀ v ∈ c,v.ok p:=Qb (fun i=>some (Nat.mul i z.length,z.length)) hc (fun v hv=>(C6 p _).1 c1 v (T6 hv))
     (fun q hq v hv=>(C6 p _).1 (Hf (Ug ht hl q hq) (Nm _ hc q hq)).1 v hv)
    have d2:∀ v ∈ c,v.one=true:=Qb (fun i=>some (Nat.mul i z.length,z.length)) hc (fun v hv=>c2 v (T6 hv))
     (fun q hq v hv=>(Hf (Ug ht hl q hq) (Nm _ hc q hq)).2 v hv)
    obtain⟨f',w',r1,r2,r3,r4⟩:=Ol (P:=P) hh rp e ((C6 p _).2 d1) (by simpa using d2)
    refine⟨f',w',_,?_,.inl rfl,r2,r3,r4⟩
    have hfl:=T9 f (fun i=>some (Nat.mul i z.length,z.length)) (fun i=>some (i*z.length,z.length)) (fun i q hq=>hq) hc
    have hps:(ps.map fun(i,x)=>(i,ρ x)).toList=l.map fun(i,v)=>(i,Be f v):=by
     rw[Array.toList_map,Nw hr hl]
    have hroom:¬ (2 ^ 24<m*z.length):=by omega
    simp only[execOp,ho,Instr.buildSlice,Sem.run_bind,Br hT w hu,Result.andThen_ok,Cv hT w hs,gt_iff_lt,hroom,if_false,Sem.run_pure]
    by_cases hz0:m*z.length=0
    ·have er:rep z m = []:=List.length_eq_zero_iff.1 (by rw[N9];exact hz0)
     have e0:∀ g:Nat->Value,Array.map g (Array.range 0)=(Av f []).toArray:=fun g=>by simp[Av]
     rw[er]at hfl
     simp only[hz0,if_true,Sem.run_bind,Sem.run_pure,Result.andThen_ok]
     rw[e0,hps,hfl]
     simp only[Sem.run_bind,r1,Result.andThen_ok,Sem.run_pure]
     simp[Be]
    ·rw[if_neg hz0]
     simp only[Sem.run_bind,x3,Sem.run_pure,Result.andThen_ok,Gv,<-x2]
     rw[Acu f z m hz0,hps,hfl]
     simp only[Sem.run_bind,r1,Result.andThen_ok,Sem.run_pure]
     simp[Be]
   ·cases h2
  ·cases hop
 ·cases hop
omit hT in
theorem Ack {ρ:Operand->Value}{tm:Ag}(hh:Gr p h)(rp:Gz f h w)
 {o:Oper} {t:TypeId} {r:Option Operand} (ho:o.op=.makeMap t r) {v:EV} {h':Ac} (hop:Bq T tm (.makeMap t r) h=some (v,h')) :
 Ps P (execOp ρ o) p f h w v h':=by
 cases r with
 | some x=>simp[Bq]at hop
 | none=>
  simp only[Bq]at hop
  cases hop
  refine⟨f.set h.next w.heap.size 0,{ w with heap:=w.heap.push (.map #[] 0) },_,?_,.inl rfl,Move.new hh rp 0 rfl ⟨#[],0,rfl,rfl⟩ rfl rfl rfl,Wf.new hh (by simp[A9.ok]),.inr ⟨Nat.le_refl _,by rw[Ac.B6];omega⟩⟩
  simp only[execOp,ho,Instr.makeMap,Be,Loc.Ie]
  simp
theorem Abu {ρ:Operand->Value}{tm:Ag}(hr:Reads f tm ρ)(hh:Gr p h)(rp:Gz f h w)
 {o:Oper} {t:TypeId} {x:Operand} (ho:o.op=.makeChan t x) {v:EV} {h':Ac} (hop:Bq T tm (.makeChan t x) h=some (v,h')) :
 Ps P (execOp ρ o) p f h w v h':=by
 simp only[Bq]at hop
 split at hop
 ·rename_i d e k n hu hx
  split at hop
  ·rename_i s hs
   obtain⟨h1,h2⟩:=Ah hop
   cases h2
   simp only[Nat.ble_eq]at h1
   obtain⟨i,i1,i2,i3⟩:=hT.size e s hs
   have hbig:¬ (((n:Int)<0)\/((n:Int) > IntKind.i64.max)\/((i.bytes:Int)*n > 2 ^ 48-112)):=by
    have:i.bytes*n<=1048576*65536:=Nat.mul_le_mul i3 h1
    have e:((i.bytes*n:Nat):Int)=(i.bytes:Int)*n:=by simp
    have e2:IntKind.i64.max=9223372036854775807:=rfl
    omega
   refine⟨f.set h.next w.heap.size 0,{ w with heap:=w.heap.push (.chan n #[] false 0 0 false) },_,?_,.inl rfl,Move.new hh rp 0 rfl ⟨0,0,rfl⟩ rfl rfl rfl,Wf.new hh trivial,.inr ⟨Nat.le_refl _,by rw[Ac.B6];omega⟩⟩
   simp only[execOp,ho,Instr.makeChan,Ar hr hx,Be,asInt,asIntOf,Sem.run_bind,Sem.run_pure,Result.andThen_ok,Br hT w hu,typeInfo,run_program,i1,Int.ofNat_eq_natCast]
   rw[if_neg hbig]
   simp[Loc.Ie]
  ·cases hop
 ·cases hop
omit hT in
theorem Zm:∀ {a b:List EV},Ef a b=some true->a=b
 | [],[],_=>rfl
 | x::r,y::s,h=>by
  unfold Ef at h
  split at h
  ·rename_i hx
   have ih:=Zm h
   have:x=y:=by
    unfold Uh at hx
    split at hx
    ·obtain⟨h1,h2⟩:=Ah hx
     obtain rfl:=Ph h1
     cases h2':eqB _ _ with
     | false=>rw[h2']at h2;cases h2
     | true=>rw[Qm]at h2';rw[of_decide_eq_true h2']
    ·rename_i p q
     have hx':=Option.some.inj hx
     rw[Wq]at hx'
     rw[Aha hx']
    ·rename_i p q
     cases p <;> cases q <;> first|rfl|(cases hx)
    ·cases hx
   rw[this,ih]
  ·split at h <;> cases h
  ·cases h
 | [],_::_,h=>by cases h
 | _::_,[],h=>by cases h
omit hT in
theorem Ahq {a b:EV}{r:Bool}(h:Uh a b=some r):(∃ k n,a=.int k n)\/(∃ c,a=.bool c)\/(∃ s,a=.str s):=by
 unfold Uh at h
 split at h
 ·exact .inl ⟨_,_,rfl⟩
 ·exact .inr (.inr ⟨_,rfl⟩)
 ·exact .inr (.inl ⟨_,rfl⟩)
 ·cases h
theorem F1 {t:TypeId}{k:EV}(hk:Ig T t k=true)(e:Bool):(Instr.checkKey e 10000 t (Be f k)).run P w=.ok () w:=by
 unfold Ig at hk
 split at hk
 ·rename_i a
  rw[Ax]at hk
  split at hk
  ·rename_i hkey
   split at hk
   ·rename_i sh hsh
    rw[Ax]at hk
    split at hk
    ·rename_i hs
     split at hk
     ·exact(hT.key t hkey).2 f w e a sh hsh hs
     ·cases hk
    ·cases hk
   ·cases hk
  ·cases hk
 ·rename_i kk n
  split at hk
  ·rename_i k' hu
   rw[Instr.checkKey.eq_def]
   simp[Br hT w hu,Be]
  ·cases hk
 ·cases hk
omit hT in
def Y0(f:Loc)(ents:List MapEntry)(es:List (EV × EV)):Prop:=ents.map (fun e=>(e.key,e.val))=es.map (fun e=>(Be f e.1,Be f e.2))
theorem Adj {k':IntKind}{kk:IntKind}{n:Int}(hkk:Nat.beq (Hg kk) (Hg k')=true):∀ {ents:List MapEntry} {es:List (EV × EV)} {i:Nat} {r:Option (Nat × EV)},Y0 f ents es->Eu (.int kk n) es i=some r ->
 Instr.findNow (.int k') (.int kk n) ents i=some (r.map fun x=>(x.1,Be f x.2))
 | [],[],i,r,_,h=>by simp only[Eu]at h;cases h;rfl
 | en::ents,(a,b)::es,i,r,he,h=>by
  simp only[Y0,List.map_cons,List.cons.injEq,Prod.mk.injEq]at he
  obtain⟨⟨e1,e2⟩,e3⟩:=he
  unfold Eu at h
  unfold Instr.findNow
  have hk:∀ c,U7 (.int kk n) a=some c->Instr.sameNow (.int k') (.int kk n) en.key=some c:=by
   intro c hc
   unfold U7 at hc
   split at hc
   ·rename_i hx;cases hx
   ·rename_i k1 a1 k2 b1 hx
    cases hx
    obtain⟨h1,h2⟩:=Ah hc
    obtain rfl:=Ph h1
    cases h2
    rw[e1]
    simp[Be,Instr.sameNow,Qm]
    rfl
   ·cases hc
  split at h
  ·rename_i hc
   cases h
   rw[hk _ hc,e2];rfl
  ·rename_i hc
   rw[hk _ hc]
   exact Adj hkk e3 h
  ·cases h
 | [],_::_,_,_,he,_=>by simp[Y0]at he
 | _::_,[],_,_,he,_=>by simp[Y0]at he
theorem Acz {t:TypeId}{sh:List Nat}(hsh:T.eqs t=some sh){a:List EV}(hn:shaped sh a=true):∀ {ents:List MapEntry} {es:List (EV × EV)} {i:Nat} {r:Option (Nat × EV)},Y0 f ents es->Eu (.agg a) es i=some r ->
 (Instr.findAsking t (Be f (.agg a)) ents i).run P w=.ok (r.map fun x=>(x.1,Be f x.2)) w
 | [],[],i,r,_,h=>by simp only[Eu]at h;cases h;rfl
 | en::ents,(b,c)::es,i,r,he,h=>by
  simp only[Y0,List.map_cons,List.cons.injEq,Prod.mk.injEq]at he
  obtain⟨⟨e1,e2⟩,e3⟩:=he
  unfold Eu at h
  unfold Instr.findAsking
  have hk:∀ d,U7 (.agg a) b=some d->(Op.equal t (Be f (.agg a)) en.key).run P w=.ok d w:=by
   intro d hd
   unfold U7 at hd
   split at hd
   ·rename_i hx
    cases hx
    rw[e1]
    exact(hT.eqs t sh hsh).2 f w _ _ d hd hn
   ·rename_i hx;cases hx
   ·cases hd
  split at h
  ·rename_i hc
   cases h
   simp only[Sem.run_bind,hk _ hc,Result.andThen_ok,if_true,Sem.run_pure,e2];rfl
  ·rename_i hc
   simp only[Sem.run_bind,hk _ hc,Result.andThen_ok,Bool.false_eq_true,if_false]
   exact Acz hsh hn e3 h
  ·cases h
 | [],_::_,_,_,he,_=>by simp[Y0]at he
 | _::_,[],_,_,he,_=>by simp[Y0]at he
theorem Ht {t:TypeId}{k:EV}(hk:Ig T t k=true){ents:List MapEntry}{es:List (EV × EV)}{r:Option (Nat × EV)}(he:Y0 f ents es)(hm:Eu k es 0=some r):
 (Instr.findKey t (Be f k) ents).run P w=.ok (r.map fun x=>(x.1,Be f x.2)) w:=by
 unfold Ig at hk
 split at hk
 ·rename_i a
  rw[Ax]at hk
  split at hk
  ·rename_i hkey
   split at hk
   ·rename_i sh hsh
    rw[Ax]at hk
    split at hk
    ·rename_i hn
     obtain⟨dsc,hfs,hagg⟩:=(hT.key t hkey).1
     simp only[Instr.findKey,underlying,Sem.run_bind,run_program,hfs,Result.andThen_ok,Sem.run_pure]
     cases ents with
     | nil=>
      cases es with
      | nil=>simp only[Eu]at hm;cases hm;rfl
      | cons x r=>simp[Y0]at he
     | cons en ents=>
      have:Instr.findNow dsc (Be f (.agg a)) (en::ents) 0=none:=by
       cases dsc <;> first|(simp[Uu]at hagg;done)|simp[Instr.findNow,Instr.sameNow,Be]
      rw[this]
      exact Acz hT hsh hn he hm
    ·cases hk
   ·cases hk
  ·cases hk
 ·rename_i kk n
  split at hk
  ·rename_i k' hu
   have:=Adj (f:=f) hT hk he hm
   simp only[Instr.findKey,Sem.run_bind,Br hT w hu,Result.andThen_ok,Be,this,Sem.run_pure]
  ·cases hk
 ·cases hk
omit hT in
theorem Nv {k:EV}:∀ {es:List (EV × EV)} {i j:Nat} {v:EV},Eu k es i=some (some (j,v))->∃ a,i<=j/\es[j-i]? = some (a,v)/\U7 k a=some true
 | [],i,j,v,h=>by simp[Eu]at h
 | (a,b)::es,i,j,v,h=>by
  unfold Eu at h
  split at h
  ·rename_i hc
   cases h
   exact⟨a,Nat.le_refl _,by simp,hc⟩
  ·obtain⟨a',h1,h2,h3⟩:=Nv h
   refine⟨a',by omega,?_,h3⟩
   have:j-i=(j-Nat.succ i)+1:=by omega
   rw[this];simpa using h2
  ·cases h
omit hT in
theorem Aeb {k a:EV}(h:U7 k a=some true):k=a:=by
 unfold U7 at h
 split at h
 ·rw[Zm h]
 ·obtain⟨h1,h2⟩:=Ah h
  obtain rfl:=Ph h1
  cases h2':eqB _ _ with
  | false=>rw[h2']at h2;cases h2
  | true=>rw[Qm]at h2';rw[of_decide_eq_true h2']
 ·cases h
end
end Go.Ev

namespace Go.Ev
theorem E1 {P:Program}{w:World}{r:Nat}{o:Obj}(h:w.heap[r]? = some o)(hc:∀ c e z,o ≠ .cells c e z):(getObj r).run P w=.ok o w:=by
 unfold getObj
 simp only[Sem.run,h]
theorem F0 {P:Program}{w:World}{r:Nat}{o o':Obj}(h:w.heap[r]? = some o)(hc:∀ c e z,o ≠ .cells c e z):(setObj r o').run P w=.ok () { w with heap:=w.heap.setIfInBounds r o' }:=by
 unfold setObj
 simp only[Sem.run,h]
section
variable {P:Program}{T:Cr}{p:Nat->Prop}{f:Loc}{h:Ac}{w:World}
theorem Move.setObj(rp:Gz f h w){i:Nat}{o o':A9}(hi:h.get i=some o){r:Obj}(h2:F6 f i o' r):
 Move p f h w f (h.put i o') { w with heap:=w.heap.setIfInBounds (f.b i) r }:=by
 have hl:=rp.lt hi
 refine Move.put rp hi (r:=r) ?_ h2 (fun b hb=>?_) ?_ rfl rfl rfl
 ·simp[hl]
 ·simp[Array.getElem?_setIfInBounds,Ne.symm hb]
 ·simp
variable (hT:Fi P T)
include hT
theorem Su {t:TypeId}{v:EV}(hz:zeroOf T t=some v):(zeroValue t).run P w=.ok (Be f v) w/\∀ q,v.ok q:=by
 unfold zeroOf at hz
 split at hz
 ·rename_i z hz'
  obtain⟨u,x1,x2,x3,x5,x6,x4,_⟩:=Jr hT f w hz'
  split at hz
  ·rename_i ha
   cases hz
   rw[<-x5 ha];exact⟨x3,x4⟩
  ·rename_i ha
   have e:=x6 ha
   split at hz
   ·rename_i v'
    cases hz
    cases e
    exact⟨x3,x4⟩
   ·cases hz
  ·cases hz
 ·cases hz
theorem Ad2 {n:Nat}{ρ:Operand->Value}{tm:Ag}(hr:Reads f tm ρ)(hh:Gr p h)(rp:Gz f h w)
 {o:Oper} {t:TypeId} {x k:Operand} {ok:Bool} (ho:o.op=.lookup t x k ok) {v:EV} {h':Ac} (hop:Bq T tm (.lookup t x k ok) h=some (v,h')) :
 Ps P (execOp ρ o) p f h w v h':=by
 simp only[Bq]at hop
 split at hop
 ·rename_i kt e i kv hu hx hk
  obtain⟨h1,h2⟩:=Ah hop
  split at h2
  ·rename_i es hg
   obtain⟨r,a1,ents,clock,a2,a3⟩:=rp.obj i _ hg
   obtain⟨_,a4⟩:=hh.get i _ hg
   subst a2
   have Kr:=E1 (P:=P) a1 (by intro c e z hx;cases hx)
   split at h2
   ·rename_i j u hm
    cases h2
    have hf:=Ht (w:=w) (f:=f) hT h1 a3 hm
    obtain⟨a,_,b2,_⟩:=Nv hm
    have hu':u.ok p:=(a4 _ (List.mem_of_getElem? b2)).2
    refine⟨f,w,_,?_,.inl rfl,Move.refl rp,Wf.refl hh,?_⟩
    ·simp only[execOp,ho,Instr.lookup,Ar hr hx,Ar hr hk,Be,Sem.run_bind,Br hT w hu,Result.andThen_ok,Kr,Sem.run_pure,F1 hT h1,hf,Option.map_some]
     cases ok <;> rfl
    ·rw[Dw p h h rfl]
     cases ok
     ·exact hu'
     ·exact⟨hu',trivial,trivial⟩
   ·rename_i hm
    split at h2
    ·rename_i zv hz
     cases h2
     obtain⟨z1,z2⟩:=Su (w:=w) (f:=f) hT hz
     have hf:=Ht (w:=w) (f:=f) hT h1 a3 hm
     refine⟨f,w,_,?_,.inl rfl,Move.refl rp,Wf.refl hh,?_⟩
     ·simp only[execOp,ho,Instr.lookup,Ar hr hx,Ar hr hk,Be,Sem.run_bind,Br hT w hu,Result.andThen_ok,Kr,Sem.run_pure,F1 hT h1,hf,Option.map_none,z1]
      cases ok <;> rfl
     ·rw[Dw p h h rfl]
      cases ok
      ·exact z2 p
      ·exact⟨z2 p,trivial,trivial⟩
    ·cases h2
   ·cases h2
  ·cases h2
 ·cases hop
omit hT in
theorem Th(n:Nat)(k:IntKind)(a:Int):Instr.sameBits n (.int k a) (.int k a)=true:=by
 unfold Instr.sameBits;simp
omit hT in
theorem Rx(n:Nat)(f:Loc):∀ {a:List EV} {r:Bool},Ef a a=some r->((Av f a).zip (Av f a)).all (fun(x,y)=>Instr.sameBits n x y)=true
 | [],_,_=>rfl
 | x::r,s,h=>by
  unfold Ef at h
  have hx:∃ c,Uh x x=some c/\∃ c',Ef r r=some c':=by
   split at h
   ·rename_i hc;exact⟨_,hc,_,h⟩
   ·rename_i hc
    split at h
    ·rename_i c' hc';exact⟨_,hc,_,hc'⟩
    ·cases h
   ·cases h
  obtain⟨c,hc,c',hc'⟩:=hx
  simp only[Av,List.zip_cons_cons,List.all_cons,Rx n f hc',Bool.and_true]
  rcases Ahq hc with ⟨k,m,rfl⟩|⟨d,rfl⟩|⟨d,rfl⟩
  ·exact Th n k m
  ·simp only[Be];unfold Instr.sameBits;simp
  ·simp only[Be];unfold Instr.sameBits;rw[<-Wq,Q1];simp
omit hT in
theorem Aa3 {t:TypeId}{k:EV}(hk:Ig T t k=true):Instr.sameBits 10000 (Be f k) (Be f k)=true:=by
 unfold Ig at hk
 split at hk
 ·rename_i a
  rw[Ax]at hk
  split at hk
  ·split at hk
   ·rw[Ax]at hk
    split at hk
    ·split at hk
     ·rename_i r hr
      have:=Rx 9999 f hr
      simp only[Be]
      unfold Instr.sameBits
      simpa using this
     ·cases hk
    ·cases hk
   ·cases hk
  ·cases hk
 ·exact Th _ _ _
 ·cases hk
theorem Yu {n:Nat}{ρ:Operand->Value}{tm:Ag}(hr:Reads f tm ρ)(ht:Ec p n tm)(hh:Gr p h)(rp:Gz f h w)
 {o:Oper} {t:TypeId} {m k x:Operand} (ho:o.op=.mapUpdate t m k x) {v:EV} {h':Ac} (hop:Bq T tm (.mapUpdate t m k x) h=some (v,h')) :
 Ps P (execOp ρ o) p f h w v h':=by
 simp only[Bq]at hop
 split at hop
 ·rename_i kt e i kv u hu hm hk hx
  obtain⟨h1,h2⟩:=Ah hop
  split at h2
  ·rename_i es hg
   obtain⟨r,a1,ents,clock,a2,a3⟩:=rp.obj i _ hg
   obtain⟨_,a4⟩:=hh.get i _ hg
   subst a2
   have Kr:=E1 (P:=P) a1 (by intro c e z hx;cases hx)
   have hset:=fun o'=>F0 (P:=P) (o':=o') a1 (by intro c e z hx;cases hx)
   split at h2
   ·rename_i j u' hfind
    cases h2
    have hf:=Ht (w:=w) (f:=f) hT h1 a3 hfind
    obtain⟨a,_,b2,b3⟩:=Nv hfind
    obtain rfl:=Aeb b3
    simp only[Nat.sub_zero]at b2
    have hkey:((ents[j]?).map (·.key)).getD (Be f kv)=Be f kv:=by
     have hl:(ents.toList.map (fun e=>(e.key,e.val)))[j]? = some (Be f kv,Be f u'):=by
      rw[a3,List.getElem?_map,b2];rfl
     rw[List.getElem?_map,Array.getElem?_toList]at hl
     cases he:ents[j]? with
     | none=>rw[he]at hl;cases hl
     | some en=>rw[he]at hl;simp only[Option.map_some,Option.some.injEq,Prod.mk.injEq]at hl;simp[hl.1]
    refine⟨f,_,.skip,?_,.inr ⟨rfl,rfl⟩,Move.setObj rp hg (r:=.map (ents.modify j fun en=>{ en with key:=Be f kv,val:=Be f u }) clock) ⟨_,_,rfl,?_⟩,Wf.put hh hg ?_,trivial⟩
    ·simp only[execOp,ho,Instr.mapUpdate,Ar hr hm,Ar hr hk,Ar hr hx]
     simp only[Be,Sem.run_bind,Br hT w hu,Result.andThen_ok,Kr,F1 hT h1,hf,Option.map_some,hkey,Instr.keyThatStays,Aa3 h1,if_true,Sem.run_pure,hset]
    ·rw[List.map_set,<-a3]
     apply List.ext_getElem?
     intro q
     simp only[Array.toList_modify,List.getElem?_map,List.getElem?_modify,List.getElem?_set,List.length_map]
     by_cases hq:j=q
     ·subst hq
      have hl:j<ents.toList.length:=by
       have:=(List.getElem?_eq_some_iff.1 b2).1
       have e:=congrArg List.length a3
       simp only[List.length_map]at e
       omega
      simp at hl
      simp[hl]
     ·simp[hq]
    ·intro e' he'
     rcases List.mem_or_eq_of_mem_set he' with he'|rfl
     ·exact a4 e' he'
     ·exact⟨B4 ht hk,B4 ht hx⟩
   ·rename_i hfind
    cases h2
    have hf:=Ht (w:=w) (f:=f) hT h1 a3 hfind
    refine⟨f,_,.skip,?_,.inr ⟨rfl,rfl⟩,Move.setObj rp hg (r:=.map (ents.push { key:=Be f kv,val:=Be f u,born:=clock }) (clock+1)) ⟨_,_,rfl,?_⟩,Wf.put hh hg ?_,trivial⟩
    ·simp only[execOp,ho,Instr.mapUpdate,Ar hr hm,Ar hr hk,Ar hr hx]
     simp only[Be,Sem.run_bind,Br hT w hu,Result.andThen_ok,Kr,F1 hT h1,hf,Option.map_none,Sem.run_pure,hset]
    ·simp[a3]
    ·intro e' he'
     rcases List.mem_append.1 he' with he'|he'
     ·exact a4 e' he'
     ·simp only[List.mem_singleton]at he';subst he';exact⟨B4 ht hk,B4 ht hx⟩
   ·cases h2
  ·cases h2
 ·cases hop
end
end Go.Ev

namespace Go.Ev
section
variable {P:Program}{T:Cr}{p:Nat->Prop}{f:Loc}{h:Ac}{w:World}
theorem Gz.world {w':World}(rp:Gz f h w)(e:w'.heap=w.heap):Gz f h w':=⟨fun i o ho=>by rw[e];exact rp.obj i o ho,rp.inj⟩
theorem Xg(mx:Bool)(k:IntKind):∀ {l:List EV} {a:Int} {v:EV},Ks mx k a l=some v->(∃ b,v=.int k b) /\
 (l.map (Be f)).foldlM (m:=Sem) (if mx=true then Builtin.max2 else Builtin.min2) (.int k a)=(pure (Be f v):Sem Value)
 | [],a,v,h=>by simp only[Ks]at h;cases h;exact⟨⟨a,rfl⟩,rfl⟩
 | .int k' b::r,a,v,h=>by
  simp only[Ks]at h
  obtain⟨h1,h2⟩:=Xg mx k h
  refine⟨h1,?_⟩
  rw[List.map_cons,List.foldlM_cons,<-h2]
  cases mx
  ·simp only[Bool.false_eq_true,if_false,Be,Builtin.min2,Ax,Uo,decide_eq_true_eq]
   rfl
  ·simp only[if_true,Be,Builtin.max2,Ax,Uo,decide_eq_true_eq,gt_iff_lt]
   rfl
 | .bool _::_,_,_,h=>by simp[Ks]at h
 | .str _::_,_,_,h=>by simp[Ks]at h
 | .ptr _ _::_,_,_,h=>by simp[Ks]at h
 | .Bj::_,_,_,h=>by simp[Ks]at h
 | .slice _ _ _ _ _::_,_,_,h=>by simp[Ks]at h
 | .tail _ _ _::_,_,_,h=>by simp[Ks]at h
 | .Ab::_,_,_,h=>by simp[Ks]at h
 | .map _::_,_,_,h=>by simp[Ks]at h
 | .N6::_,_,_,h=>by simp[Ks]at h
 | .chan _::_,_,_,h=>by simp[Ks]at h
 | .Kn::_,_,_,h=>by simp[Ks]at h
 | .func _ _ _::_,_,_,h=>by simp[Ks]at h
 | .U9 _::_,_,_,h=>by simp[Ks]at h
 | .Mh::_,_,_,h=>by simp[Ks]at h
 | .J2::_,_,_,h=>by simp[Ks]at h
 | .agg _::_,_,_,h=>by simp[Ks]at h
 | .tuple _::_,_,_,h=>by simp[Ks]at h
theorem Up {x:EV}{n:Nat}(hx:lenOf x=some n):∃ b c,Be f x=.slice b n c:=by
 unfold lenOf at hx
 split at hx <;> first|(cases hx;exact⟨_,_,rfl⟩)|(cases hx)
theorem Ji(hh:Gr p h)(rp:Gz f h w){size n:Nat}{x:EV}{l:List EV}(hc:cellsOf h size n x=some l):
 (Builtin.firstCells size n (Be f x)).run P w=.ok (Av f l).toArray w/\EV.Gx p l/\l.all EV.one=true/\l.length=n*size:=by
 unfold cellsOf at hc
 split at hc
 ·obtain⟨h1,h2⟩:=Ah hc
  cases h2
  have:=Nat.eq_of_beq_eq_true h1
  subst this
  exact⟨by simp[Be,Builtin.firstCells,Av],trivial,rfl,by simp⟩
 ·rename_i i off a b c
  rw[Ax]at hc
  split at hc
  ·rename_i h1
   cases hc
   have:=Nat.eq_of_beq_eq_true h1
   subst this
   refine⟨?_,trivial,rfl,by simp⟩
   simp[Be,Builtin.firstCells,Av,loadCells,loadCellsFrom]
  ·obtain⟨h1,h2,h3,h4,_⟩:=Nn (P:=P) hh rp hc
   exact⟨by simp only[Be,Builtin.firstCells];exact h1,h2,h3,h4⟩
 ·obtain⟨h1,h2⟩:=Ah hc
  cases h2
  have:=Nat.eq_of_beq_eq_true h1
  subst this
  refine⟨?_,trivial,rfl,by simp⟩
  simp[Be,Builtin.firstCells,Av,loadCells,loadCellsFrom]
 ·cases hc
variable (hT:Fi P T)
include hT
theorem Qx {st u e e' ty:TypeId}(hst:T.D2 st=some (.slice e))(hu:T.D2 u=some (.slice e')){size:Nat}(hs:T.size e=some size){z:List EV}(hz:T.zero e=some z)
 {base:Option Addr} {sLen sCap n cx:Nat} {bx:Option Addr} {old new:Array Value} (hcap:¬ sLen+n<=sCap) (hl:sLen<=65536) (hn:n<=65536)
 (h1:∀ d,(Builtin.firstCells size sLen (.slice base sLen sCap)).run P { w with drawn:=d }=.ok old { w with drawn:=d })
 (h2:∀ d,(Builtin.firstCells size n (.slice bx n cx)).run P { w with drawn:=d }=.ok new { w with drawn:=d }) :
 ∃ cap rest,sLen+n<=cap/\rest.size=(cap-(sLen+n))*size /\
  (Builtin.append_ #[st,u] ty #[.slice base sLen sCap,.slice bx n cx]).run P w=.ok (.slice (some ⟨w.heap.size,0,none⟩) (sLen+n) cap) { w with drawn:=w.drawn+1,heap:=w.heap.push (.cells (old++new++rest) e) }:=by
 have ⟨f⟩:Nonempty Loc:=⟨⟨id,id⟩⟩
 obtain⟨x,x1,x2,x3,_,_,x4,i,i1,i2,i3⟩:=Jr hT f w hz
 obtain⟨i',j1,j2,j3⟩:=hT.size e size hs
 have hi:i'=i:=by rw[i1]at j1;cases j1;rfl
 subst hi
 have hb:Builtin.nextslicecap (sLen+n) sCap<=4000000:=by
  unfold Builtin.nextslicecap
  split
  ·omega
  ·split
   ·omega
   ·simp only[Builtin.growBy]
    repeat' split
    all_goals omega
 have hbig:¬ (2 ^ 48<Builtin.nextslicecap (sLen+n) sCap*i'.bytes):=by
  have:=Nat.mul_le_mul hb i3
  omega
 refine⟨(Question.appendCap (sLen+n) sCap e).cut (w.tape w.drawn (.appendCap (sLen+n) sCap e)),Builtin.zeroCells (Be f x).cells ((Question.appendCap (sLen+n) sCap e).cut (w.tape w.drawn (.appendCap (sLen+n) sCap e))-(sLen+n)),?_,?_,?_⟩
 rotate_left 2
 ·have hneed:¬ (((sLen+n:Nat):Int) > IntKind.i64.max):=by
   have e2:IntKind.i64.max=9223372036854775807:=rfl
   omega
  have hz':∀ d,(zeroValue e).run P { w with drawn:=d }=.ok (Be f x) { w with drawn:=d }:=by
   intro d
   obtain⟨y,_,y2,y3,_⟩:=Jr hT f { w with drawn:=d } hz
   obtain⟨i2',v,xx,a1,a2,a3,_⟩:=hT.zero e z hz
   simp only[zeroValue,typeInfo,Sem.run_bind,run_program,i1,Result.andThen_ok,Sem.run_pure]at x3 ⊢
   rw[i1]at a1
   cases a1
   rw[a2]at x3 ⊢
   simp only[Sem.run_pure,Result.ok.injEq]at x3 ⊢
   exact⟨x3.1,trivial⟩
  simp only[Builtin.append_,Sem.run_bind,List.getElem?_toArray,List.getElem?_cons_zero,List.getElem?_cons_succ,Br hT w hst,Br hT w hu,Cv hT w hs,Result.andThen_ok,Sem.run_pure,Builtin.lenOf,Bool.false_eq_true,if_false,hcap]
  simp only[hneed,false_and,if_false,Sem.run_bind,Sem.run_pure,Result.andThen_ok,typeInfo,run_program,i1,gt_iff_lt,hbig,run_choose,Question.forced,Bool.false_eq_true,run_askRoom,h1,h2,hz',Bool.not_false,if_true]
  rfl
 ·simp only[Question.cut];omega
 ·rw[Builtin.zeroCells]
  have e1:(Be f x).cells.size=size:=by rw[Gv,<-x2];simp[Bh];omega
  simp[e1]
end
end Go.Ev

namespace Go.Ev
def K9(P:Program)(s:Sem Value)(p:Nat->Prop)(f:Loc)(h:Ac)(w:World)(v:EV)(h':Ac):Prop:=
 ∃ f' w',s.run P w=.ok (Be f' v) w'/\Move p f h w f' h' w'/\Wf p h h'/\v.ok (grow p h h')
section
variable {P:Program}{T:Cr}{p:Nat->Prop}{f:Loc}{h:Ac}{w:World}(hT:Fi P T)
include hT
theorem Uz(hh:Gr p h)(rp:Gz f h w){e:TypeId}{l:List EV}(hl:EV.Gx p l)(h1:l.all EV.one=true){size m cap:Nat}(hcap:m<=cap){rest:Array Value}(hrest:rest.size=(cap-m)*size){old new:List EV}(hon:l=old++new)(d:Nat):
 Move p f h w (f.set h.next w.heap.size (cap-m)) (h.new (.vec l e size)) { w with drawn:=d,heap:=w.heap.push (.cells ((Av f old).toArray++(Av f new).toArray++rest) e) }/\Wf p h (h.new (.vec l e size)) /\
  Be (f.set h.next w.heap.size (cap-m)) (.slice h.next 0 m m true)=.slice (some ⟨w.heap.size,0,none⟩) m cap:=by
 refine⟨Move.new hh rp _ rfl ?_ rfl rfl rfl,Wf.new hh ⟨Gl hl,h1⟩,?_⟩
 ·refine⟨rest.toList,?_,by simp[hrest,Loc.Pt]⟩
  rw[<-Cm (f.Ep _ _ hh.fresh) l hl,hon,Ge]
  congr 1
  apply Array.ext'
  simp
 ·simp only[Be,Loc.Ie,Loc.Pt,if_true]
  congr 1
  omega
theorem Aez(hh:Gr p h)(rp:Gz f h w){st u ty e':TypeId}{s x v:EV}{h':Ac}(hs:s.ok p)(hu:T.D2 u=some (.slice e'))(hop:append T st s x h=some (v,h')):
 K9 P (Builtin.append_ #[st,u] ty #[Be f s,Be f x]) p f h w v h':=by
 unfold append at hop
 split at hop
 ·rename_i e hst
  split at hop
  ·rename_i size z hsz hz
   split at hop
   ·rename_i n hn
    obtain⟨bx,cx,hx⟩:=Up (f:=f) hn
    rw[Ax]at hop
    split at hop
    ·rename_i h0
     have:=Nat.eq_of_beq_eq_true h0
     subst this
     have hfc:∀ (size:Nat),(Builtin.firstCells size 0 (.slice bx 0 cx)).run P w=.ok #[] w:=by
      intro size
      cases bx <;> simp[Builtin.firstCells,loadCells,loadCellsFrom]
     split at hop
     ·rename_i i off len0 room op
      obtain⟨h1,h2⟩:=Ah hop
      cases h2
      simp only[Nat.ble_eq]at h1
      refine⟨f,w,?_,Move.refl rp,Wf.refl hh,by rw[Dw p h h rfl];exact hs⟩
      rw[hx]
      have hle:len0<=(if op=true then room+f.sp i else room):=by split <;> omega
      simp only[Be,Builtin.append_,Sem.run_bind,List.getElem?_toArray,List.getElem?_cons_zero,List.getElem?_cons_succ,Br hT w hst,Br hT w hu,Cv hT w hsz,Result.andThen_ok,Sem.run_pure,Builtin.lenOf,Bool.false_eq_true,if_false,Nat.add_zero,hle,if_true,Bool.not_false,hfc]
      simp[storeCells]
     ·cases hop
      refine⟨f,w,?_,Move.refl rp,Wf.refl hh,trivial⟩
      rw[hx]
      simp only[Be,Builtin.append_,Sem.run_bind,List.getElem?_toArray,List.getElem?_cons_zero,List.getElem?_cons_succ,Br hT w hst,Br hT w hu,Cv hT w hsz,Result.andThen_ok,Sem.run_pure,Builtin.lenOf,Bool.false_eq_true,if_false,Nat.add_zero,Nat.le_refl,if_true,Bool.not_false,hfc]
     ·cases hop
    ·rename_i h0
     obtain⟨hn1,h2⟩:=Ah hop
     simp only[Nat.ble_eq]at hn1
     split at h2
     ·rename_i new hnew
      obtain⟨n1,n2,n3,n4⟩:=Ji (P:=P) hh rp hnew
      have nd:∀ d,(Builtin.firstCells size n (.slice bx n cx)).run P { w with drawn:=d }=.ok (Av f new).toArray { w with drawn:=d }:=by
       intro d;rw[<-hx];exact(Ji (P:=P) hh (rp.world (w':={ w with drawn:=d }) rfl) hnew).1
      split at h2
      ·cases h2
       have hn0:n ≠ 0:=fun e=>h0 (by rw[e];rfl)
       obtain⟨cap,rest,g1,g2,g3⟩:=Qx (w:=w) (ty:=ty) hT hst hu hsz hz (base:=none) (sLen:=0) (sCap:=0) (old:=(Av f []).toArray) (by omega) (by omega) hn1
        (by intro d;simp[Builtin.firstCells,Av]) nd
       simp only[Nat.zero_add]at g1 g2 g3
       obtain⟨k1,k2,k3⟩:=Uz hT hh rp (e:=e) (l:=new) n2 n3 g1 g2 (old:=[]) rfl (w.drawn+1)
       refine⟨_,_,?_,k1,k2,.inr ⟨Nat.le_refl _,by rw[Ac.B6];omega⟩⟩
       rw[k3,hx]
       exact g3
      ·rename_i i off len0 room op
       obtain⟨hl0,h3⟩:=Ah h2
       simp only[Nat.ble_eq]at hl0
       split at h3
       ·rename_i old hold
        obtain⟨o1,o2,o3,o4⟩:=Ji (P:=P) hh rp hold
        have od:∀ d,(Builtin.firstCells size len0 (Be f (.slice i off len0 room op))).run P { w with drawn:=d }=.ok (Av f old).toArray { w with drawn:=d }:=by
         intro d;exact(Ji (P:=P) hh (rp.world (w':={ w with drawn:=d }) rfl) hold).1
        have Lj:EV.Gx p (old++new):=Iw o2 n2
        have hone:(old++new).all EV.one=true:=Aeo o3 n3
        rw[Ax]at h3
        split at h3
        ·rename_i hop'
         subst hop'
         obtain⟨c1,h4⟩:=Ah h3
         obtain⟨c2,h5⟩:=Ah h4
         clear h3 h4
         have:=Nat.eq_of_beq_eq_true c1
         subst this
         have:=Nat.eq_of_beq_eq_true c2
         subst this
         split at h5
         ·rename_i l e1 s1 hg
          obtain⟨c3,h6⟩:=Ah h5
          obtain⟨c4,h7⟩:=Ah h6
          obtain⟨c5,h8⟩:=Ah h7
          clear h5 h6 h7
          rw[J9]at c3
          have c3':=Nat.eq_of_beq_eq_true c3
          have:=Nat.eq_of_beq_eq_true c4
          subst this
          have:=Nat.eq_of_beq_eq_true c5
          subst this
          cases h8
          simp only[Nat.mul_eq]at c3'
          by_cases hroom:n<=f.sp i
          ·
           obtain⟨r,a1,more,a2,a5⟩:=rp.obj i _ hg
           subst a2
           have hol:old=l:=by
            unfold cellsOf at hold
            simp only at hold
            rw[Ax]at hold
            split at hold
            ·rename_i hz0
             have:=Nat.eq_of_beq_eq_true hz0
             subst this
             cases hold
             simp at c3'
             exact c3'.symm
            ·unfold Em at hold
             rw[hg]at hold
             obtain⟨_,q2⟩:=Lv hold
             rw[Fu]at q2
             rw[q2]
             simp only[List.drop_zero,Nat.mul_eq]
             rw[<-c3',List.take_length]
           subst hol
           have hml:n*s1<=more.length:=by rw[a5];exact Nat.mul_le_mul_right _ hroom
           have hrun:=run_storeCells_at (P:=P) (f.b i) (room*s1) e1 (Av f new) 0 (Av f old++more).toArray w a1 (by simp only[Bh,List.size_toArray,List.length_append];omega) (Ia f new (by simpa using n3))
           refine⟨f.set h.next (f.b i) (f.sp i-n),w.setRow (f.b i) (Av f old++Av f new++more.drop (n*s1)).toArray,?_,Move.Ye hh rp hg (f.sp i-n) (r:=.cells (Av f (old++new)++more.drop (n*s1)).toArray e1 (0,0)) ?_ ?_ (fun b hb=>setRow_other _ _ _ _ hb) (setRow_size _ _ _) rfl rfl rfl,Wf.Ye hh i ⟨Gl Lj,hone⟩,.inr ⟨Nat.le_refl _,by rw[Ac.B6,Ac.P2];omega⟩⟩
           rotate_left 1
           ·rw[setRow_heap w (f.b i) _ _ e1 (0,0) a1,Ge]
           ·refine⟨more.drop (n*s1),?_,?_⟩
            ·rw[Cm (f.Ep _ _ hh.fresh) (old++new) Lj]
            ·rw[Loc.Pt,List.length_drop,a5,Nat.sub_mul]
           ·rw[hx]
            have hle:room+n<=room+f.sp i:=by omega
            simp only[Be,Builtin.append_,Sem.run_bind,List.getElem?_toArray,List.getElem?_cons_zero,List.getElem?_cons_succ,Br hT w hst,Br hT w hu,Cv hT w hsz,Result.andThen_ok,Sem.run_pure,Builtin.lenOf,Bool.false_eq_true,if_false,if_true,hle,Bool.not_false,Loc.Ie,Loc.Pt]
            rw[<-hx,n1]
            simp only[Result.andThen_ok,Sem.run_bind,Hh,Nat.zero_add,hrun,Sem.run_pure]
            congr 1
            ·congr 1
             simp only[Nat.add_eq]
             omega
            ·congr 1
             simp only[Nat.add_zero,Bh]
             rw[List.take_append_of_le_length (by rw[Bh];omega),List.take_of_length_le (by rw[Bh];omega)]
             rw[List.drop_append,List.drop_of_length_le (by rw[Bh];omega)]
             simp only[Bh,List.nil_append]
             congr 4
             omega
          ·obtain⟨cap,rest,g1,g2,g3⟩:=Qx (w:=w) (ty:=ty) hT hst hu hsz hz (base:=some ⟨f.b i,0,none⟩) (sLen:=room) (sCap:=room+f.sp i) (old:=(Av f old).toArray) (by omega) hl0 hn1
            (by intro d;simpa [Be] using od d) nd
           obtain⟨k1,_,k3⟩:=Uz hT (hh.del i) (rp.sub N0) (e:=e1) (l:=old++new) Lj hone g1 g2 rfl (w.drawn+1)
           refine⟨f.set h.next w.heap.size (cap-(room+n)),_,?_,⟨k1.agree,k1.rep,fun b hb hn=>k1.kept b hb (fun j q hj=>hn j q (N0 j q hj)),k1.size,k1.tape,k1.os,k1.output,fun j q hj=>(k1.own j q hj).imp id (fun⟨k,q',hk,e⟩=>⟨k,q',N0 k q' hk,e⟩)⟩,
            Wf.Ye hh i ⟨Gl Lj,hone⟩,.inr ⟨Nat.le_refl _,by rw[Ac.B6,Ac.P2];omega⟩⟩
           rw[show Be (f.set h.next w.heap.size (cap-(room+n))) (.slice h.next 0 (Nat.add room n) (Nat.add room n) true)=_ from k3,hx]
           simpa [Be] using g3
         ·cases h5
        ·rename_i hop'
         have hop'':op=false:=by simpa using hop'
         subst hop''
         obtain⟨c1,h4⟩:=Gw h3
         cases h4
         have hc:¬ len0+n<=room:=by
          intro e
          have:=H8 e
          rw[show Nat.add len0 n=len0+n from rfl]at c1
          rw[this]at c1;cases c1
         obtain⟨cap,rest,g1,g2,g3⟩:=Qx (w:=w) (ty:=ty) hT hst hu hsz hz (base:=some ⟨f.b i,off,none⟩) (sLen:=len0) (sCap:=room) (old:=(Av f old).toArray) hc hl0 hn1
          (by intro d;simpa [Be] using od d) nd
         obtain⟨k1,k2,k3⟩:=Uz hT hh rp (e:=e) (l:=old++new) Lj hone g1 g2 rfl (w.drawn+1)
         refine⟨_,_,?_,k1,k2,.inr ⟨Nat.le_refl _,by rw[Ac.B6];omega⟩⟩
         rw[show Be (f.set h.next w.heap.size (cap-(len0+n))) (.slice h.next 0 (Nat.add len0 n) (Nat.add len0 n) true)=_ from k3,hx]
         simpa [Be] using g3
       ·cases h3
      ·cases h2
     ·cases h2
   ·cases hop
  ·cases hop
 ·cases hop
end
end Go.Ev

namespace Go.Ev
theorem Ag2:∀ l:List UInt8,Auc l=l.length
 | []=>rfl
 | _::r=>congrArg Nat.succ (Ag2 r)
section
variable {P:Program}{T:Cr}{p:Nat->Prop}{f:Loc}{h:Ac}{w:World}(hT:Fi P T)
include hT
omit hT in
theorem K9.stay(hh:Gr p h)(rp:Gz f h w){s:Sem Value}{v:EV}(hs:s.run P w=.ok (Be f v) w)(hv:v.ok p):K9 P s p f h w v h:=
 ⟨f,w,hs,Move.refl rp,Wf.refl hh,by rw[Dw p h h rfl];exact hv⟩
theorem Ak0(hh:Gr p h)(rp:Gz f h w){t u ty e e':TypeId}{d s:EV}(ht:T.D2 t=some (.slice e)){size dn sn:Nat}(hs:T.size e=some size)(hd:lenOf d=some dn)(hsn:lenOf s=some sn)
 {n:Nat} (hn:n=Al (Nat.ble sn dn) sn dn) {cs:List EV} (hc:cellsOf h size n s=some cs) {i off a b:Nat} {op:Bool} (hdd:d=.slice i off a b op) {h':Ac} (hw:F9 h i off cs=some h') :
 K9 P (Builtin.copy_ #[t,u] ty #[Be f d,Be f s]) p f h w (.int .i64 (.ofNat n)) h':=by
 obtain⟨n1,n2,n3,n4⟩:=Ji (P:=P) hh rp hc
 obtain⟨bs,cc,hss⟩:=Up (f:=f) hsn
 obtain⟨w',r1,r2,r3⟩:=Vs (P:=P) hh rp hw n2 n3
 subst hdd
 have hdn:dn=a:=by simp only[lenOf]at hd;cases hd;rfl
 subst hdn
 have hmin:Nat.min sn dn=n:=by
  rw[hn,Ax]
  show min sn dn=_
  by_cases hle:sn<=dn
  ·rw[if_pos (H8 hle)];omega
  ·rw[if_neg (by rw[I4 hle];simp)];omega
 refine⟨f,w',?_,r2,r3,trivial⟩
 rw[hss]
 rw[hss]at n1
 simp only[Be,Builtin.copy_,Sem.run_bind,List.getElem?_toArray,List.getElem?_cons_zero,List.getElem?_cons_succ,Br hT w ht,Result.andThen_ok,Builtin.lenOf,Sem.run_pure,Cv hT w hs,hmin,n1,r1]
 rfl
theorem Acy(hh:Gr p h)(rp:Gz f h w){b:Builtin}{ts:Array TypeId}{ty:TypeId}{cs:Array Bool}{args:List EV}(ha:EV.Gx p args){v:EV}{h':Ac}(hop:builtin T b ts args h=some (v,h')):
 ∃ s,(Go.builtin b ts ty cs (Av f args).toArray)=(do pure (.value (← s)):Sem Next)/\K9 P s p f h w v h':=by
 unfold builtin at hop
 split at hop
 ·rename_i s x
  split at hop
  ·rename_i t u hts
   have hts':ts = #[t,u]:=by apply Array.ext';simpa using hts
   subst hts'
   split at hop
   ·rename_i e' hu
    exact⟨_,rfl,Aez hT hh rp ha.1 hu hop⟩
   ·cases hop
  ·cases hop
 ·rename_i x
  split at hop
  ·rename_i t hts
   have hts':ts = #[t]:=by apply Array.ext';simpa using hts
   subst hts'
   refine⟨_,rfl,?_⟩
   split at hop
   ·rename_i n e hu
    cases hop
    exact K9.stay hh rp (by simp[Builtin.len_,Br hT w hu,Av,Be,goInt]) trivial
   ·rename_i e y hu
    split at hop
    ·rename_i n hn
     cases hop
     obtain⟨bx,cx,hx⟩:=Up (f:=f) hn
     exact K9.stay hh rp (by simp[Builtin.len_,Br hT w hu,Av,hx,goInt,Be]) trivial
    ·cases hop
   ·rename_i s hu
    cases hop
    exact K9.stay hh rp (by simp[Builtin.len_,Br hT w hu,Av,Be,goInt,Ag2]) trivial
   ·rename_i d e i hu
    split at hop
    ·rename_i c buf hg
     cases hop
     obtain⟨r,a1,s1,c1,a2⟩:=rp.obj i _ hg
     subst a2
     have Kr:=E1 (P:=P) a1 (by intro c e z hx;cases hx)
     exact K9.stay hh rp (by simp[Builtin.len_,Br hT w hu,Av,Be,Kr,goInt,J9,Bh]) trivial
    ·cases hop
   ·cases hop
  ·cases hop
 ·rename_i d s
  split at hop
  ·rename_i t u hts
   have hts':ts = #[t,u]:=by apply Array.ext';simpa using hts
   subst hts'
   split at hop
   ·rename_i e e' ht hu
    split at hop
    ·rename_i size dn sn hs hd hsn
     obtain⟨_,hop⟩:=Gw hop
     split at hop
     ·rename_i cs' hc
      split at hop
      ·split at hop
       ·rename_i h'' hw
        cases hop
        exact⟨_,rfl,Ak0 hT hh rp (e':=e') ht hs hd hsn rfl hc rfl hw⟩
       ·cases hop
      ·cases hop
     ·cases hop
    ·cases hop
   ·cases hop
  ·cases hop
 ·rename_i m k
  split at hop
  ·rename_i t tr hts
   have h0:ts[0]? = some t:=by
    have:ts.toList[0]? = some t:=by rw[hts];rfl
    simpa using this
   split at hop
   ·rename_i kt e i hu
    obtain⟨h1,h2⟩:=Ah hop
    split at h2
    ·rename_i es hg
     obtain⟨r,a1,ents,clock,a2,a3⟩:=rp.obj i _ hg
     obtain⟨_,a4⟩:=hh.get i _ hg
     subst a2
     have Kr:=E1 (P:=P) a1 (by intro c e z hx;cases hx)
     have hset:=fun o'=>F0 (P:=P) (o':=o') a1 (by intro c e z hx;cases hx)
     refine⟨_,rfl,?_⟩
     split at h2
     ·rename_i j u' hfind
      cases h2
      have hf:=Ht (w:=w) (f:=f) hT h1 a3 hfind
      refine⟨f,_,?_,Move.setObj rp hg (r:=.map (ents.eraseIdxIfInBounds j) clock) ⟨_,_,rfl,?_⟩,Wf.put hh hg (fun q hq=>a4 q (List.mem_of_mem_eraseIdx hq)),trivial⟩
      ·simp only[Builtin.delete_,Av,Be,Sem.run_bind,List.getElem?_toArray,List.getElem?_cons_zero,List.getElem?_cons_succ,h0,Br hT w hu,Result.andThen_ok,Kr,F1 hT h1,hf,Option.map_some,hset,Sem.run_pure]
      ·have e1:(ents.eraseIdxIfInBounds j).toList=ents.toList.eraseIdx j:=by
        rw[Array.eraseIdxIfInBounds_eq]
        split
        ·simp
        ·rename_i hj
         rw[List.eraseIdx_of_length_le (by simpa using hj)]
       rw[e1,List.eraseIdx_eq_take_drop_succ,List.eraseIdx_eq_take_drop_succ]
       simp only[List.map_append,List.map_take,List.map_drop,a3]
     ·rename_i hfind
      cases h2
      have hf:=Ht (w:=w) (f:=f) hT h1 a3 hfind
      refine⟨f,_,?_,Move.setObj rp hg (r:=.map ents clock) ⟨_,_,rfl,a3⟩,Wf.put hh hg a4,trivial⟩
      simp only[Builtin.delete_,Av,Be,Sem.run_bind,List.getElem?_toArray,List.getElem?_cons_zero,List.getElem?_cons_succ,h0,Br hT w hu,Result.andThen_ok,Kr,F1 hT h1,hf,Option.map_none,hset,Sem.run_pure]
     ·cases h2
    ·cases h2
   ·cases hop
  ·cases hop
 ·rename_i k a l
  split at hop
  ·rename_i u hm
   cases hop
   obtain⟨⟨c,rfl⟩,h2⟩:=Xg (f:=f) false k hm
   refine⟨_,rfl,K9.stay hh rp ?_ trivial⟩
   simp only[Builtin.min_,Av,List.toList_toArray,Be,E8]
   simp only[Bool.false_eq_true,if_false,Be]at h2
   rw[h2];rfl
  ·cases hop
 ·rename_i k a l
  split at hop
  ·rename_i u hm
   cases hop
   obtain⟨⟨c,rfl⟩,h2⟩:=Xg (f:=f) true k hm
   refine⟨_,rfl,K9.stay hh rp ?_ trivial⟩
   simp only[Builtin.max_,Av,List.toList_toArray,Be,E8]
   simp only[if_true,Be]at h2
   rw[h2];rfl
  ·cases hop
 ·cases hop
end
end Go.Ev

namespace Go.Ev
structure FB where
 fn:Nat
 defers:List Deferred
 Cd:Option Nat
def FB.at(b:FB)(tmps:Array Value)(todo:List Item):Frame:={ fn:=b.fn,tmps,todo,defers:=b.defers,mode:=.run,kind:=.normal,roundOf:=b.Cd }
def Dg(tmps:Array Value):Operand->Value:=(Act.mk tmps []).eval
def Acj(tmps:Array Value)(d:Option Tmp)(v:Value):Array Value:=
 match d with
 | some d=>tmps.setIfInBounds d v
 | none=>tmps
theorem FB.eval_at(b:FB)(tmps:Array Value)(todo:List Item):(b.at tmps todo).eval=Dg tmps:=by funext x;cases x <;> rfl
theorem FB.finish_at(b:FB)(tmps:Array Value){ops:Array Oper}{i:Nat}{o:Oper}(ho:ops[i]? = some o)(rest:List Nat)(k:List Item)(v:Value):
 (b.at tmps (.inRegion ops (i::rest)::k)).finish v=b.at (Acj tmps o.dst v) (.inRegion ops rest::k):=by
 cases hd:o.dst <;> simp[Frame.finish,FB.at,Acj,ho,hd]
def Oh:Op->Bool
 | .defer _=>true
 | _=>false
section
variable {P:Program}{b:FB}{tmps:Array Value}{ops:Array Oper}{i:Nat}{rest:List Nat}{k:List Item}{cs:List Frame}{w:World}{o:Oper}
theorem Qi(ho:ops[i]? = some o)(hw:Region.wanted o (Go.yielded ops tmps)=true)(hd:Oh o.op=false):
 stepG P true { frame:=b.at tmps (.inRegion ops (i::rest)::k),callers:=cs,status:=.running,dying:=none } w =
  stepG.apply P true (b.at tmps (.inRegion ops (i::rest)::k)) cs none (execOp (Dg tmps) o) w:=by
 have he:=FB.eval_at b tmps (.inRegion ops (i::rest)::k)
 simp only[FB.at]at he
 cases hr:b.Cd <;> cases ho':o.op <;> simp[stepG,stepG.exec,stepG.oper,Frame.oper?,FB.at,ho,hw,hr,ho'] <;> first|(rw[hr]at he;rw[he];done)|(simp[ho',Oh]at hd)
theorem Y9(ho:ops[i]? = some o)(hw:Region.wanted o (Go.yielded ops tmps)=true)(hd:Oh o.op=false){v:Value}{w':World}
 (hr:(execOp (Dg tmps) o).run P w=.ok (.value v) w') :
 step P (lone (b.at tmps (.inRegion ops (i::rest)::k)) cs w)=.next (lone (b.at (Acj tmps o.dst v) (.inRegion ops rest::k)) cs w'):=by
 refine step_lone_go ?_
 rw[Qi ho hw hd,<-FB.finish_at b tmps ho]
 simp[stepG.apply,hr]
theorem Aa4(ho:ops[i]? = some o)(hw:Region.wanted o (Go.yielded ops tmps)=true)(hd:Oh o.op=false){w':World}
 (hr:(execOp (Dg tmps) o).run P w=.ok .skip w') :
 step P (lone (b.at tmps (.inRegion ops (i::rest)::k)) cs w)=.next (lone (b.at (Acj tmps o.dst undef) (.inRegion ops rest::k)) cs w'):=by
 refine step_lone_go ?_
 rw[Qi ho hw hd,<-FB.finish_at b tmps ho]
 simp[stepG.apply,hr]
theorem Y8(ho:ops[i]? = some o)(hw:Region.wanted o (Go.yielded ops tmps)=true)(hd:Oh o.op=false){g:FuncId}{args:Array Value}{w':World}
 (hr:(execOp (Dg tmps) o).run P w=.ok (.enter g args) w') :
 step P (lone (b.at tmps (.inRegion ops (i::rest)::k)) cs w)=.next (lone (Frame.enter P g args .normal) (b.at tmps (.inRegion ops (i::rest)::k)::cs) w'):=by
 refine step_lone_go ?_
 rw[Qi ho hw hd]
 simp[stepG.apply,hr,FB.at]
theorem Zb(ho:ops[i]? = some o)(hw:Region.wanted o (Go.yielded ops tmps)=true)(hd:Oh o.op=false){l g:Nat}{ts:Array Value}{asg body:Code}{w':World}
 (hr:(execOp (Dg tmps) o).run P w=.ok (.round l g ts asg body) w') :
 step P (lone (b.at tmps (.inRegion ops (i::rest)::k)) cs w)=.next (lone (Frame.round l g ts asg body .normal) (b.at tmps (.inRegion ops (i::rest)::k)::cs) w'):=by
 refine step_lone_go ?_
 rw[Qi ho hw hd]
 simp[stepG.apply,hr,FB.at]
theorem Vj(ho:ops[i]? = some o)(hw:Region.wanted o (Go.yielded ops tmps)=false):
 step P (lone (b.at tmps (.inRegion ops (i::rest)::k)) cs w)=.next (lone (b.at (Acj tmps o.dst undef) (.inRegion ops rest::k)) cs w):=by
 refine step_lone_go ?_
 rw[<-FB.finish_at b tmps ho]
 simp[stepG,stepG.exec,FB.at,ho,hw]
theorem Vz:step P (lone (b.at tmps (.inRegion ops []::k)) cs w)=.next (lone (b.at tmps k) cs w):=
 step_lone_go (by simp[stepG,stepG.exec,FB.at])
end
def Pf(P:Program)(o:Oper)(tmps:Array Value)(p:Nat->Prop)(f:Loc)(h:Ac)(w:World)(v:EV)(h':Ac):Prop:=
 ∀ (b:FB) (ops:Array Oper) (i:Nat) (rest:List Nat) (k:List Item) (cs:List Frame),ops[i]? = some o->Region.wanted o (Go.yielded ops tmps)=true ->
  ∃ f' w',Steps P (lone (b.at tmps (.inRegion ops (i::rest)::k)) cs w) (lone (b.at (Acj tmps o.dst (Be f' v)) (.inRegion ops rest::k)) cs w') /\
   Move p f h w f' h' w'/\Wf p h h'/\v.ok (grow p h h')
theorem Pf.J5 {P:Program}{o:Oper}{tmps:Array Value}{p:Nat->Prop}{f:Loc}{h:Ac}{w:World}{v:EV}{h':Ac}(hd:Oh o.op=false)
 (he:Ps P (execOp (Dg tmps) o) p f h w v h'):Pf P o tmps p f h w v h':=by
 intro b ops i rest k cs ho hw
 obtain⟨f',w',N,h1,h2,h3,h4,h5⟩:=he
 refine⟨f',w',?_,h3,h4,h5⟩
 rcases h2 with rfl|⟨rfl,rfl⟩
 ·exact .one (Y9 ho hw hd h1)
 ·exact .one (Aa4 ho hw hd h1)
def Li(P:Program)(c:Ae):Prop:=
 ∀ g args h v h',c g args h=some (v,h')->(∃ fn,P.funcs[g]? = some fn/\fn.body.isSome=true/\(fn.name == "runtime.NumGoroutine")=false) /\
  ∀ p f w,Gr p h->Gz f h w->EV.Gx p args->∀ cs,∃ fr f' w',Steps P (lone (Frame.enter P g (Av f args).toArray .normal) cs w) (lone fr cs w')/\fr.fn=g /\
   fr.leaving P w' (.returned (Be f' v))/\Move p f h w f' h' w'/\Wf p h h'/\v.ok (grow p h h')
def On(P:Program)(c:Ae):Prop:=
 ∀ l args h v h',c l args h=some (v,h')->∃ st pd fn n tm ps asg body d tm',h.get l=some (.loop st pd fn n tm ps asg body d)/\Kw ps args n tm=some tm' /\
  ∀ p f w,Gr p h->Gz f h w->EV.Gx p args->∀ caller cs,∃ f' w',Steps P (lone (Frame.round (f.b l) fn (Ap f n tm') asg body .normal) (caller::cs) w) (lone (caller.finish (Be f' v)) cs w') /\
   Move p f h w f' h' w'/\Wf p h h'/\v.ok (grow p h h')
theorem Agz(n:Nat)(tm:Ag)(d:Nat)(v:EV):Al (Nat.ble (Nat.succ d) n) (tm.put d (some v)) tm=Fk n tm (some d) v:=rfl
theorem Mp(f:Loc){p:Nat->Prop}{n:Nat}:∀ {ps:List Tmp} {args:List EV} {tm tm':Ag},Kw ps args n tm=some tm'->EV.Gx p args->Ec p n tm ->
 ps.length=args.length/\Ec p n tm'/\(ps.zip (Av f args)).foldl (fun tmps (x:Tmp × Value)=>tmps.setIfInBounds x.1 x.2) (Ap f n tm)=Ap f n tm'
 | [],[],tm,tm',h,_,ht=>by cases h;exact⟨rfl,ht,rfl⟩
 | q::r,v::s,tm,tm',h,ha,ht=>by
  simp only[Kw,Agz]at h
  obtain⟨h1,h2,h3⟩:=Mp f h ha.2 (ht.put (some q) ha.1)
  refine⟨by simp[h1],h2,?_⟩
  simp only[Av,List.zip_cons_cons,List.foldl_cons]
  rw[Xa];exact h3
 | [],_::_,_,_,h,_,_=>by cases h
 | _::_,[],_,_,h,_,_=>by cases h
theorem Gt {f:Loc}{p:Nat->Prop}{n:Nat}{tm:Ag}(ht:Ec p n tm):Reads f tm (Dg (Ap f n tm)) where
 tmp t:=by simp only[Dg,Act.eval];exact Js f ht t
 const v:=rfl
 func g:=rfl
end Go.Ev

namespace Go.Ev
section
variable {P:Program}{T:Cr}{p:Nat->Prop}{f:Loc}{h:Ac}{w:World}(hT:Fi P T)
theorem At8 {op:BinOp}{t:TypeId}{a b v:EV}(hop:bin T op t a b=some v):v.ok p:=by
 unfold bin at hop
 split at hop
 ·rename_i k a k' b
  rw[Ax]at hop
  split at hop
  ·split at hop
   ·unfold Aaz at hop
    split at hop
    ·cases hop;trivial
    ·split at hop <;> (cases hop;trivial)
    ·cases hop
   ·cases hop
  ·rw[Ax]at hop
   split at hop
   ·unfold Ag8 at hop
    split at hop
    all_goals first
     | (cases hop;done)
     | (cases hop;trivial)
     | (obtain⟨_,h2⟩:=Gw hop;cases h2;trivial)
     | (split at hop <;> first|(cases hop;done)|(cases hop;trivial))
   ·cases hop
 ·split at hop
  ·split at hop <;> first|(cases hop;trivial)|cases hop
  ·split at hop <;> first|(cases hop;trivial)|cases hop
  ·cases hop
theorem Ag4 {t:TypeId}{cs:List EV}{off:Nat}{v:EV}(hc:EV.Gx p cs)(h1:cs.all EV.one=true)(hop:part T t cs off=some v):v.ok p:=by
 unfold part at hop
 split at hop
 ·split at hop
  ·split at hop
   ·rename_i n hn l hl
    cases hop
    obtain⟨_,h2⟩:=Lv hl
    rw[h2,Fu]
    exact⟨Ad1 hc _ _,Adh h1 _ _⟩
   ·cases hop
  ·cases hop
 ·split at hop
  ·rename_i v' r hd
   cases hop
   rw[Fu]at hd
   exact(C6 p cs).1 hc _ (List.mem_of_mem_drop (by rw[hd];exact List.mem_cons_self))
  ·cases hop
 ·cases hop
theorem Ajl {x:EV}{size:Nat}{lo hi mx:Option EV}{v:EV}(hx:x.ok p)(hop:slc x size lo hi mx=some v):v.ok p:=by
 unfold slc at hop
 split at hop
 ·rename_i i off len room op
  have hp:p i:=hx
  split at hop
  ·split at hop
   ·cases hop
   ·split at hop
    ·cases hop
    ·simp only[Ax]at hop
     repeat' split at hop
     all_goals first|(cases hop;exact hp)|cases hop
  ·split at hop
   ·split at hop
    ·cases hop
    ·split at hop
     ·cases hop
     ·cases hop;exact hp
   ·cases hop
 ·split at hop
  ·split at hop
   ·cases hop
   ·split at hop
    ·cases hop
    ·cases hop;exact hx
  ·cases hop
 ·cases hop
include hT in
theorem Aqa {n:Nat}{tm:Ag}(ht:Ec p n tm){op:Op}{v:EV}(hop:B8 T tm op=some v):v.ok p:=by
 cases op with
 | move x=>exact B4 ht hop
 | assign x=>exact B4 ht hop
 | pick c a b=>
  simp only[B8]at hop
  split at hop
  ·exact B4 ht hop
  ·exact B4 ht hop
  ·cases hop
 | binOp op t x y u=>
  simp only[B8]at hop
  split at hop
  ·split at hop
   ·exact At8 hop
   ·cases hop
  ·cases hop
 | unOp u t x=>
  cases u <;> simp only[B8]at hop
  all_goals first
   | (split at hop <;> first|(cases hop;trivial)|cases hop)
   | cases hop
 | nilCheck x=>
  simp only[B8]at hop
  split at hop
  ·rename_i i o' he
   cases hop
   exact B4 ht he
  ·cases hop
 | fieldAddr s x fi=>
  simp only[B8]at hop
  split at hop
  ·rename_i i off he
   have hp:p i:=B4 ht he
   split at hop
   ·split at hop
    ·split at hop
     ·obtain⟨_,h2⟩:=Gw hop;cases h2;exact hp
     ·cases hop
    ·cases hop
   ·cases hop
  ·cases hop
 | indexAddr t x ix=>
  simp only[B8]at hop
  split at hop
  ·split at hop
   ·rename_i he
    split at hop
    ·obtain⟨_,h2⟩:=Ah hop;cases h2;have:=B4 ht he;exact this
    ·cases hop
   ·rename_i he
    split at hop
    ·obtain⟨_,h2⟩:=Ah hop;cases h2;have:=B4 ht he;exact this
    ·cases hop
   ·cases hop
  ·cases hop
 | index t x ix=>
  simp only[B8]at hop
  split at hop
  ·split at hop
   ·rename_i he
    split at hop
    ·obtain⟨_,h2⟩:=Ah hop
     have ho:=B4 (v:=.agg _) ht he
     exact Ag4 ho.1 ho.2 h2
    ·cases hop
   ·split at hop
    ·cases hop;trivial
    ·cases hop
   ·cases hop
  ·cases hop
 | field t x fi=>
  simp only[B8]at hop
  split at hop
  ·rename_i he
   split at hop
   ·have ho:=B4 (v:=.agg _) ht he
    exact Ag4 ho.1 ho.2 hop
   ·cases hop
  ·cases hop
 | convert s d x=>
  simp only[B8]at hop
  split at hop
  ·cases hop;trivial
  ·cases hop
 | extract x ix=>
  simp only[B8]at hop
  split at hop
  ·rename_i l he
   split at hop
   ·rename_i v' r hd
    cases hop
    rw[Fu]at hd
    exact(C6 p l).1 (B4 (v:=.tuple l) ht he) _ (List.mem_of_mem_drop (by rw[hd];exact List.mem_cons_self))
   ·cases hop
  ·cases hop
 | slice t x lo hi mx=>
  simp only[B8]at hop
  split at hop
  ·split at hop
   ·rename_i he
    split at hop
    ·exact Ajl (x:=.slice _ _ _ _ _) (B4 (v:=.ptr _ _) ht he) hop
    ·cases hop
   ·rename_i he
    split at hop
    ·exact Ajl (B4 ht he) hop
    ·cases hop
   ·cases hop
  ·cases hop
 | build t ps=>
  have key:∀ {z c:List EV} {l:List (Nat × EV)} {pl:Nat->Option (Nat × Nat)},T.zero t=some z->Jk tm ps.toList=some l->fill pl z l=some c->(EV.agg c).ok p:=by
   intro z c l pl hz hl hf
   obtain⟨i,vz,xz,_,_,hx,hpl,rfl,_⟩:=hT.zero t z hz
   have hzo:=Hf (Afp p hx) hpl
   have hlo:=Ug ht hl
   have hlp:=Nm pl hf
   refine⟨(C6 p c).2 (Qb pl (q:=fun v=>v.ok p) hf (fun v hv=>(C6 p _).1 hzo.1 v hv) (fun q hq v hv=>(C6 p _).1 (Hf (hlo q hq) (hlp q hq)).1 v hv)),?_⟩
   rw[List.all_eq_true]
   exact Qb pl (q:=fun v=>v.one=true) hf hzo.2 (fun q hq v hv=>(Hf (hlo q hq) (hlp q hq)).2 v hv)
  simp only[B8]at hop
  split at hop
  ·rename_i hz hl _
   split at hop
   ·split at hop
    ·rename_i hf;cases hop;exact key hz hl hf
    ·cases hop
   ·cases hop
  ·rename_i hz hl _
   split at hop
   ·split at hop
    ·rename_i hf;cases hop;exact key hz hl hf
    ·cases hop
   ·cases hop
  ·cases hop
 | makeFunc fn a b=>
  cases fn <;> simp only[B8]at hop
  all_goals first
   | (split at hop
      ·rename_i ha hb;cases hop;exact⟨Nk ht ha,Nk ht hb⟩
      ·cases hop)
   | cases hop
 | sliceToArrayPointer t x=>
  simp only[B8]at hop
  split at hop
  ·rename_i he
   obtain⟨_,h2⟩:=Ah hop;cases h2;exact B4 (v:=.slice _ _ _ _ _) ht he
  ·cases hop
 | _=>cases hop
theorem Ue(hh:Gr p h)(rp:Gz f h w){i cap:Nat}{buf buf':List EV}(hg:h.get i=some (.chan cap buf))(hb:EV.Gx p buf')(s r:Nat):
 Move p f h w f (h.put i (.chan cap buf')) (w.setChan (f.b i) cap (Av f buf').toArray false s r false)/\Wf p h (h.put i (.chan cap buf')):=
 ⟨Move.setObj (p:=p) rp hg (o':=.chan cap buf') (r:=.chan cap (Av f buf').toArray false s r false) ⟨s,r,rfl⟩,Wf.put hh hg hb⟩
theorem V3 {o:Oper}{c:SelectCase}(ho:o.op=.select #[c] false){zv:Value}(hzv:(zeroValue c.elem).run P w=.ok zv w)
 (b:FB) {tmps tmps0:Array Value} (hee:execOp (Dg tmps) o=execOp (Dg tmps0) o) {ops:Array Oper} {i:Nat} (rest:List Nat) (k:List Item) (cs:List Frame) (hi:ops[i]? = some o) (hw:Region.wanted o (Go.yielded ops tmps)=true) :
 ∃ es,stepG P true (Conc.G (b.at tmps (.inRegion ops (i::rest)::k)) cs) w=.comm (Conc.G (b.at tmps (.inRegion ops (i::rest)::k)) cs)
  #[{ chan:=Dg tmps0 c.chan,send:=c.send.map (Dg tmps0),zero:=zv }] false .select w es:=by
 have:=Qi (P:=P) (b:=b) (rest:=rest) (k:=k) (cs:=cs) (w:=w) hi hw (by rw[ho];rfl)
 have hrun:(execOp (Dg tmps) o).run P w=.ok (.comm #[{ chan:=Dg tmps0 c.chan,send:=c.send.map (Dg tmps0),zero:=zv }] false .select) w:=by
  rw[hee]
  simp only[execOp,ho]
  simp[hzv]
 rw[Conc.G,this]
 simp only[stepG.apply,Sem.runT_eq,hrun,GStep.after,if_true]
 exact⟨_,rfl⟩
include hT in
theorem Acx {n:Nat}{tm:Ag}{tmps:Array Value}(ht:Ec p n tm)(hh:Gr p h)(rp:Gz f h w){o:Oper}(hee:execOp (Dg tmps) o=execOp (Dg (Ap f n tm)) o){c:SelectCase}(ho:o.op=.select #[c] false){i:Nat}{x:Operand}
 (hc:Bb tm c.chan=some (.chan i)) (hs:c.send=some x) {cap:Nat} {buf:List EV} {vx zv:EV} (hg:h.get i=some (.chan cap buf)) (hx:Bb tm x=some vx) (hz:zeroOf T c.elem=some zv) {v:EV} {h':Ac}
 (hop:Al (Nat.ble (Nat.succ (len buf)) cap) (some (EV.tuple [.int .i64 0,.bool false],h.put i (.chan cap (buf++[vx])))) (some (.tuple [.int .i64 (-1),.bool false],h))=some (v,h')) :
 Pf P o tmps p f h w v h':=by
 intro b ops j rest k cs hj hw
 have hr:=Gt (f:=f) ht
 obtain⟨r0,hr0,s,r,rfl⟩:=rp.obj i _ hg
 have hzv:=(Su hT (f:=f) (w:=w) hz).1
 obtain⟨es,he⟩:=V3 ho hzv b hee rest k cs hj hw
 rw[Ar hr hc,hs,Option.map_some,Ar hr hx]at he
 have Lj:=(hh.get i _ hg).2
 by_cases hb:buf.length<cap
 ·rw[J9,H8 (by omega),Ak]at hop
  cases hop
  have hbo:EV.Gx p (buf++[vx]):=Iw Lj ⟨B4 ht hx,trivial⟩
  obtain⟨m1,m2⟩:=Ue hh rp hg hbo (s+1) r
  refine⟨f,_,.one ?_,m1,m2,?_⟩
  ·have:=Conc.step_lone_select_send_room he hr0 (by simpa [Bh] using hb)
   rw[FB.finish_at b _ hj]at this
   simpa [Ge,Av,Be,goInt,Conc.solo,Conc.G,lone] using this
  ·simp[EV.ok,EV.Gx]
 ·rw[J9,I4 (by omega),Au]at hop
  cases hop
  refine⟨f,w,.one ?_,Move.refl rp,Wf.refl hh,?_⟩
  ·have:=Conc.step_lone_select_send_full he hr0 (by simpa [Bh] using hb)
   rw[FB.finish_at b _ hj]at this
   simpa [Ge,Av,Be,goInt,Conc.solo,Conc.G,lone] using this
  ·simp[EV.ok,EV.Gx]
include hT in
theorem Acq {n:Nat}{tm:Ag}{tmps:Array Value}(ht:Ec p n tm)(hh:Gr p h)(rp:Gz f h w){o:Oper}(hee:execOp (Dg tmps) o=execOp (Dg (Ap f n tm)) o){c:SelectCase}(ho:o.op=.select #[c] false){i:Nat}
 (hc:Bb tm c.chan=some (.chan i)) (hs:c.send=none) {cap:Nat} {buf:List EV} {zv:EV} {v:EV} {h':Ac}
 (hop:(match buf with
  | v::r=>some (EV.tuple [.int .i64 0,.bool true,v],h.put i (.chan cap r))
  | []=>some (.tuple [.int .i64 (-1),.bool false,zv],h))=some (v,h')) (hg:h.get i=some (.chan cap buf)) (hz:zeroOf T c.elem=some zv) :
 Pf P o tmps p f h w v h':=by
 intro b ops j rest k cs hj hw
 have hr:=Gt (f:=f) ht
 obtain⟨r0,hr0,s,r,rfl⟩:=rp.obj i _ hg
 obtain⟨hzv,hzo⟩:=Su hT (f:=f) (w:=w) hz
 obtain⟨es,he⟩:=V3 ho hzv b hee rest k cs hj hw
 rw[Ar hr hc,hs,Option.map_none]at he
 have Lj:=(hh.get i _ hg).2
 cases buf with
 | cons x l=>
  cases hop
  obtain⟨m1,m2⟩:=Ue hh rp hg Lj.2 s (r+1)
  refine⟨f,_,.one ?_,m1,m2,?_⟩
  ·have:=Conc.step_lone_select_recv_buf he hr0 (by simp[Av])
   rw[FB.finish_at b _ hj]at this
   simpa [Av,Be,goInt,Conc.solo,Conc.G,lone] using this
  ·exact⟨trivial,trivial,EV.ok.mono (fun _ hi=>.inl hi) _ Lj.1,trivial⟩
 | nil=>
  cases hop
  refine⟨f,w,.one ?_,Move.refl rp,Wf.refl hh,?_⟩
  ·have:=Conc.step_lone_sel_default he (by
    intro cc hcc
    simp only[List.mem_toArray,List.mem_singleton]at hcc
    subst hcc
    exact Conc.noWay_recv hr0)
   rw[FB.finish_at b _ hj]at this
   simpa [commResult,Av,Be,goInt,Conc.solo,Conc.G,lone] using this
  ·exact⟨trivial,trivial,hzo _,trivial⟩
include hT
theorem Aqd {n:Nat}{tm:Ag}{tmps:Array Value}(ht:Ec p n tm)(hh:Gr p h)(rp:Gz f h w){o:Oper}(hee:execOp (Dg tmps) o=execOp (Dg (Ap f n tm)) o){v:EV}{h':Ac}(hop:Bq T tm o.op h=some (v,h')):
 Pf P o tmps p f h w v h':=by
 have hr:=Gt (f:=f) ht
 cases ho:o.op with
 | load t a=>
  rw[ho]at hop
  obtain⟨rfl,h2,h3⟩:=Aj9 hT hr hh rp ho hop
  refine Pf.J5 (by rw[ho];rfl) ⟨f,w,_,(by rw[hee];exact h3),.inl rfl,Move.refl rp,Wf.refl hh,?_⟩
  rw[Dw _ _ _ rfl];exact h2
 | store t a x=>rw[ho]at hop;exact Pf.J5 (by rw[ho];rfl) (by rw[hee];exact Aiu hT hr ht hh rp ho hop)
 | alloc t=>rw[ho]at hop;exact Pf.J5 (by rw[ho];rfl) (by rw[hee];exact Aiy hT hh rp ho hop)
 | box t x=>rw[ho]at hop;exact Pf.J5 (by rw[ho];rfl) (by rw[hee];exact Ary hr ht hh rp ho hop)
 | makeSlice t x y=>rw[ho]at hop;exact Pf.J5 (by rw[ho];rfl) (by rw[hee];exact Yw (n:=n) hT hr hh rp ho hop)
 | buildSlice t m ps=>rw[ho]at hop;exact Pf.J5 (by rw[ho];rfl) (by rw[hee];exact Yf hT hr ht hh rp ho hop)
 | makeMap t r=>rw[ho]at hop;exact Pf.J5 (by rw[ho];rfl) (by rw[hee];exact Ack hh rp ho hop)
 | makeChan t x=>rw[ho]at hop;exact Pf.J5 (by rw[ho];rfl) (by rw[hee];exact Abu hT hr hh rp ho hop)
 | lookup t x k ok=>rw[ho]at hop;exact Pf.J5 (by rw[ho];rfl) (by rw[hee];exact Ad2 (n:=n) hT hr hh rp ho hop)
 | mapUpdate t m k x=>rw[ho]at hop;exact Pf.J5 (by rw[ho];rfl) (by rw[hee];exact Yu hT hr ht hh rp ho hop)
 | call c=>
  rw[ho]at hop
  obtain⟨callee,args,argTypes⟩:=c
  cases callee with
  | builtin bi=>
   simp only[Bq]at hop
   split at hop
   ·rename_i as has
    have key:∀ cs,Ps P (Go.builtin bi argTypes o.type cs (Av f as).toArray) p f h w v h':=by
     intro cs
     obtain⟨s,h1,f',w',h2,h3,h4,h5⟩:=Acy (ty:=o.type) (cs:=cs) hT hh rp (Nk ht has) hop
     refine⟨f',w',.value (Be f' v),?_,.inl rfl,h3,h4,h5⟩
     rw[h1]
     simp only[Sem.run_bind,h2,Result.andThen_ok,Sem.run_pure]
    have he:args.map (Dg (Ap f n tm))=(Av f as).toArray:=by
     rw[<-Iz hr has]
     simp only[<-List.map_toArray,Array.toArray_toList]
    obtain⟨f',w',N,h1,h2,h3,h4,h5⟩:=key (args.map fun | .const _=>true|_=>false)
    refine Pf.J5 (by rw[ho];rfl) ⟨f',w',N,?_,h2,h3,h4,h5⟩
    rw[<-h1,hee]
    simp only[execOp,ho,resolve,Sem.run_bind,Sem.run_pure,Result.andThen_ok,invoke,he]
    rfl
   ·cases hop
  | value x=>cases hop
  | invoke x m=>cases hop
 | select cs bl=>
  rw[ho]at hop
  cases bl with
  | true=>cases hop
  | false=>
   simp only[Bq]at hop
   split at hop
   ·rename_i c hcs
    have hcs':cs = #[c]:=by apply Array.ext';simpa using hcs
    subst hcs'
    split at hop
    ·rename_i i x hc hs
     split at hop
     ·rename_i cap buf vx hg hx
      split at hop
      ·rename_i zv hz
       exact Acx hT ht hh rp hee ho hc hs hg hx hz hop
      ·cases hop
     ·cases hop
    ·rename_i i hc hs
     split at hop
     ·rename_i cap buf zv hg hz
      exact Acq hT ht hh rp hee ho hc hs hop hg hz
     ·cases hop
    ·cases hop
   ·cases hop
 | _=>rw[ho]at hop;cases hop
end
end Go.Ev

namespace Go.Ev
section
variable {P:Program}{T:Cr}{p:Nat->Prop}{f:Loc}{h:Ac}{w:World}(hT:Fi P T){call round:Ae}(hC:Li P call)(hR:On P round)
theorem Move.Ap {p:Nat->Prop}{f f':Loc}{h h':Ac}{w w':World}(m:Move p f h w f' h' w'){n:Nat}{tm:Ag}(ht:Ec p n tm):Ap f n tm=Ap f' n tm:=D5 m.agree ht
theorem Me(f:Loc)(n:Nat)(tm:Ag)(d:Option Tmp)(v:EV):Acj (Ap f n tm) d (Be f v)=Ap f n (Fk n tm d v):=by
 cases d with
 | none=>rfl
 | some d=>exact Xa f n tm d v
include hT hC hR in
theorem Aml {n:Nat}{tm:Ag}{tmps:Array Value}(ht:Ec p n tm)(hh:Gr p h)(rp:Gz f h w){o:Oper}(hee:execOp (Dg tmps) o=execOp (Dg (Ap f n tm)) o){v:EV}{h':Ac}(hop:Oy T call round tm o.op h=some (v,h')):
 Pf P o tmps p f h w v h':=by
 have hr:=Gt (f:=f) ht
 unfold Oy at hop
 rw[Ax]at hop
 split at hop
 ·rename_i hv
  split at hop
  ·rename_i v' hv'
   cases hop
   refine Pf.J5 ?_ ⟨f,w,_,(by rw[hee];exact Al7 hT f w hr hv'),.inl rfl,Move.refl rp,Wf.refl hh,?_⟩
   ·cases ho:o.op <;> first|rfl|(rw[ho]at hv;cases hv)
   ·rw[Dw _ _ _ rfl];exact Aqa hT ht hv'
  ·cases hop
 ·split at hop
  ·rename_i fo args ats heq
   split at hop
   ·rename_i g first captured as hf has
    obtain⟨⟨fn,hfn,hbody,hname⟩,hc⟩:=hC _ _ _ _ _ hop
    intro b ops i rest k cs ho hw
    have hfo:=B4 (v:=.func g first captured) ht hf
    have hao:=Nk ht has
    have hargs:EV.Gx p (first++(as++captured)):=Iw hfo.1 (Iw hao hfo.2)
    obtain⟨fr,f',w',hs,hfr,hl,hm,hwf,hvo⟩:=hc p f w hh rp hargs (b.at tmps (.inRegion ops (i::rest)::k)::cs)
    refine⟨f',w',?_,hm,hwf,hvo⟩
    have he:args.map (Dg (Ap f n tm))=(Av f as).toArray:=by
     rw[<-Iz hr has]
     simp only[<-List.map_toArray,Array.toArray_toList]
    have hrun:(execOp (Dg tmps) o).run P w=.ok (.enter g (Av f (first++(as++captured))).toArray) w:=by
     rw[hee]
     have hb:¬ fn.body=none:=by cases hx:fn.body <;> simp_all
     have hn:¬ fn.name = "runtime.NumGoroutine":=by simpa using hname
     simp[execOp,heq,resolve,he,Ar hr hf,Be,Deferred.ofValue,invoke,callFunc,hfn,hn,hb,Ge]
    refine .head (Y8 ho hw (by rw[heq];rfl) hrun) (hs.trans (.one ?_))
    rw[<-FB.finish_at b _ ho]
    exact step_leave_returned hl
   ·rename_i l as hf has
    obtain⟨st,pd,fn,n',tm0,ps,asg,body,d,tm',hg,hsp,hc⟩:=hR _ _ _ _ _ hop
    intro b ops i rest k cs ho hw
    have hao:=Nk ht has
    obtain⟨f',w',hs,hm,hwf,hvo⟩:=hc p f w hh rp hao (b.at tmps (.inRegion ops (i::rest)::k)) cs
    refine⟨f',w',?_,hm,hwf,hvo⟩
    have he:args.map (Dg (Ap f n tm))=(Av f as).toArray:=by
     rw[<-Iz hr has]
     simp only[<-List.map_toArray,Array.toArray_toList]
    obtain⟨r0,hr0,rfl⟩:=rp.obj l _ hg
    obtain⟨hlen,hto,hfold⟩:=Mp f hsp hao (hh.get l _ hg).2.1
    have hrun:(execOp (Dg tmps) o).run P w=.ok (.round (f.b l) fn (Ap f n' tm') asg body) w:=by
     rw[hee]
     have hfold':Array.foldl (fun tmps (x:Tmp × Value)=>tmps.setIfInBounds x.1 x.2) (Ap f n' tm0) (ps.toArray.zip (Av f as).toArray)=Ap f n' tm':=by
      rw[<-hfold,List.zip_toArray,List.foldl_toArray]
     have hgo:(getObj (f.b l)).run P w=.ok (.loop ⟨st,pd,fn,Ap f n' tm0,ps.toArray,asg,body,f.b d⟩) w:=E1 hr0 (by intros;simp)
     simp only[execOp,heq,resolve,he,Ar hr hf,Be,Deferred.ofValue,invoke,Sem.run_bind,Sem.run_pure,Result.andThen_ok,Instr.yield,Instr.getLoop,hgo]
     simp[Bh,hlen]
     exact hfold
    refine .head (Zb ho hw (by rw[heq];rfl) hrun) ?_
    rw[<-FB.finish_at b _ ho]
    exact hs
   ·cases hop
  ·rename_i hne
   exact Aqd hT ht hh rp hee hop
theorem Afg {n:Nat}{tm:Ag}(ht:Ec p n tm)(ops:Array Oper)(j:Nat):Go.yielded ops (Ap f n tm) j=Ev.yielded ops.toList tm j:=by
 unfold Go.yielded Ev.yielded
 rw[Wl,Array.getElem?_toList]
 cases ops[j]? with
 | none=>rfl
 | some o=>
  simp only[Option.bind_some]
  cases o.dst with
  | none=>rfl
  | some d=>
   simp only[Option.bind_some]
   rw[Lf]
   by_cases hd:d<n
   ·rw[if_pos hd]
    unfold tmp
    cases htm:tm.get d with
    | none=>rfl
    | some v=>cases v <;> rfl
   ·rw[if_neg hd,ht.out d (Nat.le_of_not_lt hd)]
theorem Zh {n:Nat}{tm:Ag}(ht:Ec p n tm)(ops:Array Oper)(o:Oper):Region.wanted o (Go.yielded ops (Ap f n tm))=Ev.wanted ops.toList tm o.guard:=by
 unfold Region.wanted Ev.wanted
 cases o.guard with
 | none=>rfl
 | some x=>
  obtain⟨j,want⟩:=x
  simp only[]
  rw[Afg ht]
  cases Ev.yielded ops.toList tm j with
  | none=>rfl
  | some b=>cases b <;> cases want <;> rfl
include hT hC hR in
theorem Aa1(ops:Array Oper){n:Nat}:∀ {l:List Oper} {i:Nat} {p:Nat->Prop} {f:Loc} {h:Ac} {w:World} {tm tm':Ag} {h':Ac},l=ops.toList.drop i->Ec p n tm->Gr p h->Gz f h w ->
 Oq T call round n ops.toList l tm h=some (tm',h')->∀ (b:FB) (k:List Item) (cs:List Frame),
  ∃ f' w',Steps P (lone (b.at (Ap f n tm) (.inRegion ops (List.range' i l.length)::k)) cs w) (lone (b.at (Ap f' n tm') (.inRegion ops []::k)) cs w') /\
   Move p f h w f' h' w'/\Wf p h h'/\Ec (grow p h h') n tm'
 | [],i,p,f,h,w,tm,tm',h',hl,ht,hh,rp,hop,b,k,cs=>by
  simp only[Oq]at hop
  cases hop
  exact⟨f,w,.refl _ _,Move.refl rp,Wf.refl hh,by rw[Dw _ _ _ rfl];exact ht⟩
 | o::r,i,p,f,h,w,tm,tm',h',hl,ht,hh,rp,hop,b,k,cs=>by
  have hi:ops[i]? = some o:=by
   have:=congrArg (fun l=>l[0]?) hl
   simp only[List.getElem?_cons_zero,List.getElem?_drop,Nat.add_zero,Array.getElem?_toList]at this
   exact this.symm
  have hr:r=ops.toList.drop (i+1):=by
   have:=congrArg List.tail hl
   simpa [List.tail_drop] using this
  obtain⟨dst,op,ty,ps,af,g⟩:=o
  simp only[Oq]at hop
  rw[Ax]at hop
  have hwe:=Zh (f:=f) ht ops ⟨dst,op,ty,ps,af,g⟩
  split at hop
  ·rename_i hw
   rw[hw]at hwe
   split at hop
   ·rename_i v h1 hop1
    obtain⟨f1,w1,hs1,hm1,hwf1,hv1⟩:=Aml hT hC hR ht hh rp (o:=⟨dst,op,ty,ps,af,g⟩) rfl hop1 b ops i (List.range' (i+1) r.length) k cs hi hwe
    have ht1:Ec (grow p h h1) n (Fk n tm dst v):=(ht.mono fun _ hi=>.inl hi).put dst hv1
    obtain⟨f2,w2,hs2,hm2,hwf2,ht2⟩:=Aa1 ops hr ht1 hwf1.Lj hm1.rep hop b k cs
    refine⟨f2,w2,?_,hm1.trans hm2,hwf1.trans hwf2,?_⟩
    ·rw[List.length_cons,List.range'_succ]
     refine hs1.trans ?_
     rw[hm1.Ap ht,Me]
     exact hs2
    ·rw[<-Ky p hwf1.next hwf2.next];exact ht2
   ·cases hop
  ·rename_i hw
   have hw':Region.wanted ⟨dst,op,ty,ps,af,g⟩ (Go.yielded ops (Ap f n tm))=false:=by rw[hwe];simpa using hw
   have ht1:Ec p n (Fk n tm dst (.tuple [])):=ht.put dst trivial
   obtain⟨f2,w2,hs2,hm2,hwf2,ht2⟩:=Aa1 ops hr ht1 hh rp hop b k cs
   refine⟨f2,w2,?_,hm2,hwf2,ht2⟩
   rw[List.length_cons,List.range'_succ]
   refine .head (Vj hi hw') ?_
   have:(undef:Value)=Be f (.tuple []):=rfl
   rw[this,Me]
   exact hs2
end
end Go.Ev

namespace Go.Ev
structure Rd(h h':Ac):Prop where
 next:h.next<=h'.next
 mw:h'.mw<=h.mw
 same:∀ q,q<h'.mw->q<h.next->h'.get q=h.get q
 live:∀ q o,h'.get q=some o->(∃ o',h.get q=some o')\/h.next<=q
 lt:(∀ q o,h.get q=some o->q<h.next)->∀ q o,h'.get q=some o->q<h'.next
theorem Rd.refl(h:Ac):Rd h h:=⟨Nat.le_refl _,Nat.le_refl _,fun _ _ _=>rfl,fun _ o ho=>.inl ⟨o,ho⟩,fun H=>H⟩
theorem Rd.trans {a b c:Ac}(x:Rd a b)(y:Rd b c):Rd a c where
 next:=Nat.le_trans x.next y.next
 mw:=Nat.le_trans y.mw x.mw
 same q h1 h2:=(y.same q h1 (Nat.lt_of_lt_of_le h2 x.next)).trans (x.same q (Nat.lt_of_lt_of_le h1 y.mw) h2)
 live q o ho:=by
  rcases y.live q o ho with ⟨o',h1⟩|h1
  ·exact x.live q o' h1
  ·exact .inr (Nat.le_trans x.next h1)
 lt H:=y.lt (x.lt H)
theorem Rd.put {h:Ac}{i:Nat}{o:A9}(hi:h.get i=some o)(o':A9):Rd h (h.put i o') where
 next:=Nat.le_refl _
 mw:=by rw[Ac.P4];exact Nat.min_le_right _ _
 same q h1 _:=by rw[Ac.P4]at h1;rw[Ac.get_put,if_neg (by omega)]
 live q x hx:=by
  rw[Ac.get_put]at hx
  split at hx
  ·rename_i e;subst e;exact .inl ⟨o,hi⟩
  ·exact .inl ⟨x,hx⟩
 lt H q x hx:=by
  rw[Ac.get_put]at hx
  split at hx
  ·rename_i e;subst e;exact H _ _ hi
  ·exact H _ _ hx
theorem Rd.new(h:Ac)(o:A9):Rd h (h.new o) where
 next:=Nat.le_succ _
 mw:=Nat.le_refl _
 same q _ h2:=by rw[Ac.D4,if_neg (by omega)]
 live q x hx:=by
  rw[Ac.D4]at hx
  split at hx
  ·rename_i e;exact .inr (by omega)
  ·exact .inl ⟨x,hx⟩
 lt H q x hx:=by
  rw[Ac.D4]at hx
  rw[Ac.B6]
  split at hx
  ·rename_i e;omega
  ·exact Nat.lt_succ_of_lt (H _ _ hx)
theorem Rd.del(h:Ac)(i:Nat):Rd h (h.del i) where
 next:=Nat.le_refl _
 mw:=by rw[Ac.Xm];exact Nat.min_le_right _ _
 same q h1 _:=by rw[Ac.Xm]at h1;rw[Ac.Ja,if_neg (by omega)]
 live q x hx:=by
  rw[Ac.Ja]at hx
  split at hx
  ·cases hx
  ·exact .inl ⟨x,hx⟩
 lt H q x hx:=by
  rw[Ac.Ja]at hx
  split at hx
  ·cases hx
  ·exact H _ _ hx
theorem Zf {h:Ac}{i off:Nat}{vs:List EV}{h':Ac}(hop:F9 h i off vs=some h'):Rd h h':=by
 unfold F9 at hop
 split at hop
 ·rename_i hg
  split at hop
  ·cases hop;exact .put hg _
  ·cases hop
 ·rename_i hg
  split at hop
  ·cases hop;exact .put hg _
  ·cases hop
 ·cases hop
theorem Aje {T:Cr}{st:TypeId}{s x v:EV}{h h':Ac}(hop:append T st s x h=some (v,h')):Rd h h':=by
 unfold append at hop
 split at hop
 ·split at hop
  ·split at hop
   ·rw[Ax]at hop
    split at hop
    ·split at hop
     ·obtain⟨_,h2⟩:=Ah hop;cases h2;exact .refl _
     ·cases hop;exact .refl _
     ·cases hop
    ·obtain⟨_,h2⟩:=Ah hop
     split at h2
     ·split at h2
      ·cases h2;exact .new _ _
      ·obtain⟨_,h3⟩:=Ah h2
       split at h3
       ·rw[Ax]at h3
        split at h3
        ·obtain⟨_,h3⟩:=Ah h3
         obtain⟨_,h3⟩:=Ah h3
         split at h3
         ·obtain⟨_,h3⟩:=Ah h3
          obtain⟨_,h3⟩:=Ah h3
          obtain⟨_,h3⟩:=Ah h3
          cases h3
          exact(Rd.del _ _).trans (.new _ _)
         ·cases h3
        ·obtain⟨_,h3⟩:=Gw h3
         cases h3
         exact .new _ _
       ·cases h3
      ·cases h2
     ·cases h2
   ·cases hop
  ·cases hop
 ·cases hop
theorem Ah4 {T:Cr}{b:Builtin}{ts:Array TypeId}{args:List EV}{h:Ac}{v:EV}{h':Ac}(hop:builtin T b ts args h=some (v,h')):Rd h h':=by
 unfold builtin at hop
 split at hop
 ·split at hop
  ·split at hop
   ·exact Aje hop
   ·cases hop
  ·cases hop
 ·split at hop
  ·split at hop
   ·cases hop;exact .refl _
   ·split at hop <;> first|(cases hop;done)|(cases hop;exact .refl _)
   ·cases hop;exact .refl _
   ·split at hop <;> first|(cases hop;done)|(cases hop;exact .refl _)
   ·cases hop
  ·cases hop
 ·split at hop
  ·split at hop
   ·split at hop
    ·obtain⟨_,h2⟩:=Gw hop
     split at h2
     ·split at h2
      ·split at h2
       ·rename_i hw;cases h2;exact Zf hw
       ·cases h2
      ·cases h2
     ·cases h2
    ·cases hop
   ·cases hop
  ·cases hop
 ·split at hop
  ·split at hop
   ·obtain⟨_,h2⟩:=Ah hop
    split at h2
    ·rename_i hg
     split at h2
     ·cases h2;exact .put hg _
     ·cases h2;exact .put hg _
     ·cases h2
    ·cases h2
   ·cases hop
  ·cases hop
 ·split at hop <;> first|(cases hop;done)|(cases hop;exact .refl _)
 ·split at hop <;> first|(cases hop;done)|(cases hop;exact .refl _)
 ·cases hop
theorem Atp {T:Cr}{tm:Ag}{op:Op}{h:Ac}{v:EV}{h':Ac}(hop:Bq T tm op h=some (v,h')):Rd h h':=by
 unfold Bq at hop
 split at hop
 ·
  split at hop
  ·split at hop
   ·split at hop
    ·split at hop <;> first|(cases hop;done)|(cases hop;exact .refl _)
    ·cases hop
   ·split at hop <;> first|(cases hop;done)|(cases hop;exact .refl _)
   ·cases hop
  ·cases hop
 ·
  split at hop
  ·obtain⟨_,h2⟩:=Ah hop
   obtain⟨_,h2⟩:=Ah h2
   split at h2
   ·rename_i hw;cases h2;exact Zf hw
   ·cases h2
  ·cases hop
 ·split at hop <;> first|(cases hop;done)|(cases hop;exact .new _ _)
 ·split at hop
  ·obtain⟨_,h2⟩:=Ah hop;cases h2;exact .new _ _
  ·cases hop
 ·split at hop
  ·exact Ah4 hop
  ·cases hop
 ·split at hop
  ·split at hop
   ·obtain⟨_,h2⟩:=Ah hop
    split at h2
    ·cases h2;exact .new _ _
    ·cases h2
   ·cases hop
  ·cases hop
 ·split at hop
  ·split at hop
   ·obtain⟨_,h2⟩:=Ah hop
    obtain⟨_,h2⟩:=Ah h2
    cases h2;exact .new _ _
   ·cases hop
  ·cases hop
 ·cases hop;exact .new _ _
 ·split at hop
  ·split at hop
   ·obtain⟨_,h2⟩:=Ah hop;cases h2;exact .new _ _
   ·cases hop
  ·cases hop
 ·split at hop
  ·obtain⟨_,h2⟩:=Ah hop
   split at h2
   ·split at h2
    ·cases h2;exact .refl _
    ·split at h2 <;> first|(cases h2;done)|(cases h2;exact .refl _)
    ·cases h2
   ·cases h2
  ·cases hop
 ·split at hop
  ·obtain⟨_,h2⟩:=Ah hop
   split at h2
   ·rename_i hg
    split at h2
    ·cases h2;exact .put hg _
    ·cases h2;exact .put hg _
    ·cases h2
   ·cases h2
  ·cases hop
 ·split at hop
  ·split at hop
   ·split at hop
    ·rename_i hg _
     split at hop
     ·rw[Ax]at hop
      split at hop
      ·cases hop;exact .put hg _
      ·cases hop;exact .refl _
     ·cases hop
    ·cases hop
   ·split at hop
    ·rename_i hg _
     split at hop
     ·cases hop;exact .put hg _
     ·cases hop;exact .refl _
    ·cases hop
   ·cases hop
  ·cases hop
 ·cases hop
def H2(c:Ae):Prop:=∀ g args h v h',c g args h=some (v,h')->Rd h h'
section
variable {T:Cr}{call round:Ae}(hC:H2 call)(hR:H2 round)
include hC hR
theorem As8 {tm:Ag}{op:Op}{h:Ac}{v:EV}{h':Ac}(hop:Oy T call round tm op h=some (v,h')):Rd h h':=by
 unfold Oy at hop
 rw[Ax]at hop
 split at hop
 ·split at hop <;> first|(cases hop;done)|(cases hop;exact .refl _)
 ·split at hop
  ·split at hop
   ·exact hC _ _ _ _ _ hop
   ·exact hR _ _ _ _ _ hop
   ·cases hop
  ·exact Atp hop
theorem Aew {n:Nat}{ops:List Oper}:∀ {l:List Oper} {tm tm':Ag} {h h':Ac},Oq T call round n ops l tm h=some (tm',h')->Rd h h'
 | [],_,_,_,_,hop=>by cases hop;exact .refl _
 | ⟨dst,op,ty,ps,af,g⟩::r,tm,tm',h,h',hop=>by
  simp only[Oq]at hop
  rw[Ax]at hop
  split at hop
  ·split at hop
   ·rename_i h1
    exact(As8 hC hR h1).trans (Aew hop)
   ·cases hop
  ·exact Aew hop
end
end Go.Ev
