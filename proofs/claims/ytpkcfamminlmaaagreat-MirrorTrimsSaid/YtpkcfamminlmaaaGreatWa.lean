import Derived.Test.YtpkcfamminlmaaaGreatTab
import Derived.Test.YtpkcfamminlmaaaGreatEvSix
set_option linter.unusedVariables false
set_option linter.unusedSimpArgs false
set_option linter.unusedSectionVars false
namespace Go.Ev
def Ok (x : R) (Q : EV->AHeap->Prop) : Prop:=∃ v h,x = some (v,h)/\Q v h
theorem Ok.ret {v : EV} {h : AHeap} {Q : EV->AHeap->Prop} (q : Q v h) : Ok (some (v,h)) Q:=⟨v,h,rfl,q⟩
theorem Ok.mono {x : R} {P Q : EV->AHeap->Prop} (a : Ok x P) (b : ∀ v h,P v h->Q v h) : Ok x Q:=by
 obtain ⟨v,h,e,p⟩:=a; exact ⟨v,h,e,b v h p⟩
theorem Ok.andE {x : R} {k : EV->AHeap->R} {P Q : EV->AHeap->Prop} (a : Ok x P) (b : ∀ v h,P v h->Ok (k v h) Q) : Ok (andE x k) Q:=by
 obtain ⟨v,h,e,p⟩:=a
 rw [e]; exact b v h p
def HB (h : AHeap) : Prop:=∀ q o,h.get q = some o->q < h.next
theorem HB.new {h : AHeap} (a : HB h) (o : AObj) : HB (h.new o):=fun q x e=>by
 rw [AHeap.get_new] at e
 split at e
 ·rename_i hq; rw [AHeap.new_next]; omega
 ·exact Nat.lt_succ_of_lt (a q x e)
theorem HB.put {h : AHeap} (a : HB h) {i : Nat} (hi : i < h.next) (o : AObj) : HB (h.put i o):=fun q x e=>by
 rw [AHeap.get_put] at e
 split at e
 ·rename_i hq; subst hq; exact hi
 ·exact a q x e
theorem HB.del {h : AHeap} (a : HB h) (i : Nat) : HB (h.del i):=fun q x e=>by
 rw [AHeap.get_del] at e
 split at e
 ·cases e
 ·exact a q x e
structure Chg (S : Nat->Prop) (h h' : AHeap) : Prop where
 get : ∀ i,i < h.next->¬ S i->h'.get i = h.get i
 next : h.next<=h'.next
 mw : ∀ w,w<=h.mw->w<=h.next->(∀ i,S i->w<=i)->w<=h'.mw
 hb : HB h->HB h'
abbrev Ext : AHeap->AHeap->Prop:=Chg fun _=>False
variable {S T : Nat->Prop} {h h' h1 h2 h3 : AHeap}
theorem Chg.refl (h : AHeap) : Chg S h h:=⟨fun _ _ _=>rfl,Nat.le_refl _,fun _ a _ _=>a,id⟩
theorem Chg.trans (a : Chg S h1 h2) (b : Chg S h2 h3) : Chg S h1 h3:=
 ⟨fun i hi hs=>by rw [b.get i (Nat.lt_of_lt_of_le hi a.next) hs,a.get i hi hs],Nat.le_trans a.next b.next,
  fun w w1 w2 w3=>b.mw w (a.mw w w1 w2 w3) (Nat.le_trans w2 a.next) w3,fun x=>b.hb (a.hb x)⟩
theorem Chg.mono (a : Chg S h h') (st : ∀ i,S i->T i) : Chg T h h':=⟨fun i hi hs=>a.get i hi fun x=>hs (st i x),a.next,fun w w1 w2 w3=>a.mw w w1 w2 fun i hi=>w3 i (st i hi),a.hb⟩
theorem Chg.then (a : Chg S h1 h2) (b : Chg T h2 h3) (st : ∀ i,T i->i < h1.next->S i) : Chg S h1 h3:=by
 refine ⟨fun i hi hs=>by rw [b.get i (Nat.lt_of_lt_of_le hi a.next) fun x=>hs (st i x hi),a.get i hi hs],Nat.le_trans a.next b.next,fun w w1 w2 w3=>?_,fun x=>b.hb (a.hb x)⟩
 refine b.mw w (a.mw w w1 w2 w3) (Nat.le_trans w2 a.next) fun i hi=>?_
 by_cases hl : i < h1.next
 ·exact w3 i (st i hi hl)
 ·omega
theorem Ext.to (a : Ext h h') : Chg S h h':=a.mono fun _ x=>x.elim
theorem Chg.new (h : AHeap) (o : AObj) : Chg S h (h.new o):=
 ⟨fun i hi _=>get_new_lt o hi,by rw [AHeap.new_next]; omega,fun w w1 _ _=>by rw [AHeap.new_mw]; exact w1,fun x=>x.new o⟩
theorem Chg.put (h : AHeap) {i : Nat} (hi : S i\/h.next<=i) (hn : HB h->i < h.next) (o : AObj) : Chg S h (h.put i o):=by
 refine ⟨fun j hj hs=>get_put_ne o fun e=>?_,by rw [AHeap.put_next]; exact Nat.le_refl _,fun w w1 w2 w3=>?_,fun x=>x.put (hn x) o⟩
 ·subst e; rcases hi with hi | hi
  ·exact hs hi
  ·omega
 ·rw [AHeap.put_mw]
  rcases hi with hi | hi
  ·have:=w3 i hi; omega
  ·omega
theorem Chg.del (h : AHeap) {i : Nat} (hi : S i\/h.next<=i) : Chg S h (h.del i):=by
 refine ⟨fun j hj hs=>get_del_ne fun e=>?_,by rw [AHeap.del_next]; exact Nat.le_refl _,fun w w1 w2 w3=>?_,fun x=>x.del i⟩
 ·subst e; rcases hi with hi | hi
  ·exact hs hi
  ·omega
 ·rw [AHeap.del_mw]
  rcases hi with hi | hi
  ·have:=w3 i hi; omega
  ·omega
theorem Chg.andPut {h0 : AHeap} (x : Chg S h0 h) {i : Nat} (hi : S i\/h0.next<=i) (hn : i < h.next) (o : AObj) : Chg S h0 (h.put i o):=
 x.then (T:=fun j=>j = i) (Chg.put (S:=fun j=>j = i) h (.inl rfl) (fun _=>hn) o) fun j hj hl=>by
  have e : j = i:=hj
  subst e
  rcases hi with hi | hi
  ·exact hi
  ·omega
theorem Chg.andNew {h0 : AHeap} (x : Chg S h0 h) (o : AObj) : Chg S h0 (h.new o):=x.trans (Chg.new _ _)
theorem Chg.at (c : Chg S h h') (hb : HB h) {i : Nat} {o : AObj} (g : h.get i = some o) (hn : ¬ S i) : h'.get i = some o:=by rw [c.get i (hb i o g) hn]; exact g
theorem Ext.at (c : Ext h h') (hb : HB h) {i : Nat} {o : AObj} (g : h.get i = some o) : h'.get i = some o:=Chg.at c hb g id
theorem ne_of_get {i j : Nat} {o o' : AObj} (a : h.get i = some o) (b : h.get j = some o') (n : o ≠ o') : i ≠ j:=fun e=>n (by rw [e,b] at a; cases a; rfl)
noncomputable def AHeap.lift (h : AHeap) : AHeap:=⟨h.t,h.next,h.next⟩
structure Same (h h' : AHeap) : Prop where
 get : ∀ i,h'.get i = h.get i
 next : h'.next = h.next
theorem get_t (h : AHeap) (i : Nat) : h.get i = h.t.get i:=by cases h; rfl
theorem lift_get (h : AHeap) (i : Nat) : h.lift.get i = h.get i:=by rw [get_t,get_t]; rfl
theorem lift_next (h : AHeap) : h.lift.next = h.next:=rfl
theorem lift_hb {h : AHeap} (a : HB h) : HB h.lift:=fun q o e=>a q o (by rw [<-lift_get]; exact e)
theorem Same.lift (h : AHeap) : Same h h.lift:=⟨lift_get h,rfl⟩
theorem Same.refl (h : AHeap) : Same h h:=⟨fun _=>rfl,rfl⟩
theorem Same.symm {h h' : AHeap} (a : Same h h') : Same h' h:=⟨fun i=>(a.get i).symm,a.next.symm⟩
theorem Same.hb {h h' : AHeap} (a : Same h h') (b : HB h) : HB h':=fun q o e=>by rw [a.next]; exact b q o (by rw [<-a.get]; exact e)
section
variable {i b : Nat} {s : DX} {h : AHeap} {call : AHeap->R} {k : EV->AHeap->DX->R} {P Q : EV->AHeap->Prop}
theorem Ok.bigE (hb : bigOk b s = true) (hl : loose b s.nw = []) (hc : Ok (call h.lift) P) (he : ∀ v h1,P v h1->Ext h.lift h1)
 (hk : ∀ v h1 h2,P v h1->Same h1 h2->Ext h h2->Ok (k v h2 (s.big i)) Q) : Ok (bigE i b s h call k) Q:=by
 obtain ⟨v,h1,e,p⟩:=hc
 have x:=he v h1 p
 have hf : bigFront b s h = h.lift:=by unfold bigFront; rw [hl]; rfl
 have hm : h.next<=h1.mw:=x.mw h.next (Nat.le_refl _) (Nat.le_refl _) fun _ y=>y.elim
 have hE : Ev.bigE i b s h call k = k v ⟨h1.t,h1.next,h.mw⟩ (s.big i):=by
  show cnd (bigOk b s) (Ev.andE (call (bigFront b s h)) fun v h'=>bigBack i b s h h' fun s h=>k v h s) none = _
  rw [hb,cnd_true,hf,e]
  show bigBack i b s h h1 (fun s h=>k v h s) = _
  unfold bigBack
  rw [Nat.ble_eq_true_of_le hm,cnd_true,hl]; rfl
 rw [hE]
 refine hk v h1 _ p ⟨fun i=>by rw [get_t,get_t],rfl⟩ ⟨fun i hi hn=>?_,x.next,fun w w1 _ _=>w1,fun y=>?_⟩
 ·rw [get_t]; show h1.t.get i = _; rw [<-get_t,x.get i hi hn,lift_get]
 ·exact Same.hb (h:=h1) ⟨fun i=>by rw [get_t,get_t],rfl⟩ (x.hb (lift_hb y))
theorem Ok.bigC (hb : bigOk b s = true) (hl : loose b s.nw = []) (hr : ∀ w,clearAll b w s.lds = true) (hc : Ok (call h.lift) P) (he : ∀ v h1,P v h1->Chg S h.lift h1)
 (hk : ∀ v h1 h2 s',P v h1->Same h1 h2->Chg S h h2->(s' = s.big i\/∃ w,s' = s.turn i w/\w = h1.mw)->Ok (k v h2 s') Q) : Ok (Ev.bigE i b s h call k) Q:=by
 obtain ⟨v,h1,e,p⟩:=hc
 have x:=he v h1 p
 have hf : bigFront b s h = h.lift:=by unfold bigFront; rw [hl]; rfl
 have hE : Ev.bigE i b s h call k = bigBack i b s h h1 fun s h=>k v h s:=by
  show cnd (bigOk b s) (Ev.andE (call (bigFront b s h)) fun v h'=>bigBack i b s h h' fun s h=>k v h s) none = _
  rw [hb,cnd_true,hf,e]; rfl
 rw [hE]
 unfold bigBack
 rw [hl]
 have sm : ∀ w,Same h1 ⟨h1.t,h1.next,w⟩:=fun w=>⟨fun i=>by rw [get_t,get_t],rfl⟩
 have hg : ∀ w i,i < h.next->¬ S i->(⟨h1.t,h1.next,w⟩ : AHeap).get i = h.get i:=fun w i hi hn=>by
  rw [(sm w).get,x.get i hi hn,lift_get]
 cases hle : Nat.ble h.next h1.mw with
 | true=>
  rw [cnd_true]
  exact hk v h1 _ _ p (sm _) ⟨hg _,x.next,fun w w1 _ _=>w1,fun y=>(sm _).hb (x.hb (lift_hb y))⟩ (.inl rfl)
 | false=>
  rw [cnd_false,hr,cnd_true]
  refine hk v h1 _ _ p (sm _) ⟨hg _,x.next,fun w w1 w2 w3=>?_,fun y=>(sm _).hb (x.hb (lift_hb y))⟩ (.inr ⟨_,rfl,rfl⟩)
  have:=x.mw w w2 w2 w3
  show w<=cnd (Nat.ble h.mw h1.mw) h.mw h1.mw
  rw [cnd_eq]; split <;> assumption
theorem loadE_lt {i b base q o : Nat} {s : DX} {k : DX->R} (hq : q < base) (hc : cnd (otherThan b q s.st) (clearOf b q s.lou) false = true) : loadE i b base (.ptr q o) s k = k (s.ld i q):=by
 show cnd (loadOk b base q s) _ none = _
 unfold loadOk
 rw [Nat.ble_eq_true_of_le (show Nat.succ q<=base from hq),cnd_true,hc,cnd_true]
theorem stoE_at {i b q o : Nat} {s : DX} {k : DX->R} (hc : stoOk b q s = true) : stoE i b (.ptr q o) s k = k (s.sto i q):=by
 show cnd (stoOk b q s) _ none = _
 rw [hc,cnd_true]
end
section
variable {i o c n s j len : Nat} {h : AHeap} {l l' : List EV} {t : TypeId} {v : EV} {k : EV->R} {kh : EV->AHeap->R}
noncomputable def rowOf : AObj->Option (List EV)
 | .cells l _=>some l
 | .vec l _ _=>some l
 | _=>none
theorem ld1E_at {x : AObj} (hg : h.get i = some x) (hr : rowOf x = some l) (hv : l[o]? = some v) : ld1E (.ptr i o) h k = k v:=by
 show oB _ (readO (h.get i) o 1) = _
 rw [hg]
 have hc : cutR l o 1 = some [v]:=by
  obtain ⟨h1,h2⟩:=List.getElem?_eq_some_iff.1 hv
  rw [cutR_take (by omega),List.drop_eq_getElem_cons h1,h2]; rfl
 cases x <;> first | (cases hr; done) | (cases hr; show oB _ (cutR l o 1) = _; rw [hc]; rfl)
theorem ixSE_n {q off ln rm sz : Nat} {op : Bool} {kd : IntKind} (hj : j < ln) : ixSE sz (.slice q off ln rm op) (.int kd (j : Int)) k = k (.ptr q (off + j * sz)):=ixSE_at hj k kd
theorem ldNE_at {x : AObj} (hg : h.get i = some x) (hr : rowOf x = some l) (hv : cutR l o n = some l') : ldNE n (.ptr i o) h k = k (.agg l'):=by
 show oB _ (readO (h.get i) o n) = _
 rw [hg]
 cases x <;> first | (cases hr; done) | (cases hr; show oB _ (cutR l o n) = _; rw [hv]; rfl)
theorem stE_at {kk : AHeap->R} (hg : h.get i = some (.cells l t)) (hp : v.plain = true) (hn : lenR v.cells = n) (hl : laidR l o v.cells = some l') : stE n (.ptr i o) v h kk = kk (h.put i (.cells l' t)):=by
 show cnd v.plain (cnd (Nat.beq (lenR v.cells) n) (turnRow h i (fun l=>laidR l o v.cells) kk) none) none = _
 rw [hp,cnd_true,hn,Nat.beq_refl,cnd_true,turnRow_cells hg,hl]; rfl
theorem stE_vec {kk : AHeap->R} {z : Nat} (hg : h.get i = some (.vec l t z)) (hp : v.plain = true) (hn : lenR v.cells = n) (hl : laidR l o v.cells = some l') : stE n (.ptr i o) v h kk = kk (h.put i (.vec l' t z)):=by
 show cnd v.plain (cnd (Nat.beq (lenR v.cells) n) (turnRow h i (fun l=>laidR l o v.cells) kk) none) none = _
 rw [hp,cnd_true,hn,Nat.beq_refl,cnd_true]
 unfold turnRow; rw [hg]; simp only; rw [hl]; rfl
theorem Ok.st {kk : AHeap->R} {Q : EV->AHeap->Prop} (l' : List EV) (hg : h.get i = some (.cells l t)) (hp : v.plain = true) (hn : lenR v.cells = n) (hl : laidR l o v.cells = some l') (hk : Ok (kk (h.put i (.cells l' t))) Q) : Ok (stE n (.ptr i o) v h kk) Q:=by
 rw [stE_at hg hp hn hl]; exact hk
theorem Ok.st1 {kk : AHeap->R} {Q : EV->AHeap->Prop} (hg : h.get i = some (.cells l t)) (hp : v.plain = true) (hc : v.cells = [v]) (ho : o < l.length) (hk : Ok (kk (h.put i (.cells (l.set o v) t))) Q) : Ok (stE 1 (.ptr i o) v h kk) Q:=by
 rw [stE_at hg hp (by rw [hc]; rfl) (by rw [hc]; exact setNR_one v l o ho)]; exact hk
theorem pickE_bool {a b : EV} {x : Bool} : pickE (.bool x) a b k = cnd x (k a) (k b):=rfl
theorem andE_some {h' : AHeap} : andE (some (v,h')) kh = kh v h':=rfl
theorem ixAE_at {q off ln sz : Nat} {kd : IntKind} (hj : j < ln) : ixAE ln sz (.ptr q off) (.int kd (j : Int)) k = k (.ptr q (off + j * sz)):=by
 show cnd (Nat.ble (Nat.succ j) ln) _ none = _
 rw [Nat.ble_eq_true_of_le hj,cnd_true]; rfl
theorem convE_int {kd kd' : IntKind} {x : Int} : convE kd (.int kd' x) k = k (.int kd (wrapF kd x)):=rfl
theorem negE_int {kd : IntKind} {x : Int} : negE (.int kd x) k = k (.int kd (wrapF kd (0 - x))):=rfl
theorem buildE_at {place : Nat->Option (Nat × Nat)} {z : List EV} {ps : List (Nat × EV)} (hf : fillR place ps z = some l) : buildE place z ps k = k (.agg l):=by
 unfold buildE; rw [hf]; rfl
theorem cutR_all {l : List EV} {n : Nat} (hn : l.length = n) : cutR l 0 n = some l:=by
 subst hn; rw [cutR_take (by omega),List.drop_zero,List.take_length]
theorem wi64 {n : Int} (h1 : -9223372036854775808<=n) (h2 : n<=9223372036854775807) : wrapF .i64 n = n:=wrapF_i64 h1 (by omega)
end
theorem quoI {b : Int} {T : Tab} {t : Nat} {a : Int} {k : EV->R} (hb : 0 < b) (h1 : 0<=a) (h2 : a < 9223372036854775808) : binE (bin T .quo t) (.int .i64 a) (.int .i64 b) k = k (.int .i64 (a / b)):=by
 obtain ⟨n,rfl⟩:=Int.eq_ofNat_of_zero_le (Int.le_of_lt hb)
 show oB k (cnd (eqB (.ofNat n) 0) none (some (.int .i64 (wrapF .i64 (a.tdiv (.ofNat n)))))) = _
 have : eqB (.ofNat n) 0 = false:=by
  show Nat.beq n 0 = false
  cases n with
  | zero=>exact absurd hb (by decide)
  | succ n=>rfl
 rw [this,cnd_false]
 have e : a.tdiv (.ofNat n) = a / n:=Int.tdiv_eq_ediv_of_nonneg h1
 have h3 : a / (n : Int)<=a:=Int.ediv_le_self _ h1
 have h4 : 0<=a / (n : Int):=Int.ediv_nonneg h1 (by omega)
 rw [e,wrapF_i64 (by omega) (by omega)]; rfl
section
variable {v v' w w' a a' b b' x' : EV} {x y r r' : R} {h h' : AHeap} {k : EV->R} {kh : EV->AHeap->R} {kk : AHeap->R} {kd : DX->R} {kb : Nat->DX->R} {ke : EV->AHeap->DX->R}
@[congr] theorem Ok.c {Q : EV->AHeap->Prop} (e : r = r') : Ok r Q = Ok r' Q:=by rw [e]
@[congr] theorem cnd.c {α : Type} {p q : Bool} {x y : α} (e : p = q) : cnd p x y = cnd q x y:=by rw [e]
@[congr] theorem oB.c {α β : Type} {k : α->Option β} {p q : Option α} (e : p = q) : oB k p = oB k q:=by rw [e]
@[congr] theorem andE.c (e : r = r') : andE r kh = andE r' kh:=by rw [e]
@[congr] theorem ld1E.c (e : v = v') : ld1E v h k = ld1E v' h k:=by rw [e]
@[congr] theorem ldNE.c {n : Nat} (e : v = v') : ldNE n v h k = ldNE n v' h k:=by rw [e]
@[congr] theorem stE.c {n : Nat} (e : a = a') (e' : v = v') : stE n a v h kk = stE n a' v' h kk:=by rw [e,e']
@[congr] theorem newE.c {o o' : AObj} (e : o = o') : newE o h kh = newE o' h kh:=by rw [e]
@[congr] theorem boxE.c {t : Nat} (e : v = v') : boxE t v h kh = boxE t v' h kh:=by rw [e]
@[congr] theorem intE.c {g : IG} {f : EV->EV->Option EV} (e : v = v') (e' : w = w') : intE g f v w k = intE g f v' w' k:=by rw [e,e']
@[congr] theorem binE.c {f : EV->EV->Option EV} (e : v = v') (e' : w = w') : binE f v w k = binE f v' w' k:=by rw [e,e']
@[congr] theorem pickE.c (e : v = v') : pickE v a b k = pickE v' a b k:=by rw [e]
@[congr] theorem notE.c (e : v = v') : notE v k = notE v' k:=by rw [e]
@[congr] theorem negE.c (e : v = v') : negE v k = negE v' k:=by rw [e]
@[congr] theorem nilE.c (e : v = v') : nilE v k = nilE v' k:=by rw [e]
@[congr] theorem offE.c {n : Nat} (e : v = v') : offE n v k = offE n v' k:=by rw [e]
@[congr] theorem ixAE.c {n m : Nat} (e : v = v') (e' : w = w') : ixAE n m v w k = ixAE n m v' w' k:=by rw [e,e']
@[congr] theorem ixSE.c {n : Nat} (e : v = v') (e' : w = w') : ixSE n v w k = ixSE n v' w' k:=by rw [e,e']
@[congr] theorem ixVE.c {n m q : Nat} {g : Bool} (e : v = v') (e' : w = w') : ixVE n m g q v w k = ixVE n m g q v' w' k:=by rw [e,e']
@[congr] theorem fieldE.c {n m : Nat} {g : Bool} (e : v = v') : fieldE n g m v k = fieldE n g m v' k:=by rw [e]
@[congr] theorem convE.c {c : IntKind} (e : v = v') : convE c v k = convE c v' k:=by rw [e]
@[congr] theorem extrE.c {n : Nat} (e : v = v') : extrE n v k = extrE n v' k:=by rw [e]
@[congr] theorem lenE.c (e : v = v') : lenE v k = lenE v' k:=by rw [e]
@[congr] theorem s2apE.c {n : Nat} (e : v = v') : s2apE n v k = s2apE n v' k:=by rw [e]
@[congr] theorem buildE.c {place : Nat->Option (Nat × Nat)} {z : List EV} {ps ps' : List (Nat × EV)} (e : ps = ps') : buildE place z ps k = buildE place z ps' k:=by rw [e]
@[congr] theorem sliE.c {n : Nat} {lo lo' hi hi' mx mx' : Option EV} (e : v = v') (e1 : lo = lo') (e2 : hi = hi') (e3 : mx = mx') : sliE n v lo hi mx k = sliE n v' lo' hi' mx' k:=by rw [e,e1,e2,e3]
@[congr] theorem sliAE.c {n m : Nat} {lo lo' hi hi' mx mx' : Option EV} (e : v = v') (e1 : lo = lo') (e2 : hi = hi') (e3 : mx = mx') : sliAE n m v lo hi mx k = sliAE n m v' lo' hi' mx' k:=by rw [e,e1,e2,e3]
@[congr] theorem ifE.c (e : v = v') : ifE v x y = ifE v' x y:=by rw [e]
@[congr] theorem drawE.c (e : h = h') : drawE h kb = drawE h' kb:=by rw [e]
@[congr] theorem loadE.c {i b base : Nat} {s : DX} (e : v = v') : loadE i b base v s kd = loadE i b base v' s kd:=by rw [e]
@[congr] theorem stoE.c {i b : Nat} {s : DX} (e : v = v') : stoE i b v s kd = stoE i b v' s kd:=by rw [e]
@[congr] theorem newS.c {i : Nat} {s s' : DX} (e : s = s') : newS i h s kd = newS i h s' kd:=by rw [e]
@[congr] theorem bigE.c {i b : Nat} {s s' : DX} {call : AHeap->R} (e : s = s') : bigE i b s h call ke = bigE i b s' h call ke:=by rw [e]
@[congr] theorem rangeE.c {c : Caller} {T : Tab} {g n i : Nat} {tm : Tmps} {ds : List Nat} {k1 : AHeap->List Nat->R} {k2 : Nat->AHeap->List Nat->R} {k3 : AHeap->List Nat->R} (e : v = v') : rangeE c T g n i v tm h ds k1 k2 k3 = rangeE c T g n i v' tm h ds k1 k2 k3:=by rw [e]
@[congr] theorem rangeIn.c {c : Caller} {T : Tab} {g n i l0 : Nat} {tm : Tmps} {ds : List Nat} {k1 : AHeap->List Nat->R} {k2 : Nat->AHeap->List Nat->R} {k3 : AHeap->List Nat->R} (e : v = v') : rangeIn c T g n i l0 v tm h ds k1 k2 k3 = rangeIn c T g n i l0 v' tm h ds k1 k2 k3:=by rw [e]
@[congr] theorem beginE.c {l : Nat} (e : h = h') : beginE l h kk = beginE l h' kk:=by rw [e]
end
theorem lds {h : AHeap} {i : Nat} {x : AObj} {l : List EV} (hg : h.get i = some x) (hr : rowOf x = some l) : ∀ (o : Nat) (k : EV->R),ld1E (.ptr i o) h k = oB k l[o]?:=by
 intro o k
 cases hv : l[o]? with
 | some v=>exact ld1E_at hg hr hv
 | none=>
  show oB _ (readO (h.get i) o 1) = _
  rw [hg]
  have hl : l.length<=o:=List.getElem?_eq_none_iff.1 hv
  have hc : cutR l o 1 = none:=by
   rw [cutR_eq,dropN_eq,List.drop_eq_nil_of_le hl]; rfl
  cases x <;> first | (cases hr; done) | (cases hr; show oB _ (cutR l o 1) = _; rw [hc]; rfl)
theorem ldsN {h : AHeap} {i : Nat} {x : AObj} {l : List EV} (hg : h.get i = some x) (hr : rowOf x = some l) : ∀ (n o : Nat) (k : EV->R),ldNE n (.ptr i o) h k = oB (fun l=>k (.agg l)) (cutR l o n):=by
 intro n o k
 show oB _ (readO (h.get i) o n) = _
 rw [hg]
 cases x <;> first | (cases hr; done) | (cases hr; rfl)
theorem walkE :
 (∀ (i o : Nat) (k : EV->R),nilE (.ptr i o) k = k (.ptr i o))/\(∀ (c i o : Nat) (k : EV->R),offE c (.ptr i o) k = k (.ptr i (o + c))) /\
 (∀ (o : AObj) (h : AHeap) (k : EV->AHeap->R),newE o h k = k (.ptr h.next 0) (h.new o)) /\
 (∀ (t : Nat) (c : IntKind) (n : Int) (h : AHeap) (k : EV->AHeap->R),boxE t (.int c n) h k = k (.ptr h.next 0) (h.new (.cells [.int c n] t))) /\
 (∀ (t : Nat) (l : List EV) (h : AHeap) (k : EV->AHeap->R),boxE t (.agg l) h k = k (.ptr h.next 0) (h.new (.cells l t))) /\
 (∀ (t i o : Nat) (h : AHeap) (k : EV->AHeap->R),boxE t (.ptr i o) h k = k (.ptr h.next 0) (h.new (.cells [.ptr i o] t))) /\
 (∀ (t i o n m : Nat) (p : Bool) (h : AHeap) (k : EV->AHeap->R),boxE t (.slice i o n m p) h k = k (.ptr h.next 0) (h.new (.cells [.slice i o n m p] t))) /\
 (∀ (t : Nat) (h : AHeap) (k : EV->AHeap->R),boxE t .nilslice h k = k (.ptr h.next 0) (h.new (.cells [.nilslice] t))) /\
 (∀ (x : Bool) (a b : EV) (k : EV->R),pickE (.bool x) a b k = cnd x (k a) (k b)) /\
 (∀ (x : Bool) (k : EV->R),notE (.bool x) k = cnd x (k (.bool false)) (k (.bool true))) /\
 (∀ (x : Bool) (a b : R),ifE (.bool x) a b = cnd x a b) /\
 (∀ (k : EV->R),lenE .nilslice k = k (.int .i64 0))/\(∀ (q off ln rm : Nat) (op : Bool) (k : EV->R),lenE (.slice q off ln rm op) k = k (.int .i64 (ln : Int))) /\
 (∀ (o : Nat) (l : List EV) (k : EV->R),extrE o (.tuple l) k = oB k l[o]?) /\
 (∀ (h : AHeap) (k : Nat->DX->R),drawE h k = k h.next ⟨0,[],[],[],[]⟩)/\(∀ (i : Nat) (h : AHeap) (s : DX) (k : DX->R),newS i h s k = k (s.new i h.next)) /\
 (∀ (v : EV) (h : AHeap) (k : EV->AHeap->R),andE (some (v,h)) k = k v h) /\
 (∀ (o : Nat) (l : List EV) (k : EV->R),fieldE o false 0 (.agg l) k = oB k l[o]?) /\
 (∀ (c c' : IntKind) (n : Int) (k : EV->R),convE c (.int c' n) k = k (.int c (wrapF c n))) /\
 (∀ (x y : R),cnd true x y = x)/\(∀ (x y : R),cnd false x y = y)/\(cnd true true false = true)/\(cnd false true false = false)/\(cnd true false true = false)/\(cnd false false true = true)/\notB true = false/\notB false = true /\
 (∀ (k : EV->R) (v : EV),oB k (some v) = k v)/\(∀ (h : AHeap) (v : EV),resE TT [.v v] h = some (v,h))/\(∀ (h : AHeap) (v w : EV),resE TT [.v v,.v w] h = some (.tuple [v,w],h))/\(∀ (h : AHeap) (v w x : EV),resE TT [.v v,.v w,.v x] h = some (.tuple [v,w,x],h)) /\
 (∀ (h : AHeap) (k : AHeap->R),unwindF [] h k = k h)/\(∀ (p : EV) (r : List EV),(p :: r)[0]? = some p)/\(∀ (p : EV) (r : List EV) (n : Nat),(p :: r)[n + 1]? = r[n]?)/\(∀ n : Nat,0 + n = n)/\(∀ (k : List EV->R) (l : List EV),oB k (some l) = k l):=
 ⟨fun _ _ _=>rfl,fun _ _ _ _=>rfl,fun _ _ _=>rfl,fun _ _ _ _ _=>rfl,fun _ _ _ _=>rfl,fun _ _ _ _ _=>rfl,fun _ _ _ _ _ _ _ _=>rfl,fun _ _ _=>rfl,fun _ _ _ _=>rfl,fun _ _=>rfl,fun _ _ _=>rfl,
  fun _=>rfl,fun _ _ _ _ _ _=>rfl,fun o l k=>by show oB k (nthR l o) = _; rw [nthR_get],fun _ _=>rfl,fun _ _ _ _=>rfl,fun _ _ _=>rfl,fun o l k=>by show oB k (nthR l o) = _; rw [nthR_get],fun _ _ _ _=>rfl,
  fun _ _=>rfl,fun _ _=>rfl,rfl,rfl,rfl,rfl,rfl,rfl,fun _ _=>rfl,fun _ _=>rfl,fun _ _ _=>rfl,fun _ _ _ _=>rfl,fun _ _=>rfl,fun _ _=>rfl,fun _ _ _=>rfl,Nat.zero_add,fun _ _=>rfl⟩
theorem walkD :
 (∀ (s : DX) (i q : Nat),s.ld i q = ⟨s.bg,s.nw,(Nat.shiftLeft 1 i,q) :: s.lds,s.lou,s.st⟩)/\(∀ (s : DX) (i q : Nat),s.new i q = ⟨s.bg,(Nat.shiftLeft 1 i,q) :: s.nw,s.lds,s.lou,s.st⟩) /\
 (∀ (s : DX) (i : Nat),s.big i = ⟨Nat.lor s.bg (Nat.shiftLeft 1 i),s.nw,s.lds,s.lou,s.st⟩)/\(∀ (b q : Nat),otherThan b q [] = true)/\(∀ (b q : Nat),clearOf b q [] = true):=
 ⟨fun _ _ _=>rfl,fun _ _ _=>rfl,fun _ _=>rfl,fun _ _=>rfl,fun _ _=>rfl⟩
theorem walkI :
 (∀ (g : IG) (f : EV->EV->Option EV) (x y : Int) (k : EV->R),intE g f (.int .i64 x) (.int .i64 y) k = k (g .i64 x y)) /\
 (∀ (c : IntKind) (a b : Int),gLss c a b = .bool (decide (a < b)))/\(∀ (c : IntKind) (a b : Int),gLeq c a b = .bool (decide (a<=b))) /\
 (∀ (c : IntKind) (a b : Int),gGtr c a b = .bool (decide (b < a)))/\(∀ (c : IntKind) (a b : Int),gGeq c a b = .bool (decide (b<=a))) /\
 (∀ (c : IntKind) (a b : Int),gEql c a b = .bool (decide (a = b)))/\(∀ (c : IntKind) (a b : Int),gNeq c a b = .bool (decide (¬ a = b))) /\
 (∀ (c : IntKind) (a b : Int),gAdd c a b = .int c (wrapF c (a + b)))/\(∀ (c : IntKind) (a b : Int),gSub c a b = .int c (wrapF c (a - b)))/\(∀ (c : IntKind) (a b : Int),gMul c a b = .int c (wrapF c (a * b))) /\
 (∀ (b w : Bool),wantE (.bool b) w = cnd b w (notB w))/\(∀ w,wantE (.tuple []) w = false):=
 ⟨fun _ _ _ _ _=>rfl,fun _ a b=>by rw [gLss_eq,ltI_dec],fun _ a b=>by rw [gLeq_eq,ltI_dec,notB_dec]; congr 1; exact decide_eq_decide.2 (by omega),
  fun _ a b=>by rw [gGtr_eq,ltI_dec],fun _ a b=>by rw [gGeq_eq,ltI_dec,notB_dec]; congr 1; exact decide_eq_decide.2 (by omega),
  fun _ a b=>by rw [gEql_eq,eqI_dec],fun _ a b=>by rw [gNeq_eq,eqI_dec,notB_dec],
  fun _ a b=>by rw [gAdd_eq,addI_plus],fun _ a b=>by unfold gSub; rw [subI_minus],fun _ a b=>rfl,fun _ _=>rfl,fun _=>rfl⟩
end Go.Ev

namespace Go.Ev
variable {h h' : AHeap}
def RowAt (h : AHeap) (s : EV) (q : Nat) (e : TypeId) (sz len : Nat) (l : List EV) : Prop:=
 (len = 0/\l = []/\(s = .nilslice\/∃ b,s = .slice b 0 0 0 false))\/(0 < len/\s = .slice q 0 len len true/\h.get q = some (.vec l e sz)/\l.length = len * sz)
theorem RowAt.nil (h : AHeap) (q : Nat) (e : TypeId) (sz : Nat) : RowAt h .nilslice q e sz 0 []:=.inl ⟨rfl,rfl,.inl rfl⟩
theorem RowAt.empty (h : AHeap) (b q : Nat) (e : TypeId) (sz : Nat) : RowAt h (.slice b 0 0 0 false) q e sz 0 []:=.inl ⟨rfl,rfl,.inr ⟨_,rfl⟩⟩
theorem RowAt.frame {s : EV} {q : Nat} {e : TypeId} {sz len : Nat} {l : List EV} (r : RowAt h s q e sz len l) (g : 0 < len->h'.get q = h.get q) : RowAt h' s q e sz len l:=by
 rcases r with r | ⟨a,b,c,d⟩
 ·exact .inl r
 ·exact .inr ⟨a,b,by rw [g a]; exact c,d⟩
theorem RowAt.len {s : EV} {q : Nat} {e : TypeId} {sz len : Nat} {l : List EV} (r : RowAt h s q e sz len l) : lenOf s = some len:=by
 rcases r with ⟨rfl,_,rfl | ⟨_,rfl⟩⟩ | ⟨_,rfl,_⟩ <;> rfl
theorem RowAt.lenE {s : EV} {q : Nat} {e : TypeId} {sz len : Nat} {l : List EV} (r : RowAt h s q e sz len l) (k : EV->R) : Ev.lenE s k = k (.int .i64 (len : Int)):=by
 unfold Ev.lenE; rw [r.len]; rfl
theorem RowAt.plain {s : EV} {q : Nat} {e : TypeId} {sz len : Nat} {l : List EV} (r : RowAt h s q e sz len l) : s.plain = true/\s.cells = [s]:=by
 rcases r with ⟨rfl,_,rfl | ⟨_,rfl⟩⟩ | ⟨_,rfl,_⟩ <;> exact ⟨rfl,rfl⟩
theorem RowAt.size {s : EV} {q : Nat} {e : TypeId} {sz len : Nat} {l : List EV} (r : RowAt h s q e sz len l) : l.length = len * sz:=by
 rcases r with ⟨rfl,rfl,_⟩ | ⟨_,_,_,d⟩
 ·rw [Nat.zero_mul]; rfl
 ·exact d
theorem RowAt.ix {s : EV} {q : Nat} {e : TypeId} {sz len : Nat} {l : List EV} (r : RowAt h s q e sz len l) {j : Nat} (hj : j < len) (kd : IntKind) (k : EV->R) : ixSE sz s (.int kd (j : Int)) k = k (.ptr q (j * sz)):=by
 rcases r with ⟨rfl,_,_⟩ | ⟨_,rfl,_,_⟩
 ·omega
 ·rw [ixSE_n hj,Nat.zero_add]
theorem RowAt.block {s : EV} {q : Nat} {e : TypeId} {sz len : Nat} {l : List EV} (r : RowAt h s q e sz len l) (hl : 0 < len) : h.get q = some (.vec l e sz):=by
 rcases r with ⟨rfl,_,_⟩ | ⟨_,_,c,_⟩
 ·omega
 ·exact c
theorem RowAt.slice {s : EV} {q : Nat} {e : TypeId} {sz len : Nat} {l : List EV} (r : RowAt h s q e sz len l) (hl : 0 < len) : s = .slice q 0 len len true:=by
 rcases r with ⟨rfl,_,_⟩ | ⟨_,c,_⟩
 ·omega
 ·exact c
theorem append_row {s x : EV} {q : Nat} {e : TypeId} {sz len n : Nat} {l new : List EV} (r : RowAt h s q e sz len l) (hx : lenOf x = some n) (hn : 0 < n) (hn' : n<=65536) (hl : len<=65536) (hc : cellsF h sz n x = some new) (hs : new.length = n * sz) :
 ∃ h',appendF e sz s x h = some (.slice h.next 0 (len + n) (len + n) true,h')/\RowAt h' (.slice h.next 0 (len + n) (len + n) true) h.next e sz (len + n) (l ++ new)/\h'.next = h.next + 1/\Chg (fun i=>0 < len/\i = q) h h':=by
 have e0 : Nat.beq n 0 = false:=by cases n with | zero=>omega | succ n=>rfl
 rcases r with ⟨rfl,rfl,rfl | ⟨b,rfl⟩⟩ | ⟨hp,rfl,hq,hlen⟩
 ·refine ⟨h.new (.vec new e sz),?_,.inr ⟨by omega,rfl,?_,by rw [List.nil_append,Nat.zero_add]; exact hs⟩,rfl,Chg.new _ _⟩
  ·unfold appendF
   simp only [hx,oB_s,e0,cnd_false,hc,Nat.ble_eq_true_of_le hn',cnd_true,Nat.zero_add]
  ·rw [get_new_same]; rfl
 ·have e2 : Nat.ble (Nat.add 0 n) 0 = false:=by cases n with | zero=>omega | succ n=>show Nat.ble (0 + (n + 1)) 0 = false; rw [Nat.zero_add]; rfl
  have e3 : cellsF h sz 0 (.slice b 0 0 0 false) = some []:=rfl
  refine ⟨h.new (.vec new e sz),?_,.inr ⟨by omega,rfl,?_,by rw [List.nil_append,Nat.zero_add]; exact hs⟩,rfl,Chg.new _ _⟩
  ·unfold appendF
   simp only [hx,oB_s,e0,cnd_false,hc,e3,e2,Nat.ble_eq_true_of_le hn',Nat.ble_eq_true_of_le hl,cnd_true]
   rfl
  ·rw [get_new_same]; rfl
 ·have hs2 : cellsF h sz len (.slice q 0 len len true) = some l:=by
   show cnd (Nat.beq len 0) (some []) (readF h q 0 (Nat.mul len sz)) = _
   have : Nat.beq len 0 = false:=by cases len with | zero=>omega | succ n=>rfl
   rw [this,cnd_false]
   unfold readF onRow
   rw [hq]
   exact cutR_all hlen
  refine ⟨(h.del q).new (.vec (l ++ new) e sz),?_,.inr ⟨by omega,rfl,?_,by rw [List.length_append,hlen,hs,Nat.add_mul]⟩,rfl,?_⟩
  ·unfold appendF
   simp only [hx,oB_s,e0,cnd_false,hc,hs2,hq,Nat.ble_eq_true_of_le hn',Nat.ble_eq_true_of_le hl,cnd_true]
   rw [show Nat.beq 0 0 = true from rfl,cnd_true,Nat.beq_refl,cnd_true,len_length,hlen,show Nat.beq (len * sz) (Nat.mul len sz) = true from Nat.beq_refl _,cnd_true,Nat.beq_refl,cnd_true,Nat.beq_refl,cnd_true,appR_eq]
   rfl
  ·rw [show h.next = (h.del q).next from rfl,get_new_same]
  ·exact (Chg.del h (.inl ⟨hp,rfl⟩)).trans (Chg.new _ _)
theorem buildSlice1 {z : List EV} {e : TypeId} {sz : Nat} {v : EV} (hp : v.plain = true) (hz : z.length = sz) (hv : v.cells.length = sz) (hs : sz<=65536) : buildSliceE z e sz 1 [(0,v)] h = some (.slice h.next 0 1 1 false,h.new (.cells v.cells e)):=by
 unfold buildSliceE buildSliceM
 simp only
 rw [Nat.ble_eq_true_of_le (show Nat.mul 1 sz<=65536 by show 1 * sz<=65536; omega),cnd_true]
 have hf : fillR (evenP sz) [(0,v)] (rep z 1) = some v.cells:=by
  show oB (pairK fun off size=>cnd v.plain (cnd (Nat.beq (lenR v.cells) size) (oB _ (laidR (rep z 1) off v.cells)) none) none) (evenP sz 0) = _
  show cnd v.plain (cnd (Nat.beq (lenR v.cells) sz) (oB _ (laidR (rep z 1) (Nat.mul 0 sz) v.cells)) none) none = _
  rw [hp,cnd_true,len_length,hv,Nat.beq_refl,cnd_true]
  have : rep z 1 = z:=by show z ++ [] = z; rw [List.append_nil]
  rw [this,show Nat.mul 0 sz = 0 from Nat.zero_mul sz,laidR_all (by rw [hz,hv])]
  rfl
 rw [hf]; rfl
theorem cells_slice1 {b : Nat} {e : TypeId} {sz : Nat} {l : List EV} (hb : h.get b = some (.cells l e)) (hl : l.length = sz) : cellsF h sz 1 (.slice b 0 1 1 false) = some l:=by
 show cnd (Nat.beq 1 0) (some []) (readF h b 0 (Nat.mul 1 sz)) = _
 rw [show Nat.beq 1 0 = false from rfl,cnd_false]
 unfold readF onRow
 rw [hb]
 exact cutR_all (by rw [hl]; show sz = 1 * sz; omega)
theorem append_one {s v : EV} {q : Nat} {e : TypeId} {sz len : Nat} {l z : List EV} {k : EV->AHeap->R} {Q : EV->AHeap->Prop} (r : RowAt h s q e sz len l) (hb : HB h) (hp : v.plain = true) (hz : z.length = sz) (hv : v.cells.length = sz) (hs : sz<=65536) (hl : len<=65535)
 (hk : ∀ h',RowAt h' (.slice (h.next + 1) 0 (len + 1) (len + 1) true) (h.next + 1) e sz (len + 1) (l ++ v.cells)->h'.next = h.next + 2->Chg (fun i=>0 < len/\i = q) h h'->Ok (k (.slice (h.next + 1) 0 (len + 1) (len + 1) true) h') Q) :
 Ok (andE (buildSliceE z e sz 1 [(0,v)] h) fun w h=>andE (appendF e sz s w h) k) Q:=by
 rw [buildSlice1 hp hz hv hs,andE_some]
 have r1 : RowAt (h.new (.cells v.cells e)) s q e sz len l:=r.frame fun hl=>get_new_lt _ (hb q _ (r.block hl))
 obtain ⟨h',e1,r2,n2,c2⟩:=append_row (n:=1) (x:=.slice h.next 0 1 1 false) r1 rfl (by omega) (by omega) (by omega) (cells_slice1 (get_new_same _ _) hv) (by rw [hv]; omega)
 rw [e1,andE_some]
 exact hk h' r2 n2 ((Chg.new h _).trans c2)
end Go.Ev
