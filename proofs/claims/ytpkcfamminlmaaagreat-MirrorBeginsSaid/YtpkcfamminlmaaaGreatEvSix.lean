/- How functions as combinators are reckoned with: laws for simp. -/
import Derived.Test.YtpkcfamminlmaaaGreatEvFive
set_option linter.unusedVariables false
set_option linter.unusedSimpArgs false
set_option linter.unusedSectionVars false
namespace Go.Ev

theorem tmp_putS (tm : Tmps) (j i : Nat) (v : EV) : tmp (tm.put j (some v)) i = if j = i then v else tmp tm i := by
  unfold tmp; rw [Tr.get_put]; by_cases h : j = i <;> simp [h]
theorem gO_tmp {k : Tmps → Option EV} {i : Nat} (h : k = getP (pathOf i)) (tm : Tmps) : gO k tm = tmp tm i := by
  subst h; exact getE_eq tm i
theorem pO_put {p : PF} {i : Nat} (h : p = setP (pathOf i)) (v : Option EV) (tm : Tmps) : p v tm = tm.put i v := by
  subst h; exact setP_eq tm i v

noncomputable def wantE (v : EV) (w : Bool) : Bool := match v with | .bool b => cnd b w (notB w) | _ => false
theorem wantG_tmp {k : Tmps → Option EV} {i : Nat} (h : k = getP (pathOf i)) (w : Bool) (tm : Tmps) : wantG k w tm = wantE (tmp tm i) w := by
  subst h
  unfold wantG wantE tmp
  rw [getP_eq]
  cases tm.get i with
  | none => rfl
  | some v => cases v <;> rfl

/-! numbers -/
abbrev I (n : Int) : EV := .int .i64 n
abbrev N (n : Nat) : EV := .int .i64 (.ofNat n)
theorem ltI_dec (a b : Int) : ltI a b = decide (a < b) := by
  rw [ltI_eq]
  cases a <;> cases b <;> simp only [ltB]
  · rename_i a b; rw [Bool.eq_iff_iff, decide_eq_true_iff]; simp [Nat.ble_eq]; omega
  · rename_i a b; symm; rw [decide_eq_false_iff_not]; simp only [Int.ofNat_eq_natCast]; omega
  · rename_i a b; symm; rw [decide_eq_true_iff]; simp only [Int.ofNat_eq_natCast]; omega
  · rename_i a b; rw [Bool.eq_iff_iff, decide_eq_true_iff]; simp [Nat.ble_eq]; omega
theorem eqI_dec (a b : Int) : eqI a b = decide (a = b) := by
  rw [eqI_eq]
  cases a <;> cases b <;> simp only [eqB]
  · rw [Bool.eq_iff_iff, decide_eq_true_iff]; simp [Nat.beq_eq]; omega
  · simp
  · simp
  · rw [Bool.eq_iff_iff, decide_eq_true_iff]; simp [Nat.beq_eq]
theorem notB_dec (p : Prop) [Decidable p] : notB (decide p) = decide (¬ p) := by by_cases h : p <;> simp [h, notB]
theorem addI_plus (a b : Int) : addI a b = a + b := addI_eq a b
theorem subI_minus (a b : Int) : subI a b = a - b := subI_eq a b
theorem wrapF_i64 {n : Int} (h1 : -9223372036854775808 ≤ n) (h2 : n < 9223372036854775808) : wrapF .i64 n = n := by
  unfold wrapF
  split
  · rename_i m
    have : Nat.ble (Nat.succ m) (lid .i64) = true := Nat.ble_eq_true_of_le (show m + 1 ≤ 9223372036854775808 by simp only [Int.ofNat_eq_natCast] at h2; omega)
    rw [this, cnd_true]
  · rename_i m
    have : Nat.ble (Nat.succ m) (floor .i64) = true := Nat.ble_eq_true_of_le (show m + 1 ≤ 9223372036854775808 by simp only [Int.negSucc_eq] at h1; omega)
    rw [this, cnd_true]
theorem add_nat {a b : Nat} (h : a + b < 9223372036854775808) : wrapF .i64 (addI (.ofNat a) (.ofNat b)) = .ofNat (a + b) :=
  wrapF_i64 (n := .ofNat (a + b)) (by simp only [Int.ofNat_eq_natCast]; omega) (by simp only [Int.ofNat_eq_natCast]; omega)
theorem lt_nat (a b : Nat) : ltI (.ofNat a) (.ofNat b) = decide (a < b) := by rw [ltI_dec]; exact decide_eq_decide.2 (by simp only [Int.ofNat_eq_natCast]; omega)
theorem eq_nat (a b : Nat) : eqI (.ofNat a) (.ofNat b) = decide (a = b) := by rw [eqI_dec]; exact decide_eq_decide.2 (by simp only [Int.ofNat_eq_natCast]; omega)

/-! memory -/
theorem get_new_same (h : AHeap) (o : AObj) : (h.new o).get h.next = some o := by rw [AHeap.get_new, if_pos rfl]
theorem get_new_lt {h : AHeap} (o : AObj) {i : Nat} (hi : i < h.next) : (h.new o).get i = h.get i := by rw [AHeap.get_new, if_neg (by omega)]
theorem get_put_same (h : AHeap) (i : Nat) (o : AObj) : (h.put i o).get i = some o := by rw [AHeap.get_put, if_pos rfl]
theorem get_put_ne {h : AHeap} {i j : Nat} (o : AObj) (hi : i ≠ j) : (h.put i o).get j = h.get j := by rw [AHeap.get_put, if_neg hi]
theorem get_del_ne {h : AHeap} {i j : Nat} (hi : i ≠ j) : (h.del i).get j = h.get j := by rw [AHeap.get_del, if_neg hi]

/-! regions that draw their order -/
theorem cnd_t {α : Type} {b : Bool} (h : b = true) (x y : α) : cnd b x y = x := by rw [h]; rfl
theorem cnd_f {α : Type} {b : Bool} (h : b = false) (x y : α) : cnd b x y = y := by rw [h]; rfl
theorem cnd_dec {α : Type} (p : Prop) [Decidable p] (x y : α) : cnd (decide p) x y = if p then x else y := by by_cases h : p <;> simp [h]
theorem onIx_nat (k : Nat → R) (c : IntKind) (n : Nat) : onIx k (.int c (.ofNat n)) = k n := rfl
end Go.Ev


namespace Go.Ev

theorem takeN_take {l : List EV} {n : Nat} (h : n ≤ l.length) : takeN l n = some (l.take n) := by
  induction l generalizing n with
  | nil =>
    have : n = 0 := by simpa using h
    subst this; rfl
  | cons a r ih =>
    cases n with
    | zero => rfl
    | succ n =>
      simp only [takeN]
      rw [show Nat.beq (n + 1) 0 = false from rfl, cnd_false, Nat.pred_succ, ih (by simpa using h)]
      rfl
theorem cutR_take {l : List EV} {off n : Nat} (h : off + n ≤ l.length) : cutR l off n = some ((l.drop off).take n) := by
  rw [cutR_eq, dropN_eq, takeN_take (by rw [List.length_drop]; omega)]
theorem nthR_get : ∀ (l : List EV) (n : Nat), nthR l n = l[n]?
  | [], n => rfl
  | a :: r, 0 => rfl
  | a :: r, n + 1 => by
    have e : nthR (a :: r) (n + 1) = nthR r n := rfl
    rw [e, nthR_get r n]; simp
theorem setNR_one (v : EV) : ∀ (l : List EV) (n : Nat), n < l.length → laidR l n [v] = some (l.set n v)
  | [], n, h => by simp at h
  | a :: r, n, h => by
    rw [laidR_eq]
    cases n with
    | zero => cases r <;> rfl
    | succ n =>
      have e : spliceN (a :: r) (n + 1) [v] = (match spliceN r n [v] with | some x => some (a :: x) | none => none) := rfl
      rw [e, ← laidR_eq, setNR_one v r n (by simpa using h)]
      rfl
theorem len_length (l : List EV) : lenR l = l.length := by rw [lenR_eq, len_eq]
theorem laidR_all {l vs : List EV} (h : l.length = vs.length) : laidR l 0 vs = some vs := by
  unfold laidR
  rw [len_length, len_length, h, show Nat.beq 0 0 = true from rfl, cnd_true, show Nat.beq vs.length vs.length = true from Nat.beq_refl _, cnd_true]

theorem nthR_cut {L : List EV} {o : Nat} {v : EV} (h : cutR L o 1 = some [v]) : nthR L o = some v := by
  rw [nthR_get, ← List.head?_drop]
  rw [cutR_eq, dropN_eq] at h
  cases hd : L.drop o with
  | nil => rw [hd] at h; cases h
  | cons b r => rw [hd] at h; cases r <;> (cases h; rfl)
section
variable {e a x : EF} {k : KF} {tm : Tmps} {h h' : AHeap} {ds : List Nat} {i off n : Nat} {l : List EV} {v : EV}
theorem load1K_at (he : e tm = .ptr i off) (hr : readF h i off 1 = some [v]) : load1K e k tm h ds = k v tm h ds := by
  simp only [load1K, he, onPtr]
  unfold readF onRow at hr
  unfold onRow
  split at hr
  all_goals first | (cases hr; done) | skip
  · dsimp only at hr ⊢; rw [nthR_cut hr]; rfl
  · dsimp only at hr ⊢; rw [nthR_cut hr]; rfl
  · obtain ⟨hb, hr⟩ := cnd_some hr
    dsimp only at hr ⊢
    rw [hb, cnd_true, nthR_cut hr]; rfl
theorem loadNK_at (he : e tm = .ptr i off) (hr : readF h i off n = some l) : loadNK n e k tm h ds = k (.agg l) tm h ds := by
  simp only [loadNK, he, onPtr]
  unfold readF onRow at hr
  unfold onRow
  split at hr
  all_goals first | (cases hr; done) | skip
  · dsimp only at hr ⊢; rw [hr]; rfl
  · dsimp only at hr ⊢; rw [hr]; rfl
  · obtain ⟨hb, hr⟩ := cnd_some hr
    dsimp only at hr ⊢
    rw [hb, cnd_true, hr]; rfl
end

/-! ### the combinators, by values -/
noncomputable section
def readO (x : Option AObj) (off n : Nat) : Option (List EV) := onRow (fun l o => cutR l o n) off x
def intE (g : IG) (f : EV → EV → Option EV) (x y : EV) (k : EV → R) : R :=
  match x, y with
  | .int c x, .int c' y => cnd (Nat.beq (kcode c) (kcode c')) (k (g c x y)) none
  | x, y => oB k (f x y)
def ld1E (x : EV) (h : AHeap) (k : EV → R) : R := onPtr (fun i off => oB (fun l => match l with | [v] => k v | _ => none) (readO (h.get i) off 1)) x
def ldNE (n : Nat) (x : EV) (h : AHeap) (k : EV → R) : R := onPtr (fun i off => oB (fun l => k (.agg l)) (readO (h.get i) off n)) x
def stE (n : Nat) (a v : EV) (h : AHeap) (k : AHeap → R) : R := onPtr (fun i off => cnd v.plain (cnd (Nat.beq (lenR v.cells) n) (turnRow h i (fun l => laidR l off v.cells) k) none) none) a
def ixSE (s : Nat) (x ix : EV) (k : EV → R) : R := onIx (fun j => match x with | .slice i off len _ _ => cnd (Nat.ble (Nat.succ j) len) (k (.ptr i (Nat.add off (Nat.mul j s)))) none | _ => none) ix
end
section
variable {e a b x ix : EF} {k : KF} {c1 c2 : CF} {tm : Tmps} {h : AHeap} {ds : List Nat} {n m s : Nat} {g : IG} {f : EV → EV → Option EV}
theorem mv_eq (p : PF) : mv e p c1 tm h ds = c1 (p (some (e tm)) tm) h ds := rfl
theorem moveK_eq : moveK e k tm h ds = k (e tm) tm h ds := rfl
theorem put_eq (p : PF) (v : EV) : put p c1 v tm h ds = c1 (p (some v) tm) h ds := rfl
theorem dropS_eq (v : EV) : dropS c1 v tm h ds = c1 tm h ds := rfl
theorem constE_eq (v : EV) : constE v tm = v := rfl
theorem intK_eq : intK g f a b k tm h ds = intE g f (a tm) (b tm) (fun v => k v tm h ds) := rfl
theorem intE_i64 (x y : Int) (k : EV → R) : intE g f (.int .i64 x) (.int .i64 y) k = k (g .i64 x y) := rfl
theorem intE_agg (x y : List EV) (k : EV → R) : intE g f (.agg x) (.agg y) k = oB k (f (.agg x) (.agg y)) := rfl
theorem gLss_eq (c : IntKind) (a b : Int) : gLss c a b = .bool (ltI a b) := rfl
theorem gLeq_eq (c : IntKind) (a b : Int) : gLeq c a b = .bool (notB (ltI b a)) := rfl
theorem gGtr_eq (c : IntKind) (a b : Int) : gGtr c a b = .bool (ltI b a) := rfl
theorem gGeq_eq (c : IntKind) (a b : Int) : gGeq c a b = .bool (notB (ltI a b)) := rfl
theorem gEql_eq (c : IntKind) (a b : Int) : gEql c a b = .bool (eqI a b) := rfl
theorem gNeq_eq (c : IntKind) (a b : Int) : gNeq c a b = .bool (notB (eqI a b)) := rfl
theorem gAdd_eq (c : IntKind) (a b : Int) : gAdd c a b = .int c (wrapF c (addI a b)) := rfl
theorem condC_eq : condC e c1 c2 tm h ds = onB (c1 tm h ds) (c2 tm h ds) (e tm) := rfl
theorem onB_bool (x y : R) (b : Bool) : onB x y (.bool b) = cnd b x y := rfl
theorem notK_eq : notK e k tm h ds = onB (k (.bool false) tm h ds) (k (.bool true) tm h ds) (e tm) := rfl
theorem pickK_eq : pickK e a b k tm h ds = onB (k (a tm) tm h ds) (k (b tm) tm h ds) (e tm) := rfl
theorem guardK_eq (w : Tmps → Bool) : guardK w c1 k tm h ds = cnd (w tm) (c1 tm h ds) (k (.tuple []) tm h ds) := rfl
theorem wantE_bool (b w : Bool) : wantE (.bool b) w = cnd b w (notB w) := rfl
theorem notB_t : notB true = false := rfl
theorem notB_f : notB false = true := rfl
theorem nilK_eq : nilK e k tm h ds = onPtr (fun i o => k (.ptr i o) tm h ds) (e tm) := rfl
theorem offK_eq (c : Nat) : offK c e k tm h ds = onPtr (fun i o => k (.ptr i (Nat.add o c)) tm h ds) (e tm) := rfl
theorem onPtr_ptr (k : Nat → Nat → R) (i o : Nat) : onPtr k (.ptr i o) = k i o := rfl
theorem load1K_eq : load1K e k tm h ds = ld1E (e tm) h (fun v => k v tm h ds) := by
  unfold load1K ld1E onPtr
  cases e tm <;> try rfl
  rename_i i off
  simp only
  have key : ∀ (L : List EV) (o : Nat), oB (fun v => k v tm h ds) (nthR L o) = oB (fun l => match l with | [v] => k v tm h ds | _ => none) (cutR L o 1) := by
    intro L o
    rw [nthR_get, ← List.head?_drop, cutR_eq, dropN_eq]
    cases L.drop o with
    | nil => rfl
    | cons b r => cases r <;> rfl
  unfold readO onRow
  cases h.get i with
  | none => rfl
  | some x =>
    cases x <;> try rfl
    · exact key _ _
    · exact key _ _
    · rename_i o L r0
      simp only
      cases Nat.ble o off
      · rfl
      · exact key _ _
theorem loadNK_eq : loadNK n e k tm h ds = ldNE n (e tm) h (fun v => k v tm h ds) := by
  unfold loadNK ldNE onPtr
  cases e tm <;> try rfl
  rename_i i off
  simp only
  unfold readO onRow
  cases h.get i with
  | none => rfl
  | some x =>
    cases x <;> try rfl
    rename_i o L r0
    simp only
    cases Nat.ble o off <;> rfl
theorem storeK_eq : storeK n a x k tm h ds = stE n (a tm) (x tm) h (fun h' => k (.tuple []) tm h' ds) := rfl
theorem ld1E_ptr (i off : Nat) (k : EV → R) : ld1E (.ptr i off) h k = oB (fun l => match l with | [v] => k v | _ => none) (readO (h.get i) off 1) := rfl
theorem ldNE_ptr (i off : Nat) (k : EV → R) : ldNE n (.ptr i off) h k = oB (fun l => k (.agg l)) (readO (h.get i) off n) := rfl
theorem stE_ptr (i off : Nat) (v : EV) (k : AHeap → R) : stE n (.ptr i off) v h k = cnd v.plain (cnd (Nat.beq (lenR v.cells) n) (turnRow h i (fun l => laidR l off v.cells) k) none) none := rfl
theorem turnRow_cells {i : Nat} {l : List EV} {t : TypeId} (hg : h.get i = some (.cells l t)) (F : List EV → Option (List EV)) (k : AHeap → R) : turnRow h i F k = oB (fun l' => k (h.put i (.cells l' t))) (F l) := by
  unfold turnRow; rw [hg]
theorem ixSliK_eq : ixSliK s e ix k tm h ds = ixSE s (e tm) (ix tm) (fun v => k v tm h ds) := by
  unfold ixSliK ixSE
  cases e tm <;> rfl
theorem ixSE_at {q off ln rm : Nat} {op : Bool} {j : Nat} (hj : j < ln) (k : EV → R) (c : IntKind) : ixSE s (.slice q off ln rm op) (.int c (.ofNat j)) k = k (.ptr q (off + j * s)) := by
  show cnd (Nat.ble (Nat.succ j) ln) _ none = _
  rw [Nat.ble_eq_true_of_le hj, cnd_true]; rfl
theorem allocK_eq (z : List EV) (t : TypeId) : allocK z t k tm h ds = k (.ptr h.next 0) tm (h.new (.cells z t)) ds := rfl
theorem boxK_eq (t : TypeId) : boxK t e k tm h ds = cnd (e tm).plain (k (.ptr h.next 0) tm (h.new (.cells (e tm).cells t)) ds) none := rfl
theorem lenK_eq : lenK e k tm h ds = oB (fun n => k (.int .i64 (.ofNat n)) tm h ds) (lenOf (e tm)) := rfl
theorem valK_eq (F : Tmps → Option EV) : valK F k tm h ds = oB (fun v => k v tm h ds) (F tm) := rfl
theorem slowK_eq (F : Tmps → AHeap → R) : slowK F k tm h ds = oB (pairK fun v h' => k v tm h' ds) (F tm h) := rfl
theorem callK_eq (call : Caller) (g : Nat) (as : Tmps → List EV) : callK call g as k tm h ds = oB (pairK fun v h' => k v tm h' ds) (call g (as tm) h) := rfl
theorem callVK_yld (call round : Caller) (as : Tmps → List EV) {l : Nat} (hf : e tm = .yld l) : callVK call round e as k tm h ds = oB (pairK fun v h' => k v tm h' ds) (round l (as tm) h) := by
  unfold callVK; rw [hf]
theorem pairK_eq {α β γ : Type} (k : α → β → Option γ) (a : α) (b : β) : pairK k (a, b) = k a b := rfl
theorem ret1_nil (p : EF) : ret1 p tm h [] = some (p tm, h) := rfl
theorem ret0_nil : ret0 tm h [] = some (.tuple [], h) := rfl
theorem plain_int (c : IntKind) (n : Int) : EV.plain (.int c n) = true := rfl
theorem plain_bool (b : Bool) : EV.plain (.bool b) = true := rfl
theorem plain_agg (l : List EV) : EV.plain (.agg l) = true := rfl
theorem cells_int (c : IntKind) (n : Int) : EV.cells (.int c n) = [.int c n] := rfl
theorem cells_bool (b : Bool) : EV.cells (.bool b) = [.bool b] := rfl
theorem cells_agg (l : List EV) : EV.cells (.agg l) = l := rfl
theorem readO_one (v : EV) (t : TypeId) : readO (some (.cells [v] t)) 0 1 = some [v] := rfl
theorem laidR_one (v w : EV) : laidR [v] 0 [w] = some [w] := rfl
theorem lenR_one (v : EV) : lenR [v] = 1 := rfl
theorem loopC_succ (c : CF → CF) (m : Nat) : loopC c (m + 1) = c (loopC c m) := rfl
end
end Go.Ev

namespace Go.Ev

def Has (h : AHeap) (l : List (Nat × AObj)) : Prop := ∀ x ∈ l, h.get x.1 = some x.2 ∧ x.1 < h.next
theorem Has.nil (h : AHeap) : Has h [] := fun _ hx => by cases hx
theorem Has.cons {h : AHeap} {i : Nat} {o : AObj} {l : List (Nat × AObj)} (h1 : h.get i = some o) (h2 : i < h.next) (hl : Has h l) : Has h ((i, o) :: l) := fun x hx => by
  rcases List.mem_cons.1 hx with rfl | hx
  · exact ⟨h1, h2⟩
  · exact hl x hx
theorem get_newput {h : AHeap} (o o' : AObj) {i : Nat} (hi : i < h.next) : ((h.new o).put h.next o').get i = h.get i := by
  rw [AHeap.get_put, if_neg (by omega), get_new_lt o hi]
theorem Has.newput {h : AHeap} {l : List (Nat × AObj)} (hl : Has h l) (o o' : AObj) : Has ((h.new o).put h.next o') l := fun x hx =>
  ⟨by rw [get_newput o o' (hl x hx).2]; exact (hl x hx).1, Nat.lt_succ_of_lt (hl x hx).2⟩
theorem Has.new {h : AHeap} {l : List (Nat × AObj)} (hl : Has h l) (o : AObj) : Has (h.new o) l := fun x hx =>
  ⟨by rw [get_new_lt o (hl x hx).2]; exact (hl x hx).1, Nat.lt_succ_of_lt (hl x hx).2⟩
theorem Has.mem {h : AHeap} {l : List (Nat × AObj)} (hl : Has h l) {i : Nat} {o : AObj} (hx : (i, o) ∈ l) : h.get i = some o ∧ i < h.next := hl _ hx

/-- What was there is as it was. -/
structure Old (n : Nat) (h0 h : AHeap) : Prop where
  get : ∀ i, i < n → h.get i = h0.get i
  next : n ≤ h.next
theorem Old.refl (h : AHeap) : Old h.next h h := ⟨fun _ _ => rfl, Nat.le_refl _⟩
theorem Old.new {n : Nat} {h0 h : AHeap} (a : Old n h0 h) (o : AObj) : Old n h0 (h.new o) := ⟨fun i hi => by rw [get_new_lt o (Nat.lt_of_lt_of_le hi a.next)]; exact a.get i hi, Nat.le_succ_of_le a.next⟩
theorem Old.put {n : Nat} {h0 h : AHeap} (a : Old n h0 h) {i : Nat} (hi : n ≤ i) (o : AObj) : Old n h0 (h.put i o) := ⟨fun j hj => by rw [get_put_ne o (by omega)]; exact a.get j hj, a.next⟩
theorem Old.newput {n : Nat} {h0 h : AHeap} (a : Old n h0 h) (o o' : AObj) : Old n h0 ((h.new o).put h.next o') := (a.new o).put a.next o'

section
variable {T : Tab} {call round : Caller} {K : Nat}
theorem callC_at {disp : Nat → Option FT} {g : Nat} {F : FT} (h : disp g = some F) (d : Nat) (args : List EV) (hp : AHeap) :
    callC T disp K (d + 1) false g args hp = F (callC T disp K d false) (callC T disp K d true) K args hp := by
  have e : callC T disp K (d + 1) false g args hp = @Option.rec FT (fun _ => FnT) (funF T (callC T disp K d false) (callC T disp K d true) K g) (fun F => F (callC T disp K d false) (callC T disp K d true) K) (disp g) args hp := rfl
  rw [e, h]
theorem callC_round (disp : Nat → Option FT) (d l : Nat) (args : List EV) (hp : AHeap) :
    callC T disp K (d + 1) true l args hp = roundF T (callC T disp K d false) (callC T disp K d true) K l args hp := rfl

theorem funC_at {n : Nat} {c : CF} {args : List EV} (hn : args.length ≤ n) (h : AHeap) : funC n c args h = c (setArgs args 0 .nil) h [] := by
  unfold funC
  rw [len_length, Nat.ble_eq_true_of_le hn, cnd_true, setArgsR_eq]
theorem tmp_nil (i : Nat) : tmp .nil i = .tuple [] := rfl

variable {g n i t : Nat} {out : Nat → CF} {env : Env} {ret k : CF} {tm : Tmps} {h : AHeap} {ds : List Nat}
theorem rangeS_at {q : Nat} {x y : EV} (hop : (rangeAt T g i).1 = .tmp t) (hf : tmp tm t = .func q [] [x, y]) : rangeS T call g n none i out env ret k tm h ds =
    behindC out env ret k tm (h.next :: ds) (h.next + 1) (call q [.yld (h.next + 1), x, y] ((h.new (.deferred true)).new (.loop .ready none g n tm (rangeAt T g i).2.1 (rangeAt T g i).2.2.1 (rangeAt T g i).2.2.2 h.next))) := by
  have he : evalO tm (rangeAt T g i).1 = some (.func q [] [x, y]) := by rw [hop, ← hf]; rfl
  unfold rangeS rangeC
  rw [he]
  rfl
theorem behindC_on {l : Nat} {v : EV} {h1 : AHeap} {f n' : Nat} {tm' : Tmps} {ps : List Tmp} {asg body : Code} {d : Nat} (hg : h1.get l = some (.loop .ready none f n' tm' ps asg body d)) :
    behindC out env ret k tm ds l (some (v, h1)) = k tm (h1.put l (.loop .exhausted none f n' tm' ps asg body d)) ds := by
  unfold behindC; simp only [hg]
theorem behindC_exit {l : Nat} {v : EV} {h1 : AHeap} {f n' : Nat} {tm' : Tmps} {ps : List Tmp} {asg body : Code} {d id : Nat} (hg : h1.get l = some (.loop .done (some (.exit id)) f n' tm' ps asg body d)) :
    behindC out env ret k tm ds l (some (v, h1)) = envC out env id tm (h1.put l (.loop .exhausted (some (.exit id)) f n' tm' ps asg body d)) ds := by
  unfold behindC; simp only [hg]
theorem behindC_ret {l : Nat} {v : EV} {h1 : AHeap} {f n' : Nat} {tm' : Tmps} {ps : List Tmp} {asg body : Code} {d : Nat} (hg : h1.get l = some (.loop .done (some .ret) f n' tm' ps asg body d)) :
    behindC out env ret k tm ds l (some (v, h1)) = ret tm (h1.put l (.loop .exhausted (some .ret) f n' tm' ps asg body d)) ds := by
  unfold behindC; simp only [hg]
theorem beginC_at {l : Nat} {p : Option Code} {f n' : Nat} {tm' : Tmps} {ps : List Tmp} {asg body : Code} {d : Nat} (hg : h.get l = some (.loop .ready p f n' tm' ps asg body d)) :
    beginC l k tm h ds = k tm (h.put l (.loop .busy p f n' tm' ps asg body d)) ds := by
  unfold beginC; rw [hg]
theorem roundEnd_at' {l : Nat} {b : Bool} {st st' : LoopState} {j p : Option Code} {f n' : Nat} {tm' : Tmps} {ps : List Tmp} {asg body : Code} {d : Nat} (hg : h.get l = some (.loop st p f n' tm' ps asg body d)) :
    roundEnd l b st' j tm h ds = some (.bool b, h.put l (.loop st' j f n' tm' ps asg body d)) := by
  unfold roundEnd; rw [hg]
theorem roundF_at {l : Nat} {v : EV} {st : LoopState} {p : Option Code} {f n' : Nat} {tm' : Tmps} {q : Nat} {asg body : Code} {d : Nat} (hg : h.get l = some (.loop st p f n' tm' [q] asg body d)) (hq : q < n') :
    roundF T call round K l [v] h = codeK T call round K f n' (some l) (fun id => roundEnd l false .done (some (.exit id))) (roundEnd l false .done (some .ret)) asg []
        (beginC l (codeK T call round K f n' (some l) (fun id => roundEnd l false .done (some (.exit id))) (roundEnd l false .done (some .ret)) body [] (roundEnd l true .ready none))) (tm'.put q (some v)) h [] := by
  have hs : setParams [q] [v] n' tm' = some (tm'.put q (some v)) := by
    simp only [setParams]
    rw [Nat.ble_eq_true_of_le hq, cnd_true]
  unfold roundF
  rw [hg]
  simp only
  rw [hs]

theorem unwind_at : ∀ {ds : List Nat} {h : AHeap} (k : AHeap → R), ds.Nodup → (∀ d ∈ ds, h.get d = some (.deferred true)) → ∃ h', unwindF ds h k = k h' ∧ (∀ i, i ∉ ds → h'.get i = h.get i) ∧ h'.next = h.next
  | [], h, k, _, _ => ⟨h, rfl, fun _ _ => rfl, rfl⟩
  | d :: ds, h, k, hn, hd => by
    have hd0 := hd d List.mem_cons_self
    obtain ⟨hn1, hn2⟩ := List.nodup_cons.1 hn
    obtain ⟨h', h1, h2, h3⟩ := unwind_at (h := h.put d (.deferred false)) k hn2 (fun e he => by rw [get_put_ne (i := d) (j := e) _ (fun x => hn1 (by rw [x]; exact he))]; exact hd e (List.mem_cons_of_mem _ he))
    refine ⟨h', ?_, fun i hi => ?_, h3⟩
    · have e : unwindF (d :: ds) h k = (match h.get d with | some (.deferred true) => unwindF ds (h.put d (.deferred false)) k | _ => none) := rfl
      rw [e, hd0]; exact h1
    · rw [h2 i (fun x => hi (List.mem_cons_of_mem _ x)), get_put_ne (i := d) (j := i) _ (fun x => hi (by rw [x]; exact List.mem_cons_self))]
theorem retC_cell {a : Nat} {ty ty' : TypeId} {v : EV} {q : Nat} (ht : tmp tm a = .ptr q 0) (hs : T.size ty = some 1) (ha : T.agg ty = some false) (hn : ds.Nodup) (hd : ∀ d ∈ ds, h.get d = some (.deferred true)) (hq : q ∉ ds)
    (hg : h.get q = some (.cells [v] ty')) : ∃ h', retC T [.cell a ty] tm h ds = some (v, h') ∧ (∀ i, i ∉ ds → h'.get i = h.get i) ∧ h'.next = h.next := by
  obtain ⟨h', h1, h2, h3⟩ := unwind_at (resF T [.cell a ty] tm) hn hd
  refine ⟨h', ?_, h2, h3⟩
  show unwindF ds h (resF T [.cell a ty] tm) = _
  rw [h1]
  have hg' : h'.get q = some (.cells [v] ty') := by rw [h2 q hq]; exact hg
  have hr : readAt h' q 0 1 = some [v] := by unfold readAt; rw [hg']; rfl
  show resK T [.cell a ty] tm h' = _
  simp only [resK, resultsOf, ht, hs, hr, ha]
end
end Go.Ev
