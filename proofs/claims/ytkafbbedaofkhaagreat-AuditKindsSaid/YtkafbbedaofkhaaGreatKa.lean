/- audit.Of: what is yielded, whatever the round does. -/
import Derived.Test.YtkafbbedaofkhaaGreatFun
import Derived.Test.YtkafbbedaofkhaaGreatEvSix
set_option linter.unusedVariables false
set_option linter.unusedSimpArgs false
set_option linter.unusedSectionVars false
namespace Go.Ev
open Go.Proofs

abbrev Fd := Int × Int × Int
def fdV (f : Fd) : List EV := [I f.1, I f.2.1, I f.2.2]
def fdL (l : List Fd) : List EV := l.flatMap fdV
theorem fdL_len (l : List Fd) : (fdL l).length = l.length * 3 := by
  induction l with
  | nil => rfl
  | cons a r ih => simp only [fdL, List.flatMap_cons, List.length_append, List.length_cons] at *; rw [ih]; simp [fdV]; omega
theorem fdL_cons (a : Fd) (r : List Fd) : fdL (a :: r) = fdV a ++ fdL r := rfl
theorem fdL_append (a b : List Fd) : fdL (a ++ b) = fdL a ++ fdL b := by simp [fdL]
theorem drop_fd : ∀ {L : List Fd} {i : Nat} {f : Fd} (x : List EV), L[i]? = some f → ((fdL L ++ x).drop (i * 3)).take 3 = fdV f
  | a :: r, 0, f, x, h => by cases h; rfl
  | a :: r, i + 1, f, x, h => by
    rw [fdL_cons, List.append_assoc, show (i + 1) * 3 = 3 + i * 3 by omega, ← List.drop_drop]
    rw [show (fdV a ++ (fdL r ++ x)).drop 3 = fdL r ++ x from rfl]
    exact drop_fd x (by simpa using h)
  | [], i, f, x, h => by simp at h
theorem cut_fd {L : List Fd} {i : Nat} {f : Fd} (x : List EV) (h : L[i]? = some f) : cutR (fdL L ++ x) (i * 3) 3 = some (fdV f) := by
  have hi : i < L.length := (List.getElem?_eq_some_iff.1 h).1
  rw [cutR_take (by rw [List.length_append, fdL_len]; omega), drop_fd x h]

/-- A row of findings that is read: 'q' its block. -/
structure RowIn (h : AHeap) (q : Nat) (lv : EV) (L : List Fd) : Prop where
  len : lenOf lv = some L.length
  at' : ∀ i f, L[i]? = some f → ∃ off ln rm op, lv = .slice q off ln rm op ∧ i < ln ∧ readO (h.get q) (off + i * 3) 3 = some (fdV f)
  small : L.length < 9223372036854775808
theorem RowIn.frame {h h' : AHeap} {q : Nat} {lv : EV} {L : List Fd} (r : RowIn h q lv L) (e : h'.get q = h.get q) : RowIn h' q lv L := ⟨r.len, fun i f hf => by rw [e]; exact r.at' i f hf, r.small⟩

section
variable {c r : Caller} {K l la ka q : Nat} {lv : EV} {L : List Fd} {kind : Int}
structure OfIn (la ka q : Nat) (lv : EV) (L : List Fd) (kind : Int) (h : AHeap) : Prop where
  row : RowIn h q lv L
  hla : h.get la = some (.cells [lv] 48)
  hka : h.get ka = some (.cells [I kind] 3)
  lt : la < h.next ∧ ka < h.next ∧ q < h.next
def ofKind (kind : Int) (L : List Fd) : List Fd := L.filter fun f => decide (f.1 = kind)
theorem ofKind_succ {L : List Fd} {i : Nat} {f : Fd} (h : L[i]? = some f) : ofKind kind (L.take (i + 1)) = ofKind kind (L.take i) ++ (if f.1 = kind then [f] else []) := by
  unfold ofKind
  have hi := (List.getElem?_eq_some_iff.1 h)
  rw [List.take_succ_eq_append_getElem hi.1, List.filter_append, hi.2]
  by_cases e : f.1 = kind <;> simp [e]
theorem ofKind_at {L : List Fd} {i : Nat} {f : Fd} (h : L[i]? = some f) (e : f.1 = kind) : (ofKind kind L)[(ofKind kind (L.take i)).length]? = some f := by
  have h1 := ofKind_succ (kind := kind) h
  rw [if_pos e] at h1
  have h2 : ofKind kind L = ofKind kind (L.take (i + 1)) ++ ofKind kind (L.drop (i + 1)) := by
    unfold ofKind; rw [← List.filter_append, List.take_append_drop]
  rw [h2, h1]; simp

theorem of1_loop (J : Nat → AHeap → Prop) (D : AHeap → Prop) (hin : ∀ n h, J n h → OfIn la ka q lv L kind h) (hnew : ∀ n h o o', J n h → J n ((h.new o).put h.next o'))
    (hyield : ∀ n h f, J n h → (ofKind kind L)[n]? = some f → (∃ h', r l [.agg (fdV f)] h = some (.bool true, h') ∧ J (n + 1) h') ∨ (∃ h', r l [.agg (fdV f)] h = some (.bool false, h') ∧ D h')) :
    ∀ (m i : Nat) (tm : Tmps) (h : AHeap), L.length - i < m → i ≤ L.length → tmp tm 0 = .yld l → tmp tm 2 = .ptr ka 0 → tmp tm 6 = lv → tmp tm 7 = N L.length → tmp tm 8 = N i →
      J (ofKind kind (L.take i)).length h → ∃ h', loopC (F49b7 c r K) m tm h [] = some (.tuple [], h') ∧ (J (ofKind kind L).length h' ∨ D h') := by
  intro m
  induction m with
  | zero => intro i tm h hm; omega
  | succ m ih =>
    intro i tm h hm hi t0 t2 t6 t7 t8 hJ
    rw [loopC_succ]
    simp only [F49b7, intK_eq, g8_t, g7_t, t8, t7, N, intE_i64, gLss_eq, put_eq, condC_eq, g9_t, p9_t, tmp_putS, if_true, onB_bool, lt_nat, cnd_dec]
    by_cases hlt : i < L.length
    · rw [if_pos hlt]
      obtain ⟨f, hf⟩ : ∃ f, L[i]? = some f := ⟨_, List.getElem?_eq_getElem hlt⟩
      have hO := hin _ _ hJ
      obtain ⟨off, ln, rm, op, rfl, hln, hrd⟩ := hO.row.at' i f hf
      obtain ⟨lt1, lt2, lt3⟩ := hO.lt
      have J2 := hnew _ h (.cells [N 0, N 0, N 0] 51) (.cells (fdV f) 51) hJ
      have g5 : ((h.new (.cells [N 0, N 0, N 0] 51)).put h.next (.cells (fdV f) 51)).get h.next = some (.cells (fdV f) 51) := get_put_same _ _ _
      have gk := (hin _ _ J2).hka
      have gn : (h.new (.cells [N 0, N 0, N 0] 51)).get h.next = some (.cells [N 0, N 0, N 0] 51) := get_new_same _ _
      generalize hh2 : (h.new (.cells [N 0, N 0, N 0] 51)).put h.next (.cells (fdV f) 51) = h2 at J2 g5 gk
      have hst : ∀ k : AHeap → R, turnRow (h.new (.cells [N 0, N 0, N 0] 51)) h.next (fun l => laidR l 0 (fdV f)) k = k h2 := by
        intro k
        rw [turnRow_cells gn, laidR_all (by rfl)]
        show k _ = k h2
        rw [← hh2]
      simp only [F49j6, ixSliK_eq, g6_t, g8_t, tmp_putS, reduceIte, Nat.reduceEqDiff, t6, t8, N, ixSE_at hln, put_eq, loadNK_eq, p10_t, g10_t, ldNE_ptr, hrd, oB_s, p11_t, allocK_eq, p5_t, storeK_eq, g5_t, g11_t, stE_ptr, plain_agg, cells_agg, cnd_true]
      rw [show (lenR (fdV f)).beq 3 = true from rfl, cnd_true]
      have hst' := fun k => hst k
      simp only [N] at hst'
      rw [hst']
      simp only [dropS_eq, offK_eq, g5_t, tmp_putS, reduceIte, Nat.reduceEqDiff, onPtr_ptr, put_eq, p12_t, load1K_eq, g12_t, ld1E_ptr, g5]
      rw [show readO (some (.cells (fdV f) 51)) (Nat.add 0 0) 1 = some [I f.1] from rfl]
      simp only [oB_s, p13_t, g2_t, tmp_putS, reduceIte, Nat.reduceEqDiff, t2, ld1E_ptr, gk, readO_one, p14_t, intK_eq, g13_t, g14_t, I, intE_i64, gEql_eq, eqI_dec, put_eq, p15_t, mv_eq, g15_t, p16_t, guardK_eq, w16_t, wantE_bool, notB_t]
      generalize htm : (((((((((Tr.put tm 9 (some (EV.bool (decide (i < L.length))))).put 10 (some (EV.ptr q (off + i * 3)))).put 11 (some (EV.agg (fdV f)))).put 5 (some (EV.ptr h.next 0))).put 12 (some (EV.ptr h.next (Nat.add 0 0)))).put
        13 (some (EV.int IntKind.i64 f.fst))).put 14 (some (EV.int IntKind.i64 kind))).put 15 (some (EV.bool (decide (f.fst = kind))))).put 16 (some (EV.bool (decide (f.fst = kind))))) = tm1
      have u0 : tmp tm1 0 = .yld l := by rw [← htm]; simp only [tmp_putS, reduceIte, Nat.reduceEqDiff, t0]
      have u2 : tmp tm1 2 = .ptr ka 0 := by rw [← htm]; simp only [tmp_putS, reduceIte, Nat.reduceEqDiff, t2]
      have u5 : tmp tm1 5 = .ptr h.next 0 := by rw [← htm]; simp only [tmp_putS, reduceIte, Nat.reduceEqDiff]
      have u6 : tmp tm1 6 = .slice q off ln rm op := by rw [← htm]; simp only [tmp_putS, reduceIte, Nat.reduceEqDiff, t6]
      have u7 : tmp tm1 7 = N L.length := by rw [← htm]; simp only [tmp_putS, reduceIte, Nat.reduceEqDiff, t7]
      have u8 : tmp tm1 8 = N i := by rw [← htm]; simp only [tmp_putS, reduceIte, Nat.reduceEqDiff, t8]
      have u15 : tmp tm1 15 = .bool (decide (f.1 = kind)) := by rw [← htm]; simp only [tmp_putS, reduceIte, Nat.reduceEqDiff]
      have u16 : tmp tm1 16 = .bool (decide (f.1 = kind)) := by rw [← htm]; simp only [tmp_putS, reduceIte, Nat.reduceEqDiff]
      clear htm
      have hbig : i + 1 < 9223372036854775808 := by have := hO.row.small; omega
      have next : ∀ (tm2 : Tmps) (h3 : AHeap), tmp tm2 0 = .yld l → tmp tm2 2 = .ptr ka 0 → tmp tm2 6 = .slice q off ln rm op → tmp tm2 7 = N L.length → tmp tm2 8 = N i → J (ofKind kind (L.take (i + 1))).length h3 →
          ∃ h', F49j1 c r K (loopC (F49b7 c r K) m) tm2 h3 [] = some (.tuple [], h') ∧ (J (ofKind kind L).length h' ∨ D h') := by
        intro tm2 h3 v0 v2 v6 v7 v8 hJ3
        simp only [F49j1, intK_eq, g8_t, v8, N, constE_eq, intE_i64, gAdd_eq, add_nat hbig, put_eq, p22_t, mv_eq, g22_t, tmp_putS, if_true, p8_t]
        refine ih (i + 1) _ h3 (by omega) (by omega) ?_ ?_ ?_ ?_ ?_ hJ3 <;> simp only [tmp_putS, reduceIte, Nat.reduceEqDiff, v0, v2, v6, v7, v8, N]
      by_cases hk : f.1 = kind
      · have hsucc := ofKind_succ (kind := kind) hf
        rw [if_pos hk] at hsucc
        simp only [hk, decide_true] at u15 u16
        simp only [hk, decide_true, cnd_true, moveK_eq, put_eq, p17_t, g0_t, u0, F49j5, guardK_eq, w16_t, wantE_bool, tmp_putS, reduceIte, Nat.reduceEqDiff, u16, loadNK_eq, g5_t, u5, ldNE_ptr, g5]
        rw [show readO (some (.cells (fdV f) 51)) 0 3 = some (fdV f) from rfl]
        simp only [oB_s, F49j4, guardK_eq, p18_t, w16_t, wantE_bool, tmp_putS, reduceIte, Nat.reduceEqDiff, u16, cnd_true]
        have hf17 : g17 ((tm1.put 17 (some (EV.yld l))).put 18 (some (.agg (fdV f)))) = .yld l := by rw [g17_t]; simp only [tmp_putS, reduceIte, Nat.reduceEqDiff]
        rw [callVK_yld c r _ hf17]
        simp only [g18_t, tmp_putS, reduceIte]
        rcases hyield _ h2 f J2 (ofKind_at hf hk) with ⟨h3, hr, hJ3⟩ | ⟨h3, hr, hD⟩
        · rw [hr]
          simp only [oB_s, pairK_eq, put_eq, p19_t, F49j3, guardK_eq, w16_t, wantE_bool, tmp_putS, reduceIte, Nat.reduceEqDiff, u16, cnd_true, notK_eq, g19_t, onB_bool, p20_t, F49j2, pickK_eq, g16_t, g20_t, p21_t, condC_eq, g21_t, cnd_false]
          refine next _ h3 ?_ ?_ ?_ ?_ ?_ (by rw [hsucc, List.length_append]; exact hJ3) <;> simp only [tmp_putS, reduceIte, Nat.reduceEqDiff, u0, u2, u6, u7, u8]
        · rw [hr]
          simp only [oB_s, pairK_eq, put_eq, p19_t, F49j3, guardK_eq, w16_t, wantE_bool, tmp_putS, reduceIte, Nat.reduceEqDiff, u16, cnd_true, notK_eq, g19_t, onB_bool, p20_t, F49j2, pickK_eq, g16_t, g20_t, p21_t, condC_eq, g21_t, cnd_false]
          exact ⟨h3, by simp only [F49ret, ret0_nil], .inr hD⟩
      · have hsucc := ofKind_succ (kind := kind) hf
        rw [if_neg hk, List.append_nil] at hsucc
        simp only [hk, decide_false] at u15 u16
        simp only [hk, decide_false, cnd_true, cnd_false, moveK_eq, put_eq, p17_t, F49j5, guardK_eq, w16_t, wantE_bool, tmp_putS, reduceIte, Nat.reduceEqDiff, u16, F49j4, F49j3, F49j2, p18_t, p19_t, p20_t, p21_t, notB_t, pickK_eq, g16_t, constE_eq, onB_bool, condC_eq, g21_t]
        refine next _ h2 ?_ ?_ ?_ ?_ ?_ (by rw [hsucc]; exact J2) <;> simp only [tmp_putS, reduceIte, Nat.reduceEqDiff, u0, u2, u6, u7, u8]
    · rw [if_neg hlt]
      have : i = L.length := by omega
      subst this
      rw [List.take_length] at hJ
      exact ⟨h, by simp only [F49ret, ret0_nil], .inl hJ⟩
end
end Go.Ev

namespace Go.Ev
open Go.Proofs
set_option maxRecDepth 10000

theorem T3_size3 : T3.size 3 = some 1 := by kernel_rfl
theorem T3_agg3 : T3.agg 3 = some false := by kernel_rfl
theorem T3_size4 : T3.size 4 = some 1 := by kernel_rfl
theorem T3_agg4 : T3.agg 4 = some false := by kernel_rfl
theorem range14_op : (rangeAt T3 14 0).1 = .tmp 11 := by kernel_rfl
theorem range14_ps : (rangeAt T3 14 0).2.1 = [12] := by kernel_rfl
theorem plain_row {h : AHeap} {q : Nat} {lv : EV} {L : List Fd} (r : RowIn h q lv L) : lv.plain = true ∧ lv.cells = [lv] := by
  have := r.len
  cases lv <;> first | exact ⟨rfl, rfl⟩ | (simp [lenOf] at this)

/-- What Of makes. -/
noncomputable def ofHeap (h : AHeap) (lv : EV) (kind : Int) : AHeap := (h.new (.cells [lv] 48)).new (.cells [I kind] 3)
theorem of_run (c r : Caller) (K : Nat) {lv : EV} (hp : lv.plain = true) (hc : lv.cells = [lv]) (kind : Int) (h : AHeap) :
    F13 c r K [lv, I kind] h = some (.func 49 [] [.ptr h.next 0, .ptr (h.next + 1) 0], ofHeap h lv kind) := by
  unfold F13
  rw [funC_at (by simp)]
  simp only [setArgs, boxK_eq, g0_t, tmp_putS, reduceIte, Nat.reduceEqDiff, hp, hc, cnd_true, put_eq, p2_t, g1_t, Nat.succ_eq_add_one, Nat.reduceAdd, I, plain_int, cells_int, p3_t, mv_eq, constE_eq, p4_t, valK_eq, makeFuncV, g2_t, g3_t, oB_s, p5_t, g5_t, F13ret, ret1_nil, g4_t]
  rfl

theorem of1_fun {c r : Caller} {K l la ka q : Nat} {lv : EV} {L : List Fd} {kind : Int} (hK : L.length < K) (J : Nat → AHeap → Prop) (D : AHeap → Prop) (hin : ∀ n h, J n h → OfIn la ka q lv L kind h) (hnew : ∀ n h o o', J n h → J n ((h.new o).put h.next o'))
    (hyield : ∀ n h f, J n h → (ofKind kind L)[n]? = some f → (∃ h', r l [.agg (fdV f)] h = some (.bool true, h') ∧ J (n + 1) h') ∨ (∃ h', r l [.agg (fdV f)] h = some (.bool false, h') ∧ D h'))
    {h : AHeap} (hJ : J 0 h) : ∃ h', F49 c r K [.yld l, .ptr la 0, .ptr ka 0] h = some (.tuple [], h') ∧ (J (ofKind kind L).length h' ∨ D h') := by
  have hO := hin _ _ hJ
  have hl := hO.hla
  unfold F49
  rw [funC_at (by simp)]
  have hcell : readO (some (.cells [lv] 48)) 0 1 = some [lv] := rfl
  simp only [setArgs, load1K_eq, g1_t, tmp_putS, reduceIte, Nat.reduceEqDiff, Nat.succ_eq_add_one, Nat.reduceAdd, ld1E_ptr, hl, hcell, oB_s, put_eq, p6_t, lenK_eq, g6_t, hO.row.len, p7_t, mv_eq, constE_eq, p8_t]
  exact of1_loop J D hin hnew hyield K 0 _ h (by omega) (by omega) (by simp only [tmp_putS, reduceIte, Nat.reduceEqDiff]) (by simp only [tmp_putS, reduceIte, Nat.reduceEqDiff]) (by simp only [tmp_putS, reduceIte, Nat.reduceEqDiff]) (by simp only [tmp_putS, reduceIte, Nat.reduceEqDiff, N]) (by simp only [tmp_putS, reduceIte, Nat.reduceEqDiff, N]) hJ

def worstOf : List Int → List Fd → Int
  | [], _ => 0
  | k :: r, L => if ofKind k L = [] then worstOf r L else k
abbrev kinds : List Int := [2, 3, 1, 5, 4]

section
variable {disp : Nat → Option FT} (h13 : disp 13 = some F13) (h49 : disp 49 = some F49) {K d q a2 n0 : Nat} {r : Caller} {lv : EV} {L : List Fd} {h0 : AHeap}
include h13 h49
theorem worst_loop (hK : L.length < K) (hq : q < n0) (h2a : n0 ≤ a2) : ∀ (m i : Nat) (tm : Tmps) (h : AHeap) (ds : List Nat), 5 - i < m → i ≤ 5 → tmp tm 0 = lv → tmp tm 2 = .ptr a2 0 → tmp tm 5 = .agg (kinds.map I) → tmp tm 6 = N i →
    RowIn h q lv L → h.get a2 = some (.cells [I 0] 3) → a2 < h.next → Old n0 h0 h → ds.Nodup → (∀ e ∈ ds, h.get e = some (.deferred true) ∧ n0 ≤ e ∧ e < h.next) →
    ∃ h', loopC (F14b4 (callC T3 disp K (d + 2) false) r K) m tm h ds = some (I (worstOf (kinds.drop i) L), h') ∧ Old n0 h0 h' := by
  intro m
  induction m with
  | zero => intro i tm h ds hm; omega
  | succ m ih =>
    intro i tm h ds hm hi t0 t2 t5 t6 hrow g2' lt2 hold hnd hds
    have a2ds : a2 ∉ ds := fun x => by have := (hds a2 x).1; rw [g2'] at this; cases this
    rw [loopC_succ]
    simp only [F14b4, intK_eq, g6_t, t6, N, constE_eq, intE_i64, gLss_eq, lt_nat, put_eq, p7_t, condC_eq, g7_t, tmp_putS, if_true, onB_bool, cnd_dec]
    by_cases hlt : i < 5
    · rw [if_pos hlt]
      obtain ⟨kind, hkind⟩ : ∃ kind, kinds[i]? = some kind := ⟨_, List.getElem?_eq_getElem hlt⟩
      have hdrop : kinds.drop i = kind :: kinds.drop (i + 1) := by
        have := List.getElem?_eq_some_iff.1 hkind
        rw [List.drop_eq_getElem_cons this.1, this.2]
      have hnth : nthR (kinds.map I) (Nat.mul i 1) = some (I kind) := by
        rw [nthR_get, Nat.mul_eq, Nat.mul_one, List.getElem?_map, hkind]; rfl
      obtain ⟨hpl, hce⟩ := plain_row hrow
      have gn : (h.new (.cells [N 0] 3)).get h.next = some (.cells [N 0] 3) := get_new_same _ _
      simp only [F14j3, ixValK, g6_t, tmp_putS, reduceIte, Nat.reduceEqDiff, t6, N, onIx_nat, g5_t, t5, onAgg, Nat.ble_eq_true_of_le (show Nat.succ i ≤ 5 from hlt), cnd_true, partK, cnd_false, hnth, oB_s, put_eq, p8_t, allocK_eq, p4_t, storeK_eq, g4_t, g8_t, stE_ptr, I, plain_int, cells_int, lenR_one]
      rw [show Nat.beq 1 1 = true from rfl, cnd_true, turnRow_cells (by simpa [N] using gn), laidR_one, oB_s]
      generalize hh1 : (h.new (.cells [EV.int .i64 (Int.ofNat 0)] 3)).put h.next (.cells [EV.int .i64 kind] 3) = h1
      have e1 : h1.next = h.next + 1 := by rw [← hh1]; rfl
      have old1 : Old n0 h0 h1 := by rw [← hh1]; exact hold.newput _ _
      have get1 : ∀ j, j < h.next → h1.get j = h.get j := fun j hj => by rw [← hh1]; exact get_newput _ _ hj
      have ga4 : h1.get h.next = some (.cells [I kind] 3) := by rw [← hh1]; exact get_put_same _ _ _
      have hq' : q < h.next := Nat.lt_of_lt_of_le hq hold.next
      have hg4 : readO (some (.cells [I kind] 3)) 0 1 = some [I kind] := rfl
      simp only [dropS_eq, mv_eq, g0_t, tmp_putS, reduceIte, Nat.reduceEqDiff, t0, p9_t, load1K_eq, g4_t, ld1E_ptr, ga4, hg4, oB_s, put_eq, p10_t, callK_eq, g9_t, g10_t]
      rw [callC_at h13, of_run _ _ _ hpl hce]
      simp only [oB_s, pairK_eq, put_eq, p11_t]
      generalize htm : ((((((tm.put 7 (some (EV.bool (decide (i < 5))))).put 8 (some (EV.int IntKind.i64 kind))).put 4 (some (EV.ptr h.next 0))).put 9 (some lv)).put 10 (some (I kind))).put 11 (some (EV.func 49 [] [EV.ptr h1.next 0, EV.ptr (h1.next + 1) 0]))) = tm1
      have u0 : tmp tm1 0 = lv := by rw [← htm]; simp only [tmp_putS, reduceIte, Nat.reduceEqDiff, t0]
      have u2 : tmp tm1 2 = .ptr a2 0 := by rw [← htm]; simp only [tmp_putS, reduceIte, Nat.reduceEqDiff, t2]
      have u4 : tmp tm1 4 = .ptr h.next 0 := by rw [← htm]; simp only [tmp_putS, reduceIte, Nat.reduceEqDiff]
      have u5 : tmp tm1 5 = .agg (kinds.map I) := by rw [← htm]; simp only [tmp_putS, reduceIte, Nat.reduceEqDiff, t5]
      have u6 : tmp tm1 6 = N i := by rw [← htm]; simp only [tmp_putS, reduceIte, Nat.reduceEqDiff, t6]
      have u11 : tmp tm1 11 = .func 49 [] [.ptr h1.next 0, .ptr (h1.next + 1) 0] := by rw [← htm]; simp only [tmp_putS, reduceIte, Nat.reduceEqDiff]
      clear htm
      rw [rangeS_at range14_op u11]
      -- the heap ahead of the loop over the function
      generalize hh2 : ofHeap h1 lv kind = h2
      have e2 : h2.next = h1.next + 2 := by rw [← hh2]; rfl
      have old2 : Old n0 h0 h2 := by rw [← hh2]; exact (old1.new _).new _
      have get2 : ∀ j, j < h1.next → h2.get j = h1.get j := fun j hj => by
        rw [← hh2]; unfold ofHeap; rw [get_new_lt _ (Nat.lt_succ_of_lt hj), get_new_lt _ hj]
      have gla : h2.get h1.next = some (.cells [lv] 48) := by rw [← hh2]; unfold ofHeap; rw [get_new_lt _ (Nat.lt_succ_self _), get_new_same]
      have gka : h2.get (h1.next + 1) = some (.cells [I kind] 3) := by rw [← hh2]; exact get_new_same _ _
      generalize hasg : (rangeAt T3 14 0).2.2.1 = asg
      generalize hbody : (rangeAt T3 14 0).2.2.2 = body
      rw [range14_ps]
      generalize hh3 : (h2.new (.deferred true)).new (.loop .ready none 14 15 tm1 [12] asg body h2.next) = h3
      have e3 : h3.next = h2.next + 2 := by rw [← hh3]; rfl
      have old3 : Old n0 h0 h3 := by rw [← hh3]; exact (old2.new _).new _
      have get3 : ∀ j, j < h2.next → h3.get j = h2.get j := fun j hj => by
        rw [← hh3, get_new_lt _ (Nat.lt_succ_of_lt hj), get_new_lt _ hj]
      have gd : h3.get h2.next = some (.deferred true) := by rw [← hh3, get_new_lt _ (Nat.lt_succ_self _), get_new_same]
      have gl : h3.get (h2.next + 1) = some (.loop .ready none 14 15 tm1 [12] asg body h2.next) := by rw [← hh3]; exact get_new_same _ _
      let J : Nat → AHeap → Prop := fun n hh => n = 0 ∧ Has hh [(h1.next, .cells [lv] 48), (h1.next + 1, .cells [I kind] 3), (a2, .cells [I 0] 3), (h.next, .cells [I kind] 3), (h2.next + 1, .loop .ready none 14 15 tm1 [12] asg body h2.next)] ∧ Old n0 h0 hh ∧
        ∀ e ∈ h2.next :: ds, hh.get e = some (.deferred true) ∧ n0 ≤ e ∧ e < hh.next
      let D : AHeap → Prop := fun hh => ofKind kind L ≠ [] ∧ Has hh [(a2, .cells [I kind] 3), (h2.next + 1, .loop .done (some .ret) 14 15 tm1 [12] asg body h2.next)] ∧ Old n0 h0 hh ∧ ∀ e ∈ h2.next :: ds, hh.get e = some (.deferred true) ∧ n0 ≤ e ∧ e < hh.next
      have n0le := hold.next
      have J0 : J 0 h3 := by
        refine ⟨rfl, .cons ?_ (by omega) (.cons ?_ (by omega) (.cons ?_ (by omega) (.cons ?_ (by omega) (.cons gl (by omega) (.nil _))))), old3, fun e he => ?_⟩
        · rw [get3 _ (by omega)]; exact gla
        · rw [get3 _ (by omega)]; exact gka
        · rw [get3 _ (by omega), get2 _ (by omega), get1 _ lt2]; exact g2'
        · rw [get3 _ (by omega), get2 _ (by omega)]; exact ga4
        · rcases List.mem_cons.1 he with rfl | he
          · exact ⟨gd, by omega, by omega⟩
          · obtain ⟨a, b, c⟩ := hds e he
            exact ⟨by rw [get3 _ (by omega), get2 _ (by omega), get1 _ c]; exact a, b, by omega⟩
      have hrun := of1_fun (c := callC T3 disp K (d + 1) false) (r := callC T3 disp K (d + 1) true) (l := h2.next + 1) (la := h1.next) (ka := h1.next + 1) (q := q) (lv := lv) (kind := kind) hK J D
        (fun n hh hJ => by
          obtain ⟨_, hhas, ho, _⟩ := hJ
          have x1 := hhas.mem (i := h1.next) (.head _)
          have x2 := hhas.mem (i := h1.next + 1) (.tail _ (.head _))
          exact ⟨hrow.frame ((ho.get q hq).trans (hold.get q hq).symm), x1.1, x2.1, x1.2, x2.2, Nat.lt_of_lt_of_le hq ho.next⟩)
        (fun n hh o o' hJ => by
          obtain ⟨hn, hhas, ho, hdd⟩ := hJ
          exact ⟨hn, hhas.newput o o', ho.newput o o', fun e he => ⟨by rw [get_newput o o' (hdd e he).2.2]; exact (hdd e he).1, (hdd e he).2.1, Nat.lt_succ_of_lt (hdd e he).2.2⟩⟩)
        (fun n hh f hJ hf => by
          obtain ⟨rfl, hhas, ho, hdd⟩ := hJ
          refine .inr ?_
          have xl := hhas.mem (i := h2.next + 1) (.tail _ (.tail _ (.tail _ (.tail _ (.head _)))))
          have x2 := hhas.mem (i := a2) (.tail _ (.tail _ (.head _)))
          have x4 := hhas.mem (i := h.next) (.tail _ (.tail _ (.tail _ (.head _))))
          have hne : ofKind kind L ≠ [] := fun x => by rw [x] at hf; cases hf
          rw [callC_round, roundF_at xl.1 (by omega), ← hasg, ← hbody, F14r0_eq]
          unfold F14r0
          rw [beginC_at xl.1]
          have y4 : (hh.put (h2.next + 1) (.loop .busy none 14 15 tm1 [12] asg body h2.next)).get h.next = some (.cells [I kind] 3) := by rw [get_put_ne _ (by omega)]; exact x4.1
          have y2 : (hh.put (h2.next + 1) (.loop .busy none 14 15 tm1 [12] asg body h2.next)).get a2 = some (.cells [I 0] 3) := by rw [get_put_ne _ (by omega)]; exact x2.1
          have yl := get_put_same hh (h2.next + 1) (.loop .busy none 14 15 tm1 [12] asg body h2.next)
          generalize hz : hh.put (h2.next + 1) (.loop .busy none 14 15 tm1 [12] asg body h2.next) = z at y4 y2 yl
          simp only [F14r0body, load1K_eq, g4_t, tmp_putS, reduceIte, Nat.reduceEqDiff, u4, ld1E_ptr, y4, hg4, oB_s, put_eq, p13_t, storeK_eq, g2_t, u2, g13_t, stE_ptr, I, plain_int, cells_int, lenR_one, cnd_true]
          rw [show Nat.beq 1 1 = true from rfl, cnd_true, turnRow_cells y2, laidR_one, oB_s, dropS_eq]
          rw [roundEnd_at' (h := z.put a2 (.cells [EV.int .i64 kind] 3)) (by rw [get_put_ne _ (by omega)]; exact yl)]
          refine ⟨_, rfl, hne, .cons ?_ ?_ (.cons (get_put_same _ _ _) ?_ (.nil _)), ?_, fun e he => ?_⟩
          · rw [get_put_ne _ (by omega), get_put_same]
          · show a2 < z.next; rw [← hz]; exact x2.2
          · show _ < z.next; rw [← hz]; exact xl.2
          · refine .put (.put ?_ h2a _) (by omega) _
            rw [← hz]; exact ho.put (by omega) _
          · obtain ⟨a, b, cc⟩ := hdd e he
            have ne1 : h2.next + 1 ≠ e := fun x => by rw [← x, xl.1] at a; cases a
            have ne2 : a2 ≠ e := fun x => by rw [← x, x2.1] at a; cases a
            refine ⟨by rw [get_put_ne _ ne1, get_put_ne _ ne2, ← hz, get_put_ne _ ne1]; exact a, b, ?_⟩
            show e < z.next; rw [← hz]; exact cc)
        J0
      obtain ⟨h4, hr4, hend⟩ := hrun
      rw [callC_at h49, hr4]
      have nd' : (h2.next :: ds).Nodup := List.nodup_cons.2 ⟨fun x => by have := (hds _ x).2.2; omega, hnd⟩
      rcases hend with ⟨hlen, hhas, ho, hdd⟩ | ⟨hne, hhas, ho, hdd⟩
      · have hnil : ofKind kind L = [] := List.length_eq_zero_iff.1 hlen
        have xl := hhas.mem (i := h2.next + 1) (.tail _ (.tail _ (.tail _ (.tail _ (.head _)))))
        have x2 := hhas.mem (i := a2) (.tail _ (.tail _ (.head _)))
        rw [behindC_on xl.1]
        have hbig : i + 1 < 9223372036854775808 := by omega
        simp only [F14j2, intK_eq, g6_t, u6, N, constE_eq, intE_i64, gAdd_eq, add_nat hbig, put_eq, p14_t, mv_eq, g14_t, tmp_putS, if_true, p6_t]
        rw [hdrop]
        simp only [worstOf, hnil, if_true]
        have ne1 : ∀ e ∈ h2.next :: ds, h2.next + 1 ≠ e := fun e he x => by have := (hdd e he).1; rw [← x, xl.1] at this; cases this
        refine ih (i + 1) _ _ (h2.next :: ds) (by omega) (by omega) ?_ ?_ ?_ ?_ (hrow.frame ?_) ?_ x2.2 (ho.put (by omega) _) nd' (fun e he => ⟨by rw [get_put_ne _ (ne1 e he)]; exact (hdd e he).1, (hdd e he).2⟩)
        · simp only [tmp_putS, reduceIte, Nat.reduceEqDiff, u0]
        · simp only [tmp_putS, reduceIte, Nat.reduceEqDiff, u2]
        · simp only [tmp_putS, reduceIte, Nat.reduceEqDiff, u5]
        · simp only [tmp_putS, reduceIte, Nat.reduceEqDiff, N]
        · rw [get_put_ne _ (by omega)]; exact (ho.get q hq).trans (hold.get q hq).symm
        · rw [get_put_ne _ (by omega)]; exact x2.1
      · have xl := hhas.mem (i := h2.next + 1) (.tail _ (.head _))
        have x2 := hhas.mem (i := a2) (.head _)
        rw [behindC_ret xl.1]
        rw [hdrop]
        simp only [worstOf, if_neg hne]
        have ne1 : ∀ e ∈ h2.next :: ds, h2.next + 1 ≠ e := fun e he x => by have := (hdd e he).1; rw [← x, xl.1] at this; cases this
        obtain ⟨h', w1, w2, w3⟩ := retC_cell (T := T3) (tm := tm1) (h := h4.put (h2.next + 1) (.loop .exhausted (some .ret) 14 15 tm1 [12] asg body h2.next)) (ds := h2.next :: ds) (a := 2) (ty := 3) (q := a2) u2 T3_size3 T3_agg3 nd'
          (fun e he => by rw [get_put_ne _ (ne1 e he)]; exact (hdd e he).1) (fun x => by have := (hdd a2 x).1; rw [x2.1] at this; cases this) (by rw [get_put_ne _ (by omega)]; exact x2.1)
        refine ⟨h', w1, ⟨fun j hj => ?_, by rw [w3]; exact ho.next⟩⟩
        rw [w2 j (fun x => by have := (hdd j x).2.1; omega), get_put_ne _ (by omega), ho.get j hj]
    · rw [if_neg hlt]
      obtain rfl : i = 5 := by omega
      simp only [F14j0, storeK_eq, g2_t, tmp_putS, reduceIte, Nat.reduceEqDiff, t2, constE_eq, stE_ptr, plain_int, cells_int, lenR_one, cnd_true]
      rw [show Nat.beq 1 1 = true from rfl, cnd_true, turnRow_cells g2', laidR_one, oB_s, dropS_eq]
      obtain ⟨h', e1, e2, e3⟩ := retC_cell (T := T3) (tm := tm.put 7 (some (EV.bool (decide (5 < 5))))) (h := h.put a2 (.cells [EV.int .i64 (Int.ofNat 0)] 3)) (ds := ds) (a := 2) (ty := 3) (q := a2) (by simp only [tmp_putS, reduceIte, Nat.reduceEqDiff, t2]) T3_size3 T3_agg3 hnd
        (fun e he => by rw [get_put_ne _ (fun x => a2ds (by rw [x]; exact he))]; exact (hds e he).1) a2ds (get_put_same _ _ _)
      refine ⟨h', e1, ⟨fun j hj => ?_, by rw [e3]; exact hold.next⟩⟩
      rw [e2 j (fun x => by have := (hds j x).2.1; omega), get_put_ne _ (by omega), hold.get j hj]
end
end Go.Ev

namespace Go.Ev
open Go.Proofs
set_option maxRecDepth 10000

def HB (h : AHeap) : Prop := ∀ q o, h.get q = some o → q < h.next
theorem HB.new {h : AHeap} (a : HB h) (o : AObj) : HB (h.new o) := fun q x e => by
  rw [AHeap.get_new] at e
  split at e
  · rename_i hq; rw [AHeap.new_next]; omega
  · exact Nat.lt_succ_of_lt (a q x e)
theorem HB.put {h : AHeap} (a : HB h) {i : Nat} (hi : i < h.next) (o : AObj) : HB (h.put i o) := fun q x e => by
  rw [AHeap.get_put] at e
  split at e
  · rename_i hq; subst hq; exact hi
  · exact a q x e
theorem HB.del {h : AHeap} (a : HB h) (i : Nat) : HB (h.del i) := fun q x e => by
  rw [AHeap.get_del] at e
  split at e
  · cases e
  · exact a q x e
theorem HB.newput {h : AHeap} (a : HB h) (o o' : AObj) : HB ((h.new o).put h.next o') := (a.new o).put (Nat.lt_succ_self _) o'

/-- A row of findings that grows. -/
def Grown (n0 : Nat) (h : AHeap) (s : EV) (W : List Fd) : Prop := (W = [] ∧ s = .nilslice) ∨ ∃ q, W ≠ [] ∧ s = .slice q 0 W.length W.length true ∧ h.get q = some (.vec (fdL W) 51 3) ∧ n0 ≤ q ∧ q < h.next
def notVec : AObj → Bool
  | .vec .. => false
  | _ => true
theorem Grown.frame {n0 : Nat} {h h' : AHeap} {s : EV} {W : List Fd} (g : Grown n0 h s W) (e : ∀ q l t z, h.get q = some (.vec l t z) → h'.get q = h.get q) (hn : h.next ≤ h'.next) : Grown n0 h' s W := by
  rcases g with g | ⟨q, a, b, c, d, e'⟩
  · exact .inl g
  · exact .inr ⟨q, a, b, by rw [e q _ _ _ c]; exact c, d, by omega⟩
theorem Grown.plain {n0 : Nat} {h : AHeap} {s : EV} {W : List Fd} (g : Grown n0 h s W) : s.plain = true ∧ s.cells = [s] ∧ lenOf s = some W.length := by
  rcases g with ⟨rfl, rfl⟩ | ⟨q, a, rfl, _⟩
  · exact ⟨rfl, rfl, rfl⟩
  · exact ⟨rfl, rfl, rfl⟩
theorem Grown.append {n0 : Nat} {h : AHeap} {s : EV} {W : List Fd} (g : Grown n0 h s W) {b : Nat} {f : Fd} (hb : h.get b = some (.cells (fdV f) 51)) (hW : W.length ≤ 65536) (hn : n0 ≤ h.next) (hB : HB h) :
    ∃ s' h', appendF 51 3 s (.slice b 0 1 1 false) h = some (s', h') ∧ Grown n0 h' s' (W ++ [f]) ∧ h'.next = h.next + 1 ∧ (∀ i o, h.get i = some o → notVec o = true → h'.get i = some o) ∧ (∀ i, i < n0 → h'.get i = h.get i) ∧ HB h' := by
  have hx : cellsF h 3 1 (.slice b 0 1 1 false) = some (fdV f) := by
    show cnd (Nat.beq 1 0) (some []) (readF h b 0 (Nat.mul 1 3)) = _
    unfold readF; rw [hb]; rfl
  rcases g with ⟨rfl, rfl⟩ | ⟨q, hne, rfl, hq, hq1, hq2⟩
  · refine ⟨_, _, ?_, .inr ⟨h.next, by simp, rfl, get_new_same _ _, hn, Nat.lt_succ_self _⟩, rfl, fun i o ho _ => ?_, fun i hi => get_new_lt _ (by omega), hB.new _⟩
    · unfold appendF
      simp only [lenOf, oB_s, hx]
      rfl
    · rw [get_new_lt _ (hB i o ho)]; exact ho
  · have hpos : 0 < W.length := List.length_pos_iff.2 hne
    have hs : cellsF h 3 W.length (.slice q 0 W.length W.length true) = some (fdL W) := by
      show cnd (Nat.beq W.length 0) (some []) (readF h q 0 (Nat.mul W.length 3)) = _
      rw [beq_false (by omega), cnd_false]
      unfold readF onRow
      rw [hq]
      simp only
      rw [cutR_take (by rw [fdL_len]; simp), List.drop_zero, List.take_of_length_le (by rw [fdL_len]; simp)]
    refine ⟨.slice h.next 0 (W.length + 1) (W.length + 1) true, (h.del q).new (.vec (fdL (W ++ [f])) 51 3), ?_, .inr ⟨h.next, by simp, by simp, ?_, hn, Nat.lt_succ_self _⟩, rfl, fun i o ho hv => ?_, fun i hi => ?_, (hB.del q).new _⟩
    · unfold appendF
      simp only [lenOf, oB_s, hx, hs, hq]
      rw [show Nat.beq 1 0 = false from rfl, cnd_false, show Nat.ble 1 65536 = true from rfl, cnd_true, Nat.ble_eq_true_of_le hW, cnd_true, cnd_true, Nat.beq_refl, cnd_true, show Nat.beq W.length W.length = true from Nat.beq_refl _, cnd_true, len_length, fdL_len, show Nat.beq (W.length * 3) (Nat.mul W.length 3) = true from Nat.beq_refl _, cnd_true,
        show Nat.beq 3 3 = true from rfl, cnd_true, show Nat.beq 51 51 = true from rfl, cnd_true, appR_eq, fdL_append]
      rfl
    · rw [show h.next = (h.del q).next from rfl, get_new_same]
    · have : q ≠ i := fun x => by rw [x, ho] at hq; cases hq; cases hv
      rw [get_new_lt _ (show i < (h.del q).next from hB i o ho), get_del_ne this]; exact ho
    · rw [get_new_lt _ (show i < (h.del q).next from Nat.lt_of_lt_of_le hi hn), get_del_ne (by omega)]

/-- How many there are of each kind. -/
def cnt (j : Int) (L : List Fd) : Nat := (ofKind j L).length
def cntL (L : List Fd) : List EV := [N 0, N (cnt 1 L), N (cnt 2 L), N (cnt 3 L), N (cnt 4 L), N (cnt 5 L)]
theorem cnt_succ {L : List Fd} {i : Nat} {f : Fd} (h : L[i]? = some f) (j : Int) : cnt j (L.take (i + 1)) = cnt j (L.take i) + (if f.1 = j then 1 else 0) := by
  unfold cnt
  rw [ofKind_succ h, List.length_append]
  split <;> rfl
theorem cntL_same {L : List Fd} {i : Nat} {f : Fd} (h : L[i]? = some f) (hj : ¬ (1 ≤ f.1 ∧ f.1 ≤ 5)) : cntL (L.take (i + 1)) = cntL (L.take i) := by
  unfold cntL
  rw [cnt_succ h, cnt_succ h, cnt_succ h, cnt_succ h, cnt_succ h, if_neg (by omega), if_neg (by omega), if_neg (by omega), if_neg (by omega), if_neg (by omega)]
  simp only [Nat.add_zero]
theorem cntL_more {L : List Fd} {i : Nat} {f : Fd} (h : L[i]? = some f) {m : Nat} (hm : f.1 = Int.ofNat m) (h1 : 1 ≤ m) (h5 : m ≤ 5) :
    (cntL (L.take i))[m]? = some (N (cnt f.1 (L.take i))) ∧ (cntL (L.take i)).set m (N (cnt f.1 (L.take i) + 1)) = cntL (L.take (i + 1)) := by
  unfold cntL
  rw [cnt_succ h, cnt_succ h, cnt_succ h, cnt_succ h, cnt_succ h]
  have : m = 1 ∨ m = 2 ∨ m = 3 ∨ m = 4 ∨ m = 5 := by omega
  rcases this with rfl | rfl | rfl | rfl | rfl <;> (have hm' : f.1 = _ := hm; rw [hm']; exact ⟨rfl, rfl⟩)
theorem cnt_le {L : List Fd} (j : Int) (i : Nat) : cnt j (L.take i) ≤ L.length := by
  unfold cnt ofKind
  exact Nat.le_trans (List.length_filter_le _ _) (by rw [List.length_take]; omega)
end Go.Ev

namespace Go.Ev
open Go.Proofs
set_option maxRecDepth 10000

structure Fix where
  n0 : Nat
  q : Nat
  a5 : Nat
  a6 : Nat
  a7 : Nat
  a8 : Nat
  lv : EV
  L : List Fd
  kind : Int
  stop : Int
  h0 : AHeap
structure Fix.Ok (x : Fix) : Prop where
  q : x.q < x.n0
  n5 : x.n0 ≤ x.a5
  n6 : x.n0 ≤ x.a6
  n7 : x.n0 ≤ x.a7
  n8 : x.n0 ≤ x.a8
  d56 : x.a5 ≠ x.a6
  d57 : x.a5 ≠ x.a7
  d58 : x.a5 ≠ x.a8
  d67 : x.a6 ≠ x.a7
  d68 : x.a6 ≠ x.a8
  d78 : x.a7 ≠ x.a8
  len : x.L.length ≤ 100
/-- Memory in the first loop. -/
structure Mem1 (x : Fix) (i : Nat) (h : AHeap) : Prop where
  row : RowIn h x.q x.lv x.L
  g5 : h.get x.a5 = some (.cells [I x.stop] 3)
  g6 : h.get x.a6 = some (.cells [.bool false] 4)
  g7 : ∃ s, h.get x.a7 = some (.cells [s] 48) ∧ Grown x.n0 h s (ofKind x.kind (x.L.take i))
  g8 : h.get x.a8 = some (.cells (cntL (x.L.take i)) 49)
  hb : HB h
  old : Old x.n0 x.h0 h
structure Tm1 (x : Fix) (tm : Tmps) : Prop where
  t0 : tmp tm 0 = x.lv
  t1 : tmp tm 1 = I x.kind
  t5 : tmp tm 5 = .ptr x.a5 0
  t6 : tmp tm 6 = .ptr x.a6 0
  t7 : tmp tm 7 = .ptr x.a7 0
  t8 : tmp tm 8 = .ptr x.a8 0
theorem Tm1.put {x : Fix} {tm : Tmps} (t : Tm1 x tm) {j : Nat} (hj : 9 ≤ j) (v : EV) : Tm1 x (tm.put j (some v)) :=
  ⟨by rw [tmp_putS, if_neg (by omega)]; exact t.t0, by rw [tmp_putS, if_neg (by omega)]; exact t.t1, by rw [tmp_putS, if_neg (by omega)]; exact t.t5, by rw [tmp_putS, if_neg (by omega)]; exact t.t6, by rw [tmp_putS, if_neg (by omega)]; exact t.t7, by rw [tmp_putS, if_neg (by omega)]; exact t.t8⟩

section
variable {x : Fix} (ok : x.Ok) {c r : Caller} {K : Nat} {Q : R → Prop}
include ok
theorem first_loop (hQ : ∀ tm h, Tm1 x tm → Mem1 x x.L.length h → Q (F4j13 c r K tm h [])) : ∀ (m i : Nat) (tm : Tmps) (h : AHeap), x.L.length - i < m → i ≤ x.L.length → Tm1 x tm → tmp tm 22 = x.lv → tmp tm 23 = N x.L.length → tmp tm 24 = N i → Mem1 x i h →
    Q (loopC (F4b21 c r K) m tm h []) := by
  intro m
  induction m with
  | zero => intro i tm h hm; omega
  | succ m ih =>
    intro i tm h hm hi T t22 t23 t24 M
    have hlen := ok.len
    rw [loopC_succ]
    simp only [F4b21, intK_eq, g24_t, g23_t, t24, t23, N, intE_i64, gLss_eq, lt_nat, put_eq, p25_t, condC_eq, g25_t, tmp_putS, if_true, onB_bool, cnd_dec]
    by_cases hlt : i < x.L.length
    · rw [if_pos hlt]
      obtain ⟨f, hf⟩ : ∃ f, x.L[i]? = some f := ⟨_, List.getElem?_eq_getElem hlt⟩
      obtain ⟨off, ln, rm, op, hlv, hln, hrd⟩ := M.row.at' i f hf
      have t22' : tmp tm 22 = .slice x.q off ln rm op := by rw [t22, hlv]
      have gn : (h.new (.cells [N 0, N 0, N 0] 51)).get h.next = some (.cells [N 0, N 0, N 0] 51) := get_new_same _ _
      generalize hh1 : (h.new (.cells [N 0, N 0, N 0] 51)).put h.next (.cells (fdV f) 51) = h1
      have hst : ∀ k : AHeap → R, turnRow (h.new (.cells [EV.int .i64 (Int.ofNat 0), EV.int .i64 (Int.ofNat 0), EV.int .i64 (Int.ofNat 0)] 51)) h.next (fun l => laidR l 0 (fdV f)) k = k h1 := by
        intro k
        rw [turnRow_cells (by simpa [N] using gn), laidR_all (by rfl)]
        show k _ = k h1
        rw [← hh1]
      have e1 : h1.next = h.next + 1 := by rw [← hh1]; rfl
      have get1 : ∀ j, j < h.next → h1.get j = h.get j := fun j hj => by rw [← hh1]; exact get_newput _ _ hj
      have g10' : h1.get h.next = some (.cells (fdV f) 51) := by rw [← hh1]; exact get_put_same _ _ _
      have l5 := M.hb _ _ M.g5
      have l6 := M.hb _ _ M.g6
      obtain ⟨s, gg7, hgr⟩ := M.g7
      have l7 := M.hb _ _ gg7
      have l8 := M.hb _ _ M.g8
      have n0le := M.old.next
      have lq : x.q < h.next := Nat.lt_of_lt_of_le ok.q n0le
      have M1 : Mem1 x i h1 := ⟨M.row.frame (get1 _ lq), by rw [get1 _ l5]; exact M.g5, by rw [get1 _ l6]; exact M.g6, ⟨s, by rw [get1 _ l7]; exact gg7, hgr.frame (fun q l t z hq => get1 _ (M.hb _ _ hq)) (by omega)⟩,
        by rw [get1 _ l8]; exact M.g8, by rw [← hh1]; exact M.hb.newput _ _, by rw [← hh1]; exact M.old.newput _ _⟩
      have hk0 : readO (some (.cells (fdV f) 51)) (Nat.add 0 0) 1 = some [I f.1] := rfl
      simp only [F4j20, ixSliK_eq, g22_t, g24_t, tmp_putS, reduceIte, Nat.reduceEqDiff, t22', t24, N, ixSE_at hln, put_eq, p26_t, loadNK_eq, g26_t, ldNE_ptr, hrd, oB_s, p27_t, allocK_eq, p10_t, storeK_eq, g10_t, g27_t, stE_ptr, plain_agg, cells_agg, cnd_true]
      rw [show (lenR (fdV f)).beq 3 = true from rfl, cnd_true, hst]
      simp only [dropS_eq, offK_eq, g10_t, tmp_putS, reduceIte, Nat.reduceEqDiff, onPtr_ptr, put_eq, p28_t, load1K_eq, g28_t, ld1E_ptr, g10', hk0, oB_s, p29_t, mv_eq, g1_t, T.t1, p30_t, intK_eq, g29_t, g30_t, I, intE_i64, gEql_eq, eqI_dec, p31_t, condC_eq, g31_t, onB_bool, cnd_dec]
      generalize htm : ((((((((tm.put 25 (some (EV.bool (decide (i < x.L.length))))).put 26 (some (EV.ptr x.q (off + i * 3)))).put 27 (some (EV.agg (fdV f)))).put 10 (some (EV.ptr h.next 0))).put 28 (some (EV.ptr h.next (Nat.add 0 0)))).put 29 (some (EV.int IntKind.i64 f.1))).put 30 (some (EV.int IntKind.i64 x.kind))).put 31 (some (EV.bool (decide (f.1 = x.kind))))) = tm1
      have T1 : Tm1 x tm1 := by rw [← htm]; exact (((((((T.put (by omega) _).put (by omega) _).put (by omega) _).put (by omega) _).put (by omega) _).put (by omega) _).put (by omega) _).put (by omega) _
      have u10 : tmp tm1 10 = .ptr h.next 0 := by rw [← htm]; simp only [tmp_putS, reduceIte, Nat.reduceEqDiff]
      have u22 : tmp tm1 22 = x.lv := by rw [← htm]; simp only [tmp_putS, reduceIte, Nat.reduceEqDiff, t22]
      have u23 : tmp tm1 23 = N x.L.length := by rw [← htm]; simp only [tmp_putS, reduceIte, Nat.reduceEqDiff, t23]
      have u24 : tmp tm1 24 = N i := by rw [← htm]; simp only [tmp_putS, reduceIte, Nat.reduceEqDiff, t24]
      clear htm
      have hsucc := ofKind_succ (kind := x.kind) hf
      -- what follows the append
      have rest : ∀ (tm2 : Tmps) (h2 : AHeap), Tm1 x tm2 → tmp tm2 10 = .ptr h.next 0 → tmp tm2 22 = x.lv → tmp tm2 23 = N x.L.length → tmp tm2 24 = N i → h2.get h.next = some (.cells (fdV f) 51) → RowIn h2 x.q x.lv x.L → h2.get x.a5 = some (.cells [I x.stop] 3) → h2.get x.a6 = some (.cells [.bool false] 4) →
          (∃ s, h2.get x.a7 = some (.cells [s] 48) ∧ Grown x.n0 h2 s (ofKind x.kind (x.L.take (i + 1)))) → h2.get x.a8 = some (.cells (cntL (x.L.take i)) 49) → HB h2 → Old x.n0 x.h0 h2 → Q (F4j19 c r K (loopC (F4b21 c r K) m) tm2 h2 []) := by
        intro tm2 h2 T2 v10 v22 v23 v24 k10 krow k5 k6 k7 k8 kb kold
        have next : ∀ (tm3 : Tmps) (h3 : AHeap), Tm1 x tm3 → tmp tm3 22 = x.lv → tmp tm3 23 = N x.L.length → tmp tm3 24 = N i → Mem1 x (i + 1) h3 → Q (F4j15 c r K (loopC (F4b21 c r K) m) tm3 h3 []) := by
          intro tm3 h3 T3' w22 w23 w24 M3
          have hbig : i + 1 < 9223372036854775808 := by omega
          simp only [F4j15, intK_eq, g24_t, w24, N, constE_eq, intE_i64, gAdd_eq, add_nat hbig, put_eq, p50_t, mv_eq, g50_t, tmp_putS, if_true, p24_t]
          refine ih (i + 1) _ h3 (by omega) (by omega) ((T3'.put (by omega) _).put (by omega) _) ?_ ?_ ?_ M3 <;> simp only [tmp_putS, reduceIte, Nat.reduceEqDiff, w22, w23, N]
        by_cases hr1 : 1 ≤ f.1
        · by_cases hr5 : f.1 ≤ 5
          · obtain ⟨mm, hmm⟩ : ∃ mm : Nat, f.1 = Int.ofNat mm := ⟨f.1.toNat, by simp only [Int.ofNat_eq_natCast]; omega⟩
            have hm1 : 1 ≤ mm := by simp only [Int.ofNat_eq_natCast] at hmm; omega
            have hm5 : mm ≤ 5 := by simp only [Int.ofNat_eq_natCast] at hmm; omega
            obtain ⟨c1, c2⟩ := cntL_more hf hmm hm1 hm5
            have hcut : readO (some (.cells (cntL (x.L.take i)) 49)) (Nat.add 0 (Nat.mul mm 1)) 1 = some [N (cnt f.1 (x.L.take i))] := by
              show cutR (cntL (x.L.take i)) (0 + mm * 1) 1 = _
              rw [Nat.zero_add, Nat.mul_one, cutR_take (by show mm + 1 ≤ 6; omega)]
              have := List.getElem?_eq_some_iff.1 c1
              rw [List.drop_eq_getElem_cons this.1, this.2]; rfl
            have hble : Nat.ble (Nat.succ mm) 6 = true := Nat.ble_eq_true_of_le (by omega)
            have hcb : cnt f.1 (x.L.take i) + 1 < 9223372036854775808 := by have := cnt_le (L := x.L) f.1 i; omega
            have e1' : decide (¬ f.1 < Int.ofNat 1) = true := decide_eq_true (by simp only [Int.ofNat_eq_natCast]; omega)
            have e5' : decide (¬ Int.ofNat 5 < f.1) = true := decide_eq_true (by simp only [Int.ofNat_eq_natCast]; omega)
            have hix : ∀ k : Nat → R, onIx k (.int .i64 f.1) = k mm := fun k => by rw [hmm]; rfl
            have ga : ∀ k : AHeap → R, turnRow h2 x.a8 (fun l => laidR l (Nat.add 0 (Nat.mul mm 1)) [EV.int .i64 (.ofNat (cnt f.1 (x.L.take i) + 1))]) k = k (h2.put x.a8 (.cells (cntL (x.L.take (i + 1))) 49)) := by
              intro k
              rw [turnRow_cells k8, show Nat.add 0 (Nat.mul mm 1) = mm by simp, setNR_one _ _ _ (by show mm < 6; omega), oB_s]
              rw [← c2]
            simp only [F4j19, offK_eq, g10_t, v10, onPtr_ptr, put_eq, p36_t, load1K_eq, g36_t, tmp_putS, reduceIte, Nat.reduceEqDiff, ld1E_ptr, k10, hk0, oB_s, p37_t, intK_eq, g37_t, constE_eq, I, intE_i64, gGeq_eq, ltI_dec, notB_dec, p38_t, mv_eq, g38_t, p39_t, guardK_eq, w39_t, wantE_bool]
            simp only [e1', cnd_true, F4j18, guardK_eq, p40_t, w39_t, tmp_putS, reduceIte, Nat.reduceEqDiff, wantE_bool, load1K_eq, g40_t, ld1E_ptr, k10, hk0, oB_s, put_eq, p41_t, F4j17, intK_eq, g41_t, constE_eq, I, intE_i64, gLeq_eq, ltI_dec, notB_dec, e5', p42_t, F4j16, pickK_eq, g39_t, onB_bool, g42_t, p43_t, condC_eq, g43_t,
              offK_eq, g10_t, v10, onPtr_ptr, p44_t, g44_t, p45_t, ixArrK, g8_t, T2.t8, g45_t, hix, hble, p46_t, g46_t, k8, hcut, p47_t, g47_t, N, gAdd_eq, add_nat hcb, p48_t, p49_t, storeK_eq, g49_t, g48_t, stE_ptr, plain_int, cells_int, lenR_one]
            rw [show Nat.beq 1 1 = true from rfl, cnd_true, ga, dropS_eq]
            refine next _ _ (((((((((((T2.put (by omega) _).put (by omega) _).put (by omega) _).put (by omega) _).put (by omega) _).put (by omega) _).put (by omega) _).put (by omega) _).put (by omega) _).put (by omega) _).put (by omega) _ |>.put (by omega) _ |>.put (by omega) _ |>.put (by omega) _) ?_ ?_ ?_ ?_
            · simp only [tmp_putS, reduceIte, Nat.reduceEqDiff, v22]
            · simp only [tmp_putS, reduceIte, Nat.reduceEqDiff, v23, N]
            · simp only [tmp_putS, reduceIte, Nat.reduceEqDiff, v24, N]
            · obtain ⟨s, k7', k7g⟩ := k7
              exact ⟨krow.frame (get_put_ne _ (by have := ok.q; have := ok.n8; omega)), by rw [get_put_ne _ (Ne.symm ok.d58)]; exact k5, by rw [get_put_ne _ (Ne.symm ok.d68)]; exact k6, ⟨s, by rw [get_put_ne _ (Ne.symm ok.d78)]; exact k7', k7g.frame (fun q l t z hq => get_put_ne _ (fun e => by rw [← e, k8] at hq; cases hq)) (Nat.le_refl _)⟩,
                get_put_same _ _ _, kb.put (kb _ _ k8) _, kold.put ok.n8 _⟩
          · have e1' : decide (¬ f.1 < Int.ofNat 1) = true := decide_eq_true (by simp only [Int.ofNat_eq_natCast]; omega)
            have e5' : decide (¬ Int.ofNat 5 < f.1) = false := decide_eq_false (by simp only [Int.ofNat_eq_natCast]; omega)
            simp only [F4j19, offK_eq, g10_t, v10, onPtr_ptr, put_eq, p36_t, load1K_eq, g36_t, tmp_putS, reduceIte, Nat.reduceEqDiff, ld1E_ptr, k10, hk0, oB_s, p37_t, intK_eq, g37_t, constE_eq, I, intE_i64, gGeq_eq, ltI_dec, notB_dec, p38_t, mv_eq, g38_t, p39_t, guardK_eq, w39_t, wantE_bool,
              e1', cnd_true, F4j18, p40_t, g40_t, p41_t, F4j17, g41_t, gLeq_eq, e5', p42_t, F4j16, pickK_eq, g39_t, onB_bool, g42_t, p43_t, condC_eq, g43_t, cnd_false]
            refine next _ _ ((((((((T2.put (by omega) _).put (by omega) _).put (by omega) _).put (by omega) _).put (by omega) _).put (by omega) _).put (by omega) _).put (by omega) _) ?_ ?_ ?_ ⟨krow, k5, k6, k7, by rw [cntL_same hf (by omega)]; exact k8, kb, kold⟩
            · simp only [tmp_putS, reduceIte, Nat.reduceEqDiff, v22]
            · simp only [tmp_putS, reduceIte, Nat.reduceEqDiff, v23, N]
            · simp only [tmp_putS, reduceIte, Nat.reduceEqDiff, v24, N]
        · have e1' : decide (¬ f.1 < Int.ofNat 1) = false := decide_eq_false (by simp only [Int.ofNat_eq_natCast]; omega)
          simp only [F4j19, offK_eq, g10_t, v10, onPtr_ptr, put_eq, p36_t, load1K_eq, g36_t, tmp_putS, reduceIte, Nat.reduceEqDiff, ld1E_ptr, k10, hk0, oB_s, p37_t, intK_eq, g37_t, constE_eq, I, intE_i64, gGeq_eq, ltI_dec, notB_dec, p38_t, mv_eq, g38_t, p39_t, guardK_eq, w39_t, wantE_bool,
            e1', notB_t, cnd_true, F4j18, p40_t, p41_t, F4j17, p42_t, F4j16, pickK_eq, g39_t, onB_bool, p43_t, condC_eq, g43_t, cnd_false]
          refine next _ _ ((((((((T2.put (by omega) _).put (by omega) _).put (by omega) _).put (by omega) _).put (by omega) _).put (by omega) _).put (by omega) _).put (by omega) _) ?_ ?_ ?_ ⟨krow, k5, k6, k7, by rw [cntL_same hf (by omega)]; exact k8, kb, kold⟩
          · simp only [tmp_putS, reduceIte, Nat.reduceEqDiff, v22]
          · simp only [tmp_putS, reduceIte, Nat.reduceEqDiff, v23, N]
          · simp only [tmp_putS, reduceIte, Nat.reduceEqDiff, v24, N]
      by_cases hk : f.1 = x.kind
      · rw [if_pos hk] at hsucc ⊢
        obtain ⟨s1, k7, kg⟩ := M1.g7
        have hk7 : readO (some (.cells [s1] 48)) 0 1 = some [s1] := rfl
        have hf3 : readO (some (.cells (fdV f) 51)) 0 3 = some (fdV f) := rfl
        simp only [g7_t, T1.t7, ld1E_ptr, k7, hk7, oB_s, loadNK_eq, p32_t, g10_t, tmp_putS, reduceIte, Nat.reduceEqDiff, u10, ldNE_ptr, g10', hf3, put_eq, p33_t, slowK_eq]
        have hbs : buildSliceM [EV.int IntKind.i64 (Int.ofNat 0), EV.int IntKind.i64 (Int.ofNat 0), EV.int IntKind.i64 (Int.ofNat 0)] 51 3 1 (fun tm => [(0, g33 tm)]) ((tm1.put 32 (some s1)).put 33 (some (.agg (fdV f)))) h1 = some (.slice h1.next 0 1 1 false, h1.new (.cells (fdV f) 51)) := by
          unfold buildSliceM
          simp only [g33_t, tmp_putS, reduceIte]
          rfl
        rw [hbs]
        simp only [oB_s, pairK_eq, put_eq, p34_t, slowK_eq, appendM, g32_t, g34_t, tmp_putS, reduceIte, Nat.reduceEqDiff]
        have kg2 : Grown x.n0 (h1.new (.cells (fdV f) 51)) s1 (ofKind x.kind (x.L.take i)) := kg.frame (fun q l t z hq => get_new_lt _ (M1.hb _ _ hq)) (Nat.le_succ _)
        have hWlen : (ofKind x.kind (x.L.take i)).length ≤ 65536 := by have := cnt_le (L := x.L) x.kind i; unfold cnt at this; omega
        obtain ⟨s', h', ha1, ha2, ha3, ha4, ha5, ha6⟩ := kg2.append (get_new_same _ _) hWlen (by show x.n0 ≤ h1.next + 1; omega) (M1.hb.new _)
        rw [ha1]
        have keep : ∀ j o, h1.get j = some o → notVec o = true → h'.get j = some o := fun j o hj hv => ha4 j o (by rw [get_new_lt _ (M1.hb _ _ hj)]; exact hj) hv
        obtain ⟨sp, sc, _⟩ := ha2.plain
        simp only [oB_s, pairK_eq, put_eq, p35_t, storeK_eq, g7_t, tmp_putS, reduceIte, Nat.reduceEqDiff, T1.t7, g35_t, stE_ptr, sp, sc, cnd_true, lenR_one]
        rw [show Nat.beq 1 1 = true from rfl, cnd_true, turnRow_cells (keep _ _ k7 rfl), laidR_one, oB_s, dropS_eq]
        have ld7 := ok.n7
        refine rest _ _ ((((T1.put (by omega) _).put (by omega) _).put (by omega) _).put (by omega) _) ?_ ?_ ?_ ?_ ?_ ?_ ?_ ?_ ⟨s', get_put_same _ _ _, ?_⟩ ?_ (ha6.put (ha6 _ _ (keep _ _ k7 rfl)) _) ⟨fun j hj => ?_, ?_⟩
        · simp only [tmp_putS, reduceIte, Nat.reduceEqDiff, u10]
        · simp only [tmp_putS, reduceIte, Nat.reduceEqDiff, u22]
        · simp only [tmp_putS, reduceIte, Nat.reduceEqDiff, u23]
        · simp only [tmp_putS, reduceIte, Nat.reduceEqDiff, u24]
        · rw [get_put_ne _ (by omega)]; exact keep _ _ g10' rfl
        · refine M1.row.frame ?_
          rw [get_put_ne _ (by have := ok.q; omega), ha5 _ ok.q, get_new_lt _ (by have := ok.q; omega)]
        · rw [get_put_ne _ (Ne.symm ok.d57)]; exact keep _ _ M1.g5 rfl
        · rw [get_put_ne _ (Ne.symm ok.d67)]; exact keep _ _ M1.g6 rfl
        · rw [hsucc]; exact ha2.frame (fun q l t z hq => get_put_ne _ (fun e => by rw [← e, keep _ _ k7 rfl] at hq; cases hq)) (Nat.le_refl _)
        · rw [get_put_ne _ ok.d78]; exact keep _ _ M1.g8 rfl
        · rw [get_put_ne _ (by omega), ha5 _ hj, get_new_lt _ (by omega)]; exact M1.old.get j hj
        · show x.n0 ≤ h'.next
          rw [ha3]; show x.n0 ≤ h1.next + 1 + 1; omega
      · rw [if_neg hk, List.append_nil] at hsucc
        rw [if_neg hk]
        exact rest tm1 h1 T1 u10 u22 u23 u24 g10' M1.row M1.g5 M1.g6 (by rw [hsucc]; exact M1.g7) M1.g8 M1.hb M1.old
    · rw [if_neg hlt]
      obtain rfl : i = x.L.length := by omega
      exact hQ _ _ (T.put (by omega) _) M
end
end Go.Ev
