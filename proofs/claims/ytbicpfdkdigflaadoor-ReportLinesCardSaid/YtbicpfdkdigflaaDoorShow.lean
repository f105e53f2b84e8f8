/- What report.Row.Line gives, walked: of a row that is not right the empty text, of another one its six words with blanks between; premises: the three tables hold what the text lays. -/
import Derived.Test.YtbicpfdkdigflaaDoorNum
import Derived.Test.YtbicpfdkdigflaaDoorShelf
import Derived.Deep.RegionHeld3
import Derived.Lib.AppendIntMem
namespace Go.Proofs.YtbicpfdkdigflaaDoor
open Go.RowKit

theorem itoa_is (n : Nat) (s : ByteArray) (hs : Hid (s = ⟨(Lib.decDigits n).toArray⟩)) (hn : (n : Int) ≤ 9223372036854775807) (w W : World) (hT : Lib.TabIs Tryd.prog w "internal/strconv.uint64pow10" .u64 Lib.pow10Tab) (hb : Below w.heap.size w W) :
    Calls Tryd.prog 7 #[.int .i64 n] W fun e W' => e = .returned (.string s) ∧ Below W.heap.size W W' := by
  refine (Tryd.strconv_Itoa n (by omega) hn W (Lib.tabBelow_of_tabIs hT W hb)).mono ?_
  rintro e W' ⟨rfl, k, os, rfl⟩
  rw [Lib.itoa_nonneg, ← hs.out]
  exact ⟨rfl, Lib.below_grow _ _ (Nat.le_refl _) _ _⟩

def mn2 (x y : Int) : Int := if y < x then y else x
def mn4 (a b c d : Int) : Int := mn2 (mn2 (mn2 a b) c) d
theorem mn4_neg (a b c d : Int) : (mn4 a b c d < 0) = (a < 0 ∨ b < 0 ∨ c < 0 ∨ d < 0) := by
  unfold mn4 mn2
  apply propext
  split <;> split <;> split <;> omega
theorem run_min4 (P : Program) (ts : Array TypeId) (t : TypeId) (a b c d : Int) (w : World) :
    (Builtin.min_ ts t #[.int .i64 a, .int .i64 b, .int .i64 c, .int .i64 d]).run P w = .ok (.int .i64 (mn4 a b c d)) w := by
  simp [Builtin.min_, Builtin.min2, mn4, mn2]
  rfl

/-- What the loads read, in every world that is as the first was below the box's end. -/
theorem box_cells (z d ro st le li : Int) (r q : Nat) (sr ss : ByteArray) (w W : World) (hr : w.cell? ⟨0, r, none⟩ = some (.string sr)) (hst : w.cell? ⟨1, q, none⟩ = some (.string ss))
    (h : Below (w.heap.size + 1) (w.alloc (.cells #[.int .i64 z, .int .i64 d, .int .i64 ro, .int .i64 st, .int .i64 le, .int .i64 li] 23)) W) :
    W.cell? ⟨w.heap.size, 0, none⟩ = some (.int .i64 z) ∧ W.cell? ⟨w.heap.size, 1, none⟩ = some (.int .i64 d) ∧ W.cell? ⟨w.heap.size, 2, none⟩ = some (.int .i64 ro) ∧ W.cell? ⟨w.heap.size, 3, none⟩ = some (.int .i64 st) ∧ W.cell? ⟨w.heap.size, 4, none⟩ = some (.int .i64 le) ∧ W.cell? ⟨w.heap.size, 5, none⟩ = some (.int .i64 li) ∧ W.cell? ⟨0, r, none⟩ = some (.string sr) ∧ W.cell? ⟨1, q, none⟩ = some (.string ss) ∧ Below (w.heap.size + 1) (w.alloc (.cells #[.int .i64 z, .int .i64 d, .int .i64 ro, .int .i64 st, .int .i64 le, .int .i64 li] 23)) W := by
  have z0 := World.block_lt_of_cell? w _ hr
  have z1 := World.block_lt_of_cell? w _ hst
  dsimp at z0 z1
  refine ⟨?_, ?_, ?_, ?_, ?_, ?_, ?_, ?_, h⟩
  · rw [h.cell (by simp)]; simp [go_sem]
  · rw [h.cell (by simp)]; simp [go_sem]
  · rw [h.cell (by simp)]; simp [go_sem]
  · rw [h.cell (by simp)]; simp [go_sem]
  · rw [h.cell (by simp)]; simp [go_sem]
  · rw [h.cell (by simp)]; simp [go_sem]
  · rw [h.cell (by simp)]; exact (cell_later ((Below.refl _ w).alloc (Nat.le_refl _) _) hr)
  · rw [h.cell (by simp; omega)]; exact (cell_later ((Below.refl _ w).alloc (Nat.le_refl _) _) hst)

theorem below_on {B : Nat} {a b c : World} (h : Below (B + 1) a b) (hb : Below b.heap.size b c) (hs : B + 1 ≤ a.heap.size := by simp) : Below (B + 1) a c :=
  h.trans (hb.mono (by have := h.size; omega))
theorem below_box {w W : World} {o : Obj} (h : Below (w.heap.size + 1) (w.alloc o) W) : Below w.heap.size w W :=
  ((Below.refl _ w).alloc (Nat.le_refl _) o).trans (h.mono (by omega))

/-- Six words and five blanks. -/
theorem join_is (sz sd sr ss sle sli sj : ByteArray) (W : World) (b c : Nat) (hb : b < W.heap.size) (hc : 6 ≤ c) (Hj : Hid (sj = ⟨(Lib.join [sz.data.toList, sd.data.toList, sr.data.toList, ss.data.toList, sle.data.toList, sli.data.toList] [32]).toArray⟩)) (bj : sj.size ≤ 1000)
    (c0 : W.cell? ⟨b, 0, none⟩ = some (.string sz)) (c1 : W.cell? ⟨b, 1, none⟩ = some (.string sd)) (c2 : W.cell? ⟨b, 2, none⟩ = some (.string sr)) (c3 : W.cell? ⟨b, 3, none⟩ = some (.string ss)) (c4 : W.cell? ⟨b, 4, none⟩ = some (.string sle)) (c5 : W.cell? ⟨b, 5, none⟩ = some (.string sli)) :
    Calls Tryd.prog 8 #[.slice (some ⟨b, 0, none⟩) 6 c, .string ⟨#[32]⟩] W fun e W' => e = .returned (.string sj) ∧ Below W.heap.size W W' := by
  have hl : (Lib.join ([sz, sd, sr, ss, sle, sli].map (·.data.toList)) (⟨#[32]⟩ : ByteArray).data.toList).length ≤ 140737488355328 := by
    have e := Hj.out
    have : sj.size = (Lib.join [sz.data.toList, sd.data.toList, sr.data.toList, ss.data.toList, sle.data.toList, sli.data.toList] [32]).length := by rw [e]; rfl
    simp only [List.map_cons, List.map_nil]
    omega
  have h := Tryd.strings_Join b 0 c [sz, sd, sr, ss, sle, sli] ⟨#[32]⟩ W (by
    intro j x hx
    match j, hx with
    | 0, hx => simp at hx; subst hx; exact c0
    | 1, hx => simp at hx; subst hx; exact c1
    | 2, hx => simp at hx; subst hx; exact c2
    | 3, hx => simp at hx; subst hx; exact c3
    | 4, hx => simp at hx; subst hx; exact c4
    | 5, hx => simp at hx; subst hx; exact c5
    | n + 6, hx => simp at hx) hb (by simp) (by simpa using hc) hl
  refine h.mono ?_
  rintro e W' ⟨rfl, hb'⟩
  exact ⟨by rw [Hj.out]; rfl, hb'⟩

theorem below_end {w W W' : World} {o : Obj} (h : Below (w.heap.size + 1) (w.alloc o) W) (hb : Below W.heap.size W W') : Below w.heap.size w W' :=
  (below_box h).trans (hb.mono (by have := h.size; simp at this; omega))

set_option maxHeartbeats 1000000 in
theorem show_good (z d ro st le li : Nat) (sz sd sr ss sle sli : ByteArray) (w : World) (hz : (z : Int) ≤ 9223372036854775807) (hd : (d : Int) ≤ 9223372036854775807) (hle : (le : Int) ≤ 9223372036854775807) (hli : (li : Int) ≤ 9223372036854775807) (h1 : 1 ≤ (ro : Int)) (h2 : (ro : Int) ≤ 5) (h3 : (st : Int) ≤ 4)
    (Hz : Hid (sz = ⟨(Lib.decDigits z).toArray⟩)) (Hd : Hid (sd = ⟨(Lib.decDigits d).toArray⟩)) (Hle : Hid (sle = ⟨(Lib.decDigits le).toArray⟩)) (Hli : Hid (sli = ⟨(Lib.decDigits li).toArray⟩))
    (sj : ByteArray) (Hj : Hid (sj = ⟨(Lib.join [sz.data.toList, sd.data.toList, sr.data.toList, ss.data.toList, sle.data.toList, sli.data.toList] [32]).toArray⟩)) (bj : sj.size ≤ 1000)
    (hT : Lib.TabIs Tryd.prog w "internal/strconv.uint64pow10" .u64 Lib.pow10Tab) (hr : w.cell? ⟨0, ro, none⟩ = some (.string sr)) (hst : w.cell? ⟨1, st, none⟩ = some (.string ss)) :
    Calls Tryd.prog 5 #[.agg #[.int .i64 z, .int .i64 d, .int .i64 ro, .int .i64 st, .int .i64 le, .int .i64 li]] w fun e w' => e = .returned (.string (sj ++ ⟨#[10]⟩)) ∧ Below w.heap.size w w' := by
  have b1 : ¬ (ro : Int) < 1 := by omega
  have b2 : ¬ 5 < (ro : Int) := by omega
  have b3 : ¬ 4 < (st : Int) := by omega
  have n0 : 0 ≤ (ro : Int) := by omega
  have n1 : 0 ≤ (st : Int) := by omega
  have n2 : 0 ≤ (z : Int) := by omega
  have n3 : 0 ≤ (d : Int) := by omega
  have n4 : 0 ≤ (le : Int) := by omega
  have n5 : 0 ≤ (li : Int) := by omega
  have q1 : ¬ (st : Int) < 0 := by omega
  have q2 : ¬ (z : Int) < 0 := by omega
  have q3 : ¬ (d : Int) < 0 := by omega
  have q4 : ¬ (le : Int) < 0 := by omega
  have q5 : ¬ (li : Int) < 0 := by omega
  have i1 : (ro : Int) < 6 := by omega
  have i2 : (st : Int) < 5 := by omega
  have z0 := World.block_lt_of_cell? w _ hr
  have z1 := World.block_lt_of_cell? w _ hst
  dsimp at z0 z1
  have hmn := run_min4 Tryd.prog #[3, 3, 3, 3] 3 z d le li
  have hmf : (mn4 z d le li < 0) = False := by rw [mn4_neg]; simp
  go_enter Tryd.func5, Tryd.ntmps5
  go_wp2
  go_region_held3 (fun W => W.cell? ⟨w.heap.size, 0, none⟩ = some (.int .i64 z) ∧ W.cell? ⟨w.heap.size, 1, none⟩ = some (.int .i64 d) ∧ W.cell? ⟨w.heap.size, 2, none⟩ = some (.int .i64 ro) ∧ W.cell? ⟨w.heap.size, 3, none⟩ = some (.int .i64 st) ∧ W.cell? ⟨w.heap.size, 4, none⟩ = some (.int .i64 le) ∧ W.cell? ⟨w.heap.size, 5, none⟩ = some (.int .i64 li) ∧ W.cell? ⟨0, ro, none⟩ = some (.string sr) ∧ W.cell? ⟨1, st, none⟩ = some (.string ss) ∧ Below (w.heap.size + 1) (w.alloc (.cells #[.int .i64 z, .int .i64 d, .int .i64 ro, .int .i64 st, .int .i64 le, .int .i64 li] 23)) W)
    (first | exact box_cells _ _ _ _ _ _ _ _ _ _ _ _ hr hst ((Below.refl _ _).drew) | (go_split_ands; exact box_cells _ _ _ _ _ _ _ _ _ _ _ _ hr hst (below_on ‹Below (w.heap.size + 1) _ _› hb2)) | (go_split_ands; exact box_cells _ _ _ _ _ _ _ _ _ _ _ _ hr hst (below_on ‹Below (w.heap.size + 1) _ _› ((Below.refl _ _).alloc (Nat.le_refl _) _))))
    (first | (go_split_ands; go_at_call 7; refine (itoa_is _ _ (by assumption) (by assumption) w _ hT (below_box ‹Below (w.heap.size + 1) _ _›)).mono ?_; rintro e w' ⟨rfl, hb2⟩))
  go_wp2_with fail
  refine (join_is sz sd sr ss sle sli sj _ _ 6 (by simp) (Nat.le_refl _) Hj bj (by simp [go_sem]) (by simp [go_sem]) (by simp [go_sem]) (by simp [go_sem]) (by simp [go_sem]) (by simp [go_sem])).mono ?_
  rintro e w2 ⟨rfl, hb3⟩
  have cj : (9223372036854775807 < sj.size + 1) = False := by simp; omega
  go_wp2
  go_ret
  refine ⟨rfl, ?_⟩
  go_split_ands
  exact below_end ‹Below (w.heap.size + 1) _ _› hb3

set_option maxHeartbeats 1000000 in
theorem show_bad (z d ro st le li : Int) (w : World) (h : ro < 1 ∨ 5 < ro ∨ st < 0 ∨ 4 < st ∨ z < 0 ∨ d < 0 ∨ le < 0 ∨ li < 0) :
    Calls Tryd.prog 5 #[.agg #[.int .i64 z, .int .i64 d, .int .i64 ro, .int .i64 st, .int .i64 le, .int .i64 li]] w fun e w' => e = .returned (.string ⟨#[]⟩) ∧ Below w.heap.size w w' := by
  have hmn := run_min4 Tryd.prog #[3, 3, 3, 3] 3 z d le li
  by_cases hn : z < 0 ∨ d < 0 ∨ le < 0 ∨ li < 0
  · have hmf : (mn4 z d le li < 0) = True := by rw [mn4_neg]; simpa using hn
    clear h hn
    go_enter Tryd.func5, Tryd.ntmps5
    go_wp2
    all_goals go_ret
    all_goals exact ⟨rfl, (Below.refl _ _).alloc (Nat.le_refl _) _⟩
  · have hmf : (mn4 z d le li < 0) = False := by rw [mn4_neg]; simpa using hn
    have h' : ro < 1 ∨ 5 < ro ∨ st < 0 ∨ 4 < st := by omega
    clear h hn
    go_enter Tryd.func5, Tryd.ntmps5
    go_wp2
    all_goals first | go_ret | omega
    all_goals exact ⟨rfl, (Below.refl _ _).alloc (Nat.le_refl _) _⟩
end Go.Proofs.YtbicpfdkdigflaaDoor
