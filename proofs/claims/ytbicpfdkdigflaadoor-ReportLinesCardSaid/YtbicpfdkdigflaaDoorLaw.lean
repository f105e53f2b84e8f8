/- The law itself, walked over the contracts of the anchor and of both lines; premises: these contracts, in every later world. -/
import Derived.Test.YtbicpfdkdigflaaDoorLine
import Derived.Test.YtbicpfdkdigflaaDoorShow
namespace Go.Proofs.YtbicpfdkdigflaaDoor
open Go.RowKit

theorem below_box_cells {T : TypeId} {z d ro st le li : Int} {w W : World}
    (h : Below (w.heap.size + 1) (w.alloc (.cells #[.int .i64 z, .int .i64 d, .int .i64 ro, .int .i64 st, .int .i64 le, .int .i64 li] T)) W) :
    W.cell? ⟨w.heap.size, 0, none⟩ = some (.int .i64 z) ∧ W.cell? ⟨w.heap.size, 1, none⟩ = some (.int .i64 d) ∧ W.cell? ⟨w.heap.size, 2, none⟩ = some (.int .i64 ro) ∧ W.cell? ⟨w.heap.size, 3, none⟩ = some (.int .i64 st) ∧ W.cell? ⟨w.heap.size, 4, none⟩ = some (.int .i64 le) ∧ W.cell? ⟨w.heap.size, 5, none⟩ = some (.int .i64 li) ∧ Below (w.heap.size + 1) (w.alloc (.cells #[.int .i64 z, .int .i64 d, .int .i64 ro, .int .i64 st, .int .i64 le, .int .i64 li] T)) W := by
  refine ⟨?_, ?_, ?_, ?_, ?_, ?_, h⟩
  · rw [h.cell (by simp)]; simp [go_sem]
  · rw [h.cell (by simp)]; simp [go_sem]
  · rw [h.cell (by simp)]; simp [go_sem]
  · rw [h.cell (by simp)]; simp [go_sem]
  · rw [h.cell (by simp)]; simp [go_sem]
  · rw [h.cell (by simp)]; simp [go_sem]

set_option maxHeartbeats 1000000 in
theorem law_any (z d ro st le li : Int) (s : ByteArray) (w : World)
    (hA : Hid (∀ W, Below w.heap.size w W → Calls Tryd.prog 4 #[] W fun e W' => e = .returned (.bool true) ∧ Below W.heap.size W W'))
    (h5 : Hid (∀ W, Below w.heap.size w W → Calls Tryd.prog 5 #[.agg #[.int .i64 z, .int .i64 d, .int .i64 ro, .int .i64 st, .int .i64 le, .int .i64 li]] W fun e W' => e = .returned (.string s) ∧ Below W.heap.size W W'))
    (h6 : Hid (∀ W, Below w.heap.size w W → Calls Tryd.prog 6 #[.agg #[.int .i64 z, .int .i64 d, .int .i64 ro, .int .i64 st, .int .i64 le, .int .i64 li]] W fun e W' => e = .returned (.string s) ∧ Below W.heap.size W W')) :
    Calls Tryd.prog 3 #[.agg #[.int .i64 z, .int .i64 d, .int .i64 ro, .int .i64 st, .int .i64 le, .int .i64 li]] w fun e w' => e = .returned (.bool true) ∧ Below w.heap.size w w' := by
  go_enter Tryd.func3, Tryd.ntmps3
  go_wp2_with (go_at_call 4; refine (hA.out _ ((Below.refl _ _).alloc (Nat.le_refl _) _)).mono ?_; rintro e w1 ⟨rfl, hb1⟩)
  go_region_held3 (fun W => W.cell? ⟨w.heap.size, 0, none⟩ = some (.int .i64 z) ∧ W.cell? ⟨w.heap.size, 1, none⟩ = some (.int .i64 d) ∧ W.cell? ⟨w.heap.size, 2, none⟩ = some (.int .i64 ro) ∧ W.cell? ⟨w.heap.size, 3, none⟩ = some (.int .i64 st) ∧ W.cell? ⟨w.heap.size, 4, none⟩ = some (.int .i64 le) ∧ W.cell? ⟨w.heap.size, 5, none⟩ = some (.int .i64 li) ∧ Below (w.heap.size + 1) (w.alloc (.cells #[.int .i64 z, .int .i64 d, .int .i64 ro, .int .i64 st, .int .i64 le, .int .i64 li] 23)) W)
    (first | exact below_box_cells ((hb1.mono (by simp)).drew) | (go_split_ands; exact below_box_cells (below_on ‹Below (w.heap.size + 1) _ _› hb2)))
    (first | (go_split_ands; go_at_call 5; refine (h5.out _ (below_box ‹Below (w.heap.size + 1) _ _›)).mono ?_; rintro e w' ⟨rfl, hb2⟩) | (go_split_ands; go_at_call 6; refine (h6.out _ (below_box ‹Below (w.heap.size + 1) _ _›)).mono ?_; rintro e w' ⟨rfl, hb2⟩))
  go_wp2
  go_ret
  go_split_ands
  exact ⟨by simp, below_box ‹Below (w.heap.size + 1) _ _›⟩
end Go.Proofs.YtbicpfdkdigflaaDoor
