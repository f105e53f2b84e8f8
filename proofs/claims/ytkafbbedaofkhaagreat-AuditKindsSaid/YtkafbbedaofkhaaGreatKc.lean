/- AuditKinds proved: of any findings those of a kind come in order, as far as they are asked; the worst one is the document's. No conditions. -/
import Derived.Test.YtkafbbedaofkhaaGreatRows
import Derived.Test.YtkafbbedaofkhaaGreatKb
import Derived.WalkKit
import Derived.ProofKit
import Derived.OpenShut
import Derived.Carry
import Derived.Deep.Slices
import Derived.Deep.Fields
import Derived.ChangeSame
set_option linter.unusedVariables false
set_option linter.unusedSimpArgs false
set_option linter.unusedSectionVars false
namespace Go.Proofs.YtkafbbedaofkhaaGreat
open Go.ChangeShapes Go.WideShapes Go.ChangeAt Go.RowKit Go.Deep Go.Ev
set_option maxRecDepth 100000

theorem own : ownKnob Tryz.prog.godebug = none := by kernel_rfl
theorem cells51 : Tryz.prog.cellsOf 51 = 3 := by kernel_rfl
theorem laidOut : laidOutB Tryz.prog = true := by kernel_rfl

/-- The findings of a row, each of three numbers. -/
theorem open_findings {H : Type} {enc : TypeId × Value → H} {w : World} {base : Nat} {spare : Nat → Bool} {held : Bool} {fuel : Nat} {cs : List Value} {x : DataW H × List MemPlace} (h : DataW.trod enc Tryz.prog w base spare held fuel 48 cs = some x) :
    cs = [.slice none 0 0] ∨ ∃ (a : Addr) (len cap : Nat) (L : List Ev.Fd), cs = [.slice (some a) len cap] ∧ len ≤ cap ∧ cap ≤ maxLen ∧ L.length = len ∧
      ∀ i f, L[i]? = some f → w.cell? (a.add (i * 3 + 0)) = some (.int .i64 f.1) ∧ w.cell? (a.add (i * 3 + 1)) = some (.int .i64 f.2.1) ∧ w.cell? (a.add (i * 3 + 2)) = some (.int .i64 f.2.2) := by
  rcases open_slice Tryz.underlying48 h with ⟨h0, _⟩ | ⟨a, len, cap, m, n, D, Pl, rfl, hb, hl, hm, hmm, hx, hi⟩
  · exact .inl h0
  · right
    have hlm : len ≤ m := by rw [hmm]; split <;> omega
    have each : ∀ i, ∃ f : Ev.Fd, i < len → w.cell? (a.add (i * 3 + 0)) = some (.int .i64 f.1) ∧ w.cell? (a.add (i * 3 + 1)) = some (.int .i64 f.2.1) ∧ w.cell? (a.add (i * 3 + 2)) = some (.int .i64 f.2.2) := by
      intro i
      by_cases hil : i < len
      · obtain ⟨cs', hc, ht'⟩ := hi i (by omega)
        rw [cells51] at hc
        obtain ⟨ys, n', hn', hy, hlen, hyl, hf⟩ := DataW.trod_struct Tryz.underlying51 ht'
        obtain ⟨_, hcl, hat⟩ := World.cells?_some hc
        have hs3 : Tryz.prog.cellsOf 3 = 1 := by kernel_rfl
        match cs', hcl with
        | [c0, c1, c2], _ =>
        have get : ∀ (j : Nat) (c : Value) (y : DataW H × List MemPlace), [c0, c1, c2][j]? = some c → j < 3 → DataW.trod enc Tryz.prog w base spare held n' 3 [c] = some y → ∃ v : Int, w.cell? (a.add (i * 3 + j)) = some (.int .i64 v) := by
          intro j c y hc0 hj hy0
          obtain ⟨z, e0, _, _⟩ := DataW.trod_int Tryz.underlying3 hy0
          simp only [List.cons.injEq, and_true] at e0
          have := hat j hj
          rw [add_add] at this
          exact ⟨z, by rw [this, hc0, e0]⟩
        have y0 : ys[0]? = some (ys[0]'(by rw [hyl]; decide)) := List.getElem?_eq_getElem _
        have y1 : ys[1]? = some (ys[1]'(by rw [hyl]; decide)) := List.getElem?_eq_getElem _
        have y2 : ys[2]? = some (ys[2]'(by rw [hyl]; decide)) := List.getElem?_eq_getElem _
        have f0 : DataW.trod enc Tryz.prog w base spare held n' 3 (List.take (Tryz.prog.cellsOf 3) (List.drop 0 [c0, c1, c2])) = ys[0]? := hf 0 _ rfl
        have f1 : DataW.trod enc Tryz.prog w base spare held n' 3 (List.take (Tryz.prog.cellsOf 3) (List.drop 1 [c0, c1, c2])) = ys[1]? := hf 1 _ rfl
        have f2 : DataW.trod enc Tryz.prog w base spare held n' 3 (List.take (Tryz.prog.cellsOf 3) (List.drop 2 [c0, c1, c2])) = ys[2]? := hf 2 _ rfl
        rw [hs3] at f0 f1 f2
        obtain ⟨x0, g0⟩ := get 0 c0 _ rfl (by omega) (f0.trans y0)
        obtain ⟨x1, g1⟩ := get 1 c1 _ rfl (by omega) (f1.trans y1)
        obtain ⟨x2, g2⟩ := get 2 c2 _ rfl (by omega) (f2.trans y2)
        exact ⟨(x0, x1, x2), fun _ => ⟨g0, g1, g2⟩⟩
      · exact ⟨(0, 0, 0), fun x => absurd x hil⟩
    have F : ∀ i, { f : Ev.Fd // i < len → w.cell? (a.add (i * 3 + 0)) = some (.int .i64 f.1) ∧ w.cell? (a.add (i * 3 + 1)) = some (.int .i64 f.2.1) ∧ w.cell? (a.add (i * 3 + 2)) = some (.int .i64 f.2.2) } := fun i => ⟨Classical.choose (each i), Classical.choose_spec (each i)⟩
    refine ⟨a, len, cap, (List.range len).map fun i => (F i).1, rfl, hl, hm, by simp, fun i f hf => ?_⟩
    rw [List.getElem?_map] at hf
    have hil : i < len := by
      cases hr : (List.range len)[i]? with
      | none => rw [hr] at hf; cases hf
      | some k => have := (List.getElem?_eq_some_iff.1 hr).1; simpa using this
    rw [List.getElem?_range hil] at hf
    cases hf
    exact (F i).2 hil

theorem ok_findings {w : World} {base : Nat} {v : Value} (h : Value.okWide Tryz.prog w .any base 48 v) : v = .slice none 0 0 ∨ ∃ a len cap, v = .slice (some a) len cap ∧ a.spot = none ∧ ∃ row cells, w.shape? a.block = some (row, cells) := by
  unfold Value.okWide at h
  rw [Tryz.underlying48] at h
  simp only at h
  unfold Cell.okWide at h
  rw [Tryz.underlying48] at h
  simp only at h
  unfold Cell.ok at h
  rw [Tryz.underlying48] at h
  split at h <;> first | (rename_i e; cases e; done) | skip
  all_goals first | exact .inl rfl | skip
  all_goals first | (exact h.elim) | skip
  · rename_i e
    cases e
    exact .inr ⟨_, _, _, rfl, h.2.2.2.1, by obtain ⟨row, cells, hs, _⟩ := h.2.2.2.2; exact ⟨row, cells, hs⟩⟩

/-- The law, at what is handed in. -/
theorem walk (v0 : Value) (k s : Int) (W : World) {H : Type} {enc : TypeId × Value → H} {base b2 : Nat} {sp : Nat → Bool} {hd : Bool} {d : DataW H} {p : List MemPlace} (ho : Value.okWide Tryz.prog W .any base 48 v0) (h : DataW.Trod enc Tryz.prog W b2 sp hd 48 v0 d p) :
    Calls Tryz.prog 4 #[v0, .int .i64 k, .int .i64 s] W fun e W' => e = .returned (.bool true) ∧ Below W.heap.size W W' := by
  rcases ok_findings ho with rfl | ⟨⟨b, off, spot⟩, len, cap, rfl, hspot, row, cells, hshape⟩
  · exact kinds_nil k s W
  · obtain ⟨fuel, hf⟩ := h
    rcases open_findings hf with hc | ⟨a', len', cap', L, hc, hl, hm, hL, hcell⟩
    · cases hc
    · have hc' : a' = ⟨b, off, spot⟩ ∧ len' = len ∧ cap' = cap := by cases hc; exact ⟨rfl, rfl, rfl⟩
      obtain ⟨rfl, rfl, rfl⟩ := hc'
      simp only at hspot
      subst hspot
      unfold World.shape? at hshape
      split at hshape
      · rename_i arr e fr hw
        have hmax : cap' ≤ 9223372036854775807 := Nat.le_trans hm (by unfold maxLen; decide)
        refine kinds_row k s W b off len' cap' L hL (by omega) hw (fun i f hf' => ?_)
        obtain ⟨c0, c1, c2⟩ := hcell i f hf'
        have key : ∀ j v, W.cell? (Addr.add ⟨b, off, none⟩ j) = some v → arr[off + j]? = some v := by
          intro j v hj
          unfold Addr.add at hj
          split at hj
          · rename_i h0
            simp only [World.cell?, hw] at hj
            subst h0
            simpa using hj
          · simp only [World.cell?, hw] at hj
            simpa using hj
        exact ⟨key _ _ c0, key _ _ c1, key _ _ c2⟩
      · cases hshape
end Go.Proofs.YtkafbbedaofkhaaGreat
