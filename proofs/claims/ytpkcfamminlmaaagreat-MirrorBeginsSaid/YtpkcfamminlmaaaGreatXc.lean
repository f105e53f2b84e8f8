/- Into the machine: calls to which plain values are handed. -/
import Derived.Test.YtpkcfamminlmaaaGreatDir
import Derived.Test.YtpkcfamminlmaaaGreatXb
import Derived.Test.YtpkcfamminlmaaaGreatAnchor
set_option linter.unusedVariables false
set_option linter.unusedSimpArgs false
set_option linter.unusedSectionVars false
namespace Go.Ev
theorem calls_vals {P : Program} {g : Nat} {args : List EV} {vs : List Value} (ha : ∀ f, toVs f args = vs) (ho : ∀ p, EV.okL p args) {v : EV} {V : Value} (hv : ∀ f, toV f v = V) {h' : AHeap} (G : Good P g args ⟨.nil, 1, 1⟩ v h') (w : World) :
    Calls P g vs.toArray w fun e w' => e = .returned V ∧ RowKit.Below w.heap.size w w' := by
  intro cs
  obtain ⟨fr, f', w', hs, hfr, hl, hm, hwf, hvo⟩ := G.run (fun _ => False) ⟨fun _ => 0, fun _ => 0⟩ w (hok_none 1 1) (rep_none _ _ 1 1) (ho _) cs
  rw [ha] at hs
  rw [hv] at hl
  exact ⟨.returned V, w', fr, ⟨rfl, hm.os, hm.tape, hm.output, hm.size, fun k hk => hm.kept k hk (fun i o hi => (by cases hi))⟩, hs, hfr, hl⟩
theorem hb_nil : HB ⟨.nil, 1, 1⟩ := fun q o e => by cases e
end Go.Ev

namespace Go.Ev
open Go.Proofs
set_option maxRecDepth 100000
theorem begins_calls (D Z S B P O zones size : Int) (w : World) :
    Calls Tryz.prog 5 #[.agg #[.int .i64 D, .int .i64 Z, .int .i64 S, .int .i64 B, .int .i64 P, .int .i64 O], .int .i64 zones, .int .i64 size] w fun e w' => e = .returned (.bool true) ∧ RowKit.Below w.heap.size w w' := by
  obtain ⟨v, h', e, rfl, _⟩ := begins_law (K := many) (c := callC TT disp14 many 12 false) (r := callC TT disp14 many 12 true) (by unfold many; decide) (fun h => call23 h) ⟨D, Z, S, B, P, O⟩ zones size hb_nil
  rw [← revetmentlaw14_MirrorBegins_run disp14_agree (by decide)] at e
  exact calls_vals (P := TP) (args := [gV ⟨D, Z, S, B, P, O⟩, I zones, I size]) (fun _ => rfl) (fun _ => by simp [EV.okL, EV.ok, gV, gL, I, EV.one]) (fun _ => rfl) ((callC_ok TT_ok disp14_ok many 13).1 5 _ _ _ _ e) w
end Go.Ev
