/- ReportLines proved: whatever the row, report.Row.Line gives the document's line; conditions: the five listed package variables start as the program's text lays them (the card ties them). -/
import Derived.Test.YtbicpfdkdigflaaDoorCards
import Derived.Test.YtbicpfdkdigflaaDoorTie
import Derived.Test.YtbicpfdkdigflaaDoorLaw
import Derived.WalkKit
import Derived.ProofKit
import Derived.OpenShut
import Derived.Deep.DeepHandedRow
import Derived.Lib.LaidTab
import Derived.Stop.LaidErr
import Derived.Lib.SmallJoins
namespace Go.Proofs.YtbicpfdkdigflaaDoor
open Go.ChangeShapes Go.WideShapes Go.ChangeAt Go.RowKit Go.Joins Go.Deep

/-- An array of strings that reads as the list holds its strings, cell for cell. -/
theorem cells_of_strs {H : Type} {enc : TypeId × Value → H} {P : Program} {w : World} {base : Nat} {sp : Nat → Bool} {held : Bool} {fuel : Nat} {t e : TypeId} {n : Nat} {cs : List Value} {zs : List (List UInt8)} {p : List MemPlace}
    (ht : P.underlying t = some (.array n e)) (he : P.underlying e = some .string) (hce : P.cellsOf e = 1) (hct : P.cellsOf t = n)
    (h : DataW.trod enc P w base sp held fuel t cs = some (.agg (zs.map fun z => .lit (.string z)), p)) : cs = zs.map fun z => Value.string ⟨z.toArray⟩ := by
  cases fuel with
  | zero => simp [DataW.trod] at h
  | succ fuel =>
    simp only [DataW.trod, ht, hce, hct, Nat.mul_one] at h
    split at h
    · obtain ⟨xs, hm, hx⟩ := Option.map_eq_some_iff.1 h
      have hxs : xs.map (·.1) = zs.map fun z => (DataW.lit (.string z) : DataW H) := by
        have := congrArg Prod.fst hx
        simpa using this
      have hxl : xs.length = n := by simpa using Lib.mapM_length hm
      have hzl : zs.length = n := by
        have := congrArg List.length hxs
        simp at this
        omega
      apply List.ext_getElem?
      intro i
      by_cases hi : i < n
      · obtain ⟨b, hb, hf⟩ := Lib.mapM_at hm i i (by simp [hi])
        obtain ⟨s, hc, rfl, _⟩ := DataW.trod_string he hf
        have h1 : cs[i]? = some (.string s) := by
          have := congrArg (·[0]?) hc
          simpa [List.getElem?_take, List.getElem?_drop] using this
        have h2 : (xs.map (·.1))[i]? = some (DataW.lit (.string s.data.toList) : DataW H) := by simp [hb]
        rw [hxs] at h2
        simp only [List.getElem?_map, Option.map_eq_some_iff, DataW.lit.injEq, Lit.string.injEq] at h2
        obtain ⟨z', hz', rfl⟩ := h2
        simp [h1, hz']
      · rw [List.getElem?_eq_none (by omega), List.getElem?_eq_none (by simp; omega)]
    · cases h

theorem strs_of_head {P : Program} {W : World} {name : String} {zs : List (List UInt8)} {rest : List (String × DataW Unit)} {g : Nat} {t e : TypeId} {n : Nat}
    (hg : P.globalNamed name = some g) (hty : (P.globals[g]?).map (·.type) = some t) (ht : P.underlying t = some (.array n e)) (he : P.underlying e = some .string) (hce : P.cellsOf e = 1) (hct : P.cellsOf t = n)
    (h : laidMet P ((name, .agg (zs.map fun z => .lit (.string z))) :: rest) W) (i : Nat) : W.cell? ⟨g, i, none⟩ = (zs.map fun z => Value.string ⟨z.toArray⟩)[i]? := by
  obtain ⟨ps, ⟨g', t', cs, fuel, p, q, hg', ht', hvar, hd, _, _⟩, _⟩ := h
  obtain rfl := Option.some.inj (hg.symm.trans hg')
  obtain rfl := Option.some.inj (hty.symm.trans ht')
  rw [World.var?_cell hg hvar, ← cells_of_strs ht he hce hct hd]
  simp

section
variable {H : Type} {enc : TypeId × Value → H} {P : Program} {w : World} {base : Nat} {spare : Nat → Bool} {held : Bool}
theorem open_agg6 {r : Reach} {b0 : Nat} {t : TypeId} {f0 f1 f2 f3 f4 f5 : Field} {v : Value} {d : DataW H} {p : List MemPlace} (hs : P.underlying t = some (.struct #[f0, f1, f2, f3, f4, f5])) (hone : oneCellFields P #[f0, f1, f2, f3, f4, f5] = true) (hC : P.cellsOf t = 6)
    (hv : Value.okWide P w r b0 t v) (h : DataW.Trod enc P w base spare held t v d p) :
    ∃ (v0 v1 v2 v3 v4 v5 : Value) (y0 y1 y2 y3 y4 y5 : DataW H × List MemPlace) (n : Nat), v = .agg #[v0, v1, v2, v3, v4, v5] ∧ d = .agg [y0.1, y1.1, y2.1, y3.1, y4.1, y5.1] ∧ p = y0.2 ++ (y1.2 ++ (y2.2 ++ (y3.2 ++ (y4.2 ++ y5.2)))) ∧
      DataW.trod enc P w base spare held n f0.type [v0] = some y0 ∧ DataW.trod enc P w base spare held n f1.type [v1] = some y1 ∧ DataW.trod enc P w base spare held n f2.type [v2] = some y2 ∧ DataW.trod enc P w base spare held n f3.type [v3] = some y3 ∧ DataW.trod enc P w base spare held n f4.type [v4] = some y4 ∧ DataW.trod enc P w base spare held n f5.type [v5] = some y5 := by
  obtain ⟨cs, rfl, hsz⟩ := okWide_struct hs hv
  obtain ⟨l⟩ := cs
  match l, hsz.trans hC with
  | [c0, c1, c2, c3, c4, c5], _ =>
    obtain ⟨fuel, hf⟩ := h
    obtain ⟨xs, n, _, hx, _, hlen, hg⟩ := DataW.trod_struct hs hf
    obtain ⟨o0, k0⟩ := hone_of hone 0 f0 rfl
    obtain ⟨o1, k1⟩ := hone_of hone 1 f1 rfl
    obtain ⟨o2, k2⟩ := hone_of hone 2 f2 rfl
    obtain ⟨o3, k3⟩ := hone_of hone 3 f3 rfl
    obtain ⟨o4, k4⟩ := hone_of hone 4 f4 rfl
    obtain ⟨o5, k5⟩ := hone_of hone 5 f5 rfl
    match xs, hlen with
    | [y0, y1, y2, y3, y4, y5], _ =>
      simp only [Prod.mk.injEq] at hx
      exact ⟨c0, c1, c2, c3, c4, c5, y0, y1, y2, y3, y4, y5, n, rfl, by simpa using hx.1, by simpa using hx.2, by simpa [Value.cells, o0, k0] using hg 0 f0 rfl, by simpa [Value.cells, o1, k1] using hg 1 f1 rfl, by simpa [Value.cells, o2, k2] using hg 2 f2 rfl, by simpa [Value.cells, o3, k3] using hg 3 f3 rfl, by simpa [Value.cells, o4, k4] using hg 4 f4 rfl, by simpa [Value.cells, o5, k5] using hg 5 f5 rfl⟩
end

theorem own : ownKnob Tryd.prog.godebug = none := by kernel_rfl
theorem g0 : Tryd.prog.globalNamed "revetment/report.roles" = some 0 := by kernel_rfl
theorem g1 : Tryd.prog.globalNamed "revetment/report.states" = some 1 := by kernel_rfl
theorem g2 : Tryd.prog.globalNamed "internal/strconv.uint64pow10" = some 2 := by kernel_rfl
theorem g0Type : (Tryd.prog.globals[0]?).map (·.type) = some 29 := by kernel_rfl
theorem g1Type : (Tryd.prog.globals[1]?).map (·.type) = some 30 := by kernel_rfl
theorem g2Type : (Tryd.prog.globals[2]?).map (·.type) = some 55 := by kernel_rfl
theorem cells29 : Tryd.prog.cellsOf 29 = 6 := by kernel_rfl
theorem cells30 : Tryd.prog.cellsOf 30 = 5 := by kernel_rfl
theorem cells55 : Tryd.prog.cellsOf 55 = 20 := by kernel_rfl
theorem cells9 : Tryd.prog.cellsOf 9 = 1 := by kernel_rfl
theorem cells45 : Tryd.prog.cellsOf 45 = 1 := by kernel_rfl
theorem cells23 : Tryd.prog.cellsOf 23 = 6 := by kernel_rfl

def roleL : List (List UInt8) := [[], [102, 114, 101, 101], [111, 112, 101, 110], [97, 114, 101, 97], [98, 97, 100], [99, 108, 111, 115, 101, 100]]
def stateL : List (List UInt8) := [[101, 109, 112, 116, 121], [111, 112, 101, 110], [102, 117, 108, 108], [114, 101, 97, 100, 111, 110, 108, 121], [111, 102, 102, 108, 105, 110, 101]]

/-- What the row's list gives. -/
theorem tables {W : World} (h : laidMetH Tryd.prog Rows.reportLinesRow.laid W) :
    Lib.TabIs Tryd.prog W "internal/strconv.uint64pow10" .u64 Lib.pow10Tab ∧ (∀ i, W.cell? ⟨0, i, none⟩ = (roleL.map fun z => Value.string ⟨z.toArray⟩)[i]?) ∧ (∀ i, W.cell? ⟨1, i, none⟩ = (stateL.map fun z => Value.string ⟨z.toArray⟩)[i]?) := by
  have h0 : laidMet Tryd.prog Rows.reportLinesRow.laid W := h
  have h1 := laidMet.tail (laidMet.tail h0)
  refine ⟨Lib.tabIs_of_head g2 g2Type Tryd.underlying55 Tryd.underlying45 cells45 cells55 h1, ?_, ?_⟩
  · exact strs_of_head (zs := roleL) g0 g0Type Tryd.underlying29 Tryd.underlying9 cells9 cells29 (laidMet.tail h1)
  · exact strs_of_head (zs := stateL) g1 g1Type Tryd.underlying30 Tryd.underlying9 cells9 cells30 (laidMet.tail (laidMet.tail h1))

theorem dec_ba_size (n : Nat) (hn : (n : Int) ≤ 9223372036854775807) : (⟨(Lib.decDigits n).toArray⟩ : ByteArray).size ≤ 21 := dec_len n hn

theorem words_eq (a b c d e f : ByteArray) : (a ++ ⟨#[32]⟩ ++ b ++ ⟨#[32]⟩ ++ c ++ ⟨#[32]⟩ ++ d ++ ⟨#[32]⟩ ++ e ++ ⟨#[32]⟩ ++ f ++ ⟨#[10]⟩ : ByteArray) =
    (⟨(Lib.join [a.data.toList, b.data.toList, c.data.toList, d.data.toList, e.data.toList, f.data.toList] [32]).toArray⟩ ++ ⟨#[10]⟩ : ByteArray) := by
  rw [ba_of_list (a := a ++ ⟨#[32]⟩ ++ b ++ ⟨#[32]⟩ ++ c ++ ⟨#[32]⟩ ++ d ++ ⟨#[32]⟩ ++ e ++ ⟨#[32]⟩ ++ f ++ ⟨#[10]⟩) rfl]
  symm
  rw [ba_of_list (a := _ ++ _) rfl]
  simp [Lib.join, List.intercalate, List.intersperse]

theorem join_size (a b c d e f : ByteArray) (ha : a.size ≤ 21) (hb : b.size ≤ 21) (hc : c.size ≤ 21) (hd : d.size ≤ 21) (he : e.size ≤ 21) (hf : f.size ≤ 21) :
    (⟨(Lib.join [a.data.toList, b.data.toList, c.data.toList, d.data.toList, e.data.toList, f.data.toList] [32]).toArray⟩ : ByteArray).size ≤ 1000 := by
  show (Lib.join [a.data.toList, b.data.toList, c.data.toList, d.data.toList, e.data.toList, f.data.toList] [32]).toArray.size ≤ 1000
  simp [Lib.join, List.intercalate, List.intersperse]
  have : a.size = a.data.size := rfl
  have : b.size = b.data.size := rfl
  have : c.size = c.data.size := rfl
  have : d.size = d.data.size := rfl
  have : e.size = e.data.size := rfl
  have : f.size = f.data.size := rfl
  omega

theorem role_at (k : Nat) (h1 : 1 ≤ (k : Int)) (h2 : (k : Int) ≤ 5) : ∃ s : ByteArray, s.size ≤ 8 ∧ (roleL.map fun z => Value.string ⟨z.toArray⟩)[k]? = some (.string s) := by
  match k, h1, h2 with
  | 1, _, _ => exact ⟨_, by decide, rfl⟩
  | 2, _, _ => exact ⟨_, by decide, rfl⟩
  | 3, _, _ => exact ⟨_, by decide, rfl⟩
  | 4, _, _ => exact ⟨_, by decide, rfl⟩
  | 5, _, _ => exact ⟨_, by decide, rfl⟩
  | n + 6, _, h => exfalso; omega
  | 0, h, _ => exfalso; omega
theorem state_at (k : Nat) (h2 : (k : Int) ≤ 4) : ∃ s : ByteArray, s.size ≤ 8 ∧ (stateL.map fun z => Value.string ⟨z.toArray⟩)[k]? = some (.string s) := by
  match k, h2 with
  | 0, _ => exact ⟨_, by decide, rfl⟩
  | 1, _ => exact ⟨_, by decide, rfl⟩
  | 2, _ => exact ⟨_, by decide, rfl⟩
  | 3, _ => exact ⟨_, by decide, rfl⟩
  | 4, _ => exact ⟨_, by decide, rfl⟩
  | n + 5, h => exfalso; omega

/-- Both lines of a right row, in every later world. -/
theorem both_good (z d ro st le li : Nat) (w : World) (hz : (z : Int) ≤ 9223372036854775807) (hd : (d : Int) ≤ 9223372036854775807) (hle : (le : Int) ≤ 9223372036854775807) (hli : (li : Int) ≤ 9223372036854775807) (h1 : 1 ≤ (ro : Int)) (h2 : (ro : Int) ≤ 5) (h3 : (st : Int) ≤ 4)
    (hT : Lib.TabIs Tryd.prog w "internal/strconv.uint64pow10" .u64 Lib.pow10Tab) (hR : ∀ i, w.cell? ⟨0, i, none⟩ = (roleL.map fun z => Value.string ⟨z.toArray⟩)[i]?) (hS : ∀ i, w.cell? ⟨1, i, none⟩ = (stateL.map fun z => Value.string ⟨z.toArray⟩)[i]?) :
    ∃ s : ByteArray, (∀ W, Below w.heap.size w W → Calls Tryd.prog 5 #[.agg #[.int .i64 z, .int .i64 d, .int .i64 ro, .int .i64 st, .int .i64 le, .int .i64 li]] W fun e W' => e = .returned (.string s) ∧ Below W.heap.size W W') ∧
      (∀ W, Below w.heap.size w W → Calls Tryd.prog 6 #[.agg #[.int .i64 z, .int .i64 d, .int .i64 ro, .int .i64 st, .int .i64 le, .int .i64 li]] W fun e W' => e = .returned (.string s) ∧ Below W.heap.size W W') := by
  obtain ⟨sr, br, er⟩ := role_at ro h1 h2
  obtain ⟨ss, bs, es⟩ := state_at st h3
  refine ⟨⟨(Lib.join [(Lib.decDigits z), (Lib.decDigits d), sr.data.toList, ss.data.toList, (Lib.decDigits le), (Lib.decDigits li)] [32]).toArray⟩ ++ ⟨#[10]⟩, fun W hb => ?_, fun W hb => ?_⟩
  · have h := show_good z d ro st le li _ _ sr ss _ _ W hz hd hle hli h1 h2 h3 rfl rfl rfl rfl _ rfl (join_size _ _ _ _ _ _ (dec_ba_size z hz) (dec_ba_size d hd) (by omega) (by omega) (dec_ba_size le hle) (dec_ba_size li hli)) (Lib.tabBelow_of_tabIs hT W hb) (cell_later hb ((hR ro).trans er)) (cell_later hb ((hS st).trans es))
    exact h
  · have h := line_good z d ro st le li _ _ sr ss _ _ W hz hd hle hli h1 h2 h3 rfl rfl rfl rfl (dec_ba_size z hz) (dec_ba_size d hd) (dec_ba_size le hle) (dec_ba_size li hli) br bs er es
    rw [words_eq] at h
    exact h

theorem show_anchor (w W : World) (hT : Lib.TabIs Tryd.prog w "internal/strconv.uint64pow10" .u64 Lib.pow10Tab) (hR : ∀ i, w.cell? ⟨0, i, none⟩ = (roleL.map fun z => Value.string ⟨z.toArray⟩)[i]?) (hS : ∀ i, w.cell? ⟨1, i, none⟩ = (stateL.map fun z => Value.string ⟨z.toArray⟩)[i]?) (hb : Below w.heap.size w W) :
    Calls Tryd.prog 5 #[.agg #[.int .i64 3, .int .i64 0, .int .i64 1, .int .i64 0, .int .i64 0, .int .i64 0]] W fun e W' => e = .returned (.string ⟨#[51, 32, 48, 32, 102, 114, 101, 101, 32, 101, 109, 112, 116, 121, 32, 48, 32, 48, 10]⟩) ∧ Below W.heap.size W W' := by
  have e3 : Lib.decDigits 3 = [51] := dec_small 3 (by decide)
  have e0 : Lib.decDigits 0 = [48] := dec_small 0 (by decide)
  have h := show_good 3 0 1 0 0 0 ⟨#[51]⟩ ⟨#[48]⟩ ⟨#[102, 114, 101, 101]⟩ ⟨#[101, 109, 112, 116, 121]⟩ ⟨#[48]⟩ ⟨#[48]⟩ W (by decide) (by decide) (by decide) (by decide) (by decide) (by decide) (by decide) (by rw [e3]; rfl) (by rw [e0]; rfl) (by rw [e0]; rfl) (by rw [e0]; rfl) ⟨#[51, 32, 48, 32, 102, 114, 101, 101, 32, 101, 109, 112, 116, 121, 32, 48, 32, 48]⟩ rfl (by decide) (Lib.tabBelow_of_tabIs hT W hb) (cell_later hb (hR 1)) (cell_later hb (hS 0))
  exact h

set_option maxHeartbeats 400000 in
theorem anchor_any (w W : World) (hT : Lib.TabIs Tryd.prog w "internal/strconv.uint64pow10" .u64 Lib.pow10Tab) (hR : ∀ i, w.cell? ⟨0, i, none⟩ = (roleL.map fun z => Value.string ⟨z.toArray⟩)[i]?) (hS : ∀ i, w.cell? ⟨1, i, none⟩ = (stateL.map fun z => Value.string ⟨z.toArray⟩)[i]?) (hb : Below w.heap.size w W) :
    Calls Tryd.prog 4 #[] W fun e W' => e = .returned (.bool true) ∧ Below W.heap.size W W' := by
  have H := Lib.hid (show_anchor w W hT hR hS hb)
  clear hT hR hS hb
  go_enter Tryd.func4, Tryd.ntmps4
  go_wp2_with (go_at_call 5; refine H.out.mono ?_; rintro e w1 ⟨rfl, hb1⟩)
  go_ret
  exact ⟨by simp, hb1⟩

/-- The law, at whatever six numbers. -/
theorem law_all (z d ro st le li : Int) (w : World) (hz : z ≤ 9223372036854775807) (hd : d ≤ 9223372036854775807) (hle : le ≤ 9223372036854775807) (hli : li ≤ 9223372036854775807)
    (hT : Lib.TabIs Tryd.prog w "internal/strconv.uint64pow10" .u64 Lib.pow10Tab) (hR : ∀ i, w.cell? ⟨0, i, none⟩ = (roleL.map fun z => Value.string ⟨z.toArray⟩)[i]?) (hS : ∀ i, w.cell? ⟨1, i, none⟩ = (stateL.map fun z => Value.string ⟨z.toArray⟩)[i]?) :
    Calls Tryd.prog 3 #[.agg #[.int .i64 z, .int .i64 d, .int .i64 ro, .int .i64 st, .int .i64 le, .int .i64 li]] w fun e w' => e = .returned (.bool true) ∧ Below w.heap.size w w' := by
  by_cases h : ro < 1 ∨ 5 < ro ∨ st < 0 ∨ 4 < st ∨ z < 0 ∨ d < 0 ∨ le < 0 ∨ li < 0
  · exact law_any z d ro st le li ⟨#[]⟩ w (fun W hb => anchor_any w W hT hR hS hb) (fun W _ => show_bad z d ro st le li W h) (fun W _ => line_bad z d ro st le li W h)
  · obtain ⟨zn, rfl⟩ : ∃ n : Nat, z = n := ⟨z.toNat, by omega⟩
    obtain ⟨dn, rfl⟩ : ∃ n : Nat, d = n := ⟨d.toNat, by omega⟩
    obtain ⟨rn, rfl⟩ : ∃ n : Nat, ro = n := ⟨ro.toNat, by omega⟩
    obtain ⟨sn, rfl⟩ : ∃ n : Nat, st = n := ⟨st.toNat, by omega⟩
    obtain ⟨en, rfl⟩ : ∃ n : Nat, le = n := ⟨le.toNat, by omega⟩
    obtain ⟨ln, rfl⟩ : ∃ n : Nat, li = n := ⟨li.toNat, by omega⟩
    obtain ⟨s, h5, h6⟩ := both_good zn dn rn sn en ln w hz hd hle hli (by omega) (by omega) (by omega) hT hR hS
    exact law_any _ _ _ _ _ _ s w (fun W hb => anchor_any w W hT hR hS hb) h5 h6

theorem laidOut : laidOutB Tryd.prog = true := by kernel_rfl

theorem contract (H : Type) (enc : TypeId × Value → H) (W : World) (base : Nat) (args : Array Value) (ds gs : List (DataW H)) (before : List MemPlace)
    (hval : ∀ (j : Nat) t v, Tryd.f3.params[j]? = some t → args[j]? = some v → Value.okWide Tryd.prog W .any base t v)
    (hW : DataW.Whole enc Tryd.prog Tryd.f3.params.toList Rows.reportLinesSpec.vars false W args.toList ds gs before) (hL : laidMetH Tryd.prog Rows.reportLinesRow.laid W) :
    Calls Tryd.prog 3 args W fun e W' => ∃ v, e = .returned v ∧ Rows.reportLinesSpec.post enc Tryd.prog Tryd.f3 false true false false W args v W' := by
  have hW' := hW
  obtain ⟨p, q, hA0, hV, rfl, hfz, hnd⟩ := hW
  have hA : DataW.TrodAll enc Tryd.prog W 0 (fun _ => true) true Tryd.f3.params.toList args.toList ds p := hA0
  rw [Tryd.params3] at hA hval
  obtain ⟨v0, vs0, d0, ds0, p0, q0, hargs, rfl, rfl, h0, r0⟩ := trodAll_cons hA
  obtain ⟨rfl, rfl, rfl⟩ := trodAll_nil r0
  obtain rfl : args = #[v0] := by cases args; simp_all
  obtain ⟨rfl, rfl⟩ := trodVars_none hV
  have k0 := h0
  have lt0 : ∀ x ∈ p0, x.block < W.heap.size := by obtain ⟨m, hm⟩ := k0; exact DataW.trod_lt m _ _ _ hm
  obtain ⟨c0, c1, c2, c3, c4, c5, y0, y1, y2, y3, y4, y5, m, rfl, rfl, rfl, hy0, hy1, hy2, hy3, hy4, hy5⟩ := open_agg6 Tryd.underlying23 (by kernel_rfl) cells23 (hval 0 23 v0 rfl rfl) h0
  obtain ⟨z, e0, rfl, wz⟩ := DataW.trod_int Tryd.underlying3 hy0
  obtain ⟨d, e1, rfl, wd⟩ := DataW.trod_int Tryd.underlying3 hy1
  obtain ⟨ro, e2, rfl, wr⟩ := DataW.trod_int Tryd.underlying3 hy2
  obtain ⟨st, e3, rfl, ws⟩ := DataW.trod_int Tryd.underlying3 hy3
  obtain ⟨le, e4, rfl, we⟩ := DataW.trod_int Tryd.underlying3 hy4
  obtain ⟨li, e5, rfl, wl⟩ := DataW.trod_int Tryd.underlying3 hy5
  simp at e0 e1 e2 e3 e4 e5
  subst e0 e1 e2 e3 e4 e5
  obtain ⟨hT, hR, hS⟩ := tables hL
  refine (law_all z d ro st le li W (bounds_i64 wz).2 (bounds_i64 wd).2 (bounds_i64 we).2 (bounds_i64 wl).2 hT hR hS).mono fun e W' ⟨he, bel⟩ => ?_
  subst he
  exact ⟨_, rfl, _, _, _, [], _, [], hW', trodAll_mk1 (shut_bool Tryd.underlying4 _), trodAll_cons_mk (Below.trod laidOut (by kernel_rfl) (of_decide_eq_true (by kernel_rfl)) k0 bel lt0) trodAll_mk0, rfl, bel.frame _, fun h => by cases h⟩

def tab0 : Array Value := #[.string ⟨#[]⟩, .string ⟨#[102, 114, 101, 101]⟩, .string ⟨#[111, 112, 101, 110]⟩, .string ⟨#[97, 114, 101, 97]⟩, .string ⟨#[98, 97, 100]⟩, .string ⟨#[99, 108, 111, 115, 101, 100]⟩]
def tab1 : Array Value := #[.string ⟨#[101, 109, 112, 116, 121]⟩, .string ⟨#[111, 112, 101, 110]⟩, .string ⟨#[102, 117, 108, 108]⟩, .string ⟨#[114, 101, 97, 100, 111, 110, 108, 121]⟩, .string ⟨#[111, 102, 102, 108, 105, 110, 101]⟩]
def tab2 : Array Value := #[.int .u64 1, .int .u64 10, .int .u64 100, .int .u64 1000, .int .u64 10000, .int .u64 100000, .int .u64 1000000, .int .u64 10000000, .int .u64 100000000, .int .u64 1000000000, .int .u64 10000000000, .int .u64 100000000000, .int .u64 1000000000000, .int .u64 10000000000000, .int .u64 100000000000000, .int .u64 1000000000000000, .int .u64 10000000000000000, .int .u64 100000000000000000, .int .u64 1000000000000000000, .int .u64 10000000000000000000]
def tab4 : Array Value := #[.int .u8 0, .int .u8 1, .int .u8 28, .int .u8 2, .int .u8 29, .int .u8 14, .int .u8 24, .int .u8 3, .int .u8 30, .int .u8 22, .int .u8 20, .int .u8 15, .int .u8 25, .int .u8 17, .int .u8 4, .int .u8 8, .int .u8 31, .int .u8 27, .int .u8 13, .int .u8 23, .int .u8 21, .int .u8 19, .int .u8 16, .int .u8 7, .int .u8 26, .int .u8 12, .int .u8 18, .int .u8 6, .int .u8 11, .int .u8 5, .int .u8 10, .int .u8 9]
def tab5 : Array Value := #[.int .u8 0, .int .u8 1, .int .u8 56, .int .u8 2, .int .u8 57, .int .u8 49, .int .u8 28, .int .u8 3, .int .u8 61, .int .u8 58, .int .u8 42, .int .u8 50, .int .u8 38, .int .u8 29, .int .u8 17, .int .u8 4, .int .u8 62, .int .u8 47, .int .u8 59, .int .u8 36, .int .u8 45, .int .u8 43, .int .u8 51, .int .u8 22, .int .u8 53, .int .u8 39, .int .u8 33, .int .u8 30, .int .u8 24, .int .u8 18, .int .u8 12, .int .u8 5, .int .u8 63, .int .u8 55, .int .u8 48, .int .u8 27, .int .u8 60, .int .u8 41, .int .u8 37, .int .u8 16, .int .u8 46, .int .u8 35, .int .u8 44, .int .u8 21, .int .u8 52, .int .u8 32, .int .u8 23, .int .u8 11, .int .u8 54, .int .u8 26, .int .u8 40, .int .u8 15, .int .u8 34, .int .u8 20, .int .u8 31, .int .u8 10, .int .u8 25, .int .u8 14, .int .u8 19, .int .u8 9, .int .u8 13, .int .u8 8, .int .u8 7, .int .u8 6]

def lay (cs : Array Value) : Obj → Obj
  | .cells _ t frozen => .cells cs t frozen
  | o => o
/-- A world for the witness: the settled one, the five variables holding what their initialisers lay. -/
noncomputable def laidWorld (os : Os) : World :=
  { World.holding Tryd.prog os ⟨#[], #[], []⟩ with heap := ((((((World.holding Tryd.prog os ⟨#[], #[], []⟩).heap).modify 0 (lay tab0)).modify 1 (lay tab1)).modify 2 (lay tab2)).modify 4 (lay tab4)).modify 5 (lay tab5) }
def zeroRow : Value := .agg #[.int .i64 0, .int .i64 0, .int .i64 0, .int .i64 0, .int .i64 0, .int .i64 0]
theorem laid_met (os : Os) : laidMet Tryd.prog Rows.reportLinesRow.laid ((laidWorld os).forCall (fun _ _ => 0) ⟨#[], #[zeroRow], []⟩).memory :=
  laidMet_of_run' 8 (by kernel_rfl) (by kernel_rfl)
theorem reads (os : Os) {H : Type} (enc : TypeId × Value → H) : ∃ places, DataW.whole enc Tryd.prog ((laidWorld os).forCall (fun _ _ => 0) ⟨#[], #[zeroRow], []⟩).memory Tryd.f3.params.toList Rows.reportLinesSpec.vars false #[zeroRow].toList 8 = some ([.agg [.lit (.int .i64 0), .lit (.int .i64 0), .lit (.int .i64 0), .lit (.int .i64 0), .lit (.int .i64 0), .lit (.int .i64 0)]], [], places) :=
  ⟨[], by kernel_rfl⟩

set_option maxRecDepth 100000 in
theorem lifted (os : Os) (started : os.Started) (H : Type) (enc : TypeId × Value → H) (F : Stop.Interp) :
    ReturnsInHanded {} Tryd.checked os 3 .any ((OpenSpec.ofChange Rows.reportLinesSpec).preRow enc Tryd.prog Tryd.f3 Rows.reportLinesRow.domain false Rows.reportLinesRow.laid) (((OpenSpec.ofChange Rows.reportLinesSpec).at F).post enc Tryd.prog Tryd.f3 false true false false) := by
  obtain ⟨places, hx⟩ := reads os enc
  refine returnsInHanded_of_row (C := Tryd.checked) (s := OpenSpec.ofChange Rows.reportLinesSpec) own started (by kernel_rfl) Tryd.func3
    (witness_row_at (enc := enc) (C := Tryd.checked) false (laidWorld os) #[zeroRow] rfl (by kernel_rfl) (by kernel_rfl) (by kernel_rfl)
      (OpenSpec.preRow_of_cond 8 hx (by kernel_rfl) (fun k hk => by cases hk) (by kernel_rfl) (laid_met os))) ?_
  intro W base args ds gs before hval hW _ _ _ hL _ _
  exact contract H enc W base args ds gs before hval hW hL

theorem said : Rows.ReportLinesSaid :=
  OpenClaim.holds_of_cond 3 Tryd.f3 rfl rfl rfl rfl rfl rfl rfl ⟨rfl, rfl, rfl, rfl, rfl⟩ rfl rfl rfl rfl rfl (by kernel_rfl) Tryd.func3 (by kernel_rfl)
    (of_decide_eq_true (by kernel_rfl)) (by unfold Func.isWrapper; first | (rw [if_pos (by decide +kernel)]; kernel_rfl) | (rw [if_neg (by decide +kernel)]; exact ⟨rfl, rfl⟩))
    (fun os started H enc _ F => by rw [OpenClaim.pre_eq_preRow]; exact lifted os started H enc F)

theorem plain (f : FuncId) (fn : Func) (hf : Tryd.pinned.checked.prog.funcNamed "revetment/revetmentlaw25.ReportLines" = some f) (hfn : Tryd.pinned.checked.prog.funcs[f]? = some fn) :
    false = Tryd.pinned.checked.prog.looks [] ∧ ∀ (j : Nat) t, fn.params[j]? = some t → Tryd.pinned.checked.prog.wantsStandIn t = false := by
  obtain rfl : f = 3 := Option.some.inj ((show Tryd.prog.funcNamed "revetment/revetmentlaw25.ReportLines" = some 3 by kernel_rfl).symm.trans hf) |>.symm
  obtain rfl : fn = Tryd.f3 := (Option.some.inj (Tryd.func3.symm.trans hfn)).symm
  refine ⟨by kernel_rfl, fun j t ht => ?_⟩
  rw [Tryd.params3] at ht
  obtain rfl : t = 23 := by simpa using Array.mem_of_getElem? ht
  exact (show Tryd.prog.wantsStandIn 23 = false by kernel_rfl)

theorem card : Rows.ReportLinesCardSaid :=
  Claim7.holds_tied_plain_at .later [] _ _ _ _ said (fun _ h => by cases h) (by kernel_rfl) (fun _ h => by cases h) reportLines_row_tie rfl ⟨rfl, rfl⟩ (by kernel_rfl) rfl plain (by kernel_rfl)
#print axioms card
end Go.Proofs.YtbicpfdkdigflaaDoor
