/- The document's line, walked: of a row that is not right the empty text, of another one its six words. -/
import Derived.Test.YtbicpfdkdigflaaDoorNum
import Derived.Deep.QuietTactic
import Derived.BigQuiet
namespace Go.Proofs.YtbicpfdkdigflaaDoor
open Go.RowKit

/-- The digits, the string a letter. -/
theorem number_is (n : Nat) (s : ByteArray) (hs : Hid (s = ⟨(Lib.decDigits n).toArray⟩)) (hn : (n : Int) ≤ 9223372036854775807) (w : World) :
    Calls Tryd.prog 9 #[.int .i64 n] w fun e w' => e = .returned (.string s) ∧ w' = w :=
  (number_any n hn w).mono fun _ _ ⟨h1, h2⟩ => ⟨by rw [h1, hs.out], h2.symm⟩

def roleS (k : Nat) : ByteArray := match k with | 1 => ⟨#[102, 114, 101, 101]⟩ | 2 => ⟨#[111, 112, 101, 110]⟩ | 3 => ⟨#[97, 114, 101, 97]⟩ | 4 => ⟨#[98, 97, 100]⟩ | 5 => ⟨#[99, 108, 111, 115, 101, 100]⟩ | _ => ⟨#[]⟩
def stateS (k : Nat) : ByteArray := match k with | 0 => ⟨#[101, 109, 112, 116, 121]⟩ | 1 => ⟨#[111, 112, 101, 110]⟩ | 2 => ⟨#[102, 117, 108, 108]⟩ | 3 => ⟨#[114, 101, 97, 100, 111, 110, 108, 121]⟩ | 4 => ⟨#[111, 102, 102, 108, 105, 110, 101]⟩ | _ => ⟨#[]⟩

set_option maxHeartbeats 1000000 in
theorem line_good (z d ro st le li : Nat) (sz sd sr ss sle sli : ByteArray) (w : World) (hz : (z : Int) ≤ 9223372036854775807) (hd : (d : Int) ≤ 9223372036854775807) (hle : (le : Int) ≤ 9223372036854775807) (hli : (li : Int) ≤ 9223372036854775807) (h1 : 1 ≤ (ro : Int)) (h2 : (ro : Int) ≤ 5) (h3 : (st : Int) ≤ 4)
    (Hz : Hid (sz = ⟨(Lib.decDigits z).toArray⟩)) (Hd : Hid (sd = ⟨(Lib.decDigits d).toArray⟩)) (Hle : Hid (sle = ⟨(Lib.decDigits le).toArray⟩)) (Hli : Hid (sli = ⟨(Lib.decDigits li).toArray⟩))
    (bz : sz.size ≤ 21) (bd : sd.size ≤ 21) (ble : sle.size ≤ 21) (bli : sli.size ≤ 21) (br : sr.size ≤ 8) (bs : ss.size ≤ 8)
    (hr : ([Value.string { data := #[] }, Value.string { data := #[102, 114, 101, 101] }, Value.string { data := #[111, 112, 101, 110] }, Value.string { data := #[97, 114, 101, 97] }, Value.string { data := #[98, 97, 100] }, Value.string { data := #[99, 108, 111, 115, 101, 100] }] : List Value)[ro]? = some (.string sr)) (hst : ([Value.string { data := #[101, 109, 112, 116, 121] }, Value.string { data := #[111, 112, 101, 110] }, Value.string { data := #[102, 117, 108, 108] }, Value.string { data := #[114, 101, 97, 100, 111, 110, 108, 121] }, Value.string { data := #[111, 102, 102, 108, 105, 110, 101] }] : List Value)[st]? = some (.string ss)) :
    Calls Tryd.prog 6 #[.agg #[.int .i64 z, .int .i64 d, .int .i64 ro, .int .i64 st, .int .i64 le, .int .i64 li]] w fun e w' => e = .returned (.string (sz ++ ⟨#[32]⟩ ++ sd ++ ⟨#[32]⟩ ++ sr ++ ⟨#[32]⟩ ++ ss ++ ⟨#[32]⟩ ++ sle ++ ⟨#[32]⟩ ++ sli ++ ⟨#[10]⟩)) ∧ Below w.heap.size w w' := by
  have b1 : ¬ (ro : Int) < 1 := by omega
  have b2 : ¬ 5 < (ro : Int) := by omega
  have b3 : ¬ 4 < (st : Int) := by omega
  have n1 : 0 ≤ (st : Int) := by omega
  have n2 : 0 ≤ (z : Int) := by omega
  have n3 : 0 ≤ (d : Int) := by omega
  have n4 : 0 ≤ (le : Int) := by omega
  have n5 : 0 ≤ (li : Int) := by omega
  have q1 : ¬ (st : Int) < 0 := by omega
  have q2 : ¬ (z : Int) < 0 := by omega
  have q3 : ¬ (d : Int) < 0 := by omega
  have q4 : ¬ (le : Int) < 0 := by omega
  have q5 : ¬ (li : Int) < 0 := by omega
  go_enter Tryd.func6, Tryd.ntmps6
  go_wp2
  have c1 : (9223372036854775807 < sz.size + 1) = False := by simp; omega
  have c2 : (9223372036854775807 < sz.size + 1 + sd.size) = False := by simp; omega
  have c3 : (9223372036854775807 < sz.size + 1 + sd.size + 1) = False := by simp; omega
  have c4 : (9223372036854775807 < sz.size + 1 + sd.size + 1 + sr.size) = False := by simp; omega
  have c5 : (9223372036854775807 < sz.size + 1 + sd.size + 1 + sr.size + 1) = False := by simp; omega
  have c6 : (9223372036854775807 < sz.size + 1 + sd.size + 1 + sr.size + 1 + ss.size) = False := by simp; omega
  have c7 : (9223372036854775807 < sz.size + 1 + sd.size + 1 + sr.size + 1 + ss.size + 1) = False := by simp; omega
  have c8 : (9223372036854775807 < sz.size + 1 + sd.size + 1 + sr.size + 1 + ss.size + 1 + sle.size) = False := by simp; omega
  have c9 : (9223372036854775807 < sz.size + 1 + sd.size + 1 + sr.size + 1 + ss.size + 1 + sle.size + 1) = False := by simp; omega
  have c10 : (9223372036854775807 < sz.size + 1 + sd.size + 1 + sr.size + 1 + ss.size + 1 + sle.size + 1 + sli.size) = False := by simp; omega
  have c11 : (9223372036854775807 < sz.size + 1 + sd.size + 1 + sr.size + 1 + ss.size + 1 + sle.size + 1 + sli.size + 1) = False := by simp; omega
  have i1 : (ro : Int) < 6 := by omega
  have i2 : (st : Int) < 5 := by omega
  refine wp_region_quiet_lit (by kernel_rfl) (by kernel_rfl) ?_
  repeat quiet_step ((go_at_call 9; exact Calls.quiet_of_same (number_is _ _ (by assumption) (by assumption) _)))
  refine wpQuiet_nil ?_
  intro _ hw'
  obtain ⟨nq, hw''⟩ := hw'
  subst hw''
  go_wp2
  go_ret
  exact ⟨rfl, below_drewN ((((Below.refl _ _).alloc (Nat.le_refl _) _).alloc (by simp) _).alloc (by simp; omega) _) _⟩
set_option maxHeartbeats 1000000 in
theorem line_bad (z d ro st le li : Int) (w : World) (h : ro < 1 ∨ 5 < ro ∨ st < 0 ∨ 4 < st ∨ z < 0 ∨ d < 0 ∨ le < 0 ∨ li < 0) :
    Calls Tryd.prog 6 #[.agg #[.int .i64 z, .int .i64 d, .int .i64 ro, .int .i64 st, .int .i64 le, .int .i64 li]] w fun e w' => e = .returned (.string ⟨#[]⟩) ∧ Below w.heap.size w w' := by
  go_enter Tryd.func6, Tryd.ntmps6
  go_wp2
  all_goals go_ret
  all_goals exact ⟨rfl, (((Below.refl _ _).alloc (Nat.le_refl _) _).alloc (by simp) _).alloc (by simp; omega) _⟩
end Go.Proofs.YtbicpfdkdigflaaDoor
