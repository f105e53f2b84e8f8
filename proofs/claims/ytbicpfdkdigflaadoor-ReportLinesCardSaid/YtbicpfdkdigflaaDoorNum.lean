/- Number: the digits of a number, one by one (plain law and walk). -/
import Derived.Test.YtbicpfdkdigflaaDoorRows
import Derived.WalkKit
import Derived.WalkSpells
import Derived.WalkLawsBesides
import Derived.Lib.ItoaNum
import Derived.Lib.ItoaMem
import Derived.Lib.ItoaLen
namespace Go.Proofs.YtbicpfdkdigflaaDoor
open Go.RowKit

theorem dec_small (m : Nat) (h : m < 10) : Lib.decDigits m = [UInt8.ofNat (48 + m)] := by rw [Lib.decDigits, dif_pos h]
theorem dec_big (m : Nat) (h : ¬ m < 10) : Lib.decDigits m = Lib.decDigits (m / 10) ++ [UInt8.ofNat (48 + m % 10)] := by rw [Lib.decDigits, dif_neg h]

theorem digit_at (k : Nat) (h : k < 10) : ((⟨#[48, 49, 50, 51, 52, 53, 54, 55, 56, 57]⟩ : ByteArray).extract k (k + 1)).data.toList = [UInt8.ofNat (48 + k)] := by
  match k, h with
  | 0, _ => decide
  | 1, _ => decide
  | 2, _ => decide
  | 3, _ => decide
  | 4, _ => decide
  | 5, _ => decide
  | 6, _ => decide
  | 7, _ => decide
  | 8, _ => decide
  | 9, _ => decide
  | n + 10, h => omega

theorem ret_str {a b : ByteArray} (h : a = b) : Ending.returned (.string a) = .returned (.string b) := by rw [h]
theorem ba_of_list {a : ByteArray} {l : List UInt8} (h : a.data.toList = l) : a = ⟨l.toArray⟩ := by
  cases a; simp at h; subst h; rfl

theorem dec_len (n : Nat) (hn : (n : Int) ≤ 9223372036854775807) : (Lib.decDigits n).length ≤ 21 := by
  have := Lib.itoa_length_le (n : Int) (by omega) hn
  rwa [Lib.itoa_nonneg] at this
theorem num_last (m n : Nat) (t : ByteArray) (hz : m < 10) (H : Lib.decDigits m ++ t.data.toList = Lib.decDigits n) :
    ((⟨#[48, 49, 50, 51, 52, 53, 54, 55, 56, 57]⟩ : ByteArray).extract (m % 10) (m % 10 + 1) ++ t) = ⟨(Lib.decDigits n).toArray⟩ := by
  apply ba_of_list
  have e : m % 10 = m := by omega
  rw [ByteArray.data_append, Array.toList_append, digit_at _ (by omega), e, ← H, dec_small m hz]
theorem num_more (m n : Nat) (t : ByteArray) (hz : ¬ m < 10) (H : Lib.decDigits m ++ t.data.toList = Lib.decDigits n) :
    Lib.decDigits (m / 10) ++ ((⟨#[48, 49, 50, 51, 52, 53, 54, 55, 56, 57]⟩ : ByteArray).extract (m % 10) (m % 10 + 1) ++ t).data.toList = Lib.decDigits n := by
  rw [ByteArray.data_append, Array.toList_append, digit_at _ (by omega), ← H, dec_big m hz, List.append_assoc]
theorem num_size (m n : Nat) (t : ByteArray) (hn : (n : Int) ≤ 9223372036854775807) (H : Lib.decDigits m ++ t.data.toList = Lib.decDigits n) : t.size ≤ 21 := by
  have h := dec_len n hn
  rw [← H] at h
  simp at h
  have : t.size = t.data.size := rfl
  omega

set_option maxHeartbeats 400000 in
theorem number_any (n : Nat) (hn : (n : Int) ≤ 9223372036854775807) (w : World) :
    Calls Tryd.prog 9 #[.int .i64 n] w fun e w' => e = .returned (.string ⟨(Lib.decDigits n).toArray⟩) ∧ w = w' := by
  go_enter Tryd.func9, Tryd.ntmps9
  go_wp2
  go_loop [0, 3] (fun i s => ∃ (m : Nat) (t : ByteArray), m ≤ n ∧ i = .int .i64 m ∧ s = .string t ∧ Hid (Lib.decDigits m ++ t.data.toList = Lib.decDigits n)) (fun i _ => (intOf i).toNat)
  case atStart => exact ⟨n, _, Nat.le_refl _, rfl, rfl, by simp [Hid]⟩
  case round =>
    obtain ⟨m, t, hm, rfl, rfl, H⟩ := hrel
    have hs := num_size m n t hn H.out
    have hb : 0 ≤ (m : Int) := by omega
    have hb2 : (m : Int) ≤ 9223372036854775807 := by omega
    by_cases hz : m < 10
    · have hq : ((m : Int) / 10 == 0) = true := by simp; omega
      go_wp2
      go_ret
      exact ⟨ret_str (num_last m n t hz H.out), rfl⟩
    · have hq : ((m : Int) / 10 == 0) = false := by simp; omega
      go_wp2
      go_round
      case rel => exact ⟨m / 10, _, by omega, by go_num, rfl, num_more m n t hz H.out⟩
      case measure => simp [intOf]; omega
end Go.Proofs.YtbicpfdkdigflaaDoor
