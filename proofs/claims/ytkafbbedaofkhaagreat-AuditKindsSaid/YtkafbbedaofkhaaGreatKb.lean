/- AuditKinds: the loop over what is yielded. -/
import Derived.Test.YtkafbbedaofkhaaGreatKa
import Derived.Test.YtkafbbedaofkhaaGreatAnchor
set_option linter.unusedVariables false
set_option linter.unusedSimpArgs false
set_option linter.unusedSectionVars false
namespace Go.Ev
open Go.Proofs
set_option maxRecDepth 10000

theorem range4_op : (rangeAt T3 4 0).1 = .tmp 53 := by kernel_rfl
theorem range4_ps : (rangeAt T3 4 0).2.1 = [54] := by kernel_rfl
theorem T3_eqs51 : T3.eqs 51 = some [0, 0, 0] := by kernel_rfl
theorem eqI_self (a : Int) : eqB a a = true := by rw [← eqI_eq, eqI_dec]; simp
theorem neq_self (f : Fd) : bin T3 .neq 51 (.agg (fdV f)) (.agg (fdV f)) = some (.bool false) := by
  have h1 : evEq T3 51 (.agg (fdV f)) (.agg (fdV f)) = some true := by
    unfold evEq
    rw [T3_eqs51]
    simp only [fdV, shaped, I]
    rw [show Nat.beq 0 0 = true from rfl]
    simp only [cnd_true, litsEq, litEq, show Nat.beq (kcode .i64) (kcode .i64) = true from rfl, eqI_self]
  show (match evEq T3 51 (.agg (fdV f)) (.agg (fdV f)) with | some b => some (EV.bool (cnd b false true)) | none => none) = _
  rw [h1]; rfl

/-- Memory in the rounds: 'a11' the count's cell, 'la', 'ka' what is captured, 'l' the loop. -/
structure Mem2 (x : Fix) (a11 la ka dd n : Nat) (s : EV) (hh : AHeap) : Prop where
  la : hh.get la = some (.cells [x.lv] 48)
  ka : hh.get ka = some (.cells [I x.kind] 3)
  g5 : hh.get x.a5 = some (.cells [I x.stop] 3)
  g6 : hh.get x.a6 = some (.cells [.bool false] 4)
  g7 : hh.get x.a7 = some (.cells [s] 48)
  g8 : hh.get x.a8 = some (.cells (cntL x.L) 49)
  g11 : hh.get a11 = some (.cells [N n] 3)
  gd : hh.get dd = some (.deferred true)
  gw : Grown x.n0 hh s (ofKind x.kind x.L)
  hb : HB hh
  old : Old x.n0 x.h0 hh
theorem Mem2.newput {x : Fix} {a11 la ka dd n : Nat} {s : EV} {hh : AHeap} (m : Mem2 x a11 la ka dd n s hh) (o o' : AObj) : Mem2 x a11 la ka dd n s ((hh.new o).put hh.next o') := by
  have k : ∀ {i o1}, hh.get i = some o1 → ((hh.new o).put hh.next o').get i = some o1 := fun {i o1} h => by rw [get_newput o o' (m.hb _ _ h)]; exact h
  exact ⟨k m.la, k m.ka, k m.g5, k m.g6, k m.g7, k m.g8, k m.g11, k m.gd, m.gw.frame (fun q l t z hq => get_newput o o' (m.hb _ _ hq)) (Nat.le_succ _), m.hb.newput o o', m.old.newput o o'⟩
theorem Mem2.putl {x : Fix} {a11 la ka dd n : Nat} {s : EV} {hh : AHeap} (m : Mem2 x a11 la ka dd n s hh) {l : Nat} {st : LoopState} {p : Option Code} {f n' : Nat} {tm : Tmps} {ps : List Tmp} {asg body : Code} {d : Nat} (hl : hh.get l = some (.loop st p f n' tm ps asg body d)) (hn : x.n0 ≤ l) (o : AObj) : Mem2 x a11 la ka dd n s (hh.put l o) := by
  have ne : ∀ {i o1}, hh.get i = some o1 → (∀ st p f n tm ps asg body d, o1 ≠ .loop st p f n tm ps asg body d) → (hh.put l o).get i = some o1 := fun {i o1} h hne => by
    rw [get_put_ne _ (fun e => by rw [← e, hl] at h; cases h; exact hne _ _ _ _ _ _ _ _ _ rfl)]; exact h
  exact ⟨ne m.la (by intros; simp), ne m.ka (by intros; simp), ne m.g5 (by intros; simp), ne m.g6 (by intros; simp), ne m.g7 (by intros; simp), ne m.g8 (by intros; simp), ne m.g11 (by intros; simp), ne m.gd (by intros; simp),
    m.gw.frame (fun q l' t z hq => by rw [ne hq (by intros; simp), hq]) (Nat.le_refl _), m.hb.put (m.hb _ _ hl) o, m.old.put hn o⟩

section
variable {x : Fix} (ok : x.Ok) {c r : Caller} {K : Nat}
include ok
/-- A round. -/
theorem round4 {a11 la ka dd n l : Nat} {s : EV} {tmW : Tmps} {asg body : Code} {hh : AHeap} {f : Fd} (hasg : (rangeAt T3 4 0).2.2.1 = asg) (hbody : (rangeAt T3 4 0).2.2.2 = body) (T : Tm1 x tmW) (w11 : tmp tmW 11 = .ptr a11 0) (M : Mem2 x a11 la ka dd n s hh) (hl : hh.get l = some (.loop .ready none 4 97 tmW [54] asg body dd))
    (hnl : x.n0 ≤ l) (hn11 : x.n0 ≤ a11) (dis : a11 ≠ la ∧ a11 ≠ ka ∧ a11 ≠ x.a5 ∧ a11 ≠ x.a6 ∧ a11 ≠ x.a7 ∧ a11 ≠ x.a8) (hf : (ofKind x.kind x.L)[n]? = some f) :
    ((Int.ofNat (n + 1) ≠ x.stop ∧ ∃ h', roundF T3 c r K l [.agg (fdV f)] hh = some (.bool true, h') ∧ Mem2 x a11 la ka dd (n + 1) s h' ∧ h'.get l = some (.loop .ready none 4 97 tmW [54] asg body dd)) ∨
     (Int.ofNat (n + 1) = x.stop ∧ ∃ h', roundF T3 c r K l [.agg (fdV f)] hh = some (.bool false, h') ∧ Mem2 x a11 la ka dd (n + 1) s h' ∧ h'.get l = some (.loop .done (some (.exit 2)) 4 97 tmW [54] asg body dd))) := by
  have hnlen : n < (ofKind x.kind x.L).length := (List.getElem?_eq_some_iff.1 hf).1
  have hlenL : (ofKind x.kind x.L).length ≤ 100 := Nat.le_trans (List.length_filter_le _ _) ok.len
  -- memory, step by step
  have M1 := M.newput (.cells [N 0, N 0, N 0] 51) (.cells (fdV f) 51)
  have gn : (hh.new (.cells [N 0, N 0, N 0] 51)).get hh.next = some (.cells [N 0, N 0, N 0] 51) := get_new_same _ _
  have l1 : ((hh.new (.cells [N 0, N 0, N 0] 51)).put hh.next (.cells (fdV f) 51)).get l = some (.loop .ready none 4 97 tmW [54] asg body dd) := by rw [get_newput _ _ (M.hb _ _ hl)]; exact hl
  have g12 : ((hh.new (.cells [N 0, N 0, N 0] 51)).put hh.next (.cells (fdV f) 51)).get hh.next = some (.cells (fdV f) 51) := get_put_same _ _ _
  have hst : ∀ k : AHeap → R, turnRow (hh.new (.cells [EV.int .i64 (Int.ofNat 0), EV.int .i64 (Int.ofNat 0), EV.int .i64 (Int.ofNat 0)] 51)) hh.next (fun l => laidR l 0 (fdV f)) k = k ((hh.new (.cells [N 0, N 0, N 0] 51)).put hh.next (.cells (fdV f) 51)) := by
    intro k
    rw [turnRow_cells (by simpa [N] using gn), laidR_all (by rfl)]
    rfl
  generalize hh1e : (hh.new (.cells [N 0, N 0, N 0] 51)).put hh.next (.cells (fdV f) 51) = hh1 at M1 l1 g12 hst
  have M2 := M1.putl l1 hnl (.loop .busy none 4 97 tmW [54] asg body dd)
  have l2 := get_put_same hh1 l (.loop .busy none 4 97 tmW [54] asg body dd)
  have g12' : (hh1.put l (.loop .busy none 4 97 tmW [54] asg body dd)).get hh.next = some (.cells (fdV f) 51) := by
    rw [get_put_ne _ (fun e => by rw [e, g12] at l1; cases l1)]; exact g12
  rw [roundF_at hl (by omega), ← hasg, ← hbody, F4r0_eq]
  have hbeg : beginC l (F4r0body c r K l) ((tmW.put 54 (some (.agg (fdV f)))).put 12 (some (.ptr hh.next 0))) hh1 [] = F4r0body c r K l ((tmW.put 54 (some (.agg (fdV f)))).put 12 (some (.ptr hh.next 0))) (hh1.put l (.loop .busy none 4 97 tmW [54] asg body dd)) [] := by rw [beginC_at l1]
  have hstart : F4r0 c r K l (tmW.put 54 (some (.agg (fdV f)))) hh [] = F4r0body c r K l ((tmW.put 54 (some (.agg (fdV f)))).put 12 (some (.ptr hh.next 0))) (hh1.put l (.loop .busy none 4 97 tmW [54] asg body dd)) [] := by
    rw [← hbeg]
    simp only [F4r0, allocK_eq, put_eq, p12_t, storeK_eq, g12_t, tmp_putS, reduceIte, Nat.reduceEqDiff, g54_t, stE_ptr, plain_agg, cells_agg, cnd_true]
    rw [show (lenR (fdV f)).beq 3 = true from rfl, cnd_true, hst, dropS_eq]
  rw [hstart, hasg, hbody]
  generalize hhe : hh1.put l (.loop .busy none 4 97 tmW [54] asg body dd) = h2 at M2 l2 g12'
  clear hst hstart hbeg hhe l1 g12 gn M1 hh1e
  have T54 : Tm1 x (tmW.put 54 (some (.agg (fdV f)))) := T.put (by omega) _
  have T12 : Tm1 x ((tmW.put 54 (some (.agg (fdV f)))).put 12 (some (.ptr hh.next 0))) := T54.put (by omega) _
  have v11 : tmp ((tmW.put 54 (some (.agg (fdV f)))).put 12 (some (.ptr hh.next 0))) 11 = .ptr a11 0 := by simp only [tmp_putS, reduceIte, Nat.reduceEqDiff, w11]
  have v12 : tmp ((tmW.put 54 (some (.agg (fdV f)))).put 12 (some (.ptr hh.next 0))) 12 = .ptr hh.next 0 := by simp only [tmp_putS, reduceIte]
  generalize (tmW.put 54 (some (.agg (fdV f)))).put 12 (some (.ptr hh.next 0)) = tm at T12 v11 v12
  obtain ⟨sp, sc, slen⟩ := M2.gw.plain
  rcases id M2.gw with ⟨hnil, _⟩ | ⟨qv, hne, rfl, hqv, hqn, hql⟩
  · rw [hnil] at hnlen; simp at hnlen
  have hrd : readO (h2.get qv) (0 + n * 3) 3 = some (fdV f) := by
    rw [hqv, Nat.zero_add]
    have := cut_fd (L := ofKind x.kind x.L) [] hf
    rw [List.append_nil] at this; exact this
  have r11 : readO (some (.cells [N n] 3)) 0 1 = some [N n] := rfl
  have r7 : ∀ v : EV, readO (some (.cells [v] 48)) 0 1 = some [v] := fun _ => rfl
  have r12 : readO (some (.cells (fdV f) 51)) 0 3 = some (fdV f) := rfl
  have r11' : readO (some (.cells [N (n + 1)] 3)) 0 1 = some [N (n + 1)] := rfl
  have r5 : readO (some (.cells [I x.stop] 3)) 0 1 = some [I x.stop] := rfl
  have hge : decide (¬ n < (ofKind x.kind x.L).length) = false := decide_eq_false (by omega)
  have hbig : n + 1 < 9223372036854775808 := by omega
  -- the count goes on
  have ne11 : ∀ {i o1}, h2.get i = some o1 → i ≠ a11 → (h2.put a11 (.cells [N (n + 1)] 3)).get i = some o1 := fun {i o1} h hi => by rw [get_put_ne _ (Ne.symm hi)]; exact h
  obtain ⟨d1, d2, d3, d4, d5, d6⟩ := dis
  have M3 : Mem2 x a11 la ka dd (n + 1) (.slice qv 0 (ofKind x.kind x.L).length (ofKind x.kind x.L).length true) (h2.put a11 (.cells [N (n + 1)] 3)) :=
    ⟨ne11 M2.la (Ne.symm d1), ne11 M2.ka (Ne.symm d2), ne11 M2.g5 (Ne.symm d3), ne11 M2.g6 (Ne.symm d4), ne11 M2.g7 (Ne.symm d5), ne11 M2.g8 (Ne.symm d6), get_put_same _ _ _, ne11 M2.gd (fun e => by have := M2.gd; rw [e, M2.g11] at this; cases this),
      M2.gw.frame (fun q l t z hq => get_put_ne _ (fun e => by rw [← e, M2.g11] at hq; cases hq)) (Nat.le_refl _), M2.hb.put (M2.hb _ _ M2.g11) _, M2.old.put hn11 _⟩
  have l3 : (h2.put a11 (.cells [N (n + 1)] 3)).get l = some (.loop .busy none 4 97 tmW [54] asg body dd) := ne11 l2 (fun e => by rw [e, M2.g11] at l2; cases l2)
  -- the body
  have hrun : F4r0body c r K l tm h2 [] = (if Int.ofNat (n + 1) = x.stop then roundEnd l false .done (some (.exit 2)) else roundEnd l true .ready none) tm (h2.put a11 (.cells [N (n + 1)] 3)) [] ∨ True := .inr trivial
  have hbody1 : ∀ res, (if Int.ofNat (n + 1) = x.stop then some (EV.bool false, (h2.put a11 (.cells [N (n + 1)] 3)).put l (.loop .done (some (.exit 2)) 4 97 tmW [54] asg body dd)) else some (EV.bool true, (h2.put a11 (.cells [N (n + 1)] 3)).put l (.loop .ready none 4 97 tmW [54] asg body dd))) = some res →
      F4r0body c r K l tm h2 [] = some res := by
    intro res hres
    unfold F4r0body
    refine drawC_quiet F4d18_quiet M2.hb ?_
    rw [F4d18_eq]
    simp only [F4d18, load1K_eq, g11_t, v11, ld1E_ptr, M2.g11, r11, oB_s, put_eq, p55_t, g7_t, tmp_putS, reduceIte, Nat.reduceEqDiff, T12.t7, M2.g7, r7, p56_t, lenK_eq, g56_t, slen, p57_t, intK_eq, g55_t, g57_t, N, intE_i64, gGeq_eq, lt_nat, notB_dec, hge, p58_t, mv_eq, g58_t, p59_t, guardK_eq, w59_t, wantE_bool, cnd_false, notB_f, cnd_true,
      p60_t, F4d18j5, p61_t, F4d18j4, ixSliK_eq, g60_t, g61_t]
    rw [ixSE_at hnlen]
    simp only [put_eq, p62_t, F4d18j3, guardK_eq, w59_t, tmp_putS, reduceIte, Nat.reduceEqDiff, wantE_bool, cnd_false, notB_f, cnd_true, loadNK_eq, g62_t, ldNE_ptr, hrd, oB_s, p63_t, F4d18j2, g12_t, v12, g12', r12, p64_t, F4d18j1, intK_eq, g63_t, g64_t, intE_agg, neq_self, p65_t, F4d18j0, pickK_eq, g59_t, onB_bool, g65_t, p66_t, condC_eq, g66_t,
      F4r0j0, load1K_eq, g11_t, v11, ld1E_ptr, M2.g11, r11, p67_t, g67_t, N, constE_eq, intE_i64, gAdd_eq, add_nat hbig, p68_t, storeK_eq, g68_t, stE_ptr, plain_int, cells_int, lenR_one]
    rw [show Nat.beq 1 1 = true from rfl, cnd_true, turnRow_cells M2.g11, laidR_one, oB_s, dropS_eq]
    have M3' := M3
    simp only [N] at M3' r11' l3
    simp only [load1K_eq, g11_t, tmp_putS, reduceIte, Nat.reduceEqDiff, v11, ld1E_ptr, M3'.g11, N, r11', oB_s, put_eq, p69_t, g5_t, T12.t5, M3'.g5, r5, p70_t, intK_eq, g69_t, g70_t, I, intE_i64, gEql_eq, eqI_dec, p71_t, condC_eq, g71_t, onB_bool, cnd_dec]
    rw [roundEnd_at' l3, roundEnd_at' l3]
    exact hres
  clear hrun
  by_cases hst : Int.ofNat (n + 1) = x.stop
  · refine .inr ⟨hst, _, hbody1 _ (by rw [if_pos hst]), M3.putl l3 hnl _, get_put_same _ _ _⟩
  · refine .inl ⟨hst, _, hbody1 _ (by rw [if_neg hst]), M3.putl l3 hnl _, get_put_same _ _ _⟩
end
end Go.Ev

namespace Go.Ev
open Go.Proofs
set_option maxRecDepth 10000

theorem worst_run {disp : Nat → Option FT} (h13 : disp 13 = some F13) (h49 : disp 49 = some F49) {K d q : Nat} {r : Caller} {lv : EV} {L : List Fd} {h : AHeap} (hK : L.length < K) (h5 : 5 < K) (hq : q < h.next) (hr : RowIn h q lv L) :
    ∃ h', F14 (callC T3 disp K (d + 2) false) r K [lv] h = some (I (worstOf kinds L), h') ∧ Old h.next h h' := by
  unfold F14
  rw [funC_at (by simp)]
  have hb : ∀ tm, buildV (evenP 1) [(.int .i64 (.ofNat 0)), (.int .i64 (.ofNat 0)), (.int .i64 (.ofNat 0)), (.int .i64 (.ofNat 0)), (.int .i64 (.ofNat 0))] (fun tm => [(0, (constE (.int .i64 (.ofNat 2))) tm), (1, (constE (.int .i64 (.ofNat 3))) tm), (2, (constE (.int .i64 (.ofNat 1))) tm), (3, (constE (.int .i64 (.ofNat 5))) tm), (4, (constE (.int .i64 (.ofNat 4))) tm)]) tm = some (.agg (kinds.map I)) := fun tm => rfl
  simp only [setArgs, allocK_eq, put_eq, p2_t, valK_eq, hb, oB_s, p5_t, mv_eq, constE_eq, p6_t]
  refine worst_loop h13 h49 (n0 := h.next) (a2 := h.next) (h0 := h) (q := q) (lv := lv) hK hq (Nat.le_refl _) K 0 _ _ [] (by omega) (by omega) ?_ ?_ ?_ ?_ (hr.frame (get_new_lt _ hq)) (get_new_same _ _) (Nat.lt_succ_self _) ((Old.refl h).new _) List.nodup_nil (fun e he => by cases he) <;> simp only [tmp_putS, reduceIte, Nat.reduceEqDiff, N]
  rfl

/-- The last of some kinds that there are. -/
def lastOf (L : List Fd) : List Nat → Nat → Nat
  | [], w => w
  | k :: r, w => lastOf L r (if 0 < cnt (Int.ofNat k) L then k else w)
abbrev order : List Nat := [4, 5, 1, 3, 2]
theorem last_worst (L : List Fd) : worstOf kinds L = Int.ofNat (lastOf L order 0) := by
  have c : ∀ k : Nat, (0 < cnt (Int.ofNat k) L) ↔ ¬ ofKind (Int.ofNat k) L = [] := fun k => by unfold cnt; rw [List.length_pos_iff]
  simp only [lastOf, c, worstOf]
  by_cases h2 : ofKind (Int.ofNat 2) L = [] <;> by_cases h3 : ofKind (Int.ofNat 3) L = [] <;> by_cases h1 : ofKind (Int.ofNat 1) L = [] <;> by_cases h5 : ofKind (Int.ofNat 5) L = [] <;> by_cases h4 : ofKind (Int.ofNat 4) L = [] <;>
    (have a2 : ofKind 2 L = ofKind (Int.ofNat 2) L := rfl
     have a3 : ofKind 3 L = ofKind (Int.ofNat 3) L := rfl
     have a1 : ofKind 1 L = ofKind (Int.ofNat 1) L := rfl
     have a5 : ofKind 5 L = ofKind (Int.ofNat 5) L := rfl
     have a4 : ofKind 4 L = ofKind (Int.ofNat 4) L := rfl
     rw [a2, a3, a1, a5, a4]; simp only [h1, h2, h3, h4, h5, if_true, if_false, not_true_eq_false, not_false_eq_true]; try rfl)

section
variable {x : Fix} {c r : Caller} {K : Nat} {Q : R → Prop}
theorem second_loop {hh : AHeap} {ds : List Nat} (g8' : hh.get x.a8 = some (.cells (cntL x.L) 49)) : ∀ (m j w : Nat) (tm : Tmps), 5 - j < m → j ≤ 5 → Tm1 x tm → tmp tm 13 = N w → tmp tm 72 = .agg (order.map N) → tmp tm 73 = N j →
    (∀ tm2, Tm1 x tm2 → tmp tm2 11 = tmp tm 11 → tmp tm2 13 = N (lastOf x.L (order.drop j) w) → Q (F4j7 c r K tm2 hh ds)) → Q (loopC (F4b11 c r K) m tm hh ds) := by
  intro m
  induction m with
  | zero => intro j w tm hm; omega
  | succ m ih =>
    intro j w tm hm hj T t13 t72 t73 hQ
    rw [loopC_succ]
    simp only [F4b11, intK_eq, g73_t, t73, N, constE_eq, intE_i64, gLss_eq, lt_nat, put_eq, p74_t, condC_eq, g74_t, tmp_putS, if_true, onB_bool, cnd_dec]
    by_cases hlt : j < 5
    · rw [if_pos hlt]
      obtain ⟨k, hk⟩ : ∃ k, order[j]? = some k := ⟨_, List.getElem?_eq_getElem hlt⟩
      have hdrop : order.drop j = k :: order.drop (j + 1) := by
        have := List.getElem?_eq_some_iff.1 hk
        rw [List.drop_eq_getElem_cons this.1, this.2]
      have hk15 : 1 ≤ k ∧ k ≤ 5 := by
        have : j = 0 ∨ j = 1 ∨ j = 2 ∨ j = 3 ∨ j = 4 := by omega
        rcases this with rfl | rfl | rfl | rfl | rfl <;> (cases hk; omega)
      have hnth : nthR (order.map N) (Nat.mul j 1) = some (N k) := by
        rw [nthR_get, Nat.mul_eq, Nat.mul_one, List.getElem?_map, hk]; rfl
      have hcell : readO (some (.cells (cntL x.L) 49)) (Nat.add 0 (Nat.mul k 1)) 1 = some [N (cnt (Int.ofNat k) x.L)] := by
        have : k = 1 ∨ k = 2 ∨ k = 3 ∨ k = 4 ∨ k = 5 := by omega
        rcases this with rfl | rfl | rfl | rfl | rfl <;> rfl
      have hble : Nat.ble (Nat.succ j) 5 = true := Nat.ble_eq_true_of_le hlt
      have hble2 : Nat.ble (Nat.succ k) 6 = true := Nat.ble_eq_true_of_le (by omega)
      have hbig : j + 1 < 9223372036854775808 := by omega
      rw [hdrop] at hQ
      simp only [F4j10, ixValK, g73_t, tmp_putS, reduceIte, Nat.reduceEqDiff, t73, N, onIx_nat, g72_t, t72, onAgg, hble, cnd_true, partK, cnd_false, hnth, oB_s, put_eq, p75_t, mv_eq, g75_t, p15_t, g15_t, p76_t, ixArrK, g8_t, T.t8, g76_t, onPtr_ptr, hble2, p77_t, load1K_eq, g77_t, ld1E_ptr, g8', hcell, p78_t, intK_eq, g78_t, constE_eq, intE_i64, gGtr_eq, lt_nat, p79_t, condC_eq, g79_t, onB_bool, cnd_dec]
      by_cases hc : 0 < cnt (Int.ofNat k) x.L
      · rw [if_pos hc]
        simp only [mv_eq, g15_t, tmp_putS, reduceIte, Nat.reduceEqDiff, p80_t, g80_t, p13_t, F4j9, intK_eq, g73_t, t73, N, constE_eq, intE_i64, gAdd_eq, add_nat hbig, put_eq, p81_t, g81_t, p73_t]
        refine ih (j + 1) k _ (by omega) (by omega) (((((((((((T.put (by omega) _).put (by omega) _).put (by omega) _).put (by omega) _).put (by omega) _).put (by omega) _).put (by omega) _).put (by omega) _).put (by omega) _).put (by omega) _).put (by omega) _) ?_ ?_ ?_ ?_
        · simp only [tmp_putS, reduceIte, Nat.reduceEqDiff, N]
        · simp only [tmp_putS, reduceIte, Nat.reduceEqDiff, t72]
        · simp only [tmp_putS, reduceIte, Nat.reduceEqDiff, N]
        · intro tm2 T2 e11 e13
          refine hQ tm2 T2 (by rw [e11]; simp only [tmp_putS, reduceIte, Nat.reduceEqDiff]) ?_
          rw [e13]; simp only [lastOf, if_pos hc]
      · rw [if_neg hc]
        simp only [tmp_putS, reduceIte, Nat.reduceEqDiff, F4j9, intK_eq, g73_t, t73, N, constE_eq, intE_i64, gAdd_eq, add_nat hbig, put_eq, p81_t, mv_eq, g81_t, p73_t]
        refine ih (j + 1) w _ (by omega) (by omega) (((((((((T.put (by omega) _).put (by omega) _).put (by omega) _).put (by omega) _).put (by omega) _).put (by omega) _).put (by omega) _).put (by omega) _).put (by omega) _) ?_ ?_ ?_ ?_
        · simp only [tmp_putS, reduceIte, Nat.reduceEqDiff, t13]
        · simp only [tmp_putS, reduceIte, Nat.reduceEqDiff, t72]
        · simp only [tmp_putS, reduceIte, Nat.reduceEqDiff, N]
        · intro tm2 T2 e11 e13
          refine hQ tm2 T2 (by rw [e11]; simp only [tmp_putS, reduceIte, Nat.reduceEqDiff]) ?_
          rw [e13]; simp only [lastOf, if_neg hc]
    · rw [if_neg hlt]
      obtain rfl : j = 5 := by omega
      exact hQ _ (T.put (by omega) _) (by simp only [tmp_putS, reduceIte, Nat.reduceEqDiff]) (by simp only [tmp_putS, reduceIte, Nat.reduceEqDiff, t13]; rfl)

variable {disp : Nat → Option FT} (h13 : disp 13 = some F13) (h14 : disp 14 = some F14) (h49 : disp 49 = some F49) {d : Nat} (ok : x.Ok) (hK : x.L.length < K) (hK5 : 200 < K)
include h13 h14 h49 ok hK hK5
/-- Behind the loop over what is yielded. -/
theorem tail4 {a11 la ka dd n : Nat} {s : EV} {tm : Tmps} {hh : AHeap} (hrow : RowIn hh x.q x.lv x.L) (M : Mem2 x a11 la ka dd n s hh) (T : Tm1 x tm) (w11 : tmp tm 11 = .ptr a11 0) (hdd : x.n0 ≤ dd) (hn : n = (ofKind x.kind x.L).length ∨ Int.ofNat n = x.stop) :
    ∃ h', F4j12 (callC T3 disp K (d + 3) false) r K tm hh [dd] = some (.bool true, h') ∧ Old x.n0 x.h0 h' := by
  have hb : ∀ tm, buildV (evenP 1) [(.int .i64 (.ofNat 0)), (.int .i64 (.ofNat 0)), (.int .i64 (.ofNat 0)), (.int .i64 (.ofNat 0)), (.int .i64 (.ofNat 0))] (fun tm => [(0, (constE (.int .i64 (.ofNat 4))) tm), (1, (constE (.int .i64 (.ofNat 5))) tm), (2, (constE (.int .i64 (.ofNat 1))) tm), (3, (constE (.int .i64 (.ofNat 3))) tm), (4, (constE (.int .i64 (.ofNat 2))) tm)]) tm = some (.agg (order.map N)) := fun tm => rfl
  simp only [F4j12, mv_eq, constE_eq, p13_t, valK_eq, hb, oB_s, put_eq, p72_t, p73_t]
  refine second_loop (Q := fun R => ∃ h', R = some (.bool true, h') ∧ Old x.n0 x.h0 h') M.g8 K 0 0 _ (by omega) (by omega) (((T.put (by omega) _).put (by omega) _).put (by omega) _) ?_ ?_ ?_ ?_
  · simp only [tmp_putS, reduceIte, Nat.reduceEqDiff, N]
  · simp only [tmp_putS, reduceIte, Nat.reduceEqDiff]; rfl
  · simp only [tmp_putS, reduceIte, Nat.reduceEqDiff, N]
  intro tm2 T2 e11 e13
  have v11 : tmp tm2 11 = .ptr a11 0 := by rw [e11]; simp only [tmp_putS, reduceIte, Nat.reduceEqDiff, w11]
  rw [List.drop_zero] at e13
  obtain ⟨sp, sc, slen⟩ := M.gw.plain
  have r11 : readO (some (.cells [N n] 3)) 0 1 = some [N n] := rfl
  have r7 : readO (some (.cells [s] 48)) 0 1 = some [s] := rfl
  have r5 : readO (some (.cells [I x.stop] 3)) 0 1 = some [I x.stop] := rfl
  have hqh : x.q < hh.next := Nat.lt_of_lt_of_le ok.q M.old.next
  obtain ⟨h5, hw, hold⟩ := worst_run h13 h49 (K := K) (d := d) (r := callC T3 disp K (d + 2) true) hK (by omega) hqh hrow
  have hcall : callC T3 disp K (d + 3) false 14 [x.lv] hh = some (I (worstOf kinds x.L), h5) := by rw [callC_at h14]; exact hw
  have hwl : decide (worstOf kinds x.L = Int.ofNat (lastOf x.L order 0)) = true := decide_eq_true (last_worst x.L)
  have g6' : h5.get x.a6 = some (.cells [.bool false] 4) := by rw [hold.get _ (M.hb _ _ M.g6)]; exact M.g6
  have gd' : h5.get dd = some (.deferred true) := by rw [hold.get _ (M.hb _ _ M.gd)]; exact M.gd
  -- the end, once it is true
  have fin : ∀ tm3, tmp tm3 6 = .ptr x.a6 0 → tmp tm3 91 = .bool true → tmp tm3 95 = .bool true → ∃ h', F4j0 (callC T3 disp K (d + 3) false) r K tm3 h5 [dd] = some (.bool true, h') ∧ Old x.n0 x.h0 h' := by
    intro tm3 u6 u91 u95
    simp only [F4j0, pickK_eq, g91_t, u91, onB_bool, cnd_true, g95_t, u95, put_eq, p96_t, storeK_eq, g6_t, tmp_putS, reduceIte, Nat.reduceEqDiff, u6, g96_t, stE_ptr, plain_bool, cells_bool, lenR_one]
    rw [show Nat.beq 1 1 = true from rfl, cnd_true, turnRow_cells g6', laidR_one, oB_s, dropS_eq]
    have ne6 : x.a6 ≠ dd := fun e => by rw [e, gd'] at g6'; cases g6'
    obtain ⟨h', e1, e2, e3⟩ := retC_cell (T := T3) (tm := tm3.put 96 (some (.bool true))) (h := h5.put x.a6 (.cells [EV.bool true] 4)) (ds := [dd]) (a := 6) (ty := 4) (q := x.a6) (by simp only [tmp_putS, reduceIte, Nat.reduceEqDiff, u6]) T3_size4 T3_agg4 (by simp)
      (fun e he => by rw [List.mem_singleton] at he; subst he; rw [get_put_ne _ ne6]; exact gd') (by simpa using ne6) (get_put_same _ _ _)
    refine ⟨h', e1, fun j hj => ?_, by rw [e3]; exact Nat.le_trans M.old.next hold.next⟩
    have n6 := ok.n6
    have := M.old.next
    rw [e2 j (by rw [List.mem_singleton]; omega), get_put_ne _ (by omega), hold.get j (by omega), M.old.get j hj]
  -- from the test of the count on
  have go : ∀ tm3, Tm1 x tm3 → tmp tm3 13 = N (lastOf x.L order 0) → tmp tm3 90 = .bool true → ∃ h', (mv g90 p91 (guardK (wantG o91 true) (moveK g0 (put p92 (F4j3 (callC T3 disp K (d + 3) false) r K))) (put p92 (F4j3 (callC T3 disp K (d + 3) false) r K)))) tm3 hh [dd] = some (.bool true, h') ∧ Old x.n0 x.h0 h' := by
    intro tm3 T3' u13 u90
    simp only [mv_eq, g90_t, u90, p91_t, guardK_eq, w91_t, tmp_putS, reduceIte, Nat.reduceEqDiff, wantE_bool, cnd_true, moveK_eq, g0_t, T3'.t0, put_eq, p92_t, F4j3, callK_eq, g92_t, hcall, oB_s, pairK_eq, p93_t, F4j2, g13_t, u13, p94_t, F4j1, intK_eq, g93_t, g94_t, I, N, intE_i64, gEql_eq, eqI_dec, hwl, p95_t]
    refine fin _ ?_ ?_ ?_ <;> simp only [tmp_putS, reduceIte, Nat.reduceEqDiff, T3'.t6]
  unfold F4j7
  rcases hn with hn | hn
  · have e1 : decide (n = (ofKind x.kind x.L).length) = true := decide_eq_true hn
    simp only [load1K_eq, g11_t, v11, ld1E_ptr, M.g11, r11, oB_s, put_eq, p82_t, g7_t, tmp_putS, reduceIte, Nat.reduceEqDiff, T2.t7, M.g7, r7, p83_t, lenK_eq, g83_t, slen, p84_t, intK_eq, g82_t, g84_t, N, intE_i64, gEql_eq, eq_nat, e1, p85_t, mv_eq, g85_t, p86_t, guardK_eq, w86_t, wantE_bool, cnd_true, notB_t, cnd_false, p87_t, F4j6, p88_t, F4j5, p89_t, F4j4, pickK_eq, g86_t, onB_bool, constE_eq, p90_t]
    refine go _ ((((((((T2.put (by omega) _).put (by omega) _).put (by omega) _).put (by omega) _).put (by omega) _).put (by omega) _).put (by omega) _).put (by omega) _ |>.put (by omega) _) ?_ ?_
    · simp only [tmp_putS, reduceIte, Nat.reduceEqDiff, e13]
    · simp only [tmp_putS, reduceIte]
  · have e2 : decide (Int.ofNat n = x.stop) = true := decide_eq_true hn
    by_cases hn' : n = (ofKind x.kind x.L).length
    · have e1 : decide (n = (ofKind x.kind x.L).length) = true := decide_eq_true hn'
      simp only [load1K_eq, g11_t, v11, ld1E_ptr, M.g11, r11, oB_s, put_eq, p82_t, g7_t, tmp_putS, reduceIte, Nat.reduceEqDiff, T2.t7, M.g7, r7, p83_t, lenK_eq, g83_t, slen, p84_t, intK_eq, g82_t, g84_t, N, intE_i64, gEql_eq, eq_nat, e1, p85_t, mv_eq, g85_t, p86_t, guardK_eq, w86_t, wantE_bool, cnd_true, notB_t, cnd_false, p87_t, F4j6, p88_t, F4j5, p89_t, F4j4, pickK_eq, g86_t, onB_bool, constE_eq, p90_t]
      refine go _ ((((((((T2.put (by omega) _).put (by omega) _).put (by omega) _).put (by omega) _).put (by omega) _).put (by omega) _).put (by omega) _).put (by omega) _ |>.put (by omega) _) ?_ ?_
      · simp only [tmp_putS, reduceIte, Nat.reduceEqDiff, e13]
      · simp only [tmp_putS, reduceIte]
    · have e1 : decide (Int.ofNat n = Int.ofNat (ofKind x.kind x.L).length) = false := decide_eq_false fun e => hn' (Int.ofNat.inj e)
      simp only [load1K_eq, g11_t, v11, ld1E_ptr, M.g11, r11, oB_s, put_eq, p82_t, g7_t, tmp_putS, reduceIte, Nat.reduceEqDiff, T2.t7, M.g7, r7, p83_t, lenK_eq, g83_t, slen, p84_t, intK_eq, g82_t, g84_t, N, intE_i64, gEql_eq, eqI_dec, e1, p85_t, mv_eq, g85_t, p86_t, guardK_eq, w86_t, wantE_bool, cnd_true, notB_f, cnd_false, p87_t, F4j6, g5_t, T2.t5, M.g5, r5, p88_t, F4j5, g87_t, g88_t, I, eqI_dec, e2, p89_t, F4j4, pickK_eq, g86_t, onB_bool, g89_t, p90_t]
      refine go _ ((((((((T2.put (by omega) _).put (by omega) _).put (by omega) _).put (by omega) _).put (by omega) _).put (by omega) _).put (by omega) _).put (by omega) _ |>.put (by omega) _) ?_ ?_
      · simp only [tmp_putS, reduceIte, Nat.reduceEqDiff, e13]
      · simp only [tmp_putS, reduceIte]
end
end Go.Ev

namespace Go.Ev
open Go.Proofs
set_option maxRecDepth 10000

section
variable {x : Fix} {r : Caller} {K : Nat} {disp : Nat → Option FT} (h13 : disp 13 = some F13) (h14 : disp 14 = some F14) (h49 : disp 49 = some F49) {d : Nat} (ok : x.Ok) (hK : x.L.length < K) (hK5 : 200 < K)
include h13 h14 h49 ok hK hK5
theorem middle4 (tm : Tmps) (h : AHeap) (T : Tm1 x tm) (M : Mem1 x x.L.length h) : ∃ h', F4j13 (callC T3 disp K (d + 3) false) r K tm h [] = some (.bool true, h') ∧ Old x.n0 x.h0 h' := by
  obtain ⟨s, k7, kg⟩ := M.g7
  rw [List.take_length] at kg
  have k8 := M.g8
  rw [List.take_length] at k8
  obtain ⟨hpl, hce⟩ := plain_row M.row
  have n0le := M.old.next
  have gn : (h.new (.cells [N 0] 3)).get h.next = some (.cells [N 0] 3) := get_new_same _ _
  have n5 := ok.n5
  simp only [F4j13, allocK_eq, put_eq, p11_t, storeK_eq, g11_t, tmp_putS, reduceIte, Nat.reduceEqDiff, constE_eq, stE_ptr, plain_int, cells_int, lenR_one, cnd_true]
  rw [show Nat.beq 1 1 = true from rfl, cnd_true, turnRow_cells (by simpa [N] using gn), laidR_one, oB_s]
  have keep1 : ∀ {j o}, h.get j = some o → ((h.new (.cells [EV.int .i64 (Int.ofNat 0)] 3)).put h.next (.cells [EV.int .i64 (Int.ofNat 0)] 3)).get j = some o := fun {j o} hj => by rw [get_newput _ _ (M.hb _ _ hj)]; exact hj
  have g11' : ((h.new (.cells [EV.int .i64 (Int.ofNat 0)] 3)).put h.next (.cells [EV.int .i64 (Int.ofNat 0)] 3)).get h.next = some (.cells [N 0] 3) := get_put_same _ _ _
  have hb1 : HB ((h.new (.cells [EV.int .i64 (Int.ofNat 0)] 3)).put h.next (.cells [EV.int .i64 (Int.ofNat 0)] 3)) := M.hb.newput _ _
  have old1 : Old x.n0 x.h0 ((h.new (.cells [EV.int .i64 (Int.ofNat 0)] 3)).put h.next (.cells [EV.int .i64 (Int.ofNat 0)] 3)) := M.old.newput _ _
  have e1 : ((h.new (.cells [EV.int .i64 (Int.ofNat 0)] 3)).put h.next (.cells [EV.int .i64 (Int.ofNat 0)] 3)).next = h.next + 1 := rfl
  generalize (h.new (.cells [EV.int .i64 (Int.ofNat 0)] 3)).put h.next (.cells [EV.int .i64 (Int.ofNat 0)] 3) = h1 at keep1 g11' hb1 old1 e1
  simp only [dropS_eq, mv_eq, g0_t, tmp_putS, reduceIte, Nat.reduceEqDiff, T.t0, p51_t, g1_t, T.t1, p52_t, callK_eq, g51_t, g52_t]
  rw [callC_at h13, of_run _ _ _ hpl hce]
  simp only [oB_s, pairK_eq, put_eq, p53_t]
  generalize htm : (((tm.put 11 (some (EV.ptr h.next 0))).put 51 (some x.lv)).put 52 (some (I x.kind))).put 53 (some (EV.func 49 [] [EV.ptr h1.next 0, EV.ptr (h1.next + 1) 0])) = tm1
  have T1 : Tm1 x tm1 := by rw [← htm]; exact (((T.put (by omega) _).put (by omega) _).put (by omega) _).put (by omega) _
  have u11 : tmp tm1 11 = .ptr h.next 0 := by rw [← htm]; simp only [tmp_putS, reduceIte, Nat.reduceEqDiff]
  have u53 : tmp tm1 53 = .func 49 [] [.ptr h1.next 0, .ptr (h1.next + 1) 0] := by rw [← htm]; simp only [tmp_putS, reduceIte]
  clear htm
  rw [rangeS_at range4_op u53]
  generalize hh2 : ofHeap h1 x.lv x.kind = h2
  have e2 : h2.next = h1.next + 2 := by rw [← hh2]; rfl
  have keep2 : ∀ {j o}, h1.get j = some o → h2.get j = some o := fun {j o} hj => by
    have := hb1 _ _ hj
    rw [← hh2]; unfold ofHeap; rw [get_new_lt _ (Nat.lt_succ_of_lt this), get_new_lt _ this]; exact hj
  have gla : h2.get h1.next = some (.cells [x.lv] 48) := by rw [← hh2]; unfold ofHeap; rw [get_new_lt _ (Nat.lt_succ_self _), get_new_same]
  have gka : h2.get (h1.next + 1) = some (.cells [I x.kind] 3) := by rw [← hh2]; exact get_new_same _ _
  have hb2 : HB h2 := by rw [← hh2]; exact (hb1.new _).new _
  have old2 : Old x.n0 x.h0 h2 := by rw [← hh2]; exact (old1.new _).new _
  generalize hasg : (rangeAt T3 4 0).2.2.1 = asg
  generalize hbody : (rangeAt T3 4 0).2.2.2 = body
  rw [range4_ps]
  generalize hh3 : (h2.new (.deferred true)).new (.loop .ready none 4 97 tm1 [54] asg body h2.next) = h3
  have e3 : h3.next = h2.next + 2 := by rw [← hh3]; rfl
  have keep3 : ∀ {j o}, h2.get j = some o → h3.get j = some o := fun {j o} hj => by
    have := hb2 _ _ hj
    rw [← hh3, get_new_lt _ (Nat.lt_succ_of_lt this), get_new_lt _ this]; exact hj
  have gd : h3.get h2.next = some (.deferred true) := by rw [← hh3, get_new_lt _ (Nat.lt_succ_self _), get_new_same]
  have gl : h3.get (h2.next + 1) = some (.loop .ready none 4 97 tm1 [54] asg body h2.next) := by rw [← hh3]; exact get_new_same _ _
  have hb3 : HB h3 := by rw [← hh3]; exact (hb2.new _).new _
  have old3 : Old x.n0 x.h0 h3 := by rw [← hh3]; exact (old2.new _).new _
  have k : ∀ {j o}, h.get j = some o → h3.get j = some o := fun hj => keep3 (keep2 (keep1 hj))
  have M0 : Mem2 x h.next h1.next (h1.next + 1) h2.next 0 s h3 := ⟨keep3 gla, keep3 gka, k M.g5, k M.g6, k k7, k k8, keep3 (keep2 g11'), gd, kg.frame (fun q l t z hq => by rw [k hq, hq]) (by omega), hb3, old3⟩
  have n6 := ok.n6
  have n7 := ok.n7
  have n8 := ok.n8
  have a5lt := M.hb _ _ M.g5
  have a6lt := M.hb _ _ M.g6
  have a7lt := M.hb _ _ k7
  have a8lt := M.hb _ _ k8
  let J : Nat → AHeap → Prop := fun n hh => Mem2 x h.next h1.next (h1.next + 1) h2.next n s hh ∧ hh.get (h2.next + 1) = some (.loop .ready none 4 97 tm1 [54] asg body h2.next)
  let D : AHeap → Prop := fun hh => ∃ n, Int.ofNat n = x.stop ∧ Mem2 x h.next h1.next (h1.next + 1) h2.next n s hh ∧ hh.get (h2.next + 1) = some (.loop .done (some (.exit 2)) 4 97 tm1 [54] asg body h2.next)
  have hrow : ∀ {hh : AHeap}, Old x.n0 x.h0 hh → RowIn hh x.q x.lv x.L := fun {hh} ho => M.row.frame ((ho.get _ ok.q).trans (M.old.get _ ok.q).symm)
  have hrun := of1_fun (c := callC T3 disp K (d + 2) false) (r := callC T3 disp K (d + 2) true) (l := h2.next + 1) (la := h1.next) (ka := h1.next + 1) (q := x.q) (lv := x.lv) (kind := x.kind) hK J D
    (fun n hh hJ => ⟨hrow hJ.1.old, hJ.1.la, hJ.1.ka, hJ.1.hb _ _ hJ.1.la, hJ.1.hb _ _ hJ.1.ka, Nat.lt_of_lt_of_le ok.q hJ.1.old.next⟩)
    (fun n hh o o' hJ => ⟨hJ.1.newput o o', by rw [get_newput o o' (hJ.1.hb _ _ hJ.2)]; exact hJ.2⟩)
    (fun n hh f hJ hf => by
      rw [callC_round]
      rcases round4 ok (c := callC T3 disp K (d + 1) false) (r := callC T3 disp K (d + 1) true) (K := K) hasg hbody T1 u11 hJ.1 hJ.2 (by omega) (by omega) ⟨by omega, by omega, by omega, by omega, by omega, by omega⟩ hf with ⟨_, h', a, b, c⟩ | ⟨e, h', a, b, c⟩
      · exact .inl ⟨h', a, b, c⟩
      · exact .inr ⟨h', a, n + 1, e, b, c⟩)
    (h := h3) ⟨M0, gl⟩
  obtain ⟨h4, hr4, hend⟩ := hrun
  rw [callC_at h49, hr4]
  rcases hend with ⟨M4, gl4⟩ | ⟨n, hn, M4, gl4⟩
  · rw [behindC_on gl4]
    exact tail4 h13 h14 h49 ok hK hK5 (hrow (M4.putl gl4 (by omega) _).old) (M4.putl gl4 (by omega) _) T1 u11 (by omega) (.inl rfl)
  · rw [behindC_exit gl4]
    rw [envC_cons, show Nat.beq 2 2 = true from rfl, cnd_true]
    exact tail4 h13 h14 h49 ok hK hK5 (hrow (M4.putl gl4 (by omega) _).old) (M4.putl gl4 (by omega) _) T1 u11 (by omega) (.inr hn)
end

section
variable {r : Caller} {K : Nat} {disp : Nat → Option FT} (h12 : ∀ d h, callC T3 disp K (d + 1) false 12 [] h = some (.bool true, h)) (h13 : disp 13 = some F13) (h14 : disp 14 = some F14) (h49 : disp 49 = some F49) {d : Nat} (hK5 : 200 < K)
include h12 h13 h14 h49 hK5
theorem law4 {h : AHeap} {q : Nat} {lv : EV} {L : List Fd} {kind stop : Int} (hrow : RowIn h q lv L) (hq : q < h.next) (hb : HB h) :
    ∃ h', F4 (callC T3 disp K (d + 3) false) r K [lv, I kind, I stop] h = some (.bool true, h') ∧ Old h.next h h' := by
  obtain ⟨hpl, hce⟩ := plain_row hrow
  unfold F4
  rw [funC_at (by simp)]
  simp only [setArgs, boxK_eq, g2_t, tmp_putS, reduceIte, Nat.reduceEqDiff, Nat.succ_eq_add_one, Nat.reduceAdd, I, plain_int, cells_int, cnd_true, put_eq, p5_t, allocK_eq, p6_t, callK_eq, h12, oB_s, pairK_eq, p16_t, notK_eq, g16_t, onB_bool, p17_t, condC_eq, g17_t, cnd_false, F4j23, mv_eq, g0_t, p18_t, lenK_eq, g18_t, hrow.len, p19_t, intK_eq, g19_t, constE_eq, intE_i64, gGtr_eq, lt_nat, p20_t, g20_t, cnd_dec]
  have e1 : (h.new (.cells [EV.int .i64 stop] 3)).next = h.next + 1 := rfl
  by_cases hlen : 100 < L.length
  · rw [if_pos hlen]
    have g6' : ((h.new (.cells [EV.int .i64 stop] 3)).new (.cells [EV.bool false] 4)).get (h.new (.cells [EV.int .i64 stop] 3)).next = some (.cells [.bool false] 4) := get_new_same _ _
    simp only [storeK_eq, g6_t, tmp_putS, reduceIte, Nat.reduceEqDiff, constE_eq, stE_ptr, plain_bool, cells_bool, lenR_one, cnd_true]
    rw [show Nat.beq 1 1 = true from rfl, cnd_true, turnRow_cells g6', laidR_one, oB_s, dropS_eq]
    refine (fun ⟨h', a, b, c⟩ => ⟨h', a, fun j hj => ?_, ?_⟩) (retC_cell (T := T3) (ds := []) (a := 6) (ty := 4) (q := (h.new (.cells [EV.int .i64 stop] 3)).next) (v := .bool true) (ty' := 4) (by simp only [tmp_putS, reduceIte, Nat.reduceEqDiff]) T3_size4 T3_agg4 List.nodup_nil (fun e he => by cases he) (by simp) (get_put_same _ _ _))
    · rw [b j (by simp), get_put_ne _ (by omega), get_new_lt _ (by omega), get_new_lt _ hj]
    · rw [c]; show h.next ≤ h.next + 1 + 1; omega
  · rw [if_neg hlen]
    have hbv : ∀ tm, buildV (evenP 1) [(.int .i64 (.ofNat 0)), (.int .i64 (.ofNat 0)), (.int .i64 (.ofNat 0)), (.int .i64 (.ofNat 0)), (.int .i64 (.ofNat 0)), (.int .i64 (.ofNat 0))] (fun tm => []) tm = some (.agg [N 0, N 0, N 0, N 0, N 0, N 0]) := fun tm => rfl
    have hz : cntL ([] : List Fd) = [N 0, N 0, N 0, N 0, N 0, N 0] := rfl
    let x : Fix := ⟨h.next, q, h.next, h.next + 1, h.next + 2, h.next + 3, lv, L, kind, stop, h⟩
    have ok : x.Ok := ⟨hq, Nat.le_refl _, Nat.le_succ _, Nat.le_add_right _ 2, Nat.le_add_right _ 3, by show h.next ≠ h.next + 1; omega, by show h.next ≠ h.next + 2; omega, by show h.next ≠ h.next + 3; omega, by show h.next + 1 ≠ h.next + 2; omega, by show h.next + 1 ≠ h.next + 3; omega, by show h.next + 2 ≠ h.next + 3; omega, by show L.length ≤ 100; omega⟩
    generalize hh1 : ((h.new (.cells [EV.int .i64 stop] 3)).new (.cells [EV.bool false] 4)).new (.cells [.nilslice] 48) = h1
    have n1 : h1.next = h.next + 3 := by rw [← hh1]; rfl
    have gn : (h1.new (.cells [N 0, N 0, N 0, N 0, N 0, N 0] 49)).get h1.next = some (.cells [N 0, N 0, N 0, N 0, N 0, N 0] 49) := get_new_same _ _
    simp only [F4j22, allocK_eq, put_eq, p7_t, valK_eq, hbv, oB_s, p21_t, storeK_eq, g8_t, p8_t, tmp_putS, reduceIte, Nat.reduceEqDiff, g21_t, stE_ptr, plain_agg, cells_agg, cnd_true]
    rw [hh1, show (lenR [N 0, N 0, N 0, N 0, N 0, N 0]).beq 6 = true from rfl, cnd_true, turnRow_cells (by simpa [N] using gn), laidR_all (by rfl), oB_s]
    simp only [dropS_eq, mv_eq, g0_t, tmp_putS, reduceIte, Nat.reduceEqDiff, p22_t, lenK_eq, g22_t, hrow.len, oB_s, put_eq, p23_t, constE_eq, p24_t]
    have hb1 : HB h1 := by rw [← hh1]; exact ((hb.new _).new _).new _
    have old1 : Old h.next h h1 := by rw [← hh1]; exact (((Old.refl h).new _).new _).new _
    have k5 : h1.get h.next = some (.cells [I stop] 3) := by
      rw [← hh1, get_new_lt _ (show h.next < _ from by show h.next < h.next + 1 + 1; omega), get_new_lt _ (Nat.lt_succ_self _), get_new_same]
    have k6 : h1.get (h.next + 1) = some (.cells [.bool false] 4) := by
      rw [← hh1, get_new_lt _ (show h.next + 1 < _ from by show h.next + 1 < h.next + 1 + 1; omega)]; exact get_new_same (h.new (.cells [EV.int .i64 stop] 3)) _
    have k7 : h1.get (h.next + 2) = some (.cells [.nilslice] 48) := by rw [← hh1]; exact get_new_same ((h.new (.cells [EV.int .i64 stop] 3)).new (.cells [EV.bool false] 4)) _
    refine first_loop (x := x) ok (Q := fun R => ∃ h', R = some (.bool true, h') ∧ Old h.next h h') (fun tm hh T M => middle4 (x := x) h13 h14 h49 ok (by show L.length < K; omega) hK5 tm hh T M) K 0 _ _ (by show L.length - 0 < K; omega) (by omega) ⟨?_, ?_, ?_, ?_, ?_, ?_⟩ ?_ ?_ ?_ ⟨hrow.frame ?_, ?_, ?_, ⟨.nilslice, ?_, .inl ⟨rfl, rfl⟩⟩, ?_, hb1.newput _ _, old1.newput _ _⟩
    · simp only [tmp_putS, reduceIte, Nat.reduceEqDiff] <;> try rfl
    · simp only [tmp_putS, reduceIte, Nat.reduceEqDiff] <;> try rfl
    · simp only [tmp_putS, reduceIte, Nat.reduceEqDiff] <;> try rfl
    · simp only [tmp_putS, reduceIte, Nat.reduceEqDiff] <;> try rfl
    · simp only [tmp_putS, reduceIte, Nat.reduceEqDiff] <;> try rfl
    · simp only [tmp_putS, reduceIte, Nat.reduceEqDiff]; show EV.ptr h1.next 0 = EV.ptr (h.next + 3) 0; rw [n1]
    · simp only [tmp_putS, reduceIte, Nat.reduceEqDiff] <;> try rfl
    · simp only [tmp_putS, reduceIte, Nat.reduceEqDiff] <;> try rfl
    · simp only [tmp_putS, reduceIte, Nat.reduceEqDiff] <;> try rfl
    · rw [get_newput _ _ (by omega), old1.get q hq]
    · rw [get_newput _ _ (by show h.next < _; omega)]; exact k5
    · rw [get_newput _ _ (by show h.next + 1 < _; omega)]; exact k6
    · rw [get_newput _ _ (by show h.next + 2 < _; omega)]; exact k7
    · show _ = some (AObj.cells (cntL (L.take 0)) 49)
      rw [show x.a8 = h1.next from n1.symm, get_put_same]; rfl
end
end Go.Ev

namespace Go.Ev
open Go.Proofs
set_option maxRecDepth 100000

noncomputable def hookT : FT := fun _ _ _ args h => @List.rec EV (fun _ => R) (some (.bool true, h)) (fun _ _ _ => none) args
theorem hookT_ok : FtOk Tryz.prog 12 hookT := by
  intro call round K _ _ args h v h' e
  have hs := (callC_ok T3_ok disp26_ok many 60).1
  obtain ⟨h0, hr⟩ := isTrue_spec anchor26
  obtain ⟨fn, hf, hb, hn⟩ := (hs 12 [] _ _ _ hr).fn
  obtain ⟨k1, k2⟩ := hookOne_ok (P := Tryz.prog) (g := 12) (v := .bool true) (V := .bool true) (fun _ => rfl) (fun p => trivial) hf hb hn anchor26_calls
  cases args with
  | nil => exact Sound.of k1 k2 12 [] h v h' e
  | cons a r => cases e
noncomputable def dispK : Nat → Option FT := fun f => cnd (Nat.beq f 12) (some hookT) (disp26 f)
theorem dispK_ok : ∀ g F, dispK g = some F → FtOk Tryz.prog g F := disp_cons disp26_ok hookT_ok
theorem dispK12 : dispK 12 = some hookT := by kernel_rfl
theorem dispK13 : dispK 13 = some F13 := by kernel_rfl
theorem dispK14 : dispK 14 = some F14 := by kernel_rfl
theorem dispK49 : dispK 49 = some F49 := by kernel_rfl
theorem dispK4 : dispK 4 = some F4 := by kernel_rfl

theorem run4 {h : AHeap} {q : Nat} {lv : EV} {L : List Fd} (kind stop : Int) (hrow : RowIn h q lv L) (hq : q < h.next) (hb : HB h) :
    ∃ h', Good Tryz.prog 4 [lv, I kind, I stop] h (.bool true) h' ∧ Old h.next h h' := by
  have h12 : ∀ d h, callC T3 dispK many (d + 1) false 12 [] h = some (.bool true, h) := fun d h => by rw [callC_at dispK12]; rfl
  obtain ⟨h', h1, h2⟩ := law4 (disp := dispK) (K := many) (d := 0) (r := callC T3 dispK many 3 true) h12 dispK13 dispK14 dispK49 (by unfold many; omega) (kind := kind) (stop := stop) hrow hq hb
  refine ⟨h', (callC_ok T3_ok dispK_ok many 4).1 4 _ _ _ _ ?_, h2⟩
  rw [show (4 : Nat) = 3 + 1 from rfl, callC_at (show dispK (3 + 1) = some F4 from dispK4)]
  exact h1

/-- In the machine: nothing is handed in. -/
theorem kinds_nil (kind stop : Int) (w : World) : Calls Tryz.prog 4 #[.slice none 0 0, .int .i64 kind, .int .i64 stop] w fun e w' => e = .returned (.bool true) ∧ RowKit.Below w.heap.size w w' := by
  obtain ⟨h', G, _⟩ := run4 (h := ⟨.nil, 1, 1⟩) (q := 0) (lv := .nilslice) (L := []) kind stop ⟨rfl, fun i f hf => by simp at hf, by simp⟩ (Nat.lt_succ_self 0) (fun q o e => by cases e)
  intro cs
  obtain ⟨fr, f', w', hs, hfr, hl, hm, hwf, hvo⟩ := G.run (fun _ => False) ⟨fun _ => 0, fun _ => 0⟩ w (hok_none 1 1) (rep_none _ _ 1 1) ⟨trivial, trivial, trivial, trivial⟩ cs
  exact ⟨.returned (.bool true), w', fr, ⟨rfl, hm.os, hm.tape, hm.output, hm.size, fun k hk => hm.kept k hk (fun i o hi => (by cases hi))⟩, hs, hfr, hl⟩

/-- A row is handed in. -/
theorem kinds_row (kind stop : Int) (w : World) (b off len cap : Nat) (L : List Fd) (hL : L.length = len) (hsmall : len < 9223372036854775808) {arr : Array Value} {e : TypeId} {fr : Nat × Nat} (hw : w.heap[b]? = some (.cells arr e fr))
    (hc : ∀ i f, L[i]? = some f → arr[off + (i * 3 + 0)]? = some (.int .i64 f.1) ∧ arr[off + (i * 3 + 1)]? = some (.int .i64 f.2.1) ∧ arr[off + (i * 3 + 2)]? = some (.int .i64 f.2.2)) :
    Calls Tryz.prog 4 #[.slice (some ⟨b, off, none⟩) len cap, .int .i64 kind, .int .i64 stop] w fun e w' => e = .returned (.bool true) ∧ RowKit.Below w.heap.size w w' := by
  have hg : (⟨Tr.put .nil 0 (some (.view off (fdL L) (.cells arr e fr))), 1, 1⟩ : AHeap).get 0 = some (.view off (fdL L) (.cells arr e fr)) := by
    show (Tr.put Tr.nil 0 (some (AObj.view off (fdL L) (.cells arr e fr)))).get 0 = _
    exact Tr.get_put_same _ _ _
  have honly : ∀ q o, (⟨Tr.put .nil 0 (some (.view off (fdL L) (.cells arr e fr))), 1, 1⟩ : AHeap).get q = some o → q = 0 ∧ o = .view off (fdL L) (.cells arr e fr) := by
    intro q o ho
    have : (Tr.put Tr.nil 0 (some (AObj.view off (fdL L) (.cells arr e fr)))).get q = some o := ho
    rw [Tr.get_put] at this
    split at this
    · rename_i hq; cases this; exact ⟨hq.symm, rfl⟩
    · cases this
  have hone : ∀ l : List Fd, (fdL l).all EV.one = true ∧ (∀ p, EV.okL p (fdL l)) := by
    intro l
    induction l with
    | nil => exact ⟨rfl, fun _ => trivial⟩
    | cons a r ih =>
      rw [fdL_cons]
      refine ⟨by rw [List.all_append, ih.1]; rfl, fun p => ⟨trivial, trivial, trivial, ih.2 p⟩⟩
  have hcell : ∀ (l : List Fd) (k : Nat) (j : Nat) v, (∀ i f, l[i]? = some f → arr[off + ((k + i) * 3 + 0)]? = some (.int .i64 f.1) ∧ arr[off + ((k + i) * 3 + 1)]? = some (.int .i64 f.2.1) ∧ arr[off + ((k + i) * 3 + 2)]? = some (.int .i64 f.2.2)) →
      (fdL l)[j]? = some v → arr[off + (k * 3 + j)]? = some (toV ⟨fun _ => b, fun _ => 0⟩ v) := by
    intro l
    induction l with
    | nil => intro k j v _ hj; simp [fdL] at hj
    | cons a r ih =>
      intro k j v hl hj
      rw [fdL_cons] at hj
      obtain ⟨c0, c1, c2⟩ := hl 0 a rfl
      match j, hj with
      | 0, hj => cases hj; exact c0
      | 1, hj => cases hj; exact c1
      | 2, hj => cases hj; exact c2
      | j + 3, hj =>
        have hj' : (fdL r)[j]? = some v := by
          rw [List.getElem?_append_right (by simp [fdV])] at hj
          simpa [fdV] using hj
        have := ih (k + 1) j v (fun i f hf => by
          have := hl (i + 1) f (by simpa using hf)
          rw [show k + (i + 1) = k + 1 + i by omega] at this; exact this) hj'
        rw [show k * 3 + (j + 3) = (k + 1) * 3 + j by omega]; exact this
  obtain ⟨h', G, ho⟩ := run4 (h := ⟨Tr.put .nil 0 (some (.view off (fdL L) (.cells arr e fr))), 1, 1⟩) (q := 0) (lv := .slice 0 off len cap false) (L := L) kind stop
    ⟨by rw [hL]; rfl, fun i f hf => ⟨off, len, cap, false, rfl, by rw [← hL]; exact (List.getElem?_eq_some_iff.1 hf).1, by
      rw [hg]
      show cnd (Nat.ble off (off + i * 3)) (cutR (fdL L) (Nat.sub (off + i * 3) off) 3) none = _
      rw [Nat.ble_eq_true_of_le (by omega), cnd_true, show Nat.sub (off + i * 3) off = i * 3 from by show off + i * 3 - off = i * 3; omega]
      have := cut_fd [] hf
      rwa [List.append_nil] at this⟩, by omega⟩ (Nat.lt_succ_self 0) (fun q o e => by rw [(honly q o e).1]; exact Nat.lt_succ_self 0)
  intro cs
  have hrep : Rep ⟨fun _ => b, fun _ => 0⟩ ⟨Tr.put .nil 0 (some (.view off (fdL L) (.cells arr e fr))), 1, 1⟩ w := by
    refine ⟨fun i o hi => ?_, fun i j o o' hi hj _ => ?_⟩
    · obtain ⟨_, rfl⟩ := honly i o hi
      refine ⟨_, hw, rfl, arr, e, fr, rfl, fun j v hj => ?_⟩
      have := hcell L 0 j v (fun i f hf => by rw [Nat.zero_add]; exact hc i f hf) hj
      rw [Nat.zero_mul, Nat.zero_add] at this; exact this
    · rw [(honly i o hi).1, (honly j o' hj).1]
  have hhok : HOk (fun i => i = 0) ⟨Tr.put .nil 0 (some (.view off (fdL L) (.cells arr e fr))), 1, 1⟩ := by
    refine ⟨fun i hi => by rw [hi]; exact Nat.lt_succ_self 0, fun i o hi => ?_⟩
    obtain ⟨a, rfl⟩ := honly i o hi
    exact ⟨a, (hone L).2 _, (hone L).1⟩
  obtain ⟨fr', f', w', hs, hfr, hl, hm, hwf, hvo⟩ := G.run (fun i => i = 0) ⟨fun _ => b, fun _ => 0⟩ w hhok hrep ⟨rfl, trivial, trivial, trivial⟩ cs
  refine ⟨.returned (.bool true), w', fr', ⟨rfl, hm.os, hm.tape, hm.output, hm.size, fun k hk => ?_⟩, hs, hfr, hl⟩
  by_cases hk' : k = b
  · subst hk'
    have h0' : h'.get 0 = some (.view off (fdL L) (.cells arr e fr)) := by rw [ho.get 0 (Nat.lt_succ_self 0)]; exact hg
    obtain ⟨r, hr1, hr2, _⟩ := hm.rep.obj 0 _ h0'
    have hb0 : f'.b 0 = k := (hm.agree 0 rfl).1.symm
    rw [hb0] at hr1
    rw [hr1, hr2, hw]
  · exact hm.kept k hk (fun i o hi e => hk' e.symm)
end Go.Ev
