/- Direct style; printed by GenD.lean. -/
import Derived.Test.YtpkcfamminlmaaaGreatDir
set_option linter.unusedVariables false
set_option linter.unusedSimpArgs false
set_option linter.unusedSectionVars false
namespace Go.Ev
open Go.Proofs
set_option maxRecDepth 100000
set_option maxHeartbeats 4000000
noncomputable section
variable {disp : Nat → Option FT} {K d : Nat}
/-! 14 (*revetment/mirror.Mirror).Pool -/
def mirror_Mirror_Pool (K : Nat) (v0 : EV) (h : AHeap) : R :=
  nilE v0 fun v4 =>
  offE 263 v4 fun v5 =>
  ld1E v5 h fun v6 =>
  some (v6, h)
theorem mirror_Mirror_Pool_run (H : Agree disp) (hd : 1 ≤ d) (v0 : EV) (h : AHeap) : callC TT disp K d false 14 [v0] h = mirror_Mirror_Pool K v0 h := by
  obtain ⟨d, rfl⟩ : ∃ e, d = e + 1 := ⟨d - 1, by omega⟩
  have hd : 0 ≤ d := Nat.le_of_succ_le_succ hd
  rw [callC_at ((H.plain 14 rfl).trans (show disp3 14 = some F14 by kernel_rfl))]
  unfold F14
  rw [funC_at (by simp)]
  simp only [mirror_Mirror_Pool, F14ret, dd, ↓reduceIte, Nat.reduceEqDiff, Int.reduceOfNat, Int.reduceNegSucc, tt0]

/-! 28 (*revetment/mirror.Mirror).Open -/
def mirror_Mirror_Open (K : Nat) (v0 : EV) (h : AHeap) : R :=
  nilE v0 fun v6 =>
  offE 265 v6 fun v7 =>
  ld1E v7 h fun v8 =>
  nilE v0 fun v10 =>
  offE 266 v10 fun v11 =>
  ld1E v11 h fun v12 =>
  nilE v0 fun v14 =>
  offE 267 v14 fun v15 =>
  ld1E v15 h fun v16 =>
  resE TT [.v v8, .v v12, .v v16] h
theorem mirror_Mirror_Open_run (H : Agree disp) (hd : 1 ≤ d) (v0 : EV) (h : AHeap) : callC TT disp K d false 28 [v0] h = mirror_Mirror_Open K v0 h := by
  obtain ⟨d, rfl⟩ : ∃ e, d = e + 1 := ⟨d - 1, by omega⟩
  have hd : 0 ≤ d := Nat.le_of_succ_le_succ hd
  rw [callC_at ((H.plain 28 rfl).trans (show disp3 28 = some F28 by kernel_rfl))]
  unfold F28
  rw [funC_at (by simp)]
  simp only [mirror_Mirror_Open, F28ret, dd, ↓reduceIte, Nat.reduceEqDiff, Int.reduceOfNat, Int.reduceNegSucc, tt0]

/-! 30 (*revetment/mirror.Mirror).Geom -/
def mirror_Mirror_Geom (K : Nat) (v0 : EV) (h : AHeap) : R :=
  newE (.cells [(.int .i64 0), (.int .i64 0), (.int .i64 0), (.int .i64 0), (.int .i64 0), (.int .i64 0)] 23) h fun v2 h =>
  nilE v0 fun v4 =>
  offE 1 v4 fun v5 =>
  ldNE 6 v5 h fun v6 =>
  stE 6 v2 v6 h fun h =>
  resE TT [.c v2 23] h
theorem mirror_Mirror_Geom_run (H : Agree disp) (hd : 1 ≤ d) (v0 : EV) (h : AHeap) : callC TT disp K d false 30 [v0] h = mirror_Mirror_Geom K v0 h := by
  obtain ⟨d, rfl⟩ : ∃ e, d = e + 1 := ⟨d - 1, by omega⟩
  have hd : 0 ≤ d := Nat.le_of_succ_le_succ hd
  rw [callC_at ((H.plain 30 rfl).trans (show disp3 30 = some F30 by kernel_rfl))]
  unfold F30
  rw [funC_at (by simp)]
  simp only [mirror_Mirror_Geom, F30ret, dd, ↓reduceIte, Nat.reduceEqDiff, Int.reduceOfNat, Int.reduceNegSucc, tt0]

/-! 31 (*revetment/mirror.Mirror).Drive -/
def mirror_Mirror_Drive (K : Nat) (v0 : EV) (h : AHeap) : R :=
  nilE v0 fun v4 =>
  offE 0 v4 fun v5 =>
  ld1E v5 h fun v6 =>
  some (v6, h)
theorem mirror_Mirror_Drive_run (H : Agree disp) (hd : 1 ≤ d) (v0 : EV) (h : AHeap) : callC TT disp K d false 31 [v0] h = mirror_Mirror_Drive K v0 h := by
  obtain ⟨d, rfl⟩ : ∃ e, d = e + 1 := ⟨d - 1, by omega⟩
  have hd : 0 ≤ d := Nat.le_of_succ_le_succ hd
  rw [callC_at ((H.plain 31 rfl).trans (show disp3 31 = some F31 by kernel_rfl))]
  unfold F31
  rw [funC_at (by simp)]
  simp only [mirror_Mirror_Drive, F31ret, dd, ↓reduceIte, Nat.reduceEqDiff, Int.reduceOfNat, Int.reduceNegSucc, tt0]

/-! 32 (*revetment/mirror.Mirror).Table -/
def mirror_Mirror_Table (K : Nat) (v0 : EV) (h : AHeap) : R :=
  newE (.cells (List.replicate 256 (.int .u32 0)) 72) h fun v2 h =>
  nilE v0 fun v4 =>
  offE 7 v4 fun v5 =>
  ldNE 256 v5 h fun v6 =>
  stE 256 v2 v6 h fun h =>
  resE TT [.c v2 72] h
theorem mirror_Mirror_Table_run (H : Agree disp) (hd : 1 ≤ d) (v0 : EV) (h : AHeap) : callC TT disp K d false 32 [v0] h = mirror_Mirror_Table K v0 h := by
  obtain ⟨d, rfl⟩ : ∃ e, d = e + 1 := ⟨d - 1, by omega⟩
  have hd : 0 ≤ d := Nat.le_of_succ_le_succ hd
  rw [callC_at ((H.plain 32 rfl).trans (show disp3 32 = some F32 by kernel_rfl))]
  unfold F32
  rw [funC_at (by simp)]
  simp only [mirror_Mirror_Table, F32ret, dd, ↓reduceIte, Nat.reduceEqDiff, Int.reduceOfNat, Int.reduceNegSucc, tt0]

/-! 36 (*revetment/plan.Drive).Device -/
def plan_Drive_Device (K : Nat) (v0 : EV) (h : AHeap) : R :=
  nilE v0 fun v4 =>
  offE 0 v4 fun v5 =>
  ld1E v5 h fun v6 =>
  some (v6, h)
theorem plan_Drive_Device_run (H : Agree disp) (hd : 1 ≤ d) (v0 : EV) (h : AHeap) : callC TT disp K d false 36 [v0] h = plan_Drive_Device K v0 h := by
  obtain ⟨d, rfl⟩ : ∃ e, d = e + 1 := ⟨d - 1, by omega⟩
  have hd : 0 ≤ d := Nat.le_of_succ_le_succ hd
  rw [callC_at ((H.plain 36 rfl).trans (show disp3 36 = some F36 by kernel_rfl))]
  unfold F36
  rw [funC_at (by simp)]
  simp only [plan_Drive_Device, F36ret, dd, ↓reduceIte, Nat.reduceEqDiff, Int.reduceOfNat, Int.reduceNegSucc, tt0]

/-! 63 (revetment/geom.Geom).All -/
def geom_Geom_All (K : Nat) (v0 : EV) (h : AHeap) : R :=
  boxE 23 v0 h fun v1 h =>
  offE 0 v1 fun v3 =>
  ld1E v3 h fun v4 =>
  offE 1 v1 fun v5 =>
  ld1E v5 h fun v6 =>
  intE gMul (bin TT .mul 3) v4 v6 fun v7 =>
  some (v7, h)
theorem geom_Geom_All_run (H : Agree disp) (hd : 1 ≤ d) (v0 : EV) (h : AHeap) : callC TT disp K d false 63 [v0] h = geom_Geom_All K v0 h := by
  obtain ⟨d, rfl⟩ : ∃ e, d = e + 1 := ⟨d - 1, by omega⟩
  have hd : 0 ≤ d := Nat.le_of_succ_le_succ hd
  rw [callC_at ((H.plain 63 rfl).trans (show disp3 63 = some F63 by kernel_rfl))]
  unfold F63
  rw [funC_at (by simp)]
  simp only [geom_Geom_All, F63ret, dd, ↓reduceIte, Nat.reduceEqDiff, Int.reduceOfNat, Int.reduceNegSucc, tt0]

/-! 71 (*revetment/queue.Queue[int]).Len -/
def queue_Queue_Len (K : Nat) (v0 : EV) (h : AHeap) : R :=
  nilE v0 fun v4 =>
  offE 0 v4 fun v5 =>
  ld1E v5 h fun v6 =>
  andE (lenChE v6 h) fun v7 h =>
  some (v7, h)
theorem queue_Queue_Len_run (H : Agree disp) (hd : 1 ≤ d) (v0 : EV) (h : AHeap) : callC TT disp K d false 71 [v0] h = queue_Queue_Len K v0 h := by
  obtain ⟨d, rfl⟩ : ∃ e, d = e + 1 := ⟨d - 1, by omega⟩
  have hd : 0 ≤ d := Nat.le_of_succ_le_succ hd
  rw [callC_at ((H.plain 71 rfl).trans (show disp3 71 = some F71 by kernel_rfl))]
  unfold F71
  rw [funC_at (by simp)]
  simp only [queue_Queue_Len, F71ret, dd, ↓reduceIte, Nat.reduceEqDiff, Int.reduceOfNat, Int.reduceNegSucc, tt0]

/-! 74 (*revetment/zdev.Device).Zones -/
def zdev_Device_Zones (K : Nat) (v0 : EV) (h : AHeap) : R :=
  nilE v0 fun v4 =>
  offE 0 v4 fun v5 =>
  ld1E v5 h fun v6 =>
  lenE v6 fun v7 =>
  some (v7, h)
theorem zdev_Device_Zones_run (H : Agree disp) (hd : 1 ≤ d) (v0 : EV) (h : AHeap) : callC TT disp K d false 74 [v0] h = zdev_Device_Zones K v0 h := by
  obtain ⟨d, rfl⟩ : ∃ e, d = e + 1 := ⟨d - 1, by omega⟩
  have hd : 0 ≤ d := Nat.le_of_succ_le_succ hd
  rw [callC_at ((H.plain 74 rfl).trans (show disp3 74 = some F74 by kernel_rfl))]
  unfold F74
  rw [funC_at (by simp)]
  simp only [zdev_Device_Zones, F74ret, dd, ↓reduceIte, Nat.reduceEqDiff, Int.reduceOfNat, Int.reduceNegSucc, tt0]

/-! 75 (*revetment/zdev.Device).Size -/
def zdev_Device_Size (K : Nat) (v0 : EV) (h : AHeap) : R :=
  nilE v0 fun v4 =>
  offE 1 v4 fun v5 =>
  ld1E v5 h fun v6 =>
  some (v6, h)
theorem zdev_Device_Size_run (H : Agree disp) (hd : 1 ≤ d) (v0 : EV) (h : AHeap) : callC TT disp K d false 75 [v0] h = zdev_Device_Size K v0 h := by
  obtain ⟨d, rfl⟩ : ∃ e, d = e + 1 := ⟨d - 1, by omega⟩
  have hd : 0 ≤ d := Nat.le_of_succ_le_succ hd
  rw [callC_at ((H.plain 75 rfl).trans (show disp3 75 = some F75 by kernel_rfl))]
  unfold F75
  rw [funC_at (by simp)]
  simp only [zdev_Device_Size, F75ret, dd, ↓reduceIte, Nat.reduceEqDiff, Int.reduceOfNat, Int.reduceNegSucc, tt0]

/-! 76 (revetment/revetmentref05.G).Parts -/
def revetmentref05_G_Parts_j0 (K : Nat) (v3 : EV) (h : AHeap) : R :=
  some (v3, h)
theorem revetmentref05_G_Parts_j0_d (H : Agree disp) (hd : 0 ≤ d) (tm : Tmps) (h : AHeap) : F76j0 (callC TT disp K d false) (callC TT disp K d true) K tm h [] = revetmentref05_G_Parts_j0 K (tmp tm 3) h := by
  simp only [F76j0, revetmentref05_G_Parts_j0, F76ret, dd, ↓reduceIte, Nat.reduceEqDiff, Int.reduceOfNat, Int.reduceNegSucc, tt0]
def revetmentref05_G_Parts_j2 (K : Nat) (ih1_ : EV → EV → EV → AHeap → R) (v1 : EV) (v3 : EV) (v4 : EV) (h : AHeap) : R :=
  intE gAdd (bin TT .add 3) v4 (.int .i64 2) fun v10 =>
  ih1_ v1 v3 v10 h
theorem revetmentref05_G_Parts_j2_d (H : Agree disp) (hd : 0 ≤ d) {ih1_ : CF} {ih1_' : EV → EV → EV → AHeap → R} (hih1_ : ∀ tm h, ih1_ tm h [] = ih1_' (tmp tm 1) (tmp tm 3) (tmp tm 4) h) (tm : Tmps) (h : AHeap) : F76j2 (callC TT disp K d false) (callC TT disp K d true) K ih1_ tm h [] = revetmentref05_G_Parts_j2 K ih1_' (tmp tm 1) (tmp tm 3) (tmp tm 4) h := by
  simp only [F76j2, revetmentref05_G_Parts_j2, F76ret, dd, ↓reduceIte, Nat.reduceEqDiff, Int.reduceOfNat, Int.reduceNegSucc, hih1_, tt0]
def revetmentref05_G_Parts_j3 (K : Nat) (ih1_ : EV → EV → EV → AHeap → R) (v1 : EV) (v3 : EV) (v4 : EV) (h : AHeap) : R :=
  intE gAdd (bin TT .add 3) v3 (.int .i64 1) fun v12 =>
  revetmentref05_G_Parts_j2 K ih1_ v1 v12 v4 h
theorem revetmentref05_G_Parts_j3_d (H : Agree disp) (hd : 0 ≤ d) {ih1_ : CF} {ih1_' : EV → EV → EV → AHeap → R} (hih1_ : ∀ tm h, ih1_ tm h [] = ih1_' (tmp tm 1) (tmp tm 3) (tmp tm 4) h) (tm : Tmps) (h : AHeap) : F76j3 (callC TT disp K d false) (callC TT disp K d true) K ih1_ tm h [] = revetmentref05_G_Parts_j3 K ih1_' (tmp tm 1) (tmp tm 3) (tmp tm 4) h := by
  simp only [F76j3, revetmentref05_G_Parts_j3, F76ret, dd, ↓reduceIte, Nat.reduceEqDiff, Int.reduceOfNat, Int.reduceNegSucc, hih1_, revetmentref05_G_Parts_j2_d H hd hih1_, tt0]
def revetmentref05_G_Parts_b4 (K : Nat) : Nat → EV → EV → EV → AHeap → R
 | 0 => fun _ _ _ _ => none
 | m + 1 => fun v1 v3 v4 h =>
  offE 3 v1 fun v6 =>
  ld1E v6 h fun v7 =>
  intE gLss (bin TT .lss 3) v4 v7 fun v8 =>
  ifE v8
  (revetmentref05_G_Parts_j3 K (revetmentref05_G_Parts_b4 K m) v1 v3 v4 h)
  (revetmentref05_G_Parts_j0 K v3 h)
theorem revetmentref05_G_Parts_b4_d (H : Agree disp) (hd : 0 ≤ d) : ∀ (m : Nat) (tm : Tmps) (h : AHeap), loopC (F76b4 (callC TT disp K d false) (callC TT disp K d true) K) m tm h [] = revetmentref05_G_Parts_b4 K m (tmp tm 1) (tmp tm 3) (tmp tm 4) h := by
  intro m
  induction m with
  | zero => intros; rfl
  | succ m hih1_ =>
    intro tm h
    rw [loopC_succ]
    simp only [F76b4, revetmentref05_G_Parts_b4, F76ret, dd, ↓reduceIte, Nat.reduceEqDiff, Int.reduceOfNat, Int.reduceNegSucc, hih1_, revetmentref05_G_Parts_j3_d H hd hih1_, revetmentref05_G_Parts_j0_d H hd, tt0]
def revetmentref05_G_Parts (K : Nat) (v0 : EV) (h : AHeap) : R :=
  boxE 37 v0 h fun v1 h =>
  revetmentref05_G_Parts_b4 K K v1 (.int .i64 1) (.int .i64 0) h
theorem revetmentref05_G_Parts_run (H : Agree disp) (hd : 1 ≤ d) (v0 : EV) (h : AHeap) : callC TT disp K d false 76 [v0] h = revetmentref05_G_Parts K v0 h := by
  obtain ⟨d, rfl⟩ : ∃ e, d = e + 1 := ⟨d - 1, by omega⟩
  have hd : 0 ≤ d := Nat.le_of_succ_le_succ hd
  rw [callC_at ((H.plain 76 rfl).trans (show disp3 76 = some F76 by kernel_rfl))]
  unfold F76
  rw [funC_at (by simp)]
  simp only [revetmentref05_G_Parts, F76ret, dd, ↓reduceIte, Nat.reduceEqDiff, Int.reduceOfNat, Int.reduceNegSucc, revetmentref05_G_Parts_b4_d H hd, tt0]

/-! 78 (*revetment/pool.Pool).fullest -/
def pool_Pool_fullest_j0 (K : Nat) (v5 : EV) (h : AHeap) : R :=
  some (v5, h)
theorem pool_Pool_fullest_j0_d (H : Agree disp) (hd : 1 ≤ d) (tm : Tmps) (h : AHeap) : F78j0 (callC TT disp K d false) (callC TT disp K d true) K tm h [] = pool_Pool_fullest_j0 K (tmp tm 5) h := by
  simp only [F78j0, pool_Pool_fullest_j0, F78ret, dd, ↓reduceIte, Nat.reduceEqDiff, Int.reduceOfNat, Int.reduceNegSucc, tt0, tt1]
def pool_Pool_fullest_j2 (K : Nat) (ih1_ : EV → EV → EV → EV → EV → EV → AHeap → R) (v0 : EV) (v1 : EV) (v5 : EV) (v11 : EV) (v12 : EV) (v13 : EV) (h : AHeap) : R :=
  intE gAdd (bin TT .add 3) v13 (.int .i64 1) fun v39 =>
  ih1_ v0 v1 v5 v11 v12 v39 h
theorem pool_Pool_fullest_j2_d (H : Agree disp) (hd : 1 ≤ d) {ih1_ : CF} {ih1_' : EV → EV → EV → EV → EV → EV → AHeap → R} (hih1_ : ∀ tm h, ih1_ tm h [] = ih1_' (tmp tm 0) (tmp tm 1) (tmp tm 5) (tmp tm 11) (tmp tm 12) (tmp tm 13) h) (tm : Tmps) (h : AHeap) : F78j2 (callC TT disp K d false) (callC TT disp K d true) K ih1_ tm h [] = pool_Pool_fullest_j2 K ih1_' (tmp tm 0) (tmp tm 1) (tmp tm 5) (tmp tm 11) (tmp tm 12) (tmp tm 13) h := by
  simp only [F78j2, pool_Pool_fullest_j2, F78ret, dd, ↓reduceIte, Nat.reduceEqDiff, Int.reduceOfNat, Int.reduceNegSucc, hih1_, tt0, tt1]
def pool_Pool_fullest_j3 (K : Nat) (ih1_ : EV → EV → EV → EV → EV → EV → AHeap → R) (base : Nat) (s : DX) (v0 : EV) (v1 : EV) (v5 : EV) (v6 : EV) (v11 : EV) (v12 : EV) (v13 : EV) (v21 : EV) (v36 : EV) (h : AHeap) : R :=
  pickE v21 v36 (.bool false) fun v37 =>
  ifE v37
  (pool_Pool_fullest_j2 K ih1_ v0 v1 v6 v11 v12 v13 h)
  (pool_Pool_fullest_j2 K ih1_ v0 v1 v5 v11 v12 v13 h)
theorem pool_Pool_fullest_j3_d (H : Agree disp) (hd : 1 ≤ d) {ih1_ : CF} {ih1_' : EV → EV → EV → EV → EV → EV → AHeap → R} (hih1_ : ∀ tm h, ih1_ tm h [] = ih1_' (tmp tm 0) (tmp tm 1) (tmp tm 5) (tmp tm 11) (tmp tm 12) (tmp tm 13) h) (base : Nat) (s : DX) (tm : Tmps) (h : AHeap) : F78j3 (callC TT disp K d false) (callC TT disp K d true) K ih1_ base s tm h [] = pool_Pool_fullest_j3 K ih1_' base s (tmp tm 0) (tmp tm 1) (tmp tm 5) (tmp tm 6) (tmp tm 11) (tmp tm 12) (tmp tm 13) (tmp tm 21) (tmp tm 36) h := by
  simp only [F78j3, pool_Pool_fullest_j3, F78ret, dd, ↓reduceIte, Nat.reduceEqDiff, Int.reduceOfNat, Int.reduceNegSucc, hih1_, pool_Pool_fullest_j2_d H hd hih1_, tt0, tt1]
def pool_Pool_fullest_j4 (K : Nat) (ih1_ : EV → EV → EV → EV → EV → EV → AHeap → R) (base : Nat) (s : DX) (v0 : EV) (v1 : EV) (v5 : EV) (v6 : EV) (v11 : EV) (v12 : EV) (v13 : EV) (v21 : EV) (v24 : EV) (v35 : EV) (h : AHeap) : R :=
  cnd (wantE v21 true)
  (pickE v24 (.bool true) v35 fun v36 =>
  pool_Pool_fullest_j3 K ih1_ base s v0 v1 v5 v6 v11 v12 v13 v21 v36 h)
  (pool_Pool_fullest_j3 K ih1_ base s v0 v1 v5 v6 v11 v12 v13 v21 (.tuple []) h)
theorem pool_Pool_fullest_j4_d (H : Agree disp) (hd : 1 ≤ d) {ih1_ : CF} {ih1_' : EV → EV → EV → EV → EV → EV → AHeap → R} (hih1_ : ∀ tm h, ih1_ tm h [] = ih1_' (tmp tm 0) (tmp tm 1) (tmp tm 5) (tmp tm 11) (tmp tm 12) (tmp tm 13) h) (base : Nat) (s : DX) (tm : Tmps) (h : AHeap) : F78j4 (callC TT disp K d false) (callC TT disp K d true) K ih1_ base s tm h [] = pool_Pool_fullest_j4 K ih1_' base s (tmp tm 0) (tmp tm 1) (tmp tm 5) (tmp tm 6) (tmp tm 11) (tmp tm 12) (tmp tm 13) (tmp tm 21) (tmp tm 24) (tmp tm 35) h := by
  simp only [F78j4, pool_Pool_fullest_j4, F78ret, dd, ↓reduceIte, Nat.reduceEqDiff, Int.reduceOfNat, Int.reduceNegSucc, hih1_, pool_Pool_fullest_j3_d H hd hih1_, tt0, tt1]
def pool_Pool_fullest_j5 (K : Nat) (ih1_ : EV → EV → EV → EV → EV → EV → AHeap → R) (base : Nat) (s : DX) (v0 : EV) (v1 : EV) (v5 : EV) (v6 : EV) (v7 : EV) (v11 : EV) (v12 : EV) (v13 : EV) (v21 : EV) (v24 : EV) (h : AHeap) : R :=
  cnd (wantE v24 false)
  (bigE 8 255 s h (fun h => (queue_Queue_Len K v7 h)) fun v26 h s =>
  nilE v0 fun v28 =>
  offE 6 v28 fun v29 =>
  loadE 12 3711 base v29 s fun s => ld1E v29 h fun v30 =>
  ixSE 1 v30 v5 fun v32 =>
  loadE 15 32383 base v32 s fun s => ld1E v32 h fun v33 =>
  bigE 16 65535 s h (fun h => (queue_Queue_Len K v33 h)) fun v34 h s =>
  intE gGtr (bin TT .gtr 3) v26 v34 fun v35 =>
  pool_Pool_fullest_j4 K ih1_ base s v0 v1 v5 v6 v11 v12 v13 v21 v24 v35 h)
  (pool_Pool_fullest_j4 K ih1_ base s v0 v1 v5 v6 v11 v12 v13 v21 v24 (.tuple []) h)
theorem pool_Pool_fullest_j5_d (H : Agree disp) (hd : 1 ≤ d) {ih1_ : CF} {ih1_' : EV → EV → EV → EV → EV → EV → AHeap → R} (hih1_ : ∀ tm h, ih1_ tm h [] = ih1_' (tmp tm 0) (tmp tm 1) (tmp tm 5) (tmp tm 11) (tmp tm 12) (tmp tm 13) h) (base : Nat) (s : DX) (tm : Tmps) (h : AHeap) : F78j5 (callC TT disp K d false) (callC TT disp K d true) K ih1_ base s tm h [] = pool_Pool_fullest_j5 K ih1_' base s (tmp tm 0) (tmp tm 1) (tmp tm 5) (tmp tm 6) (tmp tm 7) (tmp tm 11) (tmp tm 12) (tmp tm 13) (tmp tm 21) (tmp tm 24) h := by
  simp only [F78j5, pool_Pool_fullest_j5, F78ret, dd, ↓reduceIte, Nat.reduceEqDiff, Int.reduceOfNat, Int.reduceNegSucc, hih1_, pool_Pool_fullest_j4_d H hd hih1_, queue_Queue_Len_run H (lq hd rfl), tt0, tt1]
def pool_Pool_fullest_j6 (K : Nat) (ih1_ : EV → EV → EV → EV → EV → EV → AHeap → R) (v0 : EV) (v1 : EV) (v5 : EV) (v11 : EV) (v12 : EV) (v13 : EV) (h : AHeap) : R :=
  ixSE 1 v11 v13 fun v16 =>
  ld1E v16 h fun v17 =>
  drawE h fun base s =>
  intE gNeq (bin TT .neq 3) v13 v1 fun v20 =>
  cnd (wantE v20 true)
  (intE gLss (bin TT .lss 3) v5 (.int .i64 0) fun v23 =>
  pool_Pool_fullest_j5 K ih1_ base s v0 v1 v5 v13 v17 v11 v12 v13 v20 v23 h)
  (pool_Pool_fullest_j5 K ih1_ base s v0 v1 v5 v13 v17 v11 v12 v13 v20 (.tuple []) h)
theorem pool_Pool_fullest_j6_d (H : Agree disp) (hd : 1 ≤ d) {ih1_ : CF} {ih1_' : EV → EV → EV → EV → EV → EV → AHeap → R} (hih1_ : ∀ tm h, ih1_ tm h [] = ih1_' (tmp tm 0) (tmp tm 1) (tmp tm 5) (tmp tm 11) (tmp tm 12) (tmp tm 13) h) (tm : Tmps) (h : AHeap) : F78j6 (callC TT disp K d false) (callC TT disp K d true) K ih1_ tm h [] = pool_Pool_fullest_j6 K ih1_' (tmp tm 0) (tmp tm 1) (tmp tm 5) (tmp tm 11) (tmp tm 12) (tmp tm 13) h := by
  simp only [F78j6, pool_Pool_fullest_j6, F78ret, dd, ↓reduceIte, Nat.reduceEqDiff, Int.reduceOfNat, Int.reduceNegSucc, hih1_, pool_Pool_fullest_j5_d H hd hih1_, tt0, tt1]
def pool_Pool_fullest_b7 (K : Nat) : Nat → EV → EV → EV → EV → EV → EV → AHeap → R
 | 0 => fun _ _ _ _ _ _ _ => none
 | m + 1 => fun v0 v1 v5 v11 v12 v13 h =>
  intE gLss (bin TT .lss 3) v13 v12 fun v14 =>
  ifE v14
  (pool_Pool_fullest_j6 K (pool_Pool_fullest_b7 K m) v0 v1 v5 v11 v12 v13 h)
  (pool_Pool_fullest_j0 K v5 h)
theorem pool_Pool_fullest_b7_d (H : Agree disp) (hd : 1 ≤ d) : ∀ (m : Nat) (tm : Tmps) (h : AHeap), loopC (F78b7 (callC TT disp K d false) (callC TT disp K d true) K) m tm h [] = pool_Pool_fullest_b7 K m (tmp tm 0) (tmp tm 1) (tmp tm 5) (tmp tm 11) (tmp tm 12) (tmp tm 13) h := by
  intro m
  induction m with
  | zero => intros; rfl
  | succ m hih1_ =>
    intro tm h
    rw [loopC_succ]
    simp only [F78b7, pool_Pool_fullest_b7, F78ret, dd, ↓reduceIte, Nat.reduceEqDiff, Int.reduceOfNat, Int.reduceNegSucc, hih1_, pool_Pool_fullest_j6_d H hd hih1_, pool_Pool_fullest_j0_d H hd, tt0, tt1]
def pool_Pool_fullest (K : Nat) (v0 v1 : EV) (h : AHeap) : R :=
  nilE v0 fun v9 =>
  offE 6 v9 fun v10 =>
  ld1E v10 h fun v11 =>
  lenE v11 fun v12 =>
  pool_Pool_fullest_b7 K K v0 v1 (.int .i64 (-1)) v11 v12 (.int .i64 0) h
theorem pool_Pool_fullest_run (H : Agree disp) (hd : 2 ≤ d) (v0 v1 : EV) (h : AHeap) : callC TT disp K d false 78 [v0, v1] h = pool_Pool_fullest K v0 v1 h := by
  obtain ⟨d, rfl⟩ : ∃ e, d = e + 1 := ⟨d - 1, by omega⟩
  have hd : 1 ≤ d := Nat.le_of_succ_le_succ hd
  rw [callC_at ((H.plain 78 rfl).trans (show disp3 78 = some F78 by kernel_rfl))]
  unfold F78
  rw [funC_at (by simp)]
  simp only [pool_Pool_fullest, F78ret, dd, ↓reduceIte, Nat.reduceEqDiff, Int.reduceOfNat, Int.reduceNegSucc, pool_Pool_fullest_b7_d H hd, tt0, tt1]

/-! 112 (revetment/geom.Geom).Parts -/
def geom_Geom_Parts (K : Nat) (v0 : EV) (h : AHeap) : R :=
  boxE 23 v0 h fun v1 h =>
  offE 3 v1 fun v3 =>
  ld1E v3 h fun v4 =>
  intE gAdd (bin TT .add 3) v4 (.int .i64 2) fun v5 =>
  intE gSub (bin TT .sub 3) v5 (.int .i64 1) fun v6 =>
  binE (bin TT .quo 3) v6 (.int .i64 2) fun v7 =>
  intE gAdd (bin TT .add 3) (.int .i64 1) v7 fun v8 =>
  some (v8, h)
theorem geom_Geom_Parts_run (H : Agree disp) (hd : 1 ≤ d) (v0 : EV) (h : AHeap) : callC TT disp K d false 112 [v0] h = geom_Geom_Parts K v0 h := by
  obtain ⟨d, rfl⟩ : ∃ e, d = e + 1 := ⟨d - 1, by omega⟩
  have hd : 0 ≤ d := Nat.le_of_succ_le_succ hd
  rw [callC_at ((H.plain 112 rfl).trans (show disp3 112 = some F112 by kernel_rfl))]
  unfold F112
  rw [funC_at (by simp)]
  simp only [geom_Geom_Parts, F112ret, dd, ↓reduceIte, Nat.reduceEqDiff, Int.reduceOfNat, Int.reduceNegSucc, tt0]

/-! 124 revetment/zdev.within -/
def zdev_within_j0 (K : Nat) (v7 : EV) (v10 : EV) (h : AHeap) : R :=
  pickE v7 v10 (.bool false) fun v11 =>
  some (v11, h)
theorem zdev_within_j0_d (H : Agree disp) (hd : 0 ≤ d) (tm : Tmps) (h : AHeap) : F124j0 (callC TT disp K d false) (callC TT disp K d true) K tm h [] = zdev_within_j0 K (tmp tm 7) (tmp tm 10) h := by
  simp only [F124j0, zdev_within_j0, F124ret, dd, ↓reduceIte, Nat.reduceEqDiff, Int.reduceOfNat, Int.reduceNegSucc, tt0]
def zdev_within (K : Nat) (v0 v1 : EV) (h : AHeap) : R :=
  intE gGeq (bin TT .geq 3) v0 (.int .i64 1) fun v6 =>
  cnd (wantE v6 true)
  (intE gLeq (bin TT .leq 3) v0 v1 fun v10 =>
  zdev_within_j0 K v6 v10 h)
  (zdev_within_j0 K v6 (.tuple []) h)
theorem zdev_within_run (H : Agree disp) (hd : 1 ≤ d) (v0 v1 : EV) (h : AHeap) : callC TT disp K d false 124 [v0, v1] h = zdev_within K v0 v1 h := by
  obtain ⟨d, rfl⟩ : ∃ e, d = e + 1 := ⟨d - 1, by omega⟩
  have hd : 0 ≤ d := Nat.le_of_succ_le_succ hd
  rw [callC_at ((H.plain 124 rfl).trans (show disp3 124 = some F124 by kernel_rfl))]
  unfold F124
  rw [funC_at (by simp)]
  simp only [zdev_within, F124ret, dd, ↓reduceIte, Nat.reduceEqDiff, Int.reduceOfNat, Int.reduceNegSucc, zdev_within_j0_d H hd, tt0]

/-! 125 revetment/zone.New[revetment/frame.Sector] -/
def zone_New_frame_Sector_j0 (K : Nat) (v0 : EV) (h : AHeap) : R :=
  buildE (nthPR [(0, 1), (1, 1), (2, 1), (3, 1), (4, 1)]) [.nilslice, (.int .i64 0), (.int .i64 0), (.int .i64 0), (.bool false)] [(1, v0)] fun v11 =>
  boxE 240 v11 h fun v12 h =>
  some (.tuple [v12, (.int .i64 0)], h)
theorem zone_New_frame_Sector_j0_d (H : Agree disp) (hd : 0 ≤ d) (tm : Tmps) (h : AHeap) : F125j0 (callC TT disp K d false) (callC TT disp K d true) K tm h [] = zone_New_frame_Sector_j0 K (tmp tm 0) h := by
  simp only [F125j0, zone_New_frame_Sector_j0, F125ret, dd, ↓reduceIte, Nat.reduceEqDiff, Int.reduceOfNat, Int.reduceNegSucc, tt0]
def zone_New_frame_Sector_j1 (K : Nat) (v0 : EV) (v6 : EV) (v8 : EV) (h : AHeap) : R :=
  pickE v6 (.bool true) v8 fun v9 =>
  ifE v9
  (some (.tuple [.nilptr, (.int .i64 13)], h))
  (zone_New_frame_Sector_j0 K v0 h)
theorem zone_New_frame_Sector_j1_d (H : Agree disp) (hd : 0 ≤ d) (tm : Tmps) (h : AHeap) : F125j1 (callC TT disp K d false) (callC TT disp K d true) K tm h [] = zone_New_frame_Sector_j1 K (tmp tm 0) (tmp tm 6) (tmp tm 8) h := by
  simp only [F125j1, zone_New_frame_Sector_j1, F125ret, dd, ↓reduceIte, Nat.reduceEqDiff, Int.reduceOfNat, Int.reduceNegSucc, zone_New_frame_Sector_j0_d H hd, tt0]
def zone_New_frame_Sector (K : Nat) (v0 : EV) (h : AHeap) : R :=
  intE gLss (bin TT .lss 3) v0 (.int .i64 1) fun v5 =>
  cnd (wantE v5 false)
  (intE gGtr (bin TT .gtr 3) v0 (.int .i64 64) fun v8 =>
  zone_New_frame_Sector_j1 K v0 v5 v8 h)
  (zone_New_frame_Sector_j1 K v0 v5 (.tuple []) h)
theorem zone_New_frame_Sector_run (H : Agree disp) (hd : 1 ≤ d) (v0 : EV) (h : AHeap) : callC TT disp K d false 125 [v0] h = zone_New_frame_Sector K v0 h := by
  obtain ⟨d, rfl⟩ : ∃ e, d = e + 1 := ⟨d - 1, by omega⟩
  have hd : 0 ≤ d := Nat.le_of_succ_le_succ hd
  rw [callC_at ((H.plain 125 rfl).trans (show disp3 125 = some F125 by kernel_rfl))]
  unfold F125
  rw [funC_at (by simp)]
  simp only [zone_New_frame_Sector, F125ret, dd, ↓reduceIte, Nat.reduceEqDiff, Int.reduceOfNat, Int.reduceNegSucc, zone_New_frame_Sector_j1_d H hd, tt0]

/-! 126 revetment/queue.New[int] -/
def queue_New_j0 (K : Nat) (v0 : EV) (h : AHeap) : R :=
  andE (makeChanE v0 h) fun v11 h =>
  buildE (nthPR [(0, 1)]) [.nilchan] [(0, v11)] fun v12 =>
  boxE 218 v12 h fun v13 h =>
  some (.tuple [v13, (.int .i64 0)], h)
theorem queue_New_j0_d (H : Agree disp) (hd : 0 ≤ d) (tm : Tmps) (h : AHeap) : F126j0 (callC TT disp K d false) (callC TT disp K d true) K tm h [] = queue_New_j0 K (tmp tm 0) h := by
  simp only [F126j0, queue_New_j0, F126ret, dd, ↓reduceIte, Nat.reduceEqDiff, Int.reduceOfNat, Int.reduceNegSucc, tt0]
def queue_New_j1 (K : Nat) (v0 : EV) (v6 : EV) (v8 : EV) (h : AHeap) : R :=
  pickE v6 (.bool true) v8 fun v9 =>
  ifE v9
  (some (.tuple [.nilptr, (.int .i64 13)], h))
  (queue_New_j0 K v0 h)
theorem queue_New_j1_d (H : Agree disp) (hd : 0 ≤ d) (tm : Tmps) (h : AHeap) : F126j1 (callC TT disp K d false) (callC TT disp K d true) K tm h [] = queue_New_j1 K (tmp tm 0) (tmp tm 6) (tmp tm 8) h := by
  simp only [F126j1, queue_New_j1, F126ret, dd, ↓reduceIte, Nat.reduceEqDiff, Int.reduceOfNat, Int.reduceNegSucc, queue_New_j0_d H hd, tt0]
def queue_New (K : Nat) (v0 : EV) (h : AHeap) : R :=
  intE gLss (bin TT .lss 3) v0 (.int .i64 1) fun v5 =>
  cnd (wantE v5 false)
  (intE gGtr (bin TT .gtr 3) v0 (.int .i64 4096) fun v8 =>
  queue_New_j1 K v0 v5 v8 h)
  (queue_New_j1 K v0 v5 (.tuple []) h)
theorem queue_New_run (H : Agree disp) (hd : 1 ≤ d) (v0 : EV) (h : AHeap) : callC TT disp K d false 126 [v0] h = queue_New K v0 h := by
  obtain ⟨d, rfl⟩ : ∃ e, d = e + 1 := ⟨d - 1, by omega⟩
  have hd : 0 ≤ d := Nat.le_of_succ_le_succ hd
  rw [callC_at ((H.plain 126 rfl).trans (show disp3 126 = some F126 by kernel_rfl))]
  unfold F126
  rw [funC_at (by simp)]
  simp only [queue_New, F126ret, dd, ↓reduceIte, Nat.reduceEqDiff, Int.reduceOfNat, Int.reduceNegSucc, queue_New_j1_d H hd, tt0]

/-! 127 revetment/revetmentref05.half -/
def revetmentref05_half_j0 (K : Nat) (v0 : EV) (h : AHeap) : R :=
  binE (bin TT .quo 3) v0 (.int .i64 2) fun v10 =>
  some (v10, h)
theorem revetmentref05_half_j0_d (H : Agree disp) (hd : 0 ≤ d) (tm : Tmps) (h : AHeap) : F127j0 (callC TT disp K d false) (callC TT disp K d true) K tm h [] = revetmentref05_half_j0 K (tmp tm 0) h := by
  simp only [F127j0, revetmentref05_half_j0, F127ret, dd, ↓reduceIte, Nat.reduceEqDiff, Int.reduceOfNat, Int.reduceNegSucc, tt0]
def revetmentref05_half (K : Nat) (v0 : EV) (h : AHeap) : R :=
  intE gLss (bin TT .lss 3) v0 (.int .i64 0) fun v4 =>
  ifE v4
  (intE gSub (bin TT .sub 3) (.int .i64 1) v0 fun v6 =>
  binE (bin TT .quo 3) v6 (.int .i64 2) fun v7 =>
  negE v7 fun v8 =>
  some (v8, h))
  (revetmentref05_half_j0 K v0 h)
theorem revetmentref05_half_run (H : Agree disp) (hd : 1 ≤ d) (v0 : EV) (h : AHeap) : callC TT disp K d false 127 [v0] h = revetmentref05_half K v0 h := by
  obtain ⟨d, rfl⟩ : ∃ e, d = e + 1 := ⟨d - 1, by omega⟩
  have hd : 0 ≤ d := Nat.le_of_succ_le_succ hd
  rw [callC_at ((H.plain 127 rfl).trans (show disp3 127 = some F127 by kernel_rfl))]
  unfold F127
  rw [funC_at (by simp)]
  simp only [revetmentref05_half, F127ret, dd, ↓reduceIte, Nat.reduceEqDiff, Int.reduceOfNat, Int.reduceNegSucc, revetmentref05_half_j0_d H hd, tt0]

/-! 140 revetment/geom.within -/
def geom_within_j0 (K : Nat) (v10 : EV) (v13 : EV) (h : AHeap) : R :=
  pickE v10 v13 (.bool false) fun v14 =>
  some (v14, h)
theorem geom_within_j0_d (H : Agree disp) (hd : 0 ≤ d) (tm : Tmps) (h : AHeap) : F140j0 (callC TT disp K d false) (callC TT disp K d true) K tm h [] = geom_within_j0 K (tmp tm 10) (tmp tm 13) h := by
  simp only [F140j0, geom_within_j0, F140ret, dd, ↓reduceIte, Nat.reduceEqDiff, Int.reduceOfNat, Int.reduceNegSucc, tt0]
def geom_within (K : Nat) (v0 v1 v2 : EV) (h : AHeap) : R :=
  intE gGeq (bin TT .geq 3) v0 v1 fun v9 =>
  cnd (wantE v9 true)
  (intE gLeq (bin TT .leq 3) v0 v2 fun v13 =>
  geom_within_j0 K v9 v13 h)
  (geom_within_j0 K v9 (.tuple []) h)
theorem geom_within_run (H : Agree disp) (hd : 1 ≤ d) (v0 v1 v2 : EV) (h : AHeap) : callC TT disp K d false 140 [v0, v1, v2] h = geom_within K v0 v1 v2 h := by
  obtain ⟨d, rfl⟩ : ∃ e, d = e + 1 := ⟨d - 1, by omega⟩
  have hd : 0 ≤ d := Nat.le_of_succ_le_succ hd
  rw [callC_at ((H.plain 140 rfl).trans (show disp3 140 = some F140 by kernel_rfl))]
  unfold F140
  rw [funC_at (by simp)]
  simp only [geom_within, F140ret, dd, ↓reduceIte, Nat.reduceEqDiff, Int.reduceOfNat, Int.reduceNegSucc, geom_within_j0_d H hd, tt0]

/-! 159 (revetment/geom.Geom).Reserve -/
def geom_Geom_Reserve (K : Nat) (v0 : EV) (h : AHeap) : R :=
  boxE 23 v0 h fun v1 h =>
  offE 0 v1 fun v3 =>
  ld1E v3 h fun v4 =>
  offE 4 v1 fun v5 =>
  ld1E v5 h fun v6 =>
  intE gMul (bin TT .mul 3) v4 v6 fun v7 =>
  intE gAdd (bin TT .add 3) v7 (.int .i64 4) fun v8 =>
  some (v8, h)
theorem geom_Geom_Reserve_run (H : Agree disp) (hd : 1 ≤ d) (v0 : EV) (h : AHeap) : callC TT disp K d false 159 [v0] h = geom_Geom_Reserve K v0 h := by
  obtain ⟨d, rfl⟩ : ∃ e, d = e + 1 := ⟨d - 1, by omega⟩
  have hd : 0 ≤ d := Nat.le_of_succ_le_succ hd
  rw [callC_at ((H.plain 159 rfl).trans (show disp3 159 = some F159 by kernel_rfl))]
  unfold F159
  rw [funC_at (by simp)]
  simp only [geom_Geom_Reserve, F159ret, dd, ↓reduceIte, Nat.reduceEqDiff, Int.reduceOfNat, Int.reduceNegSucc, tt0]

/-! 22 (*revetment/pool.Pool).Count -/
def pool_Pool_Count_j0 (K : Nat) (v0 : EV) (v1 : EV) (h : AHeap) : R :=
  nilE v0 fun v17 =>
  offE 6 v17 fun v18 =>
  ld1E v18 h fun v19 =>
  ixSE 1 v19 v1 fun v21 =>
  ld1E v21 h fun v22 =>
  andE (queue_Queue_Len K v22 h) fun v23 h =>
  some (v23, h)
theorem pool_Pool_Count_j0_d (H : Agree disp) (hd : 1 ≤ d) (tm : Tmps) (h : AHeap) : F22j0 (callC TT disp K d false) (callC TT disp K d true) K tm h [] = pool_Pool_Count_j0 K (tmp tm 0) (tmp tm 1) h := by
  simp only [F22j0, pool_Pool_Count_j0, F22ret, dd, ↓reduceIte, Nat.reduceEqDiff, Int.reduceOfNat, Int.reduceNegSucc, queue_Queue_Len_run H (lq hd rfl), tt0]
def pool_Pool_Count_j1 (K : Nat) (v0 : EV) (v1 : EV) (v7 : EV) (v14 : EV) (h : AHeap) : R :=
  pickE v7 (.bool true) v14 fun v15 =>
  ifE v15
  (some ((.int .i64 0), h))
  (pool_Pool_Count_j0 K v0 v1 h)
theorem pool_Pool_Count_j1_d (H : Agree disp) (hd : 1 ≤ d) (tm : Tmps) (h : AHeap) : F22j1 (callC TT disp K d false) (callC TT disp K d true) K tm h [] = pool_Pool_Count_j1 K (tmp tm 0) (tmp tm 1) (tmp tm 7) (tmp tm 14) h := by
  simp only [F22j1, pool_Pool_Count_j1, F22ret, dd, ↓reduceIte, Nat.reduceEqDiff, Int.reduceOfNat, Int.reduceNegSucc, pool_Pool_Count_j0_d H hd, tt0]
def pool_Pool_Count (K : Nat) (v0 v1 : EV) (h : AHeap) : R :=
  intE gLss (bin TT .lss 3) v1 (.int .i64 0) fun v6 =>
  cnd (wantE v6 false)
  (nilE v0 fun v10 =>
  offE 6 v10 fun v11 =>
  ld1E v11 h fun v12 =>
  lenE v12 fun v13 =>
  intE gGeq (bin TT .geq 3) v1 v13 fun v14 =>
  pool_Pool_Count_j1 K v0 v1 v6 v14 h)
  (pool_Pool_Count_j1 K v0 v1 v6 (.tuple []) h)
theorem pool_Pool_Count_run (H : Agree disp) (hd : 2 ≤ d) (v0 v1 : EV) (h : AHeap) : callC TT disp K d false 22 [v0, v1] h = pool_Pool_Count K v0 v1 h := by
  obtain ⟨d, rfl⟩ : ∃ e, d = e + 1 := ⟨d - 1, by omega⟩
  have hd : 1 ≤ d := Nat.le_of_succ_le_succ hd
  rw [callC_at ((H.plain 22 rfl).trans (show disp3 22 = some F22 by kernel_rfl))]
  unfold F22
  rw [funC_at (by simp)]
  simp only [pool_Pool_Count, F22ret, dd, ↓reduceIte, Nat.reduceEqDiff, Int.reduceOfNat, Int.reduceNegSucc, pool_Pool_Count_j1_d H hd, tt0]

/-! 29 (*revetment/pool.Pool).Pairs -/
def pool_Pool_Pairs_j0 (K : Nat) (v0 : EV) (v3 : EV) (h : AHeap) : R :=
  binE (bin TT .quo 3) v3 (.int .i64 2) fun v21 =>
  andE (pool_Pool_fullest K v0 (.int .i64 (-1)) h) fun v25 h =>
  andE (pool_Pool_Count K v0 v25 h) fun v26 h =>
  intE gSub (bin TT .sub 3) v3 v26 fun v27 =>
  andE (builtin TT .min #[3, 3] [v21, v27] h) fun v28 h =>
  some (v28, h)
theorem pool_Pool_Pairs_j0_d (H : Agree disp) (hd : 2 ≤ d) (tm : Tmps) (h : AHeap) : F29j0 (callC TT disp K d false) (callC TT disp K d true) K tm h [] = pool_Pool_Pairs_j0 K (tmp tm 0) (tmp tm 3) h := by
  simp only [F29j0, pool_Pool_Pairs_j0, F29ret, dd, ↓reduceIte, Nat.reduceEqDiff, Int.reduceOfNat, Int.reduceNegSucc, pool_Pool_fullest_run H (lq hd rfl), pool_Pool_Count_run H (lq hd rfl), tt0]
def pool_Pool_Pairs_j2 (K : Nat) (ih1_ : EV → EV → EV → EV → EV → AHeap → R) (v0 : EV) (v3 : EV) (v9 : EV) (v10 : EV) (v11 : EV) (h : AHeap) : R :=
  intE gAdd (bin TT .add 3) v11 (.int .i64 1) fun v19 =>
  ih1_ v0 v3 v9 v10 v19 h
theorem pool_Pool_Pairs_j2_d (H : Agree disp) (hd : 2 ≤ d) {ih1_ : CF} {ih1_' : EV → EV → EV → EV → EV → AHeap → R} (hih1_ : ∀ tm h, ih1_ tm h [] = ih1_' (tmp tm 0) (tmp tm 3) (tmp tm 9) (tmp tm 10) (tmp tm 11) h) (tm : Tmps) (h : AHeap) : F29j2 (callC TT disp K d false) (callC TT disp K d true) K ih1_ tm h [] = pool_Pool_Pairs_j2 K ih1_' (tmp tm 0) (tmp tm 3) (tmp tm 9) (tmp tm 10) (tmp tm 11) h := by
  simp only [F29j2, pool_Pool_Pairs_j2, F29ret, dd, ↓reduceIte, Nat.reduceEqDiff, Int.reduceOfNat, Int.reduceNegSucc, hih1_, tt0]
def pool_Pool_Pairs_j3 (K : Nat) (ih1_ : EV → EV → EV → EV → EV → AHeap → R) (v0 : EV) (v3 : EV) (v9 : EV) (v10 : EV) (v11 : EV) (h : AHeap) : R :=
  ixSE 1 v9 v11 fun v13 =>
  ld1E v13 h fun v14 =>
  andE (queue_Queue_Len K v14 h) fun v17 h =>
  intE gAdd (bin TT .add 3) v3 v17 fun v18 =>
  pool_Pool_Pairs_j2 K ih1_ v0 v18 v9 v10 v11 h
theorem pool_Pool_Pairs_j3_d (H : Agree disp) (hd : 2 ≤ d) {ih1_ : CF} {ih1_' : EV → EV → EV → EV → EV → AHeap → R} (hih1_ : ∀ tm h, ih1_ tm h [] = ih1_' (tmp tm 0) (tmp tm 3) (tmp tm 9) (tmp tm 10) (tmp tm 11) h) (tm : Tmps) (h : AHeap) : F29j3 (callC TT disp K d false) (callC TT disp K d true) K ih1_ tm h [] = pool_Pool_Pairs_j3 K ih1_' (tmp tm 0) (tmp tm 3) (tmp tm 9) (tmp tm 10) (tmp tm 11) h := by
  simp only [F29j3, pool_Pool_Pairs_j3, F29ret, dd, ↓reduceIte, Nat.reduceEqDiff, Int.reduceOfNat, Int.reduceNegSucc, hih1_, pool_Pool_Pairs_j2_d H hd hih1_, queue_Queue_Len_run H (lq hd rfl), tt0]
def pool_Pool_Pairs_b4 (K : Nat) : Nat → EV → EV → EV → EV → EV → AHeap → R
 | 0 => fun _ _ _ _ _ _ => none
 | m + 1 => fun v0 v3 v9 v10 v11 h =>
  intE gLss (bin TT .lss 3) v11 v10 fun v12 =>
  ifE v12
  (pool_Pool_Pairs_j3 K (pool_Pool_Pairs_b4 K m) v0 v3 v9 v10 v11 h)
  (pool_Pool_Pairs_j0 K v0 v3 h)
theorem pool_Pool_Pairs_b4_d (H : Agree disp) (hd : 2 ≤ d) : ∀ (m : Nat) (tm : Tmps) (h : AHeap), loopC (F29b4 (callC TT disp K d false) (callC TT disp K d true) K) m tm h [] = pool_Pool_Pairs_b4 K m (tmp tm 0) (tmp tm 3) (tmp tm 9) (tmp tm 10) (tmp tm 11) h := by
  intro m
  induction m with
  | zero => intros; rfl
  | succ m hih1_ =>
    intro tm h
    rw [loopC_succ]
    simp only [F29b4, pool_Pool_Pairs_b4, F29ret, dd, ↓reduceIte, Nat.reduceEqDiff, Int.reduceOfNat, Int.reduceNegSucc, hih1_, pool_Pool_Pairs_j3_d H hd hih1_, pool_Pool_Pairs_j0_d H hd, tt0]
def pool_Pool_Pairs (K : Nat) (v0 : EV) (h : AHeap) : R :=
  nilE v0 fun v7 =>
  offE 6 v7 fun v8 =>
  ld1E v8 h fun v9 =>
  lenE v9 fun v10 =>
  pool_Pool_Pairs_b4 K K v0 (.int .i64 0) v9 v10 (.int .i64 0) h
theorem pool_Pool_Pairs_run (H : Agree disp) (hd : 3 ≤ d) (v0 : EV) (h : AHeap) : callC TT disp K d false 29 [v0] h = pool_Pool_Pairs K v0 h := by
  obtain ⟨d, rfl⟩ : ∃ e, d = e + 1 := ⟨d - 1, by omega⟩
  have hd : 2 ≤ d := Nat.le_of_succ_le_succ hd
  rw [callC_at ((H.plain 29 rfl).trans (show disp3 29 = some F29 by kernel_rfl))]
  unfold F29
  rw [funC_at (by simp)]
  simp only [pool_Pool_Pairs, F29ret, dd, ↓reduceIte, Nat.reduceEqDiff, Int.reduceOfNat, Int.reduceNegSucc, pool_Pool_Pairs_b4_d H hd, tt0]

/-! 72 revetment/zdev.New -/
def zdev_New_j0 (K : Nat) (v8 : EV) (h : AHeap) : R :=
  some (.tuple [v8, (.int .i64 0)], h)
theorem zdev_New_j0_d (H : Agree disp) (hd : 1 ≤ d) (tm : Tmps) (h : AHeap) : F72j0 (callC TT disp K d false) (callC TT disp K d true) K tm h [] = zdev_New_j0 K (tmp tm 8) h := by
  simp only [F72j0, zdev_New_j0, F72ret, dd, ↓reduceIte, Nat.reduceEqDiff, Int.reduceOfNat, Int.reduceNegSucc, tt0, tt1]
def zdev_New_j2 (K : Nat) (ih1_ : EV → EV → EV → EV → AHeap → R) (v1 : EV) (v8 : EV) (v23 : EV) (v24 : EV) (h : AHeap) : R :=
  intE gAdd (bin TT .add 3) v24 (.int .i64 1) fun v44 =>
  ih1_ v1 v8 v23 v44 h
theorem zdev_New_j2_d (H : Agree disp) (hd : 1 ≤ d) {ih1_ : CF} {ih1_' : EV → EV → EV → EV → AHeap → R} (hih1_ : ∀ tm h, ih1_ tm h [] = ih1_' (tmp tm 1) (tmp tm 8) (tmp tm 23) (tmp tm 24) h) (tm : Tmps) (h : AHeap) : F72j2 (callC TT disp K d false) (callC TT disp K d true) K ih1_ tm h [] = zdev_New_j2 K ih1_' (tmp tm 1) (tmp tm 8) (tmp tm 23) (tmp tm 24) h := by
  simp only [F72j2, zdev_New_j2, F72ret, dd, ↓reduceIte, Nat.reduceEqDiff, Int.reduceOfNat, Int.reduceNegSucc, hih1_, tt0, tt1]
def zdev_New_j3 (K : Nat) (ih1_ : EV → EV → EV → EV → AHeap → R) (v1 : EV) (v8 : EV) (v9 : EV) (v23 : EV) (v24 : EV) (h : AHeap) : R :=
  nilE v8 fun v36 =>
  offE 0 v36 fun v37 =>
  ld1E v37 h fun v38 =>
  andE (buildSliceE [.nilptr] 180 1 1 [(0, v9)] h) fun v40 h =>
  andE (appendF 180 1 v38 v40 h) fun v41 h =>
  nilE v8 fun v42 =>
  offE 0 v42 fun v43 =>
  stE 1 v43 v41 h fun h =>
  zdev_New_j2 K ih1_ v1 v8 v23 v24 h
theorem zdev_New_j3_d (H : Agree disp) (hd : 1 ≤ d) {ih1_ : CF} {ih1_' : EV → EV → EV → EV → AHeap → R} (hih1_ : ∀ tm h, ih1_ tm h [] = ih1_' (tmp tm 1) (tmp tm 8) (tmp tm 23) (tmp tm 24) h) (tm : Tmps) (h : AHeap) : F72j3 (callC TT disp K d false) (callC TT disp K d true) K ih1_ tm h [] = zdev_New_j3 K ih1_' (tmp tm 1) (tmp tm 8) (tmp tm 9) (tmp tm 23) (tmp tm 24) h := by
  simp only [F72j3, zdev_New_j3, F72ret, dd, ↓reduceIte, Nat.reduceEqDiff, Int.reduceOfNat, Int.reduceNegSucc, hih1_, zdev_New_j2_d H hd hih1_, tt0, tt1]
def zdev_New_j4 (K : Nat) (ih1_ : EV → EV → EV → EV → AHeap → R) (v1 : EV) (v8 : EV) (v23 : EV) (v24 : EV) (h : AHeap) : R :=
  andE (zone_New_frame_Sector K v1 h) fun v28 h =>
  extrE 0 v28 fun v29 =>
  extrE 1 v28 fun v30 =>
  intE gNeq (bin TT .neq 28) v30 (.int .i64 0) fun v32 =>
  ifE v32
  (some (.tuple [.nilptr, v30], h))
  (zdev_New_j3 K ih1_ v1 v8 v29 v23 v24 h)
theorem zdev_New_j4_d (H : Agree disp) (hd : 1 ≤ d) {ih1_ : CF} {ih1_' : EV → EV → EV → EV → AHeap → R} (hih1_ : ∀ tm h, ih1_ tm h [] = ih1_' (tmp tm 1) (tmp tm 8) (tmp tm 23) (tmp tm 24) h) (tm : Tmps) (h : AHeap) : F72j4 (callC TT disp K d false) (callC TT disp K d true) K ih1_ tm h [] = zdev_New_j4 K ih1_' (tmp tm 1) (tmp tm 8) (tmp tm 23) (tmp tm 24) h := by
  simp only [F72j4, zdev_New_j4, F72ret, dd, ↓reduceIte, Nat.reduceEqDiff, Int.reduceOfNat, Int.reduceNegSucc, hih1_, zdev_New_j3_d H hd hih1_, zone_New_frame_Sector_run H (lq hd rfl), tt0, tt1]
def zdev_New_b5 (K : Nat) : Nat → EV → EV → EV → EV → AHeap → R
 | 0 => fun _ _ _ _ _ => none
 | m + 1 => fun v1 v8 v23 v24 h =>
  intE gLss (bin TT .lss 3) v24 v23 fun v25 =>
  ifE v25
  (zdev_New_j4 K (zdev_New_b5 K m) v1 v8 v23 v24 h)
  (zdev_New_j0 K v8 h)
theorem zdev_New_b5_d (H : Agree disp) (hd : 1 ≤ d) : ∀ (m : Nat) (tm : Tmps) (h : AHeap), loopC (F72b5 (callC TT disp K d false) (callC TT disp K d true) K) m tm h [] = zdev_New_b5 K m (tmp tm 1) (tmp tm 8) (tmp tm 23) (tmp tm 24) h := by
  intro m
  induction m with
  | zero => intros; rfl
  | succ m hih1_ =>
    intro tm h
    rw [loopC_succ]
    simp only [F72b5, zdev_New_b5, F72ret, dd, ↓reduceIte, Nat.reduceEqDiff, Int.reduceOfNat, Int.reduceNegSucc, hih1_, zdev_New_j4_d H hd hih1_, zdev_New_j0_d H hd, tt0, tt1]
def zdev_New_j6 (K : Nat) (v0 : EV) (v1 : EV) (v2 : EV) (h : AHeap) : R :=
  buildE (nthPR [(0, 1), (1, 1), (2, 1), (3, 1), (4, 1)]) [.nilslice, (.int .i64 0), (.int .i64 0), (.int .i64 0), (.bool false)] [(1, v1), (2, v2)] fun v21 =>
  boxE 183 v21 h fun v22 h =>
  zdev_New_b5 K K v1 v22 v0 (.int .i64 0) h
theorem zdev_New_j6_d (H : Agree disp) (hd : 1 ≤ d) (tm : Tmps) (h : AHeap) : F72j6 (callC TT disp K d false) (callC TT disp K d true) K tm h [] = zdev_New_j6 K (tmp tm 0) (tmp tm 1) (tmp tm 2) h := by
  simp only [F72j6, zdev_New_j6, F72ret, dd, ↓reduceIte, Nat.reduceEqDiff, Int.reduceOfNat, Int.reduceNegSucc, zdev_New_b5_d H hd, tt0, tt1]
def zdev_New_j7 (K : Nat) (v0 : EV) (v1 : EV) (v2 : EV) (v14 : EV) (v17 : EV) (h : AHeap) : R :=
  pickE v14 (.bool true) v17 fun v18 =>
  ifE v18
  (some (.tuple [.nilptr, (.int .i64 13)], h))
  (zdev_New_j6 K v0 v1 v2 h)
theorem zdev_New_j7_d (H : Agree disp) (hd : 1 ≤ d) (tm : Tmps) (h : AHeap) : F72j7 (callC TT disp K d false) (callC TT disp K d true) K tm h [] = zdev_New_j7 K (tmp tm 0) (tmp tm 1) (tmp tm 2) (tmp tm 14) (tmp tm 17) h := by
  simp only [F72j7, zdev_New_j7, F72ret, dd, ↓reduceIte, Nat.reduceEqDiff, Int.reduceOfNat, Int.reduceNegSucc, zdev_New_j6_d H hd, tt0, tt1]
def zdev_New (K : Nat) (v0 v1 v2 : EV) (h : AHeap) : R :=
  andE (zdev_within K v0 (.int .i64 512) h) fun v12 h =>
  notE v12 fun v13 =>
  cnd (wantE v13 false)
  (andE (zdev_within K v2 (.int .i64 64) h) fun v16 h =>
  notE v16 fun v17 =>
  zdev_New_j7 K v0 v1 v2 v13 v17 h)
  (zdev_New_j7 K v0 v1 v2 v13 (.tuple []) h)
theorem zdev_New_run (H : Agree disp) (hd : 2 ≤ d) (v0 v1 v2 : EV) (h : AHeap) : callC TT disp K d false 72 [v0, v1, v2] h = zdev_New K v0 v1 v2 h := by
  obtain ⟨d, rfl⟩ : ∃ e, d = e + 1 := ⟨d - 1, by omega⟩
  have hd : 1 ≤ d := Nat.le_of_succ_le_succ hd
  rw [callC_at ((H.plain 72 rfl).trans (show disp3 72 = some F72 by kernel_rfl))]
  unfold F72
  rw [funC_at (by simp)]
  simp only [zdev_New, F72ret, dd, ↓reduceIte, Nat.reduceEqDiff, Int.reduceOfNat, Int.reduceNegSucc, zdev_New_j7_d H hd, zdev_within_run H (lq hd rfl), tt0, tt1]

/-! 77 (revetment/revetmentref05.G).Segments -/
def revetmentref05_G_Segments_j0 (K : Nat) (v1 : EV) (v5 : EV) (h : AHeap) : R :=
  drawE h fun base s =>
  bigE 1 1 s h (fun h => (revetmentref05_half K v5 h)) fun v40 h s =>
  intE gSub (bin TT .sub 3) v40 (.int .i64 1) fun v41 =>
  offE 0 v1 fun v42 =>
  loadE 4 8 base v42 s fun s => ld1E v42 h fun v43 =>
  offE 4 v1 fun v44 =>
  loadE 6 32 base v44 s fun s => ld1E v44 h fun v45 =>
  intE gMul (bin TT .mul 3) v43 v45 fun v46 =>
  intE gSub (bin TT .sub 3) v41 v46 fun v47 =>
  some (v47, h)
theorem revetmentref05_G_Segments_j0_d (H : Agree disp) (hd : 1 ≤ d) (tm : Tmps) (h : AHeap) : F77j0 (callC TT disp K d false) (callC TT disp K d true) K tm h [] = revetmentref05_G_Segments_j0 K (tmp tm 1) (tmp tm 5) h := by
  simp only [F77j0, revetmentref05_G_Segments_j0, F77ret, dd, ↓reduceIte, Nat.reduceEqDiff, Int.reduceOfNat, Int.reduceNegSucc, revetmentref05_half_run H (lq hd rfl), tt0, tt1]
def revetmentref05_G_Segments (K : Nat) (v0 : EV) (h : AHeap) : R :=
  boxE 37 v0 h fun v1 h =>
  offE 1 v1 fun v7 =>
  ld1E v7 h fun v8 =>
  offE 4 v1 fun v9 =>
  ld1E v9 h fun v10 =>
  intE gSub (bin TT .sub 3) v8 v10 fun v11 =>
  intE gSub (bin TT .sub 3) v11 (.int .i64 2) fun v12 =>
  offE 0 v1 fun v13 =>
  ld1E v13 h fun v14 =>
  offE 4 v1 fun v15 =>
  ld1E v15 h fun v16 =>
  intE gMul (bin TT .mul 3) v14 v16 fun v17 =>
  intE gAdd (bin TT .add 3) v17 (.int .i64 4) fun v18 =>
  offE 0 v1 fun v19 =>
  ld1E v19 h fun v20 =>
  intE gSub (bin TT .sub 3) v20 (.int .i64 1) fun v21 =>
  intE gMul (bin TT .mul 3) v21 v12 fun v23 =>
  intE gSub (bin TT .sub 3) v23 v18 fun v25 =>
  intE gAdd (bin TT .add 3) v25 (.int .i64 1) fun v26 =>
  offE 0 v1 fun v27 =>
  ld1E v27 h fun v28 =>
  intE gMul (bin TT .mul 3) v28 v12 fun v30 =>
  intE gMul (bin TT .mul 3) (.int .i64 2) v18 fun v32 =>
  intE gSub (bin TT .sub 3) v30 v32 fun v33 =>
  intE gAdd (bin TT .add 3) v33 (.int .i64 1) fun v34 =>
  intE gLss (bin TT .lss 3) v34 v26 fun v37 =>
  ifE v37
  (revetmentref05_G_Segments_j0 K v1 v34 h)
  (revetmentref05_G_Segments_j0 K v1 v26 h)
theorem revetmentref05_G_Segments_run (H : Agree disp) (hd : 2 ≤ d) (v0 : EV) (h : AHeap) : callC TT disp K d false 77 [v0] h = revetmentref05_G_Segments K v0 h := by
  obtain ⟨d, rfl⟩ : ∃ e, d = e + 1 := ⟨d - 1, by omega⟩
  have hd : 1 ≤ d := Nat.le_of_succ_le_succ hd
  rw [callC_at ((H.plain 77 rfl).trans (show disp3 77 = some F77 by kernel_rfl))]
  unfold F77
  rw [funC_at (by simp)]
  simp only [revetmentref05_G_Segments, F77ret, dd, ↓reduceIte, Nat.reduceEqDiff, Int.reduceOfNat, Int.reduceNegSucc, revetmentref05_G_Segments_j0_d H hd, tt0, tt1]

/-! 111 (revetment/geom.Geom).small -/
def geom_Geom_small_j0 (K : Nat) (v26 : EV) (v29 : EV) (h : AHeap) : R :=
  pickE v26 v29 (.bool false) fun v30 =>
  some (v30, h)
theorem geom_Geom_small_j0_d (H : Agree disp) (hd : 1 ≤ d) (tm : Tmps) (h : AHeap) : F111j0 (callC TT disp K d false) (callC TT disp K d true) K tm h [] = geom_Geom_small_j0 K (tmp tm 26) (tmp tm 29) h := by
  simp only [F111j0, geom_Geom_small_j0, F111ret, dd, ↓reduceIte, Nat.reduceEqDiff, Int.reduceOfNat, Int.reduceNegSucc, tt0]
def geom_Geom_small_j1 (K : Nat) (v1 : EV) (v21 : EV) (v24 : EV) (h : AHeap) : R :=
  pickE v21 v24 (.bool false) fun v25 =>
  cnd (wantE v25 true)
  (offE 5 v1 fun v27 =>
  ld1E v27 h fun v28 =>
  andE (geom_within K v28 (.int .i64 4) (.int .i64 64) h) fun v29 h =>
  geom_Geom_small_j0 K v25 v29 h)
  (geom_Geom_small_j0 K v25 (.tuple []) h)
theorem geom_Geom_small_j1_d (H : Agree disp) (hd : 1 ≤ d) (tm : Tmps) (h : AHeap) : F111j1 (callC TT disp K d false) (callC TT disp K d true) K tm h [] = geom_Geom_small_j1 K (tmp tm 1) (tmp tm 21) (tmp tm 24) h := by
  simp only [F111j1, geom_Geom_small_j1, F111ret, dd, ↓reduceIte, Nat.reduceEqDiff, Int.reduceOfNat, Int.reduceNegSucc, geom_Geom_small_j0_d H hd, geom_within_run H (lq hd rfl), tt0]
def geom_Geom_small_j2 (K : Nat) (v1 : EV) (v16 : EV) (v19 : EV) (h : AHeap) : R :=
  pickE v16 v19 (.bool false) fun v20 =>
  cnd (wantE v20 true)
  (offE 4 v1 fun v22 =>
  ld1E v22 h fun v23 =>
  andE (geom_within K v23 (.int .i64 0) (.int .i64 4) h) fun v24 h =>
  geom_Geom_small_j1 K v1 v20 v24 h)
  (geom_Geom_small_j1 K v1 v20 (.tuple []) h)
theorem geom_Geom_small_j2_d (H : Agree disp) (hd : 1 ≤ d) (tm : Tmps) (h : AHeap) : F111j2 (callC TT disp K d false) (callC TT disp K d true) K tm h [] = geom_Geom_small_j2 K (tmp tm 1) (tmp tm 16) (tmp tm 19) h := by
  simp only [F111j2, geom_Geom_small_j2, F111ret, dd, ↓reduceIte, Nat.reduceEqDiff, Int.reduceOfNat, Int.reduceNegSucc, geom_Geom_small_j1_d H hd, geom_within_run H (lq hd rfl), tt0]
def geom_Geom_small_j3 (K : Nat) (v1 : EV) (v11 : EV) (v14 : EV) (h : AHeap) : R :=
  pickE v11 v14 (.bool false) fun v15 =>
  cnd (wantE v15 true)
  (offE 3 v1 fun v17 =>
  ld1E v17 h fun v18 =>
  andE (geom_within K v18 (.int .i64 1) (.int .i64 256) h) fun v19 h =>
  geom_Geom_small_j2 K v1 v15 v19 h)
  (geom_Geom_small_j2 K v1 v15 (.tuple []) h)
theorem geom_Geom_small_j3_d (H : Agree disp) (hd : 1 ≤ d) (tm : Tmps) (h : AHeap) : F111j3 (callC TT disp K d false) (callC TT disp K d true) K tm h [] = geom_Geom_small_j3 K (tmp tm 1) (tmp tm 11) (tmp tm 14) h := by
  simp only [F111j3, geom_Geom_small_j3, F111ret, dd, ↓reduceIte, Nat.reduceEqDiff, Int.reduceOfNat, Int.reduceNegSucc, geom_Geom_small_j2_d H hd, geom_within_run H (lq hd rfl), tt0]
def geom_Geom_small_j4 (K : Nat) (v1 : EV) (v6 : EV) (v9 : EV) (h : AHeap) : R :=
  pickE v6 v9 (.bool false) fun v10 =>
  cnd (wantE v10 true)
  (offE 2 v1 fun v12 =>
  ld1E v12 h fun v13 =>
  andE (geom_within K v13 (.int .i64 4) (.int .i64 64) h) fun v14 h =>
  geom_Geom_small_j3 K v1 v10 v14 h)
  (geom_Geom_small_j3 K v1 v10 (.tuple []) h)
theorem geom_Geom_small_j4_d (H : Agree disp) (hd : 1 ≤ d) (tm : Tmps) (h : AHeap) : F111j4 (callC TT disp K d false) (callC TT disp K d true) K tm h [] = geom_Geom_small_j4 K (tmp tm 1) (tmp tm 6) (tmp tm 9) h := by
  simp only [F111j4, geom_Geom_small_j4, F111ret, dd, ↓reduceIte, Nat.reduceEqDiff, Int.reduceOfNat, Int.reduceNegSucc, geom_Geom_small_j3_d H hd, geom_within_run H (lq hd rfl), tt0]
def geom_Geom_small (K : Nat) (v0 : EV) (h : AHeap) : R :=
  boxE 23 v0 h fun v1 h =>
  offE 0 v1 fun v3 =>
  ld1E v3 h fun v4 =>
  andE (geom_within K v4 (.int .i64 3) (.int .i64 8) h) fun v5 h =>
  cnd (wantE v5 true)
  (offE 1 v1 fun v7 =>
  ld1E v7 h fun v8 =>
  andE (geom_within K v8 (.int .i64 1) (.int .i64 64) h) fun v9 h =>
  geom_Geom_small_j4 K v1 v5 v9 h)
  (geom_Geom_small_j4 K v1 v5 (.tuple []) h)
theorem geom_Geom_small_run (H : Agree disp) (hd : 2 ≤ d) (v0 : EV) (h : AHeap) : callC TT disp K d false 111 [v0] h = geom_Geom_small K v0 h := by
  obtain ⟨d, rfl⟩ : ∃ e, d = e + 1 := ⟨d - 1, by omega⟩
  have hd : 1 ≤ d := Nat.le_of_succ_le_succ hd
  rw [callC_at ((H.plain 111 rfl).trans (show disp3 111 = some F111 by kernel_rfl))]
  unfold F111
  rw [funC_at (by simp)]
  simp only [geom_Geom_small, F111ret, dd, ↓reduceIte, Nat.reduceEqDiff, Int.reduceOfNat, Int.reduceNegSucc, geom_Geom_small_j4_d H hd, geom_within_run H (lq hd rfl), tt0]

/-! 113 (revetment/geom.Geom).Segments -/
def geom_Geom_Segments (K : Nat) (v0 : EV) (h : AHeap) : R :=
  boxE 23 v0 h fun v1 h =>
  drawE h fun base s =>
  offE 1 v1 fun v6 =>
  loadE 1 1 base v6 s fun s => ld1E v6 h fun v7 =>
  offE 4 v1 fun v8 =>
  loadE 3 4 base v8 s fun s => ld1E v8 h fun v9 =>
  intE gSub (bin TT .sub 3) v7 v9 fun v10 =>
  intE gSub (bin TT .sub 3) v10 (.int .i64 2) fun v11 =>
  loadE 6 0 base v1 s fun s => ldNE 6 v1 h fun v12 =>
  bigE 7 64 s h (fun h => (geom_Geom_Reserve K v12 h)) fun v13 h s =>
  offE 0 v1 fun v14 =>
  ld1E v14 h fun v15 =>
  intE gSub (bin TT .sub 3) v15 (.int .i64 1) fun v16 =>
  intE gMul (bin TT .mul 3) v16 v11 fun v18 =>
  intE gSub (bin TT .sub 3) v18 v13 fun v20 =>
  intE gAdd (bin TT .add 3) v20 (.int .i64 1) fun v21 =>
  offE 0 v1 fun v22 =>
  ld1E v22 h fun v23 =>
  intE gMul (bin TT .mul 3) v23 v11 fun v25 =>
  intE gMul (bin TT .mul 3) (.int .i64 2) v13 fun v27 =>
  intE gSub (bin TT .sub 3) v25 v27 fun v28 =>
  intE gAdd (bin TT .add 3) v28 (.int .i64 1) fun v29 =>
  andE (builtin TT .min #[3, 3] [v21, v29] h) fun v30 h =>
  binE (bin TT .shr 3) v30 (.int .u64 1) fun v32 =>
  intE gSub (bin TT .sub 3) v32 (.int .i64 1) fun v33 =>
  offE 0 v1 fun v34 =>
  ld1E v34 h fun v35 =>
  offE 4 v1 fun v36 =>
  ld1E v36 h fun v37 =>
  intE gMul (bin TT .mul 3) v35 v37 fun v38 =>
  intE gSub (bin TT .sub 3) v33 v38 fun v39 =>
  some (v39, h)
theorem geom_Geom_Segments_run (H : Agree disp) (hd : 2 ≤ d) (v0 : EV) (h : AHeap) : callC TT disp K d false 113 [v0] h = geom_Geom_Segments K v0 h := by
  obtain ⟨d, rfl⟩ : ∃ e, d = e + 1 := ⟨d - 1, by omega⟩
  have hd : 1 ≤ d := Nat.le_of_succ_le_succ hd
  rw [callC_at ((H.plain 113 rfl).trans (show disp3 113 = some F113 by kernel_rfl))]
  unfold F113
  rw [funC_at (by simp)]
  simp only [geom_Geom_Segments, F113ret, dd, ↓reduceIte, Nat.reduceEqDiff, Int.reduceOfNat, Int.reduceNegSucc, geom_Geom_Reserve_run H (lq hd rfl), tt0, tt1]

/-! 24 revetment/plan.New -/
def plan_New_j0 (K : Nat) (v8 : EV) (h : AHeap) : R :=
  andE (makeMapE h) fun v21 h =>
  buildE (nthPR [(0, 1), (1, 1), (2, 1), (3, 1)]) [.nilptr, .nilslice, .nilslice, .nilmap] [(0, v8), (3, v21)] fun v22 =>
  boxE 166 v22 h fun v23 h =>
  some (.tuple [v23, (.int .i64 0)], h)
theorem plan_New_j0_d (H : Agree disp) (hd : 2 ≤ d) (tm : Tmps) (h : AHeap) : F24j0 (callC TT disp K d false) (callC TT disp K d true) K tm h [] = plan_New_j0 K (tmp tm 8) h := by
  simp only [F24j0, plan_New_j0, F24ret, dd, ↓reduceIte, Nat.reduceEqDiff, Int.reduceOfNat, Int.reduceNegSucc, tt0]
def plan_New (K : Nat) (v0 v1 v2 : EV) (h : AHeap) : R :=
  andE (zdev_New K v0 v1 v2 h) fun v14 h =>
  extrE 0 v14 fun v15 =>
  extrE 1 v14 fun v16 =>
  intE gNeq (bin TT .neq 28) v16 (.int .i64 0) fun v18 =>
  ifE v18
  (some (.tuple [.nilptr, v16], h))
  (plan_New_j0 K v15 h)
theorem plan_New_run (H : Agree disp) (hd : 3 ≤ d) (v0 v1 v2 : EV) (h : AHeap) : callC TT disp K d false 24 [v0, v1, v2] h = plan_New K v0 v1 v2 h := by
  obtain ⟨d, rfl⟩ : ∃ e, d = e + 1 := ⟨d - 1, by omega⟩
  have hd : 2 ≤ d := Nat.le_of_succ_le_succ hd
  rw [callC_at ((H.plain 24 rfl).trans (show disp3 24 = some F24 by kernel_rfl))]
  unfold F24
  rw [funC_at (by simp)]
  simp only [plan_New, F24ret, dd, ↓reduceIte, Nat.reduceEqDiff, Int.reduceOfNat, Int.reduceNegSucc, plan_New_j0_d H hd, zdev_New_run H (lq hd rfl), tt0]

/-! 27 (revetment/revetmentref05.G).Right -/
def revetmentref05_G_Right_j0 (K : Nat) (base : Nat) (s : DX) (v66 : EV) (v75 : EV) (h : AHeap) : R :=
  pickE v66 v75 (.bool false) fun v76 =>
  some (v76, h)
theorem revetmentref05_G_Right_j0_d (H : Agree disp) (hd : 2 ≤ d) (base : Nat) (s : DX) (tm : Tmps) (h : AHeap) : F27j0 (callC TT disp K d false) (callC TT disp K d true) K base s tm h [] = revetmentref05_G_Right_j0 K base s (tmp tm 66) (tmp tm 75) h := by
  simp only [F27j0, revetmentref05_G_Right_j0, F27ret, dd, ↓reduceIte, Nat.reduceEqDiff, Int.reduceOfNat, Int.reduceNegSucc, tt0, tt1, tt2]
def revetmentref05_G_Right_j1 (K : Nat) (v1 : EV) (h : AHeap) : R :=
  drawE h fun base s =>
  loadE 0 0 base v1 s fun s => ldNE 6 v1 h fun v61 =>
  bigE 1 1 s h (fun h => (revetmentref05_G_Parts K v61 h)) fun v62 h s =>
  offE 2 v1 fun v63 =>
  loadE 3 4 base v63 s fun s => ld1E v63 h fun v64 =>
  intE gLeq (bin TT .leq 3) v62 v64 fun v65 =>
  cnd (wantE v65 true)
  (offE 3 v1 fun v67 =>
  loadE 7 127 base v67 s fun s => ld1E v67 h fun v68 =>
  intE gMul (bin TT .mul 3) (.int .i64 2) v68 fun v69 =>
  offE 2 v1 fun v70 =>
  loadE 10 575 base v70 s fun s => ld1E v70 h fun v71 =>
  loadE 11 63 base v1 s fun s => ldNE 6 v1 h fun v72 =>
  bigE 12 2111 s h (fun h => (revetmentref05_G_Segments K v72 h)) fun v73 h s =>
  intE gMul (bin TT .mul 3) v71 v73 fun v74 =>
  intE gLeq (bin TT .leq 3) v69 v74 fun v75 =>
  revetmentref05_G_Right_j0 K base s v65 v75 h)
  (revetmentref05_G_Right_j0 K base s v65 (.tuple []) h)
theorem revetmentref05_G_Right_j1_d (H : Agree disp) (hd : 2 ≤ d) (tm : Tmps) (h : AHeap) : F27j1 (callC TT disp K d false) (callC TT disp K d true) K tm h [] = revetmentref05_G_Right_j1 K (tmp tm 1) h := by
  simp only [F27j1, revetmentref05_G_Right_j1, F27ret, dd, ↓reduceIte, Nat.reduceEqDiff, Int.reduceOfNat, Int.reduceNegSucc, revetmentref05_G_Right_j0_d H hd, revetmentref05_G_Parts_run H (lq hd rfl), revetmentref05_G_Segments_run H (lq hd rfl), tt0, tt1, tt2]
def revetmentref05_G_Right_j2 (K : Nat) (v1 : EV) (v56 : EV) (v59 : EV) (h : AHeap) : R :=
  pickE v56 (.bool true) v59 fun v60 =>
  ifE v60
  (some ((.bool false), h))
  (revetmentref05_G_Right_j1 K v1 h)
theorem revetmentref05_G_Right_j2_d (H : Agree disp) (hd : 2 ≤ d) (tm : Tmps) (h : AHeap) : F27j2 (callC TT disp K d false) (callC TT disp K d true) K tm h [] = revetmentref05_G_Right_j2 K (tmp tm 1) (tmp tm 56) (tmp tm 59) h := by
  simp only [F27j2, revetmentref05_G_Right_j2, F27ret, dd, ↓reduceIte, Nat.reduceEqDiff, Int.reduceOfNat, Int.reduceNegSucc, revetmentref05_G_Right_j1_d H hd, tt0, tt1, tt2]
def revetmentref05_G_Right_j3 (K : Nat) (v1 : EV) (v51 : EV) (v54 : EV) (h : AHeap) : R :=
  pickE v51 (.bool true) v54 fun v55 =>
  cnd (wantE v55 false)
  (offE 5 v1 fun v57 =>
  ld1E v57 h fun v58 =>
  intE gGtr (bin TT .gtr 3) v58 (.int .i64 64) fun v59 =>
  revetmentref05_G_Right_j2 K v1 v55 v59 h)
  (revetmentref05_G_Right_j2 K v1 v55 (.tuple []) h)
theorem revetmentref05_G_Right_j3_d (H : Agree disp) (hd : 2 ≤ d) (tm : Tmps) (h : AHeap) : F27j3 (callC TT disp K d false) (callC TT disp K d true) K tm h [] = revetmentref05_G_Right_j3 K (tmp tm 1) (tmp tm 51) (tmp tm 54) h := by
  simp only [F27j3, revetmentref05_G_Right_j3, F27ret, dd, ↓reduceIte, Nat.reduceEqDiff, Int.reduceOfNat, Int.reduceNegSucc, revetmentref05_G_Right_j2_d H hd, tt0, tt1, tt2]
def revetmentref05_G_Right_j4 (K : Nat) (v1 : EV) (v46 : EV) (v49 : EV) (h : AHeap) : R :=
  pickE v46 (.bool true) v49 fun v50 =>
  cnd (wantE v50 false)
  (offE 5 v1 fun v52 =>
  ld1E v52 h fun v53 =>
  intE gLss (bin TT .lss 3) v53 (.int .i64 4) fun v54 =>
  revetmentref05_G_Right_j3 K v1 v50 v54 h)
  (revetmentref05_G_Right_j3 K v1 v50 (.tuple []) h)
theorem revetmentref05_G_Right_j4_d (H : Agree disp) (hd : 2 ≤ d) (tm : Tmps) (h : AHeap) : F27j4 (callC TT disp K d false) (callC TT disp K d true) K tm h [] = revetmentref05_G_Right_j4 K (tmp tm 1) (tmp tm 46) (tmp tm 49) h := by
  simp only [F27j4, revetmentref05_G_Right_j4, F27ret, dd, ↓reduceIte, Nat.reduceEqDiff, Int.reduceOfNat, Int.reduceNegSucc, revetmentref05_G_Right_j3_d H hd, tt0, tt1, tt2]
def revetmentref05_G_Right_j5 (K : Nat) (v1 : EV) (v41 : EV) (v44 : EV) (h : AHeap) : R :=
  pickE v41 (.bool true) v44 fun v45 =>
  cnd (wantE v45 false)
  (offE 4 v1 fun v47 =>
  ld1E v47 h fun v48 =>
  intE gGtr (bin TT .gtr 3) v48 (.int .i64 4) fun v49 =>
  revetmentref05_G_Right_j4 K v1 v45 v49 h)
  (revetmentref05_G_Right_j4 K v1 v45 (.tuple []) h)
theorem revetmentref05_G_Right_j5_d (H : Agree disp) (hd : 2 ≤ d) (tm : Tmps) (h : AHeap) : F27j5 (callC TT disp K d false) (callC TT disp K d true) K tm h [] = revetmentref05_G_Right_j5 K (tmp tm 1) (tmp tm 41) (tmp tm 44) h := by
  simp only [F27j5, revetmentref05_G_Right_j5, F27ret, dd, ↓reduceIte, Nat.reduceEqDiff, Int.reduceOfNat, Int.reduceNegSucc, revetmentref05_G_Right_j4_d H hd, tt0, tt1, tt2]
def revetmentref05_G_Right_j6 (K : Nat) (v1 : EV) (v36 : EV) (v39 : EV) (h : AHeap) : R :=
  pickE v36 (.bool true) v39 fun v40 =>
  cnd (wantE v40 false)
  (offE 4 v1 fun v42 =>
  ld1E v42 h fun v43 =>
  intE gLss (bin TT .lss 3) v43 (.int .i64 0) fun v44 =>
  revetmentref05_G_Right_j5 K v1 v40 v44 h)
  (revetmentref05_G_Right_j5 K v1 v40 (.tuple []) h)
theorem revetmentref05_G_Right_j6_d (H : Agree disp) (hd : 2 ≤ d) (tm : Tmps) (h : AHeap) : F27j6 (callC TT disp K d false) (callC TT disp K d true) K tm h [] = revetmentref05_G_Right_j6 K (tmp tm 1) (tmp tm 36) (tmp tm 39) h := by
  simp only [F27j6, revetmentref05_G_Right_j6, F27ret, dd, ↓reduceIte, Nat.reduceEqDiff, Int.reduceOfNat, Int.reduceNegSucc, revetmentref05_G_Right_j5_d H hd, tt0, tt1, tt2]
def revetmentref05_G_Right_j7 (K : Nat) (v1 : EV) (v31 : EV) (v34 : EV) (h : AHeap) : R :=
  pickE v31 (.bool true) v34 fun v35 =>
  cnd (wantE v35 false)
  (offE 3 v1 fun v37 =>
  ld1E v37 h fun v38 =>
  intE gGtr (bin TT .gtr 3) v38 (.int .i64 256) fun v39 =>
  revetmentref05_G_Right_j6 K v1 v35 v39 h)
  (revetmentref05_G_Right_j6 K v1 v35 (.tuple []) h)
theorem revetmentref05_G_Right_j7_d (H : Agree disp) (hd : 2 ≤ d) (tm : Tmps) (h : AHeap) : F27j7 (callC TT disp K d false) (callC TT disp K d true) K tm h [] = revetmentref05_G_Right_j7 K (tmp tm 1) (tmp tm 31) (tmp tm 34) h := by
  simp only [F27j7, revetmentref05_G_Right_j7, F27ret, dd, ↓reduceIte, Nat.reduceEqDiff, Int.reduceOfNat, Int.reduceNegSucc, revetmentref05_G_Right_j6_d H hd, tt0, tt1, tt2]
def revetmentref05_G_Right_j8 (K : Nat) (v1 : EV) (v26 : EV) (v29 : EV) (h : AHeap) : R :=
  pickE v26 (.bool true) v29 fun v30 =>
  cnd (wantE v30 false)
  (offE 3 v1 fun v32 =>
  ld1E v32 h fun v33 =>
  intE gLss (bin TT .lss 3) v33 (.int .i64 1) fun v34 =>
  revetmentref05_G_Right_j7 K v1 v30 v34 h)
  (revetmentref05_G_Right_j7 K v1 v30 (.tuple []) h)
theorem revetmentref05_G_Right_j8_d (H : Agree disp) (hd : 2 ≤ d) (tm : Tmps) (h : AHeap) : F27j8 (callC TT disp K d false) (callC TT disp K d true) K tm h [] = revetmentref05_G_Right_j8 K (tmp tm 1) (tmp tm 26) (tmp tm 29) h := by
  simp only [F27j8, revetmentref05_G_Right_j8, F27ret, dd, ↓reduceIte, Nat.reduceEqDiff, Int.reduceOfNat, Int.reduceNegSucc, revetmentref05_G_Right_j7_d H hd, tt0, tt1, tt2]
def revetmentref05_G_Right_j9 (K : Nat) (v1 : EV) (v21 : EV) (v24 : EV) (h : AHeap) : R :=
  pickE v21 (.bool true) v24 fun v25 =>
  cnd (wantE v25 false)
  (offE 2 v1 fun v27 =>
  ld1E v27 h fun v28 =>
  intE gGtr (bin TT .gtr 3) v28 (.int .i64 64) fun v29 =>
  revetmentref05_G_Right_j8 K v1 v25 v29 h)
  (revetmentref05_G_Right_j8 K v1 v25 (.tuple []) h)
theorem revetmentref05_G_Right_j9_d (H : Agree disp) (hd : 2 ≤ d) (tm : Tmps) (h : AHeap) : F27j9 (callC TT disp K d false) (callC TT disp K d true) K tm h [] = revetmentref05_G_Right_j9 K (tmp tm 1) (tmp tm 21) (tmp tm 24) h := by
  simp only [F27j9, revetmentref05_G_Right_j9, F27ret, dd, ↓reduceIte, Nat.reduceEqDiff, Int.reduceOfNat, Int.reduceNegSucc, revetmentref05_G_Right_j8_d H hd, tt0, tt1, tt2]
def revetmentref05_G_Right_j10 (K : Nat) (v1 : EV) (v16 : EV) (v19 : EV) (h : AHeap) : R :=
  pickE v16 (.bool true) v19 fun v20 =>
  cnd (wantE v20 false)
  (offE 2 v1 fun v22 =>
  ld1E v22 h fun v23 =>
  intE gLss (bin TT .lss 3) v23 (.int .i64 4) fun v24 =>
  revetmentref05_G_Right_j9 K v1 v20 v24 h)
  (revetmentref05_G_Right_j9 K v1 v20 (.tuple []) h)
theorem revetmentref05_G_Right_j10_d (H : Agree disp) (hd : 2 ≤ d) (tm : Tmps) (h : AHeap) : F27j10 (callC TT disp K d false) (callC TT disp K d true) K tm h [] = revetmentref05_G_Right_j10 K (tmp tm 1) (tmp tm 16) (tmp tm 19) h := by
  simp only [F27j10, revetmentref05_G_Right_j10, F27ret, dd, ↓reduceIte, Nat.reduceEqDiff, Int.reduceOfNat, Int.reduceNegSucc, revetmentref05_G_Right_j9_d H hd, tt0, tt1, tt2]
def revetmentref05_G_Right_j11 (K : Nat) (v1 : EV) (v11 : EV) (v14 : EV) (h : AHeap) : R :=
  pickE v11 (.bool true) v14 fun v15 =>
  cnd (wantE v15 false)
  (offE 1 v1 fun v17 =>
  ld1E v17 h fun v18 =>
  intE gGtr (bin TT .gtr 3) v18 (.int .i64 64) fun v19 =>
  revetmentref05_G_Right_j10 K v1 v15 v19 h)
  (revetmentref05_G_Right_j10 K v1 v15 (.tuple []) h)
theorem revetmentref05_G_Right_j11_d (H : Agree disp) (hd : 2 ≤ d) (tm : Tmps) (h : AHeap) : F27j11 (callC TT disp K d false) (callC TT disp K d true) K tm h [] = revetmentref05_G_Right_j11 K (tmp tm 1) (tmp tm 11) (tmp tm 14) h := by
  simp only [F27j11, revetmentref05_G_Right_j11, F27ret, dd, ↓reduceIte, Nat.reduceEqDiff, Int.reduceOfNat, Int.reduceNegSucc, revetmentref05_G_Right_j10_d H hd, tt0, tt1, tt2]
def revetmentref05_G_Right_j12 (K : Nat) (v1 : EV) (v6 : EV) (v9 : EV) (h : AHeap) : R :=
  pickE v6 (.bool true) v9 fun v10 =>
  cnd (wantE v10 false)
  (offE 1 v1 fun v12 =>
  ld1E v12 h fun v13 =>
  intE gLss (bin TT .lss 3) v13 (.int .i64 1) fun v14 =>
  revetmentref05_G_Right_j11 K v1 v10 v14 h)
  (revetmentref05_G_Right_j11 K v1 v10 (.tuple []) h)
theorem revetmentref05_G_Right_j12_d (H : Agree disp) (hd : 2 ≤ d) (tm : Tmps) (h : AHeap) : F27j12 (callC TT disp K d false) (callC TT disp K d true) K tm h [] = revetmentref05_G_Right_j12 K (tmp tm 1) (tmp tm 6) (tmp tm 9) h := by
  simp only [F27j12, revetmentref05_G_Right_j12, F27ret, dd, ↓reduceIte, Nat.reduceEqDiff, Int.reduceOfNat, Int.reduceNegSucc, revetmentref05_G_Right_j11_d H hd, tt0, tt1, tt2]
def revetmentref05_G_Right (K : Nat) (v0 : EV) (h : AHeap) : R :=
  boxE 37 v0 h fun v1 h =>
  offE 0 v1 fun v3 =>
  ld1E v3 h fun v4 =>
  intE gLss (bin TT .lss 3) v4 (.int .i64 3) fun v5 =>
  cnd (wantE v5 false)
  (offE 0 v1 fun v7 =>
  ld1E v7 h fun v8 =>
  intE gGtr (bin TT .gtr 3) v8 (.int .i64 8) fun v9 =>
  revetmentref05_G_Right_j12 K v1 v5 v9 h)
  (revetmentref05_G_Right_j12 K v1 v5 (.tuple []) h)
theorem revetmentref05_G_Right_run (H : Agree disp) (hd : 3 ≤ d) (v0 : EV) (h : AHeap) : callC TT disp K d false 27 [v0] h = revetmentref05_G_Right K v0 h := by
  obtain ⟨d, rfl⟩ : ∃ e, d = e + 1 := ⟨d - 1, by omega⟩
  have hd : 2 ≤ d := Nat.le_of_succ_le_succ hd
  rw [callC_at ((H.plain 27 rfl).trans (show disp3 27 = some F27 by kernel_rfl))]
  unfold F27
  rw [funC_at (by simp)]
  simp only [revetmentref05_G_Right, F27ret, dd, ↓reduceIte, Nat.reduceEqDiff, Int.reduceOfNat, Int.reduceNegSucc, revetmentref05_G_Right_j12_d H hd, tt0, tt1, tt2]

/-! 62 (revetment/geom.Geom).Right -/
def geom_Geom_Right_j0 (K : Nat) (base : Nat) (s : DX) (v12 : EV) (v21 : EV) (h : AHeap) : R :=
  pickE v12 v21 (.bool false) fun v22 =>
  some (v22, h)
theorem geom_Geom_Right_j0_d (H : Agree disp) (hd : 2 ≤ d) (base : Nat) (s : DX) (tm : Tmps) (h : AHeap) : F62j0 (callC TT disp K d false) (callC TT disp K d true) K base s tm h [] = geom_Geom_Right_j0 K base s (tmp tm 12) (tmp tm 21) h := by
  simp only [F62j0, geom_Geom_Right_j0, F62ret, dd, ↓reduceIte, Nat.reduceEqDiff, Int.reduceOfNat, Int.reduceNegSucc, tt0]
def geom_Geom_Right_j1 (K : Nat) (base : Nat) (s : DX) (v1 : EV) (v5 : EV) (v10 : EV) (h : AHeap) : R :=
  pickE v5 v10 (.bool false) fun v11 =>
  cnd (wantE v11 true)
  (offE 3 v1 fun v13 =>
  loadE 11 2047 base v13 s fun s => ld1E v13 h fun v14 =>
  intE gMul (bin TT .mul 3) (.int .i64 2) v14 fun v15 =>
  offE 2 v1 fun v16 =>
  loadE 14 9215 base v16 s fun s => ld1E v16 h fun v17 =>
  loadE 15 1023 base v1 s fun s => ldNE 6 v1 h fun v18 =>
  bigE 16 33791 s h (fun h => (geom_Geom_Segments K v18 h)) fun v19 h s =>
  intE gMul (bin TT .mul 3) v17 v19 fun v20 =>
  intE gLeq (bin TT .leq 3) v15 v20 fun v21 =>
  geom_Geom_Right_j0 K base s v11 v21 h)
  (geom_Geom_Right_j0 K base s v11 (.tuple []) h)
theorem geom_Geom_Right_j1_d (H : Agree disp) (hd : 2 ≤ d) (base : Nat) (s : DX) (tm : Tmps) (h : AHeap) : F62j1 (callC TT disp K d false) (callC TT disp K d true) K base s tm h [] = geom_Geom_Right_j1 K base s (tmp tm 1) (tmp tm 5) (tmp tm 10) h := by
  simp only [F62j1, geom_Geom_Right_j1, F62ret, dd, ↓reduceIte, Nat.reduceEqDiff, Int.reduceOfNat, Int.reduceNegSucc, geom_Geom_Right_j0_d H hd, geom_Geom_Segments_run H (lq hd rfl), tt0]
def geom_Geom_Right (K : Nat) (v0 : EV) (h : AHeap) : R :=
  boxE 23 v0 h fun v1 h =>
  drawE h fun base s =>
  loadE 0 0 base v1 s fun s => ldNE 6 v1 h fun v3 =>
  bigE 1 1 s h (fun h => (geom_Geom_small K v3 h)) fun v4 h s =>
  cnd (wantE v4 true)
  (loadE 3 7 base v1 s fun s => ldNE 6 v1 h fun v6 =>
  bigE 4 15 s h (fun h => (geom_Geom_Parts K v6 h)) fun v7 h s =>
  offE 2 v1 fun v8 =>
  loadE 6 39 base v8 s fun s => ld1E v8 h fun v9 =>
  intE gLeq (bin TT .leq 3) v7 v9 fun v10 =>
  geom_Geom_Right_j1 K base s v1 v4 v10 h)
  (geom_Geom_Right_j1 K base s v1 v4 (.tuple []) h)
theorem geom_Geom_Right_run (H : Agree disp) (hd : 3 ≤ d) (v0 : EV) (h : AHeap) : callC TT disp K d false 62 [v0] h = geom_Geom_Right K v0 h := by
  obtain ⟨d, rfl⟩ : ∃ e, d = e + 1 := ⟨d - 1, by omega⟩
  have hd : 2 ≤ d := Nat.le_of_succ_le_succ hd
  rw [callC_at ((H.plain 62 rfl).trans (show disp3 62 = some F62 by kernel_rfl))]
  unfold F62
  rw [funC_at (by simp)]
  simp only [geom_Geom_Right, F62ret, dd, ↓reduceIte, Nat.reduceEqDiff, Int.reduceOfNat, Int.reduceNegSucc, geom_Geom_Right_j1_d H hd, geom_Geom_small_run H (lq hd rfl), geom_Geom_Parts_run H (lq hd rfl), tt0]

/-! 73 revetment/pool.New -/
def pool_New_j0 (K : Nat) (v4 : EV) (h : AHeap) : R :=
  some (.tuple [v4, (.int .i64 0)], h)
theorem pool_New_j0_d (H : Agree disp) (hd : 3 ≤ d) (tm : Tmps) (h : AHeap) : F73j0 (callC TT disp K d false) (callC TT disp K d true) K tm h [] = pool_New_j0 K (tmp tm 4) h := by
  simp only [F73j0, pool_New_j0, F73ret, dd, ↓reduceIte, Nat.reduceEqDiff, Int.reduceOfNat, Int.reduceNegSucc, tt0, tt1]
def pool_New_j2 (K : Nat) (ih1_ : EV → EV → EV → EV → AHeap → R) (v1 : EV) (v4 : EV) (v14 : EV) (v15 : EV) (h : AHeap) : R :=
  intE gAdd (bin TT .add 3) v15 (.int .i64 1) fun v36 =>
  ih1_ v1 v4 v14 v36 h
theorem pool_New_j2_d (H : Agree disp) (hd : 3 ≤ d) {ih1_ : CF} {ih1_' : EV → EV → EV → EV → AHeap → R} (hih1_ : ∀ tm h, ih1_ tm h [] = ih1_' (tmp tm 1) (tmp tm 4) (tmp tm 14) (tmp tm 15) h) (tm : Tmps) (h : AHeap) : F73j2 (callC TT disp K d false) (callC TT disp K d true) K ih1_ tm h [] = pool_New_j2 K ih1_' (tmp tm 1) (tmp tm 4) (tmp tm 14) (tmp tm 15) h := by
  simp only [F73j2, pool_New_j2, F73ret, dd, ↓reduceIte, Nat.reduceEqDiff, Int.reduceOfNat, Int.reduceNegSucc, hih1_, tt0, tt1]
def pool_New_j3 (K : Nat) (ih1_ : EV → EV → EV → EV → AHeap → R) (v1 : EV) (v4 : EV) (v5 : EV) (v14 : EV) (v15 : EV) (h : AHeap) : R :=
  nilE v4 fun v28 =>
  offE 6 v28 fun v29 =>
  ld1E v29 h fun v30 =>
  andE (buildSliceE [.nilptr] 153 1 1 [(0, v5)] h) fun v32 h =>
  andE (appendF 153 1 v30 v32 h) fun v33 h =>
  nilE v4 fun v34 =>
  offE 6 v34 fun v35 =>
  stE 1 v35 v33 h fun h =>
  pool_New_j2 K ih1_ v1 v4 v14 v15 h
theorem pool_New_j3_d (H : Agree disp) (hd : 3 ≤ d) {ih1_ : CF} {ih1_' : EV → EV → EV → EV → AHeap → R} (hih1_ : ∀ tm h, ih1_ tm h [] = ih1_' (tmp tm 1) (tmp tm 4) (tmp tm 14) (tmp tm 15) h) (tm : Tmps) (h : AHeap) : F73j3 (callC TT disp K d false) (callC TT disp K d true) K ih1_ tm h [] = pool_New_j3 K ih1_' (tmp tm 1) (tmp tm 4) (tmp tm 5) (tmp tm 14) (tmp tm 15) h := by
  simp only [F73j3, pool_New_j3, F73ret, dd, ↓reduceIte, Nat.reduceEqDiff, Int.reduceOfNat, Int.reduceNegSucc, hih1_, pool_New_j2_d H hd hih1_, tt0, tt1]
def pool_New_j4 (K : Nat) (ih1_ : EV → EV → EV → EV → AHeap → R) (v1 : EV) (v4 : EV) (v14 : EV) (v15 : EV) (h : AHeap) : R :=
  offE 1 v1 fun v18 =>
  ld1E v18 h fun v19 =>
  andE (queue_New K v19 h) fun v20 h =>
  extrE 0 v20 fun v21 =>
  extrE 1 v20 fun v22 =>
  intE gNeq (bin TT .neq 28) v22 (.int .i64 0) fun v24 =>
  ifE v24
  (some (.tuple [.nilptr, v22], h))
  (pool_New_j3 K ih1_ v1 v4 v21 v14 v15 h)
theorem pool_New_j4_d (H : Agree disp) (hd : 3 ≤ d) {ih1_ : CF} {ih1_' : EV → EV → EV → EV → AHeap → R} (hih1_ : ∀ tm h, ih1_ tm h [] = ih1_' (tmp tm 1) (tmp tm 4) (tmp tm 14) (tmp tm 15) h) (tm : Tmps) (h : AHeap) : F73j4 (callC TT disp K d false) (callC TT disp K d true) K ih1_ tm h [] = pool_New_j4 K ih1_' (tmp tm 1) (tmp tm 4) (tmp tm 14) (tmp tm 15) h := by
  simp only [F73j4, pool_New_j4, F73ret, dd, ↓reduceIte, Nat.reduceEqDiff, Int.reduceOfNat, Int.reduceNegSucc, hih1_, pool_New_j3_d H hd hih1_, queue_New_run H (lq hd rfl), tt0, tt1]
def pool_New_b5 (K : Nat) : Nat → EV → EV → EV → EV → AHeap → R
 | 0 => fun _ _ _ _ _ => none
 | m + 1 => fun v1 v4 v14 v15 h =>
  intE gLss (bin TT .lss 3) v15 v14 fun v16 =>
  ifE v16
  (pool_New_j4 K (pool_New_b5 K m) v1 v4 v14 v15 h)
  (pool_New_j0 K v4 h)
theorem pool_New_b5_d (H : Agree disp) (hd : 3 ≤ d) : ∀ (m : Nat) (tm : Tmps) (h : AHeap), loopC (F73b5 (callC TT disp K d false) (callC TT disp K d true) K) m tm h [] = pool_New_b5 K m (tmp tm 1) (tmp tm 4) (tmp tm 14) (tmp tm 15) h := by
  intro m
  induction m with
  | zero => intros; rfl
  | succ m hih1_ =>
    intro tm h
    rw [loopC_succ]
    simp only [F73b5, pool_New_b5, F73ret, dd, ↓reduceIte, Nat.reduceEqDiff, Int.reduceOfNat, Int.reduceNegSucc, hih1_, pool_New_j4_d H hd hih1_, pool_New_j0_d H hd, tt0, tt1]
def pool_New_j6 (K : Nat) (v1 : EV) (h : AHeap) : R :=
  ldNE 6 v1 h fun v10 =>
  buildE (nthPR [(0, 6), (6, 1)]) [(.int .i64 0), (.int .i64 0), (.int .i64 0), (.int .i64 0), (.int .i64 0), (.int .i64 0), .nilslice] [(0, v10)] fun v11 =>
  boxE 152 v11 h fun v12 h =>
  offE 0 v1 fun v13 =>
  ld1E v13 h fun v14 =>
  pool_New_b5 K K v1 v12 v14 (.int .i64 0) h
theorem pool_New_j6_d (H : Agree disp) (hd : 3 ≤ d) (tm : Tmps) (h : AHeap) : F73j6 (callC TT disp K d false) (callC TT disp K d true) K tm h [] = pool_New_j6 K (tmp tm 1) h := by
  simp only [F73j6, pool_New_j6, F73ret, dd, ↓reduceIte, Nat.reduceEqDiff, Int.reduceOfNat, Int.reduceNegSucc, pool_New_b5_d H hd, tt0, tt1]
def pool_New (K : Nat) (v0 : EV) (h : AHeap) : R :=
  boxE 23 v0 h fun v1 h =>
  ldNE 6 v1 h fun v7 =>
  andE (geom_Geom_Right K v7 h) fun v8 h =>
  notE v8 fun v9 =>
  ifE v9
  (some (.tuple [.nilptr, (.int .i64 20)], h))
  (pool_New_j6 K v1 h)
theorem pool_New_run (H : Agree disp) (hd : 4 ≤ d) (v0 : EV) (h : AHeap) : callC TT disp K d false 73 [v0] h = pool_New K v0 h := by
  obtain ⟨d, rfl⟩ : ∃ e, d = e + 1 := ⟨d - 1, by omega⟩
  have hd : 3 ≤ d := Nat.le_of_succ_le_succ hd
  rw [callC_at ((H.plain 73 rfl).trans (show disp3 73 = some F73 by kernel_rfl))]
  unfold F73
  rw [funC_at (by simp)]
  simp only [pool_New, F73ret, dd, ↓reduceIte, Nat.reduceEqDiff, Int.reduceOfNat, Int.reduceNegSucc, pool_New_j6_d H hd, geom_Geom_Right_run H (lq hd rfl), tt0, tt1]

/-! 25 revetment/mirror.New -/
def mirror_New_j0 (K : Nat) (v0 : EV) (v4 : EV) (v5 : EV) (v8 : EV) (h : AHeap) : R :=
  drawE h fun base s =>
  loadE 1 0 base v4 s fun s => ldNE 6 v4 h fun v34 =>
  loadE 2 0 base v5 s fun s => ldNE 256 v5 h fun v35 =>
  loadE 4 0 base v4 s fun s => ldNE 6 v4 h fun v37 =>
  bigE 5 16 s h (fun h => (geom_Geom_All K v37 h)) fun v38 h s =>
  newS 6 h s fun s => andE (makeSliceE [(.int .i64 0)] 3 v38 v38 h) fun v39 h =>
  buildE (nthPR [(0, 1), (1, 6), (7, 256), (263, 1), (264, 1), (265, 1), (266, 1), (267, 1)]) ([.nilptr] ++ List.replicate 6 (.int .i64 0) ++ List.replicate 256 (.int .u32 0) ++ [.nilptr] ++ [.nilslice] ++ List.replicate 3 (.int .i64 0)) [(0, v0), (1, v34), (2, v35), (3, v8), (4, v39), (5, (.int .i64 (-1))), (6, (.int .i64 (-1)))] fun v40 =>
  newS 8 h s fun s => boxE 149 v40 h fun v41 h =>
  some (.tuple [v41, (.int .i64 0)], h)
theorem mirror_New_j0_d (H : Agree disp) (hd : 4 ≤ d) (tm : Tmps) (h : AHeap) : F25j0 (callC TT disp K d false) (callC TT disp K d true) K tm h [] = mirror_New_j0 K (tmp tm 0) (tmp tm 4) (tmp tm 5) (tmp tm 8) h := by
  simp only [F25j0, mirror_New_j0, F25ret, dd, ↓reduceIte, Nat.reduceEqDiff, Int.reduceOfNat, Int.reduceNegSucc, geom_Geom_All_run H (lq hd rfl), tt0, tt1]
def mirror_New_j1 (K : Nat) (base : Nat) (s : DX) (v0 : EV) (v4 : EV) (v5 : EV) (v8 : EV) (v25 : EV) (v31 : EV) (h : AHeap) : R :=
  pickE v25 (.bool true) v31 fun v32 =>
  ifE v32
  (some (.tuple [.nilptr, (.int .i64 20)], h))
  (mirror_New_j0 K v0 v4 v5 v8 h)
theorem mirror_New_j1_d (H : Agree disp) (hd : 4 ≤ d) (base : Nat) (s : DX) (tm : Tmps) (h : AHeap) : F25j1 (callC TT disp K d false) (callC TT disp K d true) K base s tm h [] = mirror_New_j1 K base s (tmp tm 0) (tmp tm 4) (tmp tm 5) (tmp tm 8) (tmp tm 25) (tmp tm 31) h := by
  simp only [F25j1, mirror_New_j1, F25ret, dd, ↓reduceIte, Nat.reduceEqDiff, Int.reduceOfNat, Int.reduceNegSucc, mirror_New_j0_d H hd, tt0, tt1]
def mirror_New_j2 (K : Nat) (base : Nat) (s : DX) (v0 : EV) (v4 : EV) (v5 : EV) (v8 : EV) (v17 : EV) (v23 : EV) (h : AHeap) : R :=
  pickE v17 (.bool true) v23 fun v24 =>
  cnd (wantE v24 false)
  (bigE 12 4095 s h (fun h => (plan_Drive_Device K v0 h)) fun v27 h s =>
  bigE 13 8191 s h (fun h => (zdev_Device_Size K v27 h)) fun v28 h s =>
  offE 2 v4 fun v29 =>
  loadE 15 18431 base v29 s fun s => ld1E v29 h fun v30 =>
  intE gNeq (bin TT .neq 3) v28 v30 fun v31 =>
  mirror_New_j1 K base s v0 v4 v5 v8 v24 v31 h)
  (mirror_New_j1 K base s v0 v4 v5 v8 v24 (.tuple []) h)
theorem mirror_New_j2_d (H : Agree disp) (hd : 4 ≤ d) (base : Nat) (s : DX) (tm : Tmps) (h : AHeap) : F25j2 (callC TT disp K d false) (callC TT disp K d true) K base s tm h [] = mirror_New_j2 K base s (tmp tm 0) (tmp tm 4) (tmp tm 5) (tmp tm 8) (tmp tm 17) (tmp tm 23) h := by
  simp only [F25j2, mirror_New_j2, F25ret, dd, ↓reduceIte, Nat.reduceEqDiff, Int.reduceOfNat, Int.reduceNegSucc, mirror_New_j1_d H hd, plan_Drive_Device_run H (lq hd rfl), zdev_Device_Size_run H (lq hd rfl), tt0, tt1]
def mirror_New (K : Nat) (v0 v1 v2 : EV) (h : AHeap) : R :=
  boxE 23 v1 h fun v4 h =>
  boxE 72 v2 h fun v5 h =>
  ldNE 6 v4 h fun v11 =>
  andE (pool_New K v11 h) fun v12 h =>
  extrE 0 v12 fun v13 =>
  extrE 1 v12 fun v14 =>
  drawE h fun base s =>
  intE gNeq (bin TT .neq 28) v14 (.int .i64 0) fun v16 =>
  cnd (wantE v16 false)
  (bigE 4 15 s h (fun h => (plan_Drive_Device K v0 h)) fun v19 h s =>
  bigE 5 31 s h (fun h => (zdev_Device_Zones K v19 h)) fun v20 h s =>
  loadE 6 7 base v4 s fun s => ldNE 6 v4 h fun v21 =>
  bigE 7 127 s h (fun h => (geom_Geom_All K v21 h)) fun v22 h s =>
  intE gNeq (bin TT .neq 3) v20 v22 fun v23 =>
  mirror_New_j2 K base s v0 v4 v5 v13 v16 v23 h)
  (mirror_New_j2 K base s v0 v4 v5 v13 v16 (.tuple []) h)
theorem mirror_New_run (H : Agree disp) (hd : 5 ≤ d) (v0 v1 v2 : EV) (h : AHeap) : callC TT disp K d false 25 [v0, v1, v2] h = mirror_New K v0 v1 v2 h := by
  obtain ⟨d, rfl⟩ : ∃ e, d = e + 1 := ⟨d - 1, by omega⟩
  have hd : 4 ≤ d := Nat.le_of_succ_le_succ hd
  rw [callC_at ((H.plain 25 rfl).trans (show disp3 25 = some F25 by kernel_rfl))]
  unfold F25
  rw [funC_at (by simp)]
  simp only [mirror_New, F25ret, dd, ↓reduceIte, Nat.reduceEqDiff, Int.reduceOfNat, Int.reduceNegSucc, mirror_New_j2_d H hd, pool_New_run H (lq hd rfl), plan_Drive_Device_run H (lq hd rfl), zdev_Device_Zones_run H (lq hd rfl), geom_Geom_All_run H (lq hd rfl), tt0, tt1]

/-! 5 revetment/revetmentlaw14.MirrorBegins -/
def revetmentlaw14_MirrorBegins_j0 (c r : Caller) (K : Nat) (base : Nat) (s : DX) (v99 : EV) (v103 : EV) (h : AHeap) : R :=
  pickE v99 v103 (.bool false) fun v104 =>
  some (v104, h)
theorem revetmentlaw14_MirrorBegins_j0_d (H : Agree disp) (hd : 5 ≤ d) (base : Nat) (s : DX) (tm : Tmps) (h : AHeap) : F5j0 (callC TT disp K d false) (callC TT disp K d true) K base s tm h [] = revetmentlaw14_MirrorBegins_j0 (callC TT disp K d false) (callC TT disp K d true) K base s (tmp tm 99) (tmp tm 103) h := by
  simp only [F5j0, revetmentlaw14_MirrorBegins_j0, F5ret, dd, ↓reduceIte, Nat.reduceEqDiff, Int.reduceOfNat, Int.reduceNegSucc, tt0, tt1, tt2, tt3]
def revetmentlaw14_MirrorBegins_j1 (c r : Caller) (K : Nat) (base : Nat) (s : DX) (v9 : EV) (v14 : EV) (v93 : EV) (v97 : EV) (h : AHeap) : R :=
  pickE v93 v97 (.bool false) fun v98 =>
  cnd (wantE v98 true)
  (bigE 30 1073741823 s h (fun h => (mirror_Mirror_Table K v9 h)) fun v101 h s =>
  loadE 31 536870911 base v14 s fun s => ldNE 256 v14 h fun v102 =>
  intE gEql (bin TT .eql 72) v101 v102 fun v103 =>
  revetmentlaw14_MirrorBegins_j0 c r K base s v98 v103 h)
  (revetmentlaw14_MirrorBegins_j0 c r K base s v98 (.tuple []) h)
theorem revetmentlaw14_MirrorBegins_j1_d (H : Agree disp) (hd : 5 ≤ d) (base : Nat) (s : DX) (tm : Tmps) (h : AHeap) : F5j1 (callC TT disp K d false) (callC TT disp K d true) K base s tm h [] = revetmentlaw14_MirrorBegins_j1 (callC TT disp K d false) (callC TT disp K d true) K base s (tmp tm 9) (tmp tm 14) (tmp tm 93) (tmp tm 97) h := by
  simp only [F5j1, revetmentlaw14_MirrorBegins_j1, F5ret, dd, ↓reduceIte, Nat.reduceEqDiff, Int.reduceOfNat, Int.reduceNegSucc, revetmentlaw14_MirrorBegins_j0_d H hd, mirror_Mirror_Table_run H (lq hd rfl), tt0, tt1, tt2, tt3]
def revetmentlaw14_MirrorBegins_j2 (c r : Caller) (K : Nat) (base : Nat) (s : DX) (v7 : EV) (v9 : EV) (v14 : EV) (v87 : EV) (v91 : EV) (h : AHeap) : R :=
  pickE v87 v91 (.bool false) fun v92 =>
  cnd (wantE v92 true)
  (bigE 24 16777215 s h (fun h => (mirror_Mirror_Drive K v9 h)) fun v95 h s =>
  intE gEql (bin TT .eql 65) v95 v7 fun v97 =>
  revetmentlaw14_MirrorBegins_j1 c r K base s v9 v14 v92 v97 h)
  (revetmentlaw14_MirrorBegins_j1 c r K base s v9 v14 v92 (.tuple []) h)
theorem revetmentlaw14_MirrorBegins_j2_d (H : Agree disp) (hd : 5 ≤ d) (base : Nat) (s : DX) (tm : Tmps) (h : AHeap) : F5j2 (callC TT disp K d false) (callC TT disp K d true) K base s tm h [] = revetmentlaw14_MirrorBegins_j2 (callC TT disp K d false) (callC TT disp K d true) K base s (tmp tm 7) (tmp tm 9) (tmp tm 14) (tmp tm 87) (tmp tm 91) h := by
  simp only [F5j2, revetmentlaw14_MirrorBegins_j2, F5ret, dd, ↓reduceIte, Nat.reduceEqDiff, Int.reduceOfNat, Int.reduceNegSucc, revetmentlaw14_MirrorBegins_j1_d H hd, mirror_Mirror_Drive_run H (lq hd rfl), tt0, tt1, tt2, tt3]
def revetmentlaw14_MirrorBegins_j3 (c r : Caller) (K : Nat) (base : Nat) (s : DX) (v3 : EV) (v7 : EV) (v9 : EV) (v14 : EV) (v81 : EV) (v85 : EV) (h : AHeap) : R :=
  pickE v81 v85 (.bool false) fun v86 =>
  cnd (wantE v86 true)
  (bigE 18 262143 s h (fun h => (mirror_Mirror_Geom K v9 h)) fun v89 h s =>
  loadE 19 131071 base v3 s fun s => ldNE 6 v3 h fun v90 =>
  intE gEql (bin TT .eql 23) v89 v90 fun v91 =>
  revetmentlaw14_MirrorBegins_j2 c r K base s v7 v9 v14 v86 v91 h)
  (revetmentlaw14_MirrorBegins_j2 c r K base s v7 v9 v14 v86 (.tuple []) h)
theorem revetmentlaw14_MirrorBegins_j3_d (H : Agree disp) (hd : 5 ≤ d) (base : Nat) (s : DX) (tm : Tmps) (h : AHeap) : F5j3 (callC TT disp K d false) (callC TT disp K d true) K base s tm h [] = revetmentlaw14_MirrorBegins_j3 (callC TT disp K d false) (callC TT disp K d true) K base s (tmp tm 3) (tmp tm 7) (tmp tm 9) (tmp tm 14) (tmp tm 81) (tmp tm 85) h := by
  simp only [F5j3, revetmentlaw14_MirrorBegins_j3, F5ret, dd, ↓reduceIte, Nat.reduceEqDiff, Int.reduceOfNat, Int.reduceNegSucc, revetmentlaw14_MirrorBegins_j2_d H hd, mirror_Mirror_Geom_run H (lq hd rfl), tt0, tt1, tt2, tt3]
def revetmentlaw14_MirrorBegins_j4 (c r : Caller) (K : Nat) (base : Nat) (s : DX) (v3 : EV) (v7 : EV) (v9 : EV) (v14 : EV) (v77 : EV) (v79 : EV) (h : AHeap) : R :=
  pickE v77 v79 (.bool false) fun v80 =>
  cnd (wantE v80 true)
  (bigE 12 4095 s h (fun h => (mirror_Mirror_Pool K v9 h)) fun v83 h s =>
  bigE 13 8191 s h (fun h => (pool_Pool_Pairs K v83 h)) fun v84 h s =>
  intE gEql (bin TT .eql 3) v84 (.int .i64 0) fun v85 =>
  revetmentlaw14_MirrorBegins_j3 c r K base s v3 v7 v9 v14 v80 v85 h)
  (revetmentlaw14_MirrorBegins_j3 c r K base s v3 v7 v9 v14 v80 (.tuple []) h)
theorem revetmentlaw14_MirrorBegins_j4_d (H : Agree disp) (hd : 5 ≤ d) (base : Nat) (s : DX) (tm : Tmps) (h : AHeap) : F5j4 (callC TT disp K d false) (callC TT disp K d true) K base s tm h [] = revetmentlaw14_MirrorBegins_j4 (callC TT disp K d false) (callC TT disp K d true) K base s (tmp tm 3) (tmp tm 7) (tmp tm 9) (tmp tm 14) (tmp tm 77) (tmp tm 79) h := by
  simp only [F5j4, revetmentlaw14_MirrorBegins_j4, F5ret, dd, ↓reduceIte, Nat.reduceEqDiff, Int.reduceOfNat, Int.reduceNegSucc, revetmentlaw14_MirrorBegins_j3_d H hd, mirror_Mirror_Pool_run H (lq hd rfl), pool_Pool_Pairs_run H (lq hd rfl), tt0, tt1, tt2, tt3]
def revetmentlaw14_MirrorBegins_j5 (c r : Caller) (K : Nat) (base : Nat) (s : DX) (v3 : EV) (v7 : EV) (v9 : EV) (v13 : EV) (v14 : EV) (v73 : EV) (v75 : EV) (h : AHeap) : R :=
  pickE v73 v75 (.bool false) fun v76 =>
  cnd (wantE v76 true)
  (intE gEql (bin TT .eql 3) v13 (.int .i64 0) fun v79 =>
  revetmentlaw14_MirrorBegins_j4 c r K base s v3 v7 v9 v14 v76 v79 h)
  (revetmentlaw14_MirrorBegins_j4 c r K base s v3 v7 v9 v14 v76 (.tuple []) h)
theorem revetmentlaw14_MirrorBegins_j5_d (H : Agree disp) (hd : 5 ≤ d) (base : Nat) (s : DX) (tm : Tmps) (h : AHeap) : F5j5 (callC TT disp K d false) (callC TT disp K d true) K base s tm h [] = revetmentlaw14_MirrorBegins_j5 (callC TT disp K d false) (callC TT disp K d true) K base s (tmp tm 3) (tmp tm 7) (tmp tm 9) (tmp tm 13) (tmp tm 14) (tmp tm 73) (tmp tm 75) h := by
  simp only [F5j5, revetmentlaw14_MirrorBegins_j5, F5ret, dd, ↓reduceIte, Nat.reduceEqDiff, Int.reduceOfNat, Int.reduceNegSucc, revetmentlaw14_MirrorBegins_j4_d H hd, tt0, tt1, tt2, tt3]
def revetmentlaw14_MirrorBegins_j6 (c r : Caller) (K : Nat) (v3 : EV) (v7 : EV) (v9 : EV) (h : AHeap) : R :=
  andE (mirror_Mirror_Open K v9 h) fun v66 h =>
  extrE 0 v66 fun v67 =>
  extrE 1 v66 fun v68 =>
  extrE 2 v66 fun v69 =>
  andE (crc_New K h) fun v70 h =>
  newE (.cells (List.replicate 256 (.int .u32 0)) 72) h fun v14 h =>
  stE 256 v14 v70 h fun h =>
  drawE h fun base s =>
  intE gEql (bin TT .eql 3) v67 (.int .i64 (-1)) fun v72 =>
  cnd (wantE v72 true)
  (intE gEql (bin TT .eql 3) v68 (.int .i64 (-1)) fun v75 =>
  revetmentlaw14_MirrorBegins_j5 c r K base s v3 v7 v9 v69 v14 v72 v75 h)
  (revetmentlaw14_MirrorBegins_j5 c r K base s v3 v7 v9 v69 v14 v72 (.tuple []) h)
theorem revetmentlaw14_MirrorBegins_j6_d (H : Agree disp) (hd : 5 ≤ d) (tm : Tmps) (h : AHeap) : F5j6 (callC TT disp K d false) (callC TT disp K d true) K tm h [] = revetmentlaw14_MirrorBegins_j6 (callC TT disp K d false) (callC TT disp K d true) K (tmp tm 3) (tmp tm 7) (tmp tm 9) h := by
  simp only [F5j6, revetmentlaw14_MirrorBegins_j6, F5ret, dd, ↓reduceIte, Nat.reduceEqDiff, Int.reduceOfNat, Int.reduceNegSucc, revetmentlaw14_MirrorBegins_j5_d H hd, mirror_Mirror_Open_run H (lq hd rfl), crc_New_run H (lq hd rfl), tt0, tt1, tt2, tt3]
def revetmentlaw14_MirrorBegins_j7 (c r : Caller) (K : Nat) (v3 : EV) (v7 : EV) (v9 : EV) (v60 : EV) (v62 : EV) (h : AHeap) : R :=
  pickE v60 (.bool true) v62 fun v63 =>
  ifE v63
  (some ((.bool false), h))
  (revetmentlaw14_MirrorBegins_j6 c r K v3 v7 v9 h)
theorem revetmentlaw14_MirrorBegins_j7_d (H : Agree disp) (hd : 5 ≤ d) (tm : Tmps) (h : AHeap) : F5j7 (callC TT disp K d false) (callC TT disp K d true) K tm h [] = revetmentlaw14_MirrorBegins_j7 (callC TT disp K d false) (callC TT disp K d true) K (tmp tm 3) (tmp tm 7) (tmp tm 9) (tmp tm 60) (tmp tm 62) h := by
  simp only [F5j7, revetmentlaw14_MirrorBegins_j7, F5ret, dd, ↓reduceIte, Nat.reduceEqDiff, Int.reduceOfNat, Int.reduceNegSucc, revetmentlaw14_MirrorBegins_j6_d H hd, tt0, tt1, tt2, tt3]
def revetmentlaw14_MirrorBegins_j8 (c r : Caller) (K : Nat) (v3 : EV) (v7 : EV) (v9 : EV) (v10 : EV) (h : AHeap) : R :=
  intE gNeq (bin TT .neq 28) v10 (.int .i64 0) fun v59 =>
  cnd (wantE v59 false)
  (intE gEql (bin TT .eql 29) v9 .nilptr fun v62 =>
  revetmentlaw14_MirrorBegins_j7 c r K v3 v7 v9 v59 v62 h)
  (revetmentlaw14_MirrorBegins_j7 c r K v3 v7 v9 v59 (.tuple []) h)
theorem revetmentlaw14_MirrorBegins_j8_d (H : Agree disp) (hd : 5 ≤ d) (tm : Tmps) (h : AHeap) : F5j8 (callC TT disp K d false) (callC TT disp K d true) K tm h [] = revetmentlaw14_MirrorBegins_j8 (callC TT disp K d false) (callC TT disp K d true) K (tmp tm 3) (tmp tm 7) (tmp tm 9) (tmp tm 10) h := by
  simp only [F5j8, revetmentlaw14_MirrorBegins_j8, F5ret, dd, ↓reduceIte, Nat.reduceEqDiff, Int.reduceOfNat, Int.reduceNegSucc, revetmentlaw14_MirrorBegins_j7_d H hd, tt0, tt1, tt2, tt3]
def revetmentlaw14_MirrorBegins_j9 (c r : Caller) (K : Nat) (v54 : EV) (v56 : EV) (h : AHeap) : R :=
  pickE v54 v56 (.bool false) fun v57 =>
  some (v57, h)
theorem revetmentlaw14_MirrorBegins_j9_d (H : Agree disp) (hd : 5 ≤ d) (tm : Tmps) (h : AHeap) : F5j9 (callC TT disp K d false) (callC TT disp K d true) K tm h [] = revetmentlaw14_MirrorBegins_j9 (callC TT disp K d false) (callC TT disp K d true) K (tmp tm 54) (tmp tm 56) h := by
  simp only [F5j9, revetmentlaw14_MirrorBegins_j9, F5ret, dd, ↓reduceIte, Nat.reduceEqDiff, Int.reduceOfNat, Int.reduceNegSucc, tt0, tt1, tt2, tt3]
def revetmentlaw14_MirrorBegins_j10 (c r : Caller) (K : Nat) (v3 : EV) (v7 : EV) (v9 : EV) (v10 : EV) (v46 : EV) (v50 : EV) (h : AHeap) : R :=
  pickE v46 (.bool true) v50 fun v51 =>
  ifE v51
  (intE gEql (bin TT .eql 28) v10 (.int .i64 20) fun v53 =>
  cnd (wantE v53 true)
  (intE gEql (bin TT .eql 29) v9 .nilptr fun v56 =>
  revetmentlaw14_MirrorBegins_j9 c r K v53 v56 h)
  (revetmentlaw14_MirrorBegins_j9 c r K v53 (.tuple []) h))
  (revetmentlaw14_MirrorBegins_j8 c r K v3 v7 v9 v10 h)
theorem revetmentlaw14_MirrorBegins_j10_d (H : Agree disp) (hd : 5 ≤ d) (tm : Tmps) (h : AHeap) : F5j10 (callC TT disp K d false) (callC TT disp K d true) K tm h [] = revetmentlaw14_MirrorBegins_j10 (callC TT disp K d false) (callC TT disp K d true) K (tmp tm 3) (tmp tm 7) (tmp tm 9) (tmp tm 10) (tmp tm 46) (tmp tm 50) h := by
  simp only [F5j10, revetmentlaw14_MirrorBegins_j10, F5ret, dd, ↓reduceIte, Nat.reduceEqDiff, Int.reduceOfNat, Int.reduceNegSucc, revetmentlaw14_MirrorBegins_j9_d H hd, revetmentlaw14_MirrorBegins_j8_d H hd, tt0, tt1, tt2, tt3]
def revetmentlaw14_MirrorBegins_j11 (c r : Caller) (K : Nat) (v2 : EV) (v3 : EV) (v7 : EV) (v9 : EV) (v10 : EV) (v37 : EV) (v44 : EV) (h : AHeap) : R :=
  pickE v37 (.bool true) v44 fun v45 =>
  cnd (wantE v45 false)
  (offE 2 v3 fun v47 =>
  ld1E v47 h fun v48 =>
  intE gNeq (bin TT .neq 3) v48 v2 fun v50 =>
  revetmentlaw14_MirrorBegins_j10 c r K v3 v7 v9 v10 v45 v50 h)
  (revetmentlaw14_MirrorBegins_j10 c r K v3 v7 v9 v10 v45 (.tuple []) h)
theorem revetmentlaw14_MirrorBegins_j11_d (H : Agree disp) (hd : 5 ≤ d) (tm : Tmps) (h : AHeap) : F5j11 (callC TT disp K d false) (callC TT disp K d true) K tm h [] = revetmentlaw14_MirrorBegins_j11 (callC TT disp K d false) (callC TT disp K d true) K (tmp tm 2) (tmp tm 3) (tmp tm 7) (tmp tm 9) (tmp tm 10) (tmp tm 37) (tmp tm 44) h := by
  simp only [F5j11, revetmentlaw14_MirrorBegins_j11, F5ret, dd, ↓reduceIte, Nat.reduceEqDiff, Int.reduceOfNat, Int.reduceNegSucc, revetmentlaw14_MirrorBegins_j10_d H hd, tt0, tt1, tt2, tt3]
def revetmentlaw14_MirrorBegins_j12 (c r : Caller) (K : Nat) (v1 : EV) (v2 : EV) (v3 : EV) (v7 : EV) (h : AHeap) : R :=
  drawE h fun base s =>
  loadE 1 0 base v3 s fun s => ldNE 6 v3 h fun v29 =>
  bigE 2 0 s h (fun h => (crc_New K h)) fun v30 h s =>
  bigE 3 7 s h (fun h => (mirror_New K v7 v29 v30 h)) fun v31 h s =>
  extrE 0 v31 fun v32 =>
  extrE 1 v31 fun v33 =>
  ldNE 6 v3 h fun v34 =>
  andE (revetmentref05_G_Right K v34 h) fun v35 h =>
  notE v35 fun v36 =>
  cnd (wantE v36 false)
  (offE 0 v3 fun v38 =>
  ld1E v38 h fun v39 =>
  offE 1 v3 fun v40 =>
  ld1E v40 h fun v41 =>
  intE gMul (bin TT .mul 3) v39 v41 fun v42 =>
  intE gNeq (bin TT .neq 3) v42 v1 fun v44 =>
  revetmentlaw14_MirrorBegins_j11 c r K v2 v3 v7 v32 v33 v36 v44 h)
  (revetmentlaw14_MirrorBegins_j11 c r K v2 v3 v7 v32 v33 v36 (.tuple []) h)
theorem revetmentlaw14_MirrorBegins_j12_d (H : Agree disp) (hd : 5 ≤ d) (tm : Tmps) (h : AHeap) : F5j12 (callC TT disp K d false) (callC TT disp K d true) K tm h [] = revetmentlaw14_MirrorBegins_j12 (callC TT disp K d false) (callC TT disp K d true) K (tmp tm 1) (tmp tm 2) (tmp tm 3) (tmp tm 7) h := by
  simp only [F5j12, revetmentlaw14_MirrorBegins_j12, F5ret, dd, ↓reduceIte, Nat.reduceEqDiff, Int.reduceOfNat, Int.reduceNegSucc, revetmentlaw14_MirrorBegins_j11_d H hd, crc_New_run H (lq hd rfl), mirror_New_run H (lq hd rfl), revetmentref05_G_Right_run H (lq hd rfl), tt0, tt1, tt2, tt3]
def revetmentlaw14_MirrorBegins_j13 (c r : Caller) (K : Nat) (v1 : EV) (v2 : EV) (v3 : EV) (h : AHeap) : R :=
  andE (plan_New K v1 v2 (.int .i64 4) h) fun v22 h =>
  extrE 0 v22 fun v23 =>
  extrE 1 v22 fun v24 =>
  intE gNeq (bin TT .neq 28) v24 (.int .i64 0) fun v26 =>
  ifE v26
  (some ((.bool true), h))
  (revetmentlaw14_MirrorBegins_j12 c r K v1 v2 v3 v23 h)
theorem revetmentlaw14_MirrorBegins_j13_d (H : Agree disp) (hd : 5 ≤ d) (tm : Tmps) (h : AHeap) : F5j13 (callC TT disp K d false) (callC TT disp K d true) K tm h [] = revetmentlaw14_MirrorBegins_j13 (callC TT disp K d false) (callC TT disp K d true) K (tmp tm 1) (tmp tm 2) (tmp tm 3) h := by
  simp only [F5j13, revetmentlaw14_MirrorBegins_j13, F5ret, dd, ↓reduceIte, Nat.reduceEqDiff, Int.reduceOfNat, Int.reduceNegSucc, revetmentlaw14_MirrorBegins_j12_d H hd, plan_New_run H (lq hd rfl), tt0, tt1, tt2, tt3]
def revetmentlaw14_MirrorBegins_j14 (c r : Caller) (K : Nat) (v1 : EV) (v2 : EV) (v3 : EV) (h : AHeap) : R :=
  intE gGtr (bin TT .gtr 3) v1 (.int .i64 64) fun v18 =>
  ifE v18
  (some ((.bool true), h))
  (revetmentlaw14_MirrorBegins_j13 c r K v1 v2 v3 h)
theorem revetmentlaw14_MirrorBegins_j14_d (H : Agree disp) (hd : 5 ≤ d) (tm : Tmps) (h : AHeap) : F5j14 (callC TT disp K d false) (callC TT disp K d true) K tm h [] = revetmentlaw14_MirrorBegins_j14 (callC TT disp K d false) (callC TT disp K d true) K (tmp tm 1) (tmp tm 2) (tmp tm 3) h := by
  simp only [F5j14, revetmentlaw14_MirrorBegins_j14, F5ret, dd, ↓reduceIte, Nat.reduceEqDiff, Int.reduceOfNat, Int.reduceNegSucc, revetmentlaw14_MirrorBegins_j13_d H hd, tt0, tt1, tt2, tt3]
def revetmentlaw14_MirrorBegins (c r : Caller) (K : Nat) (v0 v1 v2 : EV) (h : AHeap) : R :=
  boxE 23 v0 h fun v3 h =>
  andE (c 23 [] h) fun v15 h =>
  notE v15 fun v16 =>
  ifE v16
  (some ((.bool false), h))
  (revetmentlaw14_MirrorBegins_j14 c r K v1 v2 v3 h)
theorem revetmentlaw14_MirrorBegins_run (H : Agree disp) (hd : 5 ≤ d) (v0 v1 v2 : EV) (h : AHeap) : callC TT disp K (d + 1) false 5 [v0, v1, v2] h = revetmentlaw14_MirrorBegins (callC TT disp K d false) (callC TT disp K d true) K v0 v1 v2 h := by
  rw [callC_at ((H.plain 5 rfl).trans (show disp3 5 = some F5 by kernel_rfl))]
  unfold F5
  rw [funC_at (by simp)]
  simp only [revetmentlaw14_MirrorBegins, F5ret, dd, ↓reduceIte, Nat.reduceEqDiff, Int.reduceOfNat, Int.reduceNegSucc, revetmentlaw14_MirrorBegins_j14_d H hd, tt0, tt1, tt2, tt3]

end
end Go.Ev
