/- Pools that are looked at; new mirrors. -/
import Derived.Test.YtpkcfamminlmaaaGreatXa
set_option linter.unusedVariables false
set_option linter.unusedSimpArgs false
set_option linter.unusedSectionVars false
namespace Go.Ev
open Go.Proofs
set_option maxRecDepth 10000
variable {K : Nat}

def lenAt (ps : Nat → List Int) (n : Nat) (d : Int) : Nat := if 0 ≤ d ∧ d < n then (ps d.toNat).length else 0
theorem queue_len_eq {h : AHeap} {q c cap : Nat} {buf : List EV} (hq : h.get q = some (.cells [.chan c] 218)) (hc : h.get c = some (.chan cap buf)) : queue_Queue_Len K (.ptr q 0) h = some (I buf.length, h) := by
  simp only [queue_Queue_Len, walkE, lds hq rfl]
  have : lenChE (.chan c) h = some (I buf.length, h) := by
    show (match h.get c with | some (.chan _ buf) => some (EV.int .i64 (.ofNat (len buf)), h) | _ => none) = _
    rw [hc]; simp only; rw [len_eq]; rfl
  rw [this]; rfl
section
variable {h : AHeap} {p ql n : Nat} {q c : Nat → Nat} {g : Gm} {ps : Nat → List Int} (P : PoolAt h p ql n q c g ps)
include P
theorem PoolAt.rowAt : RowAt h (.slice ql 0 n n true) ql 153 1 n ((List.range n).map fun d => .ptr (q d) 0) := .inr ⟨P.pos, rfl, P.row, by simp⟩
theorem PoolAt.list (k : EV → R) : ld1E (.ptr p 6) h k = k (.slice ql 0 n n true) := by rw [lds P.pool rfl]; rfl
theorem PoolAt.geom (k : EV → R) : ldNE 6 (.ptr p 0) h k = k (gV g) := by rw [ldsN P.pool rfl]; rfl
theorem PoolAt.qptr {d : Nat} (hd : d < n) (k : EV → R) : ld1E (.ptr ql (d * 1)) h k = k (.ptr (q d) 0) := by
  rw [lds P.row rfl, Nat.mul_one, List.getElem?_map, List.getElem?_range hd]; rfl
theorem PoolAt.len {d : Nat} (hd : d < n) : queue_Queue_Len K (.ptr (q d) 0) h = some (I (ps d).length, h) := by
  rw [queue_len_eq (P.que d hd) (P.chan d hd), List.length_map]
theorem pool_count_eq (d : Int) : pool_Pool_Count K (.ptr p 0) (I d) h = some (I (lenAt ps n d : Nat), h) := by
  unfold lenAt
  simp only [pool_Pool_Count, I, walkI, walkE]
  by_cases h1 : d < 0
  · simp only [h1, decide_true, walkE, walkI, pool_Pool_Count_j1]
    rw [if_neg (by omega)]; rfl
  · simp only [h1, decide_false, walkE, walkI, P.list, pool_Pool_Count_j1]
    by_cases h2 : (n : Int) ≤ d
    · simp only [h2, decide_true, walkE]
      rw [if_neg (by omega)]; rfl
    · simp only [h2, decide_false, walkE, pool_Pool_Count_j0, P.list]
      have hd : d.toNat < n := by omega
      have e : d = (d.toNat : Int) := by omega
      rw [e, P.rowAt.ix hd]
      simp only [walkE, P.qptr hd]
      rw [P.len hd, andE_some, if_pos (by omega)]; rfl
end
/-- The domain with the most, but for one. -/
def fstep (ps : Nat → List Int) (but : Int) (b : Int) (d : Nat) : Int := if ¬ (d : Int) = but ∧ (b < 0 ∨ (ps b.toNat).length < (ps d).length) then d else b
def fullF (ps : Nat → List Int) (but : Int) (n : Nat) : Int := (List.range n).foldl (fstep ps but) (-1)
theorem fullF_succ (ps : Nat → List Int) (but : Int) (n : Nat) : fullF ps but (n + 1) = fstep ps but (fullF ps but n) n := by unfold fullF; rw [List.range_succ, List.foldl_append]; rfl
theorem fullF_bd (ps : Nat → List Int) (but : Int) : ∀ n, -1 ≤ fullF ps but n ∧ fullF ps but n < (n : Int) ∧ (fullF ps but n = -1 ∨ 0 ≤ fullF ps but n)
  | 0 => by unfold fullF; simp
  | n + 1 => by
    obtain ⟨a, b, c⟩ := fullF_bd ps but n
    rw [fullF_succ]; unfold fstep
    split <;> omega
def smallP (n : Nat) (ps : Nat → List Int) : Prop := n ≤ 64 ∧ ∀ d, d < n → (ps d).length ≤ 4096
theorem fullest_loop {p ql n : Nat} {q c : Nat → Nat} {g : Gm} {ps : Nat → List Int} (but : Int) (hn : n ≤ 64) : ∀ (m i : Nat) (h : AHeap), n - i < m → i ≤ n → HB h → PoolAt h p ql n q c g ps →
    Ok (pool_Pool_fullest_b7 K m (.ptr p 0) (I but) (I (fullF ps but i)) (.slice ql 0 n n true) (I n) (I i) h) fun v h' => v = I (fullF ps but n) ∧ Ext h h' := by
  intro m
  induction m with
  | zero => intro i h hm; omega
  | succ m ih =>
    intro i h hm hi hb P
    simp only [pool_Pool_fullest_b7, I, walkI, walkE]
    by_cases hlt : (i : Int) < n
    · have hi' : i < n := by omega
      simp only [hlt, decide_true, walkE, pool_Pool_fullest_j6]
      rw [P.rowAt.ix hi', P.qptr hi']
      obtain ⟨b0, b1, b2⟩ := fullF_bd ps but i
      have next : ∀ (b : Int) (h1 : AHeap), b = fullF ps but (i + 1) → Ext h h1 → Ok (pool_Pool_fullest_j2 K (pool_Pool_fullest_b7 K m) (.ptr p 0) (.int .i64 but) (.int .i64 b) (.slice ql 0 n n true) (.int .i64 (n : Int)) (.int .i64 (i : Int)) h1) fun v h' => v = I (fullF ps but n) ∧ Ext h h' := by
        rintro _ h1 rfl x1
        simp only [pool_Pool_fullest_j2, walkI]
        rw [wi64 (by omega) (by omega)]
        exact (ih (i + 1) h1 (by omega) (by omega) (x1.hb hb) (P.ext fun i o g => x1.at hb g)).mono fun v h' a => ⟨a.1, x1.trans a.2⟩
      rw [fullF_succ] at next
      unfold fstep at next
      simp only [walkE, walkI]
      by_cases hbut : (i : Int) = but
      · simp only [hbut, not_true_eq_false, decide_false, walkE, walkI, pool_Pool_fullest_j5, pool_Pool_fullest_j4, pool_Pool_fullest_j3]
        rw [if_neg (fun x => x.1 hbut)] at next
        rw [hbut] at next
        exact next _ h rfl (Chg.refl _)
      · simp only [hbut, not_false_eq_true, decide_true, walkE, walkI, pool_Pool_fullest_j5]
        by_cases hneg : fullF ps but i < 0
        · simp only [hneg, decide_true, walkE, walkI, pool_Pool_fullest_j4, pool_Pool_fullest_j3]
          rw [if_pos ⟨hbut, .inl hneg⟩] at next
          exact next _ h rfl (Chg.refl _)
        · simp only [hneg, decide_false, walkE, walkI]
          refine Ok.bigE (by kernel_rfl) (by kernel_rfl) (P := fun v h2 => v = I (ps i).length ∧ Ext h.lift h2) ⟨_, _, (P.ext (h' := h.lift) fun i o g => by rw [lift_get]; exact g).len hi', rfl, Chg.refl _⟩ (fun _ _ p => p.2) ?_
          rintro _ h2 h3 ⟨rfl, _⟩ _ x3
          have P3 : PoolAt h3 p ql n q c g ps := P.ext fun i o g => x3.at hb g
          have hp : p < h.next := hb _ _ P.pool
          have hq : ql < h.next := hb _ _ P.row
          have hfn : (fullF ps but i).toNat < n := by omega
          simp only [walkE, walkD, loadE_lt hp, P3.list]
          rw [show fullF ps but i = ((fullF ps but i).toNat : Int) by omega, P3.rowAt.ix hfn]
          simp only [walkE, walkD, loadE_lt hq, P3.qptr hfn]
          refine Ok.bigE (by kernel_rfl) (by kernel_rfl) (P := fun v h2 => v = I (ps (fullF ps but i).toNat).length ∧ Ext h3.lift h2) ⟨_, _, (P3.ext (h' := h3.lift) fun i o g => by rw [lift_get]; exact g).len hfn, rfl, Chg.refl _⟩ (fun _ _ p => p.2) ?_
          rintro _ h4 h5 ⟨rfl, _⟩ _ x5
          rw [show ((fullF ps but i).toNat : Int) = fullF ps but i by omega]
          simp only [walkI, I]
          by_cases hc : ((ps (fullF ps but i).toNat).length : Int) < (ps i).length
          · simp only [hc, decide_true, pool_Pool_fullest_j4, pool_Pool_fullest_j3, walkE, walkI]
            rw [if_pos ⟨hbut, .inr (by omega)⟩] at next
            exact next _ h5 rfl (x3.trans x5)
          · simp only [hc, decide_false, pool_Pool_fullest_j4, pool_Pool_fullest_j3, walkE, walkI]
            rw [if_neg (fun x => by rcases x.2 with a | a <;> omega)] at next
            exact next _ h5 rfl (x3.trans x5)
    · have : i = n := by omega
      subst this
      simp only [hlt, decide_false, walkE, pool_Pool_fullest_j0]
      exact .ret ⟨rfl, Chg.refl _⟩
theorem fullest_ok {h : AHeap} {p ql n : Nat} {q c : Nat → Nat} {g : Gm} {ps : Nat → List Int} (P : PoolAt h p ql n q c g ps) (hb : HB h) (hn : n ≤ 64) (hK : 1000 < K) (but : Int) :
    Ok (pool_Pool_fullest K (.ptr p 0) (I but) h) fun v h' => v = I (fullF ps but n) ∧ Ext h h' := by
  simp only [pool_Pool_fullest, walkE, P.list]
  exact fullest_loop but hn K 0 h (by omega) (by omega) hb P
def sumF (ps : Nat → List Int) (n : Nat) : Nat := ((List.range n).map fun d => (ps d).length).sum
theorem sumF_succ (ps : Nat → List Int) (n : Nat) : sumF ps (n + 1) = sumF ps n + (ps n).length := by unfold sumF; rw [List.range_succ, List.map_append, List.sum_append]; simp
/-- How many pairs can be taken. -/
def pairsF (ps : Nat → List Int) (n : Nat) : Int := min ((sumF ps n : Int) / 2) (sumF ps n - lenAt ps n (fullF ps (-1) n))
theorem pairs_loop {p ql n : Nat} {q c : Nat → Nat} {g : Gm} {ps : Nat → List Int} {h : AHeap} (hs : smallP n ps) (hb : HB h) (P : PoolAt h p ql n q c g ps) (hK : 1000 < K) : ∀ (m i : Nat), n - i < m → i ≤ n → sumF ps i ≤ 4096 * i →
    Ok (pool_Pool_Pairs_b4 K m (.ptr p 0) (I (sumF ps i)) (.slice ql 0 n n true) (I n) (I i) h) fun v h' => v = I (pairsF ps n) ∧ Ext h h' := by
  obtain ⟨hn, hl⟩ := hs
  intro m
  induction m with
  | zero => intro i hm; omega
  | succ m ih =>
    intro i hm hi hsum
    simp only [pool_Pool_Pairs_b4, I, walkI, walkE]
    by_cases hlt : (i : Int) < n
    · have hi' : i < n := by omega
      have := hl i hi'
      simp only [hlt, decide_true, walkE, pool_Pool_Pairs_j3]
      rw [P.rowAt.ix hi', P.qptr hi', P.len hi', andE_some]
      simp only [I, walkI, pool_Pool_Pairs_j2]
      rw [wi64 (by omega) (by omega), wi64 (by omega) (by omega)]
      have e : ((sumF ps i : Int) + (ps i).length) = (sumF ps (i + 1) : Nat) := by rw [sumF_succ]; omega
      rw [e]
      exact ih (i + 1) (by omega) (by omega) (by rw [sumF_succ]; omega)
    · have : i = n := by omega
      subst this
      simp only [hlt, decide_false, walkE, pool_Pool_Pairs_j0]
      rw [quoI (by omega) (by omega) (by omega)]
      refine (fullest_ok P hb hn hK (-1)).andE ?_
      rintro _ h1 ⟨rfl, x1⟩
      rw [pool_count_eq (P.ext fun i o g => x1.at hb g), andE_some]
      simp only [I, walkI]
      have hle : lenAt ps i (fullF ps (-1) i) ≤ 4096 := by
        unfold lenAt
        split
        · exact hl _ (by omega)
        · omega
      rw [wi64 (by omega) (by omega), min2, andE_some]
      exact .ret ⟨rfl, x1⟩
theorem pairs_ok {h : AHeap} {p ql n : Nat} {q c : Nat → Nat} {g : Gm} {ps : Nat → List Int} (P : PoolAt h p ql n q c g ps) (hb : HB h) (hs : smallP n ps) (hK : 1000 < K) :
    Ok (pool_Pool_Pairs K (.ptr p 0) h) fun v h' => v = I (pairsF ps n) ∧ Ext h h' := by
  simp only [pool_Pool_Pairs, walkE, P.list]
  exact pairs_loop hs hb P hK K 0 (by obtain ⟨a, _⟩ := hs; omega) (by omega) (by unfold sumF; simp)
end Go.Ev

namespace Go.Ev
open Go.Proofs
set_option maxRecDepth 100000
variable {K : Nat}

/-- A mirror's cells. -/
def mirC (D : Nat) (g : Gm) (p bl n : Nat) (a b u : Int) : List EV := [.ptr D 0] ++ gL g ++ crcCells ++ [.ptr p 0, .slice bl 0 n n false, I a, I b, I u]
theorem crc_len : crcCells.length = 256 := by kernel_rfl
section
variable (D : Nat) (g : Gm) (p bl n : Nat) (a b u : Int)
theorem mirC_len : (mirC D g p bl n a b u).length = 268 := by unfold mirC; simp [crc_len, gL]
theorem mirC_drive : (mirC D g p bl n a b u)[0]? = some (.ptr D 0) := rfl
theorem mirC_geom : cutR (mirC D g p bl n a b u) 1 6 = some (gL g) := by kernel_rfl
theorem mirC_table : cutR (mirC D g p bl n a b u) 7 256 = some crcCells := by kernel_rfl
theorem mirC_pool : (mirC D g p bl n a b u)[263]? = some (.ptr p 0) := by kernel_rfl
theorem mirC_bad : (mirC D g p bl n a b u)[264]? = some (.slice bl 0 n n false) := by kernel_rfl
theorem mirC_a : (mirC D g p bl n a b u)[265]? = some (I a) := by kernel_rfl
theorem mirC_b : (mirC D g p bl n a b u)[266]? = some (I b) := by kernel_rfl
theorem mirC_u : (mirC D g p bl n a b u)[267]? = some (I u) := by kernel_rfl
end
/-- A row that is told through a cell of its own. -/
theorem resE_cell {h : AHeap} {i t n : Nat} {l : List EV} (hg : h.get i = some (.cells l t)) (hs : TT.size t = some n) (ha : TT.agg t = some true) (hl : l.length = n) : resE TT [.c (.ptr i 0) t] h = some (.agg l, h) := by
  have hr : readAt h i 0 n = some l := by
    unfold readAt; rw [hg]; simp only; rw [← cutR_eq]; exact cutR_all hl
  unfold resE
  simp only [resV, hs, hr, ha]
structure MirAt (h : AHeap) (m D p bl n : Nat) (g : Gm) (a b u : Int) (bad : Nat → Int) : Prop where
  mir : h.get m = some (.cells (mirC D g p bl n a b u) 149)
  bads : h.get bl = some (.cells ((List.range n).map fun z => I (bad z)) 3)
section
variable {h : AHeap} {m D p bl n : Nat} {g : Gm} {a b u : Int} {bad : Nat → Int} (M : MirAt h m D p bl n g a b u bad)
include M
theorem MirAt.drive (k : EV → R) : ld1E (.ptr m 0) h k = k (.ptr D 0) := by rw [lds M.mir rfl, mirC_drive]; rfl
theorem MirAt.geom (k : EV → R) : ldNE 6 (.ptr m 1) h k = k (gV g) := by rw [ldsN M.mir rfl, mirC_geom]; rfl
theorem MirAt.table (k : EV → R) : ldNE 256 (.ptr m 7) h k = k crcV := by rw [ldsN M.mir rfl, mirC_table]; rfl
theorem MirAt.pool (k : EV → R) : ld1E (.ptr m 263) h k = k (.ptr p 0) := by rw [lds M.mir rfl, mirC_pool]; rfl
theorem MirAt.badS (k : EV → R) : ld1E (.ptr m 264) h k = k (.slice bl 0 n n false) := by rw [lds M.mir rfl, mirC_bad]; rfl
theorem MirAt.oa (k : EV → R) : ld1E (.ptr m 265) h k = k (I a) := by rw [lds M.mir rfl, mirC_a]; rfl
theorem MirAt.ob (k : EV → R) : ld1E (.ptr m 266) h k = k (I b) := by rw [lds M.mir rfl, mirC_b]; rfl
theorem MirAt.ou (k : EV → R) : ld1E (.ptr m 267) h k = k (I u) := by rw [lds M.mir rfl, mirC_u]; rfl
theorem MirAt.ext {h' : AHeap} (e : ∀ i o, h.get i = some o → h'.get i = some o) : MirAt h' m D p bl n g a b u bad := ⟨e _ _ M.mir, e _ _ M.bads⟩
theorem mirror_pool_eq : mirror_Mirror_Pool K (.ptr m 0) h = some (.ptr p 0, h) := by simp only [mirror_Mirror_Pool, walkE, M.pool]
theorem mirror_drive_eq : mirror_Mirror_Drive K (.ptr m 0) h = some (.ptr D 0, h) := by simp only [mirror_Mirror_Drive, walkE, M.drive]
theorem mirror_open_eq : mirror_Mirror_Open K (.ptr m 0) h = some (.tuple [I a, I b, I u], h) := by simp only [mirror_Mirror_Open, walkE, M.oa, M.ob, M.ou]
omit M in
theorem TT23 : TT.size 23 = some 6 ∧ TT.agg 23 = some true := ⟨by kernel_rfl, by kernel_rfl⟩
omit M in
theorem TT72 : TT.size 72 = some 256 ∧ TT.agg 72 = some true := ⟨by kernel_rfl, by kernel_rfl⟩
theorem mirror_geom_ok (hb : HB h) : Ok (mirror_Mirror_Geom K (.ptr m 0) h) fun v h' => v = gV g ∧ Ext h h' := by
  simp only [mirror_Mirror_Geom, walkE]
  have M1 : MirAt (h.new (.cells [.int .i64 0, .int .i64 0, .int .i64 0, .int .i64 0, .int .i64 0, .int .i64 0] 23)) m D p bl n g a b u bad := M.ext fun i o g => Ext.at (Chg.new h _) hb g
  rw [M1.geom]
  refine Ok.st (gL g) (get_new_same _ _) rfl rfl rfl ?_
  rw [resE_cell (get_put_same _ _ _) TT23.1 TT23.2 rfl]
  exact .ret ⟨rfl, (Chg.new h _ : Ext _ _).andPut (.inr (Nat.le_refl _)) (Nat.lt_succ_self _) _⟩
theorem mirror_table_ok (hb : HB h) : Ok (mirror_Mirror_Table K (.ptr m 0) h) fun v h' => v = crcV ∧ Ext h h' := by
  simp only [mirror_Mirror_Table, walkE]
  have M1 : MirAt (h.new (.cells (List.replicate 256 (.int .u32 0)) 72)) m D p bl n g a b u bad := M.ext fun i o g => Ext.at (Chg.new h _) hb g
  rw [M1.table]
  refine Ok.st crcCells (get_new_same _ _) rfl (by rw [show EV.cells crcV = crcCells from rfl, len_length, crc_len]) (by rw [show EV.cells crcV = crcCells from rfl]; exact laidR_all (by rw [crc_len]; simp)) ?_
  rw [resE_cell (get_put_same _ _ _) TT72.1 TT72.2 crc_len]
  exact .ret ⟨rfl, (Chg.new h _ : Ext _ _).andPut (.inr (Nat.le_refl _)) (Nat.lt_succ_self _) _⟩
end
section
variable {h : AHeap} {D V M zl n : Nat} {z q : Nat → Nat} {size op cnt : Int} {down : Bool} {coming happened : EV} {marks : List (EV × EV)} {Zs : Nat → Zn}
theorem drive_device_eq (d : DriveAt h D V M zl n z q size op cnt down coming happened marks Zs) : plan_Drive_Device K (.ptr D 0) h = some (.ptr V 0, h) := by simp only [plan_Drive_Device, walkE, lds d.drive rfl]
theorem dev_zones_eq (d : DevAt h V zl n z q size op cnt down Zs) : zdev_Device_Zones K (.ptr V 0) h = some (I n, h) := by simp only [zdev_Device_Zones, walkE, lds d.dev rfl, I]
theorem dev_size_eq (d : DevAt h V zl n z q size op cnt down Zs) : zdev_Device_Size K (.ptr V 0) h = some (I size, h) := by simp only [zdev_Device_Size, walkE, lds d.dev rfl]
end
theorem rep1 (v : EV) : ∀ n, rep [v] n = List.replicate n v
  | 0 => rfl
  | n + 1 => by show [v] ++ rep [v] n = _; rw [rep1 v n]; rfl
theorem range_const (v : EV) (n : Nat) : (List.range n).map (fun _ => v) = List.replicate n v := by
  rw [List.map_const', List.length_range]
/-- A new mirror. -/
theorem mirror_new_ok {g : Gm} (hK : 1000 < K) {h : AHeap} (hb : HB h) {D V M zl n : Nat} {z q : Nat → Nat} {size op cnt : Int} {down : Bool} {coming happened : EV} {marks : List (EV × EV)} {Zs : Nat → Zn} (dr : DriveAt h D V M zl n z q size op cnt down coming happened marks Zs) :
    Ok (mirror_New K (.ptr D 0) (gV g) crcV h) fun v h' => Ext h h' ∧ HB h' ∧ if rtB g = true ∧ g.D * g.Z = n ∧ g.S = size then
      ∃ m p bl ql q c, v = .tuple [.ptr m 0, I 0] ∧ MirAt h' m D p bl n g (-1) (-1) 0 (fun _ => 0) ∧ PoolAt h' p ql g.D.toNat q c g (fun _ => []) else v = .tuple [.nilptr, I 20] := by
  have hcv : boxE 72 crcV (h.new (.cells (gL g) 23)) = fun (k : EV → AHeap → R) => k (.ptr (h.next + 1) 0) ((h.new (.cells (gL g) 23)).new (.cells crcCells 72)) := rfl
  simp only [mirror_New, gV, walkE, hcv]
  have g4 : ((h.new (.cells (gL g) 23)).new (.cells crcCells 72)).get h.next = some (.cells (gL g) 23) := by rw [get_new_lt _ (Nat.lt_succ_self _)]; exact get_new_same _ _
  have g5 : ((h.new (.cells (gL g) 23)).new (.cells crcCells 72)).get (h.next + 1) = some (.cells crcCells 72) := get_new_same _ _
  have x1 : Ext h ((h.new (.cells (gL g) 23)).new (.cells crcCells 72)) := (Chg.new _ _).andNew _
  have n1 : ((h.new (.cells (gL g) 23)).new (.cells crcCells 72)).next = h.next + 2 := rfl
  generalize (h.new (.cells (gL g) 23)).new (.cells crcCells 72) = h1 at g4 g5 x1 n1 ⊢
  have hb1 := x1.hb hb
  simp only [ldsN g4 rfl, cutR_all (show (gL g).length = 6 from rfl), walkE]
  cases hr : rtB g with
  | false =>
    refine (pool_new_no hr h1).andE ?_
    rintro _ h2 ⟨rfl, x2⟩
    simp only [walkE, I, walkI, show ¬ ((20 : Int) = 0) by decide, not_false_eq_true, decide_true, mirror_New_j2, mirror_New_j1]
    exact .ret ⟨x1.trans x2, x2.hb hb1, rfl⟩
  | true =>
    have s := rtB_sm hr
    have := s.d0; have := s.d1; have := s.z0; have := s.z1
    obtain ⟨m0, m1⟩ := mul_bd (a := g.D) (b := g.Z) (A := 8) (B := 64) (by omega) (by omega) (by omega) (by omega)
    refine (pool_new_yes hr hK hb1).andE ?_
    rintro _ h2 ⟨p, ql, qq, c, rfl, x2, hb2, P⟩
    have k2 : ∀ i o, h.get i = some o → h2.get i = some o := fun i o g => x2.at hb1 (x1.at hb g)
    have l4 : h.next < h2.next := by have := x2.next; omega
    have l5 : h.next + 1 < h2.next := by have := x2.next; omega
    have g42 := x2.at hb1 g4
    have g52 := x2.at hb1 g5
    simp only [walkE, I, walkI, not_true_eq_false, decide_false]
    refine Ok.bigE (by kernel_rfl) (by kernel_rfl) (P := fun v h3 => v = .ptr V 0 ∧ Ext h2.lift h3) ⟨_, _, drive_device_eq ((dr.ext k2).ext fun i o g => by rw [lift_get]; exact g), rfl, Chg.refl _⟩ (fun _ _ p => p.2) ?_
    rintro _ _ h3 ⟨rfl, _⟩ _ x3
    have hb3 := x3.hb hb2
    have k3 : ∀ i o, h.get i = some o → h3.get i = some o := fun i o g => x3.at hb2 (k2 i o g)
    refine Ok.bigE (by kernel_rfl) (by kernel_rfl) (P := fun v h4 => v = I n ∧ Ext h3.lift h4) ⟨_, _, dev_zones_eq ((dr.dev.ext k3).ext fun i o g => by rw [lift_get]; exact g), rfl, Chg.refl _⟩ (fun _ _ p => p.2) ?_
    rintro _ _ h4 ⟨rfl, _⟩ _ x4
    have hb4 := x4.hb hb3
    have k4 : ∀ i o, h.get i = some o → h4.get i = some o := fun i o g => x4.at hb3 (k3 i o g)
    have x24 : Ext h2 h4 := x3.trans x4
    have g44 := x24.at hb2 g42
    simp only [walkE, walkD, loadE_lt l4, ldsN g44 rfl, cutR_all (show (gL g).length = 6 from rfl)]
    refine Ok.bigE (by kernel_rfl) (by kernel_rfl) (P := fun v h5 => v = I (g.D * g.Z) ∧ Ext h4.lift h5) ⟨_, _, geom_all_eq s _, rfl, Chg.new _ _⟩ (fun _ _ p => p.2) ?_
    rintro _ _ h5 ⟨rfl, _⟩ _ x5
    have hb5 := x5.hb hb4
    have k5 : ∀ i o, h.get i = some o → h5.get i = some o := fun i o g => x5.at hb4 (k4 i o g)
    simp only [I, walkI, mirror_New_j2]
    have x25 : Ext h2 h5 := x24.trans x5
    by_cases hn : (n : Int) = g.D * g.Z
    · simp only [hn, not_true_eq_false, decide_false, walkE, walkI]
      refine Ok.bigE (by kernel_rfl) (by kernel_rfl) (P := fun v h6 => v = .ptr V 0 ∧ Ext h5.lift h6) ⟨_, _, drive_device_eq ((dr.ext k5).ext fun i o g => by rw [lift_get]; exact g), rfl, Chg.refl _⟩ (fun _ _ p => p.2) ?_
      rintro _ _ h6 ⟨rfl, _⟩ _ x6
      have hb6 := x6.hb hb5
      have k6 : ∀ i o, h.get i = some o → h6.get i = some o := fun i o g => x6.at hb5 (k5 i o g)
      refine Ok.bigE (by kernel_rfl) (by kernel_rfl) (P := fun v h7 => v = I size ∧ Ext h6.lift h7) ⟨_, _, dev_size_eq ((dr.dev.ext k6).ext fun i o g => by rw [lift_get]; exact g), rfl, Chg.refl _⟩ (fun _ _ p => p.2) ?_
      rintro _ _ h7 ⟨rfl, _⟩ _ x7
      have hb7 := x7.hb hb6
      have x27 : Ext h2 h7 := x25.trans (x6.trans x7)
      have g47 := x27.at hb2 g42
      simp only [walkE, walkD, loadE_lt l4, lds g47 rfl, gL, I, walkI]
      by_cases hs : size = g.S
      · subst hs
        simp only [not_true_eq_false, decide_false, mirror_New_j1, mirror_New_j0, walkE]
        have g57 := x27.at hb2 g52
        have l47 : h.next < h7.next := Nat.lt_of_lt_of_le l4 x27.next
        have l57 : h.next + 1 < h7.next := Nat.lt_of_lt_of_le l5 x27.next
        simp only [walkE, walkD, loadE_lt l47, loadE_lt l57, ldsN g47 rfl, ldsN g57 rfl, cutR_all (show (gL g).length = 6 from rfl), cutR_all crc_len]
        refine Ok.bigE (by kernel_rfl) (by kernel_rfl) (P := fun v h8 => v = I (g.D * g.Z) ∧ Ext h7.lift h8) ⟨_, _, geom_all_eq s _, rfl, Chg.new _ _⟩ (fun _ _ p => p.2) ?_
        rintro _ _ h8 ⟨rfl, _⟩ _ x8
        have hb8 := x8.hb hb7
        have x28 : Ext h2 h8 := x27.trans x8
        simp only [walkE, walkD, I]
        rw [← hn]
        have hmk : makeSliceE [.int .i64 0] 3 (.int .i64 (n : Int)) (.int .i64 (n : Int)) h8 = some (.slice h8.next 0 n n false, h8.new (.cells (rep [.int .i64 0] n) 3)) := by
          show cnd (Nat.ble n n) (cnd (Nat.ble n 65536) _ none) none = _
          rw [Nat.ble_eq_true_of_le (Nat.le_refl n), cnd_true, Nat.ble_eq_true_of_le (by omega), cnd_true]
        rw [hmk, andE_some, buildE_at (l := mirC D g p h8.next n (-1) (-1) 0) (by kernel_rfl)]
        simp only [walkE, walkD]
        have x8' : Ext h8 ((h8.new (.cells (rep [.int .i64 0] n) 3)).new (.cells (mirC D g p h8.next n (-1) (-1) 0) 149)) := (Chg.new _ _).andNew _
        have hx : Ext h ((h8.new (.cells (rep [.int .i64 0] n) 3)).new (.cells (mirC D g p h8.next n (-1) (-1) 0) 149)) := (x1.trans x2).trans (x28.trans x8')
        refine .ret ⟨hx, hx.hb hb, ?_⟩
        rw [if_pos (by first | exact ⟨rfl, hn.symm, rfl⟩ | simp [hn] | simp)]
        refine ⟨h8.next + 1, p, h8.next, ql, qq, c, rfl, ⟨get_new_same _ _, ?_⟩, P.ext fun i o g => Ext.at (x28.trans x8') hb2 g⟩
        rw [get_new_lt _ (Nat.lt_succ_self _), get_new_same, rep1, range_const]
      · have hs' : ¬ size = g.S := hs
        simp only [hs', not_false_eq_true, decide_true, mirror_New_j1, walkE]
        have hx : Ext h h7 := (x1.trans x2).trans x27
        refine .ret ⟨hx, hx.hb hb, ?_⟩
        rw [if_neg (fun x => hs' x.2.2.symm)]
    · simp only [hn, not_false_eq_true, decide_true, walkE, walkI, mirror_New_j1]
      have hx : Ext h h5 := (x1.trans x2).trans x25
      refine .ret ⟨hx, hx.hb hb, ?_⟩
      rw [if_neg (fun x => hn x.2.1.symm)]
end Go.Ev

namespace Go.Ev
open Go.Proofs
set_option maxRecDepth 100000
variable {K : Nat}

theorem sumF_nil : ∀ n, sumF (fun _ => ([] : List Int)) n = 0
  | 0 => rfl
  | n + 1 => by rw [sumF_succ, sumF_nil n]; rfl
theorem eqB_refl (a : Int) : eqB a a = true := by cases a <;> exact Nat.beq_refl _
theorem intE_other {g : IG} {f : EV → EV → Option EV} {x y v : EV} {k : EV → R} (hx : ∀ c n, x ≠ .int c n) (hf : f x y = some v) : intE g f x y k = k v := by
  unfold intE
  cases x <;> first | (exact absurd rfl (hx _ _)) | (simp only [hf, oB_s])
theorem eq_nilnil {g : IG} {k : EV → R} : intE g (bin TT .eql 29) .nilptr .nilptr k = k (.bool true) := intE_other (by intros; simp) (by kernel_rfl)
theorem eq_ptrnil {g : IG} {i o : Nat} {k : EV → R} : intE g (bin TT .eql 29) (.ptr i o) .nilptr k = k (.bool false) := intE_other (by intros; simp) (by kernel_rfl)
theorem eq_geom (g : Gm) {ig : IG} {k : EV → R} : intE ig (bin TT .eql 23) (gV g) (gV g) k = k (.bool true) := by
  refine intE_other (by intros; simp [gV]) ?_
  have he : TT.eqs 23 = some [0, 0, 0, 0, 0, 0] := by kernel_rfl
  show (match evEq TT 23 (gV g) (gV g) with | some b => some (EV.bool b) | none => none) = _
  have : evEq TT 23 (gV g) (gV g) = some true := by
    show (match TT.eqs 23 with | some sh => cnd (shaped sh (gL g)) (litsEq (gL g) (gL g)) none | none => none) = _
    rw [he]
    simp only [gL, shaped, litsEq, litEq, eqB_refl]
    rfl
  rw [this]
theorem eq_table {ig : IG} {k : EV → R} : intE ig (bin TT .eql 72) crcV crcV k = k (.bool true) := intE_other (by intros; simp [crcV]) (by kernel_rfl)
theorem eq_drive (D : Nat) {ig : IG} {k : EV → R} : intE ig (bin TT .eql 65) (.ptr D 0) (.ptr D 0) k = k (.bool true) := by
  refine intE_other (by intros; simp) ?_
  obtain ⟨e, he, n, hn⟩ : ∃ e, TT.und 65 = some (.pointer e) ∧ ∃ n, TT.size e = some n := ⟨166, by kernel_rfl, 4, by kernel_rfl⟩
  show (match evEq TT 65 (.ptr D 0) (.ptr D 0) with | some b => some (EV.bool b) | none => none) = _
  have : evEq TT 65 (.ptr D 0) (.ptr D 0) = some true := by
    show (match TT.und 65 with | some (.pointer e) => (match TT.size e with | some _ => cnd (Nat.beq D D) (cnd (Nat.beq 0 0) (some true) none) none | none => none) | _ => none) = _
    rw [he]; simp only; rw [hn]; simp only; rw [Nat.beq_refl, cnd_true]; rfl
  rw [this]

theorem begins_law {c r : Caller} (hK : 1000 < K) (hc : ∀ h, c 23 [] h = some (.bool true, h)) (g : Gm) (zones size : Int) {h : AHeap} (hb : HB h) :
    Ok (revetmentlaw14_MirrorBegins c r K (gV g) (I zones) (I size) h) fun v h' => v = .bool true ∧ Ext h h' := by
  simp only [revetmentlaw14_MirrorBegins, gV, walkE, hc, revetmentlaw14_MirrorBegins_j14, I, walkI]
  have g3 : (h.new (.cells (gL g) 23)).get h.next = some (.cells (gL g) 23) := get_new_same _ _
  have x1 : Ext h (h.new (.cells (gL g) 23)) := Chg.new _ _
  have n1 : (h.new (.cells (gL g) 23)).next = h.next + 1 := rfl
  generalize h.new (.cells (gL g) 23) = h1 at g3 x1 n1 ⊢
  have hb1 := x1.hb hb
  by_cases h64 : 64 < zones
  · simp only [h64, decide_true, walkE]; exact .ret ⟨rfl, x1⟩
  simp only [h64, decide_false, walkE, revetmentlaw14_MirrorBegins_j13]
  cases hd : devRight zones size 4 with
  | false =>
    refine (plan_new_no hd hK).andE ?_
    rintro _ h2 ⟨rfl, x2⟩
    simp only [walkE, I, walkI, show ¬ ((13 : Int) = 0) by decide, not_false_eq_true, decide_true]
    exact .ret ⟨rfl, x1.trans x2⟩
  | true =>
    have hz : 1 ≤ zones := by
      simp only [devRight, Bool.and_eq_true] at hd
      exact (wi_iff.1 hd.1.1).1
    refine (plan_new_yes hd hK hb1).andE ?_
    rintro _ h2 ⟨D, V, M, zl, z, rfl, x2, hb2, dr⟩
    have g32 : h2.get h.next = some (.cells (gL g) 23) := x2.at hb1 g3
    have l3 : h.next < h2.next := hb2 _ _ g32
    simp only [walkE, I, walkI, not_true_eq_false, decide_false, revetmentlaw14_MirrorBegins_j12, walkD, loadE_lt l3, ldsN g32 rfl, cutR_all (show (gL g).length = 6 from rfl)]
    refine Ok.bigE (by kernel_rfl) (by kernel_rfl) (P := fun v h3 => v = crcV ∧ Ext h2.lift h3) ⟨_, _, rfl, rfl, Chg.refl _⟩ (fun _ _ p => p.2) ?_
    rintro _ _ h3 ⟨rfl, _⟩ _ x3
    have hb3 := x3.hb hb2
    have dr3 : DriveAt h3 D V M zl zones.toNat z (fun _ => 0) size 4 0 false .nilslice .nilslice [] (fun _ => Zn.empty) := dr.ext fun i o g => x3.at hb2 g
    refine Ok.bigE (by kernel_rfl) (by kernel_rfl) (mirror_new_ok hK (lift_hb hb3) (dr3.ext fun i o g => by rw [lift_get]; exact g)) (fun _ _ p => p.1) ?_
    rintro v h4 h5 ⟨_, hb4, hv⟩ sm x5
    have hb5 := x5.hb hb3
    have k5 : ∀ i o, h4.get i = some o → h5.get i = some o := fun i o g => by rw [sm.get]; exact g
    have g35 : h5.get h.next = some (.cells (gL g) 23) := x5.at hb3 (x3.at hb2 g32)
    have zn : ((zones.toNat : Nat) : Int) = zones := by omega
    rw [zn] at hv
    -- what both say
    have fin : ∀ (v0 : EV) (e : Int), v = .tuple [v0, I e] →
        (∀ h6, Ext h5 h6 → Ok (revetmentlaw14_MirrorBegins_j10 c r K (.ptr h.next 0) (.ptr D 0) v0 (I e) (.bool (rtB g)) (.bool (rtB g)) h6) fun v h' => v = .bool true ∧ Ext h h') → True := fun _ _ _ _ => trivial
    clear fin
    by_cases hyes : rtB g = true ∧ g.D * g.Z = zones ∧ g.S = size
    · obtain ⟨hr, hdz, hs⟩ := hyes
      rw [if_pos ⟨hr, hdz, hs⟩] at hv
      obtain ⟨m, p, bl, ql, q, cc, rfl, MA, PA⟩ := hv
      have s := rtB_sm hr
      simp only [walkE, I, walkI, ldsN g35 rfl, cutR_all (show (gL g).length = 6 from rfl)]
      refine (rright_ok g hK h5).andE ?_
      rintro _ h6 ⟨rfl, x6⟩
      have hb6 := x6.hb hb5
      have k6 : ∀ i o, h4.get i = some o → h6.get i = some o := fun i o g => x6.at hb5 (k5 i o g)
      have g36 := x6.at hb5 g35
      rw [hr]
      simp only [walkE, I, walkI, lds g36 rfl, gL]
      have := s.d0; have := s.d1; have := s.z0; have := s.z1
      obtain ⟨m0, m1⟩ := mul_bd (a := g.D) (b := g.Z) (A := 8) (B := 64) (by omega) (by omega) (by omega) (by omega)
      rw [wi64 (by omega) (by omega)]
      simp only [hdz, hs, not_true_eq_false, decide_false, walkE, walkI, revetmentlaw14_MirrorBegins_j11, lds g36 rfl, gL, I, revetmentlaw14_MirrorBegins_j10, revetmentlaw14_MirrorBegins_j8, eq_ptrnil, revetmentlaw14_MirrorBegins_j7, revetmentlaw14_MirrorBegins_j6]
      have MA6 : MirAt h6 m D p bl zones.toNat g (-1) (-1) 0 (fun _ => 0) := MA.ext k6
      rw [mirror_open_eq MA6]
      simp only [walkE, I, walkI]
      rw [show crc_New K h6 = some (crcV, h6) from rfl]
      simp only [walkE]
      refine Ok.st crcCells (get_new_same _ _) rfl (by rw [show EV.cells crcV = crcCells from rfl, len_length, crc_len]) (by rw [show EV.cells crcV = crcCells from rfl]; exact laidR_all (by rw [crc_len]; simp)) ?_
      have x7 : Ext h6 ((h6.new (.cells (List.replicate 256 (.int .u32 0)) 72)).put h6.next (.cells crcCells 72)) := (Chg.new _ _ : Ext h6 _).andPut (.inr (Nat.le_refl _)) (Nat.lt_succ_self _) _
      have g14 : ((h6.new (.cells (List.replicate 256 (.int .u32 0)) 72)).put h6.next (.cells crcCells 72)).get h6.next = some (.cells crcCells 72) := get_put_same _ _ _
      have l14 : h6.next < ((h6.new (.cells (List.replicate 256 (.int .u32 0)) 72)).put h6.next (.cells crcCells 72)).next := Nat.lt_succ_self _
      generalize (h6.new (.cells (List.replicate 256 (.int .u32 0)) 72)).put h6.next (.cells crcCells 72) = h7 at x7 g14 l14 ⊢
      have hb7 := x7.hb hb6
      have k7 : ∀ i o, h4.get i = some o → h7.get i = some o := fun i o g => x7.at hb6 (k6 i o g)
      have g37 := x7.at hb6 g36
      have l37 := hb7 _ _ g37
      simp only [walkE, walkI, walkD, decide_true, revetmentlaw14_MirrorBegins_j5, revetmentlaw14_MirrorBegins_j4]
      refine Ok.bigE (by kernel_rfl) (by kernel_rfl) (P := fun v h8 => v = .ptr p 0 ∧ Ext h7.lift h8) ⟨_, _, mirror_pool_eq ((MA.ext k7).ext fun i o g => by rw [lift_get]; exact g), rfl, Chg.refl _⟩ (fun _ _ p => p.2) ?_
      rintro _ _ h8 ⟨rfl, _⟩ _ x8
      have hb8 := x8.hb hb7
      have k8 : ∀ i o, h4.get i = some o → h8.get i = some o := fun i o g => x8.at hb7 (k7 i o g)
      have hsm : smallP g.D.toNat (fun _ => ([] : List Int)) := ⟨by omega, fun d _ => by simp⟩
      refine Ok.bigE (by kernel_rfl) (by kernel_rfl) (pairs_ok ((PA.ext k8).ext fun i o g => by rw [lift_get]; exact g) (lift_hb hb8) hsm hK) (fun _ _ p => p.2) ?_
      rintro _ _ h9 ⟨rfl, _⟩ _ x9
      have hb9 := x9.hb hb8
      have k9 : ∀ i o, h4.get i = some o → h9.get i = some o := fun i o g => x9.at hb8 (k8 i o g)
      have hp0 : pairsF (fun _ => ([] : List Int)) g.D.toNat = 0 := by
        have h0 : sumF (fun _ => ([] : List Int)) g.D.toNat = 0 := sumF_nil _
        have h1 : lenAt (fun _ => ([] : List Int)) g.D.toNat (fullF (fun _ => []) (-1) g.D.toNat) = 0 := by unfold lenAt; split <;> rfl
        unfold pairsF; rw [h0, h1]; rfl
      rw [hp0]
      simp only [I, walkE, walkI, walkD, decide_true, revetmentlaw14_MirrorBegins_j3]
      refine Ok.bigE (by kernel_rfl) (by kernel_rfl) (mirror_geom_ok ((MA.ext k9).ext fun i o g => by rw [lift_get]; exact g) (lift_hb hb9)) (fun _ _ p => p.2) ?_
      rintro _ _ ha ⟨rfl, _⟩ _ xa
      have hba := xa.hb hb9
      have ka : ∀ i o, h4.get i = some o → ha.get i = some o := fun i o g => xa.at hb9 (k9 i o g)
      have x7a : Ext h7 ha := x8.trans (x9.trans xa)
      have g3a := x7a.at hb7 g37
      simp only [walkE, walkD, loadE_lt l37, ldsN g3a rfl, cutR_all (show (gL g).length = 6 from rfl)]
      rw [show EV.agg (gL g) = gV g from rfl, eq_geom]
      simp only [walkE, walkI, walkD, revetmentlaw14_MirrorBegins_j2]
      refine Ok.bigE (by kernel_rfl) (by kernel_rfl) (P := fun v h8 => v = .ptr D 0 ∧ Ext ha.lift h8) ⟨_, _, mirror_drive_eq ((MA.ext ka).ext fun i o g => by rw [lift_get]; exact g), rfl, Chg.refl _⟩ (fun _ _ p => p.2) ?_
      rintro _ _ hc1 ⟨rfl, _⟩ _ xc
      have hbc := xc.hb hba
      have kc : ∀ i o, h4.get i = some o → hc1.get i = some o := fun i o g => xc.at hba (ka i o g)
      rw [eq_drive]
      simp only [walkE, walkI, walkD, revetmentlaw14_MirrorBegins_j1]
      refine Ok.bigE (by kernel_rfl) (by kernel_rfl) (mirror_table_ok ((MA.ext kc).ext fun i o g => by rw [lift_get]; exact g) (lift_hb hbc)) (fun _ _ p => p.2) ?_
      rintro _ _ he ⟨rfl, _⟩ _ xe
      have x7e : Ext h7 he := x7a.trans (xc.trans xe)
      have g14e := x7e.at hb7 g14
      simp only [walkE, walkD, loadE_lt l14, ldsN g14e rfl, cutR_all crc_len]
      rw [show EV.agg crcCells = crcV from rfl, eq_table]
      simp only [revetmentlaw14_MirrorBegins_j0, walkE]
      exact .ret ⟨rfl, x1.trans (x2.trans (x3.trans (x5.trans (x6.trans (x7.trans x7e)))))⟩
    · rw [if_neg hyes] at hv
      subst hv
      simp only [walkE, I, walkI, ldsN g35 rfl, cutR_all (show (gL g).length = 6 from rfl)]
      refine (rright_ok g hK h5).andE ?_
      rintro _ h6 ⟨rfl, x6⟩
      have g36 := x6.at hb5 g35
      have last : ∀ b, Ok (revetmentlaw14_MirrorBegins_j10 c r K (.ptr h.next 0) (.ptr D 0) .nilptr (.int .i64 20) (.bool true) b h6) fun v h' => v = .bool true ∧ Ext h h' := by
        intro b
        simp only [revetmentlaw14_MirrorBegins_j10, walkE, walkI, decide_true, eq_nilnil, revetmentlaw14_MirrorBegins_j9]
        exact .ret ⟨rfl, x1.trans (x2.trans (x3.trans (x5.trans x6)))⟩
      cases hr : rtB g with
      | false =>
        simp only [walkE, walkI, revetmentlaw14_MirrorBegins_j11]
        exact last _
      | true =>
        have s := rtB_sm hr
        have := s.d0; have := s.d1; have := s.z0; have := s.z1
        obtain ⟨m0, m1⟩ := mul_bd (a := g.D) (b := g.Z) (A := 8) (B := 64) (by omega) (by omega) (by omega) (by omega)
        simp only [walkE, I, walkI, lds g36 rfl, gL]
        rw [wi64 (by omega) (by omega)]
        by_cases hdz : g.D * g.Z = zones
        · have hs : ¬ g.S = size := fun x => hyes ⟨hr, hdz, x⟩
          simp only [hdz, not_true_eq_false, decide_false, walkE, walkI, revetmentlaw14_MirrorBegins_j11, lds g36 rfl, gL, I, hs, not_false_eq_true, decide_true]
          have := last (.bool true)
          simp only [revetmentlaw14_MirrorBegins_j10, walkE, walkI, decide_true, eq_nilnil, revetmentlaw14_MirrorBegins_j9] at this ⊢
          exact this
        · simp only [hdz, not_false_eq_true, decide_true, walkE, walkI, revetmentlaw14_MirrorBegins_j11]
          exact last _
end Go.Ev
