import Derived.Test.YtpkcfamminlmaaaGreatFun
set_option linter.unusedVariables false
set_option linter.unusedSimpArgs false
set_option linter.unusedSectionVars false
namespace Go.Ev
open Go.Proofs
set_option maxRecDepth 100000
set_option maxHeartbeats 4000000
noncomputable section
variable {disp : Nat->Option FT} {K d : Nat}
def mirror_Mirror_Pool (K : Nat) (v0 : EV) (h : AHeap) : R:=
 nilE v0 fun v4=>
 offE 263 v4 fun v5=>
 ld1E v5 h fun v6=>
 some (v6,h)
theorem mirror_Mirror_Pool_run (H : Agree disp) (hd : 1<=d) (v0 : EV) (h : AHeap) : callC TT disp K d false 14 [v0] h = mirror_Mirror_Pool K v0 h:=
 runL (H.bare (by kernel_rfl)) hd (by kernel_rfl) (fun d hd=>rfl) (fun d c r=>rfl) (fun d c r=>by kernel_rfl)
def mirror_Mirror_Drive (K : Nat) (v0 : EV) (h : AHeap) : R:=
 nilE v0 fun v4=>
 offE 0 v4 fun v5=>
 ld1E v5 h fun v6=>
 some (v6,h)
theorem mirror_Mirror_Drive_run (H : Agree disp) (hd : 1<=d) (v0 : EV) (h : AHeap) : callC TT disp K d false 31 [v0] h = mirror_Mirror_Drive K v0 h:=
 runL (H.bare (by kernel_rfl)) hd (by kernel_rfl) (fun d hd=>rfl) (fun d c r=>rfl) (fun d c r=>by kernel_rfl)
def plan_Drive_Device (K : Nat) (v0 : EV) (h : AHeap) : R:=
 nilE v0 fun v4=>
 offE 0 v4 fun v5=>
 ld1E v5 h fun v6=>
 some (v6,h)
theorem plan_Drive_Device_run (H : Agree disp) (hd : 1<=d) (v0 : EV) (h : AHeap) : callC TT disp K d false 36 [v0] h = plan_Drive_Device K v0 h:=
 runL (H.bare (by kernel_rfl)) hd (by kernel_rfl) (fun d hd=>rfl) (fun d c r=>rfl) (fun d c r=>by kernel_rfl)
def geom_Geom_All (K : Nat) (v0 : EV) (h : AHeap) : R:=
 boxE 23 v0 h fun v1 h=>
 offE 0 v1 fun v3=>
 ld1E v3 h fun v4=>
 offE 1 v1 fun v5=>
 ld1E v5 h fun v6=>
 intE gMul (bin TT .mul 3) v4 v6 fun v7=>
 some (v7,h)
theorem geom_Geom_All_run (H : Agree disp) (hd : 1<=d) (v0 : EV) (h : AHeap) : callC TT disp K d false 63 [v0] h = geom_Geom_All K v0 h:=
 runL (H.bare (by kernel_rfl)) hd (by kernel_rfl) (fun d hd=>rfl) (fun d c r=>rfl) (fun d c r=>by kernel_rfl)
def queue_Queue_Len (K : Nat) (v0 : EV) (h : AHeap) : R:=
 nilE v0 fun v4=>
 offE 0 v4 fun v5=>
 ld1E v5 h fun v6=>
 andE (lenChE v6 h) fun v7 h=>
 some (v7,h)
theorem queue_Queue_Len_run (H : Agree disp) (hd : 1<=d) (v0 : EV) (h : AHeap) : callC TT disp K d false 71 [v0] h = queue_Queue_Len K v0 h:=
 runL (H.bare (by kernel_rfl)) hd (by kernel_rfl) (fun d hd=>rfl) (fun d c r=>rfl) (fun d c r=>by kernel_rfl)
def zdev_Device_Zones (K : Nat) (v0 : EV) (h : AHeap) : R:=
 nilE v0 fun v4=>
 offE 0 v4 fun v5=>
 ld1E v5 h fun v6=>
 lenE v6 fun v7=>
 some (v7,h)
theorem zdev_Device_Zones_run (H : Agree disp) (hd : 1<=d) (v0 : EV) (h : AHeap) : callC TT disp K d false 74 [v0] h = zdev_Device_Zones K v0 h:=
 runL (H.bare (by kernel_rfl)) hd (by kernel_rfl) (fun d hd=>rfl) (fun d c r=>rfl) (fun d c r=>by kernel_rfl)
def zdev_Device_Size (K : Nat) (v0 : EV) (h : AHeap) : R:=
 nilE v0 fun v4=>
 offE 1 v4 fun v5=>
 ld1E v5 h fun v6=>
 some (v6,h)
theorem zdev_Device_Size_run (H : Agree disp) (hd : 1<=d) (v0 : EV) (h : AHeap) : callC TT disp K d false 75 [v0] h = zdev_Device_Size K v0 h:=
 runL (H.bare (by kernel_rfl)) hd (by kernel_rfl) (fun d hd=>rfl) (fun d c r=>rfl) (fun d c r=>by kernel_rfl)
def revetmentref05_G_Parts_j0 (K : Nat) (v3 : EV) (h : AHeap) : R:=
 some (v3,h)
def revetmentref05_G_Parts_j2 (K : Nat) (ih1_ : EV->EV->EV->AHeap->R) (v1 v3 v4 : EV) (h : AHeap) : R:=
 intE gAdd (bin TT .add 3) v4 (.int .i64 2) fun v10=>
 ih1_ v1 v3 v10 h
def revetmentref05_G_Parts_j3 (K : Nat) (ih1_ : EV->EV->EV->AHeap->R) (v1 v3 v4 : EV) (h : AHeap) : R:=
 intE gAdd (bin TT .add 3) v3 (.int .i64 1) fun v12=>
 revetmentref05_G_Parts_j2 K ih1_ v1 v12 v4 h
def revetmentref05_G_Parts_b4 (K : Nat) : Nat->EV->EV->EV->AHeap->R
 | 0=>fun _ _ _ _=>none
 | m + 1=>fun v1 v3 v4 h=>
  offE 3 v1 fun v6=>
  ld1E v6 h fun v7=>
  intE gLss (bin TT .lss 3) v4 v7 fun v8=>
  ifE v8
  (revetmentref05_G_Parts_j3 K (revetmentref05_G_Parts_b4 K m) v1 v3 v4 h)
  (revetmentref05_G_Parts_j0 K v3 h)
def revetmentref05_G_Parts (K : Nat) (v0 : EV) (h : AHeap) : R:=
 boxE 37 v0 h fun v1 h=>
 revetmentref05_G_Parts_b4 K K v1 (.int .i64 1) (.int .i64 0) h
abbrev revetmentref05_G_Parts_c (K : Nat) (c : Caller) : Caller:=c
theorem revetmentref05_G_Parts_b4_r (c c' r : Caller) (K : Nat) (m : Nat) : loopD (fun ih=>codeD TT (revetmentref05_G_Parts_c K c) c' r K (nOf TT 76) (retOf TT 76) (lbOf TT 76 [true,true,false,true,false]) [(0,fun ρ h=>revetmentref05_G_Parts_j0 K (ρ 3) h)] ih) m = fun ρ h=>revetmentref05_G_Parts_b4 K m (ρ 1) (ρ 3) (ρ 4) h:=
 loopD_eq (E:=fun m ρ h=>revetmentref05_G_Parts_b4 K m (ρ 1) (ρ 3) (ρ 4) h) rfl (fun m=>ext2 fun ρ h=>by
  show _ = revetmentref05_G_Parts_b4 K (m + 1) (ρ 1) (ρ 3) (ρ 4) h
  rw [revetmentref05_G_Parts_b4]; kernel_rfl) m
theorem revetmentref05_G_Parts_run (H : Agree disp) (hd : 1<=d) (v0 : EV) (h : AHeap) : callC TT disp K d false 76 [v0] h = revetmentref05_G_Parts K v0 h:=
 runL (H.bare (by kernel_rfl)) hd (by kernel_rfl) (fun d hd=>rfl) (fun d c r=>(cut [true,true,false,true,false] (revetmentref05_G_Parts_b4_r (callC TT disp K d false) c r K K) (by kernel_rfl) (by kernel_rfl) rfl)) (fun d c r=>by kernel_rfl)
def pool_Pool_fullest_j0 (K : Nat) (v5 : EV) (h : AHeap) : R:=
 some (v5,h)
def pool_Pool_fullest_j2 (K : Nat) (ih1_ : EV->EV->EV->EV->EV->EV->AHeap->R) (v0 v1 v5 v11 v12 v13 : EV) (h : AHeap) : R:=
 intE gAdd (bin TT .add 3) v13 (.int .i64 1) fun v39=>
 ih1_ v0 v1 v5 v11 v12 v39 h
def pool_Pool_fullest_j3 (K : Nat) (ih1_ : EV->EV->EV->EV->EV->EV->AHeap->R) (base : Nat) (s : DX) (v0 v1 v5 v6 v11 v12 v13 v21 v36 : EV) (h : AHeap) : R:=
 pickE v21 v36 (.bool false) fun v37=>
 ifE v37
 (pool_Pool_fullest_j2 K ih1_ v0 v1 v6 v11 v12 v13 h)
 (pool_Pool_fullest_j2 K ih1_ v0 v1 v5 v11 v12 v13 h)
def pool_Pool_fullest_j4 (K : Nat) (ih1_ : EV->EV->EV->EV->EV->EV->AHeap->R) (base : Nat) (s : DX) (v0 v1 v5 v6 v11 v12 v13 v21 v24 v35 : EV) (h : AHeap) : R:=
 cnd (wantE v21 true)
 (pickE v24 (.bool true) v35 fun v36=>
 pool_Pool_fullest_j3 K ih1_ base s v0 v1 v5 v6 v11 v12 v13 v21 v36 h)
 (pool_Pool_fullest_j3 K ih1_ base s v0 v1 v5 v6 v11 v12 v13 v21 (.tuple []) h)
def pool_Pool_fullest_j5 (K : Nat) (ih1_ : EV->EV->EV->EV->EV->EV->AHeap->R) (base : Nat) (s : DX) (v0 v1 v5 v6 v7 v11 v12 v13 v21 v24 : EV) (h : AHeap) : R:=
 cnd (wantE v24 false)
 (bigE 8 255 s h (fun h=>(queue_Queue_Len K v7 h)) fun v26 h s=>
 nilE v0 fun v28=>
 offE 6 v28 fun v29=>
 loadE 12 3711 base v29 s fun s=>ld1E v29 h fun v30=>
 ixSE 1 v30 v5 fun v32=>
 loadE 15 32383 base v32 s fun s=>ld1E v32 h fun v33=>
 bigE 16 65535 s h (fun h=>(queue_Queue_Len K v33 h)) fun v34 h s=>
 intE gGtr (bin TT .gtr 3) v26 v34 fun v35=>
 pool_Pool_fullest_j4 K ih1_ base s v0 v1 v5 v6 v11 v12 v13 v21 v24 v35 h)
 (pool_Pool_fullest_j4 K ih1_ base s v0 v1 v5 v6 v11 v12 v13 v21 v24 (.tuple []) h)
def pool_Pool_fullest_j6 (K : Nat) (ih1_ : EV->EV->EV->EV->EV->EV->AHeap->R) (v0 v1 v5 v11 v12 v13 : EV) (h : AHeap) : R:=
 ixSE 1 v11 v13 fun v16=>
 ld1E v16 h fun v17=>
 drawE h fun base s=>
 intE gNeq (bin TT .neq 3) v13 v1 fun v20=>
 cnd (wantE v20 true)
 (intE gLss (bin TT .lss 3) v5 (.int .i64 0) fun v23=>
 pool_Pool_fullest_j5 K ih1_ base s v0 v1 v5 v13 v17 v11 v12 v13 v20 v23 h)
 (pool_Pool_fullest_j5 K ih1_ base s v0 v1 v5 v13 v17 v11 v12 v13 v20 (.tuple []) h)
def pool_Pool_fullest_b7 (K : Nat) : Nat->EV->EV->EV->EV->EV->EV->AHeap->R
 | 0=>fun _ _ _ _ _ _ _=>none
 | m + 1=>fun v0 v1 v5 v11 v12 v13 h=>
  intE gLss (bin TT .lss 3) v13 v12 fun v14=>
  ifE v14
  (pool_Pool_fullest_j6 K (pool_Pool_fullest_b7 K m) v0 v1 v5 v11 v12 v13 h)
  (pool_Pool_fullest_j0 K v5 h)
def pool_Pool_fullest (K : Nat) (v0 v1 : EV) (h : AHeap) : R:=
 nilE v0 fun v9=>
 offE 6 v9 fun v10=>
 ld1E v10 h fun v11=>
 lenE v11 fun v12=>
 pool_Pool_fullest_b7 K K v0 v1 (.int .i64 (-1)) v11 v12 (.int .i64 0) h
abbrev pool_Pool_fullest_c (K : Nat) (c : Caller) : Caller:=(w1 71 (queue_Queue_Len K) c)
theorem pool_Pool_fullest_b7_r (c c' r : Caller) (K : Nat) (m : Nat) : loopD (fun ih=>codeD TT (pool_Pool_fullest_c K c) c' r K (nOf TT 78) (retOf TT 78) (lbOf TT 78 [true,true,false,true,false]) [(0,fun ρ h=>pool_Pool_fullest_j0 K (ρ 5) h)] ih) m = fun ρ h=>pool_Pool_fullest_b7 K m (ρ 0) (ρ 1) (ρ 5) (ρ 11) (ρ 12) (ρ 13) h:=
 loopD_eq (E:=fun m ρ h=>pool_Pool_fullest_b7 K m (ρ 0) (ρ 1) (ρ 5) (ρ 11) (ρ 12) (ρ 13) h) rfl (fun m=>ext2 fun ρ h=>by
  show _ = pool_Pool_fullest_b7 K (m + 1) (ρ 0) (ρ 1) (ρ 5) (ρ 11) (ρ 12) (ρ 13) h
  rw [pool_Pool_fullest_b7]; kernel_rfl) m
theorem pool_Pool_fullest_run (H : Agree disp) (hd : 2<=d) (v0 v1 : EV) (h : AHeap) : callC TT disp K d false 78 [v0,v1] h = pool_Pool_fullest K v0 v1 h:=
 runL (H.bare (by kernel_rfl)) hd (by kernel_rfl) (fun d hd=>(W1 (queue_Queue_Len_run H (lq hd rfl)) rfl)) (fun d c r=>(cut [true,true,false,true,false] (pool_Pool_fullest_b7_r (callC TT disp K d false) c r K K) (by kernel_rfl) (by kernel_rfl) rfl)) (fun d c r=>by kernel_rfl)
def geom_Geom_Parts (K : Nat) (v0 : EV) (h : AHeap) : R:=
 boxE 23 v0 h fun v1 h=>
 offE 3 v1 fun v3=>
 ld1E v3 h fun v4=>
 intE gAdd (bin TT .add 3) v4 (.int .i64 2) fun v5=>
 intE gSub (bin TT .sub 3) v5 (.int .i64 1) fun v6=>
 binE (bin TT .quo 3) v6 (.int .i64 2) fun v7=>
 intE gAdd (bin TT .add 3) (.int .i64 1) v7 fun v8=>
 some (v8,h)
theorem geom_Geom_Parts_run (H : Agree disp) (hd : 1<=d) (v0 : EV) (h : AHeap) : callC TT disp K d false 112 [v0] h = geom_Geom_Parts K v0 h:=
 runL (H.bare (by kernel_rfl)) hd (by kernel_rfl) (fun d hd=>rfl) (fun d c r=>rfl) (fun d c r=>by kernel_rfl)
def zdev_within_j0 (K : Nat) (v7 v10 : EV) (h : AHeap) : R:=
 pickE v7 v10 (.bool false) fun v11=>
 some (v11,h)
def zdev_within (K : Nat) (v0 v1 : EV) (h : AHeap) : R:=
 intE gGeq (bin TT .geq 3) v0 (.int .i64 1) fun v6=>
 cnd (wantE v6 true)
 (intE gLeq (bin TT .leq 3) v0 v1 fun v10=>
 zdev_within_j0 K v6 v10 h)
 (zdev_within_j0 K v6 (.tuple []) h)
theorem zdev_within_run (H : Agree disp) (hd : 1<=d) (v0 v1 : EV) (h : AHeap) : callC TT disp K d false 124 [v0,v1] h = zdev_within K v0 v1 h:=
 runL (H.bare (by kernel_rfl)) hd (by kernel_rfl) (fun d hd=>rfl) (fun d c r=>rfl) (fun d c r=>by kernel_rfl)
def zone_New_frame_Sector_j0 (K : Nat) (v0 : EV) (h : AHeap) : R:=
 buildE (nthPR [(0,1),(1,1),(2,1),(3,1),(4,1)]) [.nilslice,(.int .i64 0),(.int .i64 0),(.int .i64 0),(.bool false)] [(1,v0)] fun v11=>
 boxE 240 v11 h fun v12 h=>
 some (.tuple [v12,(.int .i64 0)],h)
def zone_New_frame_Sector_j1 (K : Nat) (v0 v6 v8 : EV) (h : AHeap) : R:=
 pickE v6 (.bool true) v8 fun v9=>
 ifE v9
 (some (.tuple [.nilptr,(.int .i64 13)],h))
 (zone_New_frame_Sector_j0 K v0 h)
def zone_New_frame_Sector (K : Nat) (v0 : EV) (h : AHeap) : R:=
 intE gLss (bin TT .lss 3) v0 (.int .i64 1) fun v5=>
 cnd (wantE v5 false)
 (intE gGtr (bin TT .gtr 3) v0 (.int .i64 64) fun v8=>
 zone_New_frame_Sector_j1 K v0 v5 v8 h)
 (zone_New_frame_Sector_j1 K v0 v5 (.tuple []) h)
theorem zone_New_frame_Sector_run (H : Agree disp) (hd : 1<=d) (v0 : EV) (h : AHeap) : callC TT disp K d false 125 [v0] h = zone_New_frame_Sector K v0 h:=
 runL (H.bare (by kernel_rfl)) hd (by kernel_rfl) (fun d hd=>rfl) (fun d c r=>rfl) (fun d c r=>by kernel_rfl)
def queue_New_j0 (K : Nat) (v0 : EV) (h : AHeap) : R:=
 andE (makeChanE v0 h) fun v11 h=>
 buildE (nthPR [(0,1)]) [.nilchan] [(0,v11)] fun v12=>
 boxE 218 v12 h fun v13 h=>
 some (.tuple [v13,(.int .i64 0)],h)
def queue_New_j1 (K : Nat) (v0 v6 v8 : EV) (h : AHeap) : R:=
 pickE v6 (.bool true) v8 fun v9=>
 ifE v9
 (some (.tuple [.nilptr,(.int .i64 13)],h))
 (queue_New_j0 K v0 h)
def queue_New (K : Nat) (v0 : EV) (h : AHeap) : R:=
 intE gLss (bin TT .lss 3) v0 (.int .i64 1) fun v5=>
 cnd (wantE v5 false)
 (intE gGtr (bin TT .gtr 3) v0 (.int .i64 4096) fun v8=>
 queue_New_j1 K v0 v5 v8 h)
 (queue_New_j1 K v0 v5 (.tuple []) h)
theorem queue_New_run (H : Agree disp) (hd : 1<=d) (v0 : EV) (h : AHeap) : callC TT disp K d false 126 [v0] h = queue_New K v0 h:=
 runL (H.bare (by kernel_rfl)) hd (by kernel_rfl) (fun d hd=>rfl) (fun d c r=>rfl) (fun d c r=>by kernel_rfl)
def revetmentref05_half_j0 (K : Nat) (v0 : EV) (h : AHeap) : R:=
 binE (bin TT .quo 3) v0 (.int .i64 2) fun v10=>
 some (v10,h)
def revetmentref05_half (K : Nat) (v0 : EV) (h : AHeap) : R:=
 intE gLss (bin TT .lss 3) v0 (.int .i64 0) fun v4=>
 ifE v4
 (intE gSub (bin TT .sub 3) (.int .i64 1) v0 fun v6=>
 binE (bin TT .quo 3) v6 (.int .i64 2) fun v7=>
 negE v7 fun v8=>
 some (v8,h))
 (revetmentref05_half_j0 K v0 h)
theorem revetmentref05_half_run (H : Agree disp) (hd : 1<=d) (v0 : EV) (h : AHeap) : callC TT disp K d false 127 [v0] h = revetmentref05_half K v0 h:=
 runL (H.bare (by kernel_rfl)) hd (by kernel_rfl) (fun d hd=>rfl) (fun d c r=>rfl) (fun d c r=>by kernel_rfl)
def geom_within_j0 (K : Nat) (v10 v13 : EV) (h : AHeap) : R:=
 pickE v10 v13 (.bool false) fun v14=>
 some (v14,h)
def geom_within (K : Nat) (v0 v1 v2 : EV) (h : AHeap) : R:=
 intE gGeq (bin TT .geq 3) v0 v1 fun v9=>
 cnd (wantE v9 true)
 (intE gLeq (bin TT .leq 3) v0 v2 fun v13=>
 geom_within_j0 K v9 v13 h)
 (geom_within_j0 K v9 (.tuple []) h)
theorem geom_within_run (H : Agree disp) (hd : 1<=d) (v0 v1 v2 : EV) (h : AHeap) : callC TT disp K d false 140 [v0,v1,v2] h = geom_within K v0 v1 v2 h:=
 runL (H.bare (by kernel_rfl)) hd (by kernel_rfl) (fun d hd=>rfl) (fun d c r=>rfl) (fun d c r=>by kernel_rfl)
def geom_Geom_Reserve (K : Nat) (v0 : EV) (h : AHeap) : R:=
 boxE 23 v0 h fun v1 h=>
 offE 0 v1 fun v3=>
 ld1E v3 h fun v4=>
 offE 4 v1 fun v5=>
 ld1E v5 h fun v6=>
 intE gMul (bin TT .mul 3) v4 v6 fun v7=>
 intE gAdd (bin TT .add 3) v7 (.int .i64 4) fun v8=>
 some (v8,h)
theorem geom_Geom_Reserve_run (H : Agree disp) (hd : 1<=d) (v0 : EV) (h : AHeap) : callC TT disp K d false 159 [v0] h = geom_Geom_Reserve K v0 h:=
 runL (H.bare (by kernel_rfl)) hd (by kernel_rfl) (fun d hd=>rfl) (fun d c r=>rfl) (fun d c r=>by kernel_rfl)
def pool_Pool_Count_j0 (K : Nat) (v0 v1 : EV) (h : AHeap) : R:=
 nilE v0 fun v17=>
 offE 6 v17 fun v18=>
 ld1E v18 h fun v19=>
 ixSE 1 v19 v1 fun v21=>
 ld1E v21 h fun v22=>
 andE (queue_Queue_Len K v22 h) fun v23 h=>
 some (v23,h)
def pool_Pool_Count_j1 (K : Nat) (v0 v1 v7 v14 : EV) (h : AHeap) : R:=
 pickE v7 (.bool true) v14 fun v15=>
 ifE v15
 (some ((.int .i64 0),h))
 (pool_Pool_Count_j0 K v0 v1 h)
def pool_Pool_Count (K : Nat) (v0 v1 : EV) (h : AHeap) : R:=
 intE gLss (bin TT .lss 3) v1 (.int .i64 0) fun v6=>
 cnd (wantE v6 false)
 (nilE v0 fun v10=>
 offE 6 v10 fun v11=>
 ld1E v11 h fun v12=>
 lenE v12 fun v13=>
 intE gGeq (bin TT .geq 3) v1 v13 fun v14=>
 pool_Pool_Count_j1 K v0 v1 v6 v14 h)
 (pool_Pool_Count_j1 K v0 v1 v6 (.tuple []) h)
theorem pool_Pool_Count_run (H : Agree disp) (hd : 2<=d) (v0 v1 : EV) (h : AHeap) : callC TT disp K d false 22 [v0,v1] h = pool_Pool_Count K v0 v1 h:=
 runL (H.bare (by kernel_rfl)) hd (by kernel_rfl) (fun d hd=>(W1 (queue_Queue_Len_run H (lq hd rfl)) rfl)) (fun d c r=>rfl) (fun d c r=>by kernel_rfl)
def pool_Pool_Pairs_j0 (K : Nat) (v0 v3 : EV) (h : AHeap) : R:=
 binE (bin TT .quo 3) v3 (.int .i64 2) fun v21=>
 andE (pool_Pool_fullest K v0 (.int .i64 (-1)) h) fun v25 h=>
 andE (pool_Pool_Count K v0 v25 h) fun v26 h=>
 intE gSub (bin TT .sub 3) v3 v26 fun v27=>
 andE (builtin TT .min #[3,3] [v21,v27] h) fun v28 h=>
 some (v28,h)
def pool_Pool_Pairs_j2 (K : Nat) (ih1_ : EV->EV->EV->EV->EV->AHeap->R) (v0 v3 v9 v10 v11 : EV) (h : AHeap) : R:=
 intE gAdd (bin TT .add 3) v11 (.int .i64 1) fun v19=>
 ih1_ v0 v3 v9 v10 v19 h
def pool_Pool_Pairs_j3 (K : Nat) (ih1_ : EV->EV->EV->EV->EV->AHeap->R) (v0 v3 v9 v10 v11 : EV) (h : AHeap) : R:=
 ixSE 1 v9 v11 fun v13=>
 ld1E v13 h fun v14=>
 andE (queue_Queue_Len K v14 h) fun v17 h=>
 intE gAdd (bin TT .add 3) v3 v17 fun v18=>
 pool_Pool_Pairs_j2 K ih1_ v0 v18 v9 v10 v11 h
def pool_Pool_Pairs_b4 (K : Nat) : Nat->EV->EV->EV->EV->EV->AHeap->R
 | 0=>fun _ _ _ _ _ _=>none
 | m + 1=>fun v0 v3 v9 v10 v11 h=>
  intE gLss (bin TT .lss 3) v11 v10 fun v12=>
  ifE v12
  (pool_Pool_Pairs_j3 K (pool_Pool_Pairs_b4 K m) v0 v3 v9 v10 v11 h)
  (pool_Pool_Pairs_j0 K v0 v3 h)
def pool_Pool_Pairs (K : Nat) (v0 : EV) (h : AHeap) : R:=
 nilE v0 fun v7=>
 offE 6 v7 fun v8=>
 ld1E v8 h fun v9=>
 lenE v9 fun v10=>
 pool_Pool_Pairs_b4 K K v0 (.int .i64 0) v9 v10 (.int .i64 0) h
abbrev pool_Pool_Pairs_c (K : Nat) (c : Caller) : Caller:=(w2 78 (pool_Pool_fullest K) (w2 22 (pool_Pool_Count K) (w1 71 (queue_Queue_Len K) c)))
theorem pool_Pool_Pairs_b4_r (c c' r : Caller) (K : Nat) (m : Nat) : loopD (fun ih=>codeD TT (pool_Pool_Pairs_c K c) c' r K (nOf TT 29) (retOf TT 29) (lbOf TT 29 [true,true,false,true,false]) [(0,fun ρ h=>pool_Pool_Pairs_j0 K (ρ 0) (ρ 3) h)] ih) m = fun ρ h=>pool_Pool_Pairs_b4 K m (ρ 0) (ρ 3) (ρ 9) (ρ 10) (ρ 11) h:=
 loopD_eq (E:=fun m ρ h=>pool_Pool_Pairs_b4 K m (ρ 0) (ρ 3) (ρ 9) (ρ 10) (ρ 11) h) rfl (fun m=>ext2 fun ρ h=>by
  show _ = pool_Pool_Pairs_b4 K (m + 1) (ρ 0) (ρ 3) (ρ 9) (ρ 10) (ρ 11) h
  rw [pool_Pool_Pairs_b4]; kernel_rfl) m
theorem pool_Pool_Pairs_run (H : Agree disp) (hd : 3<=d) (v0 : EV) (h : AHeap) : callC TT disp K d false 29 [v0] h = pool_Pool_Pairs K v0 h:=
 runL (H.bare (by kernel_rfl)) hd (by kernel_rfl) (fun d hd=>(W2 (pool_Pool_fullest_run H (lq hd rfl)) (W2 (pool_Pool_Count_run H (lq hd rfl)) (W1 (queue_Queue_Len_run H (lq hd rfl)) rfl)))) (fun d c r=>(cut [true,true,false,true,false] (pool_Pool_Pairs_b4_r (callC TT disp K d false) c r K K) (by kernel_rfl) (by kernel_rfl) rfl)) (fun d c r=>by kernel_rfl)
def zdev_New_j0 (K : Nat) (v8 : EV) (h : AHeap) : R:=
 some (.tuple [v8,(.int .i64 0)],h)
def zdev_New_j2 (K : Nat) (ih1_ : EV->EV->EV->EV->AHeap->R) (v1 v8 v23 v24 : EV) (h : AHeap) : R:=
 intE gAdd (bin TT .add 3) v24 (.int .i64 1) fun v44=>
 ih1_ v1 v8 v23 v44 h
def zdev_New_j3 (K : Nat) (ih1_ : EV->EV->EV->EV->AHeap->R) (v1 v8 v9 v23 v24 : EV) (h : AHeap) : R:=
 nilE v8 fun v36=>
 offE 0 v36 fun v37=>
 ld1E v37 h fun v38=>
 andE (buildSliceE [.nilptr] 180 1 1 [(0,v9)] h) fun v40 h=>
 andE (appendF 180 1 v38 v40 h) fun v41 h=>
 nilE v8 fun v42=>
 offE 0 v42 fun v43=>
 stE 1 v43 v41 h fun h=>
 zdev_New_j2 K ih1_ v1 v8 v23 v24 h
def zdev_New_j4 (K : Nat) (ih1_ : EV->EV->EV->EV->AHeap->R) (v1 v8 v23 v24 : EV) (h : AHeap) : R:=
 andE (zone_New_frame_Sector K v1 h) fun v28 h=>
 extrE 0 v28 fun v29=>
 extrE 1 v28 fun v30=>
 intE gNeq (bin TT .neq 28) v30 (.int .i64 0) fun v32=>
 ifE v32
 (some (.tuple [.nilptr,v30],h))
 (zdev_New_j3 K ih1_ v1 v8 v29 v23 v24 h)
def zdev_New_b5 (K : Nat) : Nat->EV->EV->EV->EV->AHeap->R
 | 0=>fun _ _ _ _ _=>none
 | m + 1=>fun v1 v8 v23 v24 h=>
  intE gLss (bin TT .lss 3) v24 v23 fun v25=>
  ifE v25
  (zdev_New_j4 K (zdev_New_b5 K m) v1 v8 v23 v24 h)
  (zdev_New_j0 K v8 h)
def zdev_New_j6 (K : Nat) (v0 v1 v2 : EV) (h : AHeap) : R:=
 buildE (nthPR [(0,1),(1,1),(2,1),(3,1),(4,1)]) [.nilslice,(.int .i64 0),(.int .i64 0),(.int .i64 0),(.bool false)] [(1,v1),(2,v2)] fun v21=>
 boxE 183 v21 h fun v22 h=>
 zdev_New_b5 K K v1 v22 v0 (.int .i64 0) h
def zdev_New_j7 (K : Nat) (v0 v1 v2 v14 v17 : EV) (h : AHeap) : R:=
 pickE v14 (.bool true) v17 fun v18=>
 ifE v18
 (some (.tuple [.nilptr,(.int .i64 13)],h))
 (zdev_New_j6 K v0 v1 v2 h)
def zdev_New (K : Nat) (v0 v1 v2 : EV) (h : AHeap) : R:=
 andE (zdev_within K v0 (.int .i64 512) h) fun v12 h=>
 notE v12 fun v13=>
 cnd (wantE v13 false)
 (andE (zdev_within K v2 (.int .i64 64) h) fun v16 h=>
 notE v16 fun v17=>
 zdev_New_j7 K v0 v1 v2 v13 v17 h)
 (zdev_New_j7 K v0 v1 v2 v13 (.tuple []) h)
abbrev zdev_New_c (K : Nat) (c : Caller) : Caller:=(w2 124 (zdev_within K) (w1 125 (zone_New_frame_Sector K) c))
theorem zdev_New_b5_r (c c' r : Caller) (K : Nat) (m : Nat) : loopD (fun ih=>codeD TT (zdev_New_c K c) c' r K (nOf TT 72) (retOf TT 72) (lbOf TT 72 [true,true,true,false,true,false]) [(0,fun ρ h=>zdev_New_j0 K (ρ 8) h)] ih) m = fun ρ h=>zdev_New_b5 K m (ρ 1) (ρ 8) (ρ 23) (ρ 24) h:=
 loopD_eq (E:=fun m ρ h=>zdev_New_b5 K m (ρ 1) (ρ 8) (ρ 23) (ρ 24) h) rfl (fun m=>ext2 fun ρ h=>by
  show _ = zdev_New_b5 K (m + 1) (ρ 1) (ρ 8) (ρ 23) (ρ 24) h
  rw [zdev_New_b5]; kernel_rfl) m
theorem zdev_New_run (H : Agree disp) (hd : 2<=d) (v0 v1 v2 : EV) (h : AHeap) : callC TT disp K d false 72 [v0,v1,v2] h = zdev_New K v0 v1 v2 h:=
 runL (H.bare (by kernel_rfl)) hd (by kernel_rfl) (fun d hd=>(W2 (zdev_within_run H (lq hd rfl)) (W1 (zone_New_frame_Sector_run H (lq hd rfl)) rfl))) (fun d c r=>(cut [true,true,true,false,true,false] (zdev_New_b5_r (callC TT disp K d false) c r K K) (by kernel_rfl) (by kernel_rfl) rfl)) (fun d c r=>by kernel_rfl)
def revetmentref05_G_Segments_j0 (K : Nat) (v1 v5 : EV) (h : AHeap) : R:=
 drawE h fun base s=>
 bigE 1 1 s h (fun h=>(revetmentref05_half K v5 h)) fun v40 h s=>
 intE gSub (bin TT .sub 3) v40 (.int .i64 1) fun v41=>
 offE 0 v1 fun v42=>
 loadE 4 8 base v42 s fun s=>ld1E v42 h fun v43=>
 offE 4 v1 fun v44=>
 loadE 6 32 base v44 s fun s=>ld1E v44 h fun v45=>
 intE gMul (bin TT .mul 3) v43 v45 fun v46=>
 intE gSub (bin TT .sub 3) v41 v46 fun v47=>
 some (v47,h)
def revetmentref05_G_Segments (K : Nat) (v0 : EV) (h : AHeap) : R:=
 boxE 37 v0 h fun v1 h=>
 offE 1 v1 fun v7=>
 ld1E v7 h fun v8=>
 offE 4 v1 fun v9=>
 ld1E v9 h fun v10=>
 intE gSub (bin TT .sub 3) v8 v10 fun v11=>
 intE gSub (bin TT .sub 3) v11 (.int .i64 2) fun v12=>
 offE 0 v1 fun v13=>
 ld1E v13 h fun v14=>
 offE 4 v1 fun v15=>
 ld1E v15 h fun v16=>
 intE gMul (bin TT .mul 3) v14 v16 fun v17=>
 intE gAdd (bin TT .add 3) v17 (.int .i64 4) fun v18=>
 offE 0 v1 fun v19=>
 ld1E v19 h fun v20=>
 intE gSub (bin TT .sub 3) v20 (.int .i64 1) fun v21=>
 intE gMul (bin TT .mul 3) v21 v12 fun v23=>
 intE gSub (bin TT .sub 3) v23 v18 fun v25=>
 intE gAdd (bin TT .add 3) v25 (.int .i64 1) fun v26=>
 offE 0 v1 fun v27=>
 ld1E v27 h fun v28=>
 intE gMul (bin TT .mul 3) v28 v12 fun v30=>
 intE gMul (bin TT .mul 3) (.int .i64 2) v18 fun v32=>
 intE gSub (bin TT .sub 3) v30 v32 fun v33=>
 intE gAdd (bin TT .add 3) v33 (.int .i64 1) fun v34=>
 intE gLss (bin TT .lss 3) v34 v26 fun v37=>
 ifE v37
 (revetmentref05_G_Segments_j0 K v1 v34 h)
 (revetmentref05_G_Segments_j0 K v1 v26 h)
theorem revetmentref05_G_Segments_run (H : Agree disp) (hd : 2<=d) (v0 : EV) (h : AHeap) : callC TT disp K d false 77 [v0] h = revetmentref05_G_Segments K v0 h:=
 runL (H.bare (by kernel_rfl)) hd (by kernel_rfl) (fun d hd=>(W1 (revetmentref05_half_run H (lq hd rfl)) rfl)) (fun d c r=>rfl) (fun d c r=>by kernel_rfl)
def geom_Geom_small_j0 (K : Nat) (v26 v29 : EV) (h : AHeap) : R:=
 pickE v26 v29 (.bool false) fun v30=>
 some (v30,h)
def geom_Geom_small_j1 (K : Nat) (v1 v21 v24 : EV) (h : AHeap) : R:=
 pickE v21 v24 (.bool false) fun v25=>
 cnd (wantE v25 true)
 (offE 5 v1 fun v27=>
 ld1E v27 h fun v28=>
 andE (geom_within K v28 (.int .i64 4) (.int .i64 64) h) fun v29 h=>
 geom_Geom_small_j0 K v25 v29 h)
 (geom_Geom_small_j0 K v25 (.tuple []) h)
def geom_Geom_small_j2 (K : Nat) (v1 v16 v19 : EV) (h : AHeap) : R:=
 pickE v16 v19 (.bool false) fun v20=>
 cnd (wantE v20 true)
 (offE 4 v1 fun v22=>
 ld1E v22 h fun v23=>
 andE (geom_within K v23 (.int .i64 0) (.int .i64 4) h) fun v24 h=>
 geom_Geom_small_j1 K v1 v20 v24 h)
 (geom_Geom_small_j1 K v1 v20 (.tuple []) h)
def geom_Geom_small_j3 (K : Nat) (v1 v11 v14 : EV) (h : AHeap) : R:=
 pickE v11 v14 (.bool false) fun v15=>
 cnd (wantE v15 true)
 (offE 3 v1 fun v17=>
 ld1E v17 h fun v18=>
 andE (geom_within K v18 (.int .i64 1) (.int .i64 256) h) fun v19 h=>
 geom_Geom_small_j2 K v1 v15 v19 h)
 (geom_Geom_small_j2 K v1 v15 (.tuple []) h)
def geom_Geom_small_j4 (K : Nat) (v1 v6 v9 : EV) (h : AHeap) : R:=
 pickE v6 v9 (.bool false) fun v10=>
 cnd (wantE v10 true)
 (offE 2 v1 fun v12=>
 ld1E v12 h fun v13=>
 andE (geom_within K v13 (.int .i64 4) (.int .i64 64) h) fun v14 h=>
 geom_Geom_small_j3 K v1 v10 v14 h)
 (geom_Geom_small_j3 K v1 v10 (.tuple []) h)
def geom_Geom_small (K : Nat) (v0 : EV) (h : AHeap) : R:=
 boxE 23 v0 h fun v1 h=>
 offE 0 v1 fun v3=>
 ld1E v3 h fun v4=>
 andE (geom_within K v4 (.int .i64 3) (.int .i64 8) h) fun v5 h=>
 cnd (wantE v5 true)
 (offE 1 v1 fun v7=>
 ld1E v7 h fun v8=>
 andE (geom_within K v8 (.int .i64 1) (.int .i64 64) h) fun v9 h=>
 geom_Geom_small_j4 K v1 v5 v9 h)
 (geom_Geom_small_j4 K v1 v5 (.tuple []) h)
theorem geom_Geom_small_run (H : Agree disp) (hd : 2<=d) (v0 : EV) (h : AHeap) : callC TT disp K d false 111 [v0] h = geom_Geom_small K v0 h:=
 runL (H.bare (by kernel_rfl)) hd (by kernel_rfl) (fun d hd=>(W3 (geom_within_run H (lq hd rfl)) rfl)) (fun d c r=>rfl) (fun d c r=>by kernel_rfl)
def geom_Geom_Segments (K : Nat) (v0 : EV) (h : AHeap) : R:=
 boxE 23 v0 h fun v1 h=>
 drawE h fun base s=>
 offE 1 v1 fun v6=>
 loadE 1 1 base v6 s fun s=>ld1E v6 h fun v7=>
 offE 4 v1 fun v8=>
 loadE 3 4 base v8 s fun s=>ld1E v8 h fun v9=>
 intE gSub (bin TT .sub 3) v7 v9 fun v10=>
 intE gSub (bin TT .sub 3) v10 (.int .i64 2) fun v11=>
 loadE 6 0 base v1 s fun s=>ldNE 6 v1 h fun v12=>
 bigE 7 64 s h (fun h=>(geom_Geom_Reserve K v12 h)) fun v13 h s=>
 offE 0 v1 fun v14=>
 ld1E v14 h fun v15=>
 intE gSub (bin TT .sub 3) v15 (.int .i64 1) fun v16=>
 intE gMul (bin TT .mul 3) v16 v11 fun v18=>
 intE gSub (bin TT .sub 3) v18 v13 fun v20=>
 intE gAdd (bin TT .add 3) v20 (.int .i64 1) fun v21=>
 offE 0 v1 fun v22=>
 ld1E v22 h fun v23=>
 intE gMul (bin TT .mul 3) v23 v11 fun v25=>
 intE gMul (bin TT .mul 3) (.int .i64 2) v13 fun v27=>
 intE gSub (bin TT .sub 3) v25 v27 fun v28=>
 intE gAdd (bin TT .add 3) v28 (.int .i64 1) fun v29=>
 andE (builtin TT .min #[3,3] [v21,v29] h) fun v30 h=>
 binE (bin TT .shr 3) v30 (.int .u64 1) fun v32=>
 intE gSub (bin TT .sub 3) v32 (.int .i64 1) fun v33=>
 offE 0 v1 fun v34=>
 ld1E v34 h fun v35=>
 offE 4 v1 fun v36=>
 ld1E v36 h fun v37=>
 intE gMul (bin TT .mul 3) v35 v37 fun v38=>
 intE gSub (bin TT .sub 3) v33 v38 fun v39=>
 some (v39,h)
theorem geom_Geom_Segments_run (H : Agree disp) (hd : 2<=d) (v0 : EV) (h : AHeap) : callC TT disp K d false 113 [v0] h = geom_Geom_Segments K v0 h:=
 runL (H.bare (by kernel_rfl)) hd (by kernel_rfl) (fun d hd=>(W1 (geom_Geom_Reserve_run H (lq hd rfl)) rfl)) (fun d c r=>rfl) (fun d c r=>by kernel_rfl)
def plan_New_j0 (K : Nat) (v8 : EV) (h : AHeap) : R:=
 andE (makeMapE h) fun v21 h=>
 buildE (nthPR [(0,1),(1,1),(2,1),(3,1)]) [.nilptr,.nilslice,.nilslice,.nilmap] [(0,v8),(3,v21)] fun v22=>
 boxE 166 v22 h fun v23 h=>
 some (.tuple [v23,(.int .i64 0)],h)
def plan_New (K : Nat) (v0 v1 v2 : EV) (h : AHeap) : R:=
 andE (zdev_New K v0 v1 v2 h) fun v14 h=>
 extrE 0 v14 fun v15=>
 extrE 1 v14 fun v16=>
 intE gNeq (bin TT .neq 28) v16 (.int .i64 0) fun v18=>
 ifE v18
 (some (.tuple [.nilptr,v16],h))
 (plan_New_j0 K v15 h)
theorem plan_New_run (H : Agree disp) (hd : 3<=d) (v0 v1 v2 : EV) (h : AHeap) : callC TT disp K d false 24 [v0,v1,v2] h = plan_New K v0 v1 v2 h:=
 runL (H.bare (by kernel_rfl)) hd (by kernel_rfl) (fun d hd=>(W3 (zdev_New_run H (lq hd rfl)) rfl)) (fun d c r=>rfl) (fun d c r=>by kernel_rfl)
def revetmentref05_G_Right_j0 (K : Nat) (base : Nat) (s : DX) (v66 v75 : EV) (h : AHeap) : R:=
 pickE v66 v75 (.bool false) fun v76=>
 some (v76,h)
def revetmentref05_G_Right_j1 (K : Nat) (v1 : EV) (h : AHeap) : R:=
 drawE h fun base s=>
 loadE 0 0 base v1 s fun s=>ldNE 6 v1 h fun v61=>
 bigE 1 1 s h (fun h=>(revetmentref05_G_Parts K v61 h)) fun v62 h s=>
 offE 2 v1 fun v63=>
 loadE 3 4 base v63 s fun s=>ld1E v63 h fun v64=>
 intE gLeq (bin TT .leq 3) v62 v64 fun v65=>
 cnd (wantE v65 true)
 (offE 3 v1 fun v67=>
 loadE 7 127 base v67 s fun s=>ld1E v67 h fun v68=>
 intE gMul (bin TT .mul 3) (.int .i64 2) v68 fun v69=>
 offE 2 v1 fun v70=>
 loadE 10 575 base v70 s fun s=>ld1E v70 h fun v71=>
 loadE 11 63 base v1 s fun s=>ldNE 6 v1 h fun v72=>
 bigE 12 2111 s h (fun h=>(revetmentref05_G_Segments K v72 h)) fun v73 h s=>
 intE gMul (bin TT .mul 3) v71 v73 fun v74=>
 intE gLeq (bin TT .leq 3) v69 v74 fun v75=>
 revetmentref05_G_Right_j0 K base s v65 v75 h)
 (revetmentref05_G_Right_j0 K base s v65 (.tuple []) h)
def revetmentref05_G_Right_j2 (K : Nat) (v1 v56 v59 : EV) (h : AHeap) : R:=
 pickE v56 (.bool true) v59 fun v60=>
 ifE v60
 (some ((.bool false),h))
 (revetmentref05_G_Right_j1 K v1 h)
def revetmentref05_G_Right_j3 (K : Nat) (v1 v51 v54 : EV) (h : AHeap) : R:=
 pickE v51 (.bool true) v54 fun v55=>
 cnd (wantE v55 false)
 (offE 5 v1 fun v57=>
 ld1E v57 h fun v58=>
 intE gGtr (bin TT .gtr 3) v58 (.int .i64 64) fun v59=>
 revetmentref05_G_Right_j2 K v1 v55 v59 h)
 (revetmentref05_G_Right_j2 K v1 v55 (.tuple []) h)
def revetmentref05_G_Right_j4 (K : Nat) (v1 v46 v49 : EV) (h : AHeap) : R:=
 pickE v46 (.bool true) v49 fun v50=>
 cnd (wantE v50 false)
 (offE 5 v1 fun v52=>
 ld1E v52 h fun v53=>
 intE gLss (bin TT .lss 3) v53 (.int .i64 4) fun v54=>
 revetmentref05_G_Right_j3 K v1 v50 v54 h)
 (revetmentref05_G_Right_j3 K v1 v50 (.tuple []) h)
def revetmentref05_G_Right_j5 (K : Nat) (v1 v41 v44 : EV) (h : AHeap) : R:=
 pickE v41 (.bool true) v44 fun v45=>
 cnd (wantE v45 false)
 (offE 4 v1 fun v47=>
 ld1E v47 h fun v48=>
 intE gGtr (bin TT .gtr 3) v48 (.int .i64 4) fun v49=>
 revetmentref05_G_Right_j4 K v1 v45 v49 h)
 (revetmentref05_G_Right_j4 K v1 v45 (.tuple []) h)
def revetmentref05_G_Right_j6 (K : Nat) (v1 v36 v39 : EV) (h : AHeap) : R:=
 pickE v36 (.bool true) v39 fun v40=>
 cnd (wantE v40 false)
 (offE 4 v1 fun v42=>
 ld1E v42 h fun v43=>
 intE gLss (bin TT .lss 3) v43 (.int .i64 0) fun v44=>
 revetmentref05_G_Right_j5 K v1 v40 v44 h)
 (revetmentref05_G_Right_j5 K v1 v40 (.tuple []) h)
def revetmentref05_G_Right_j7 (K : Nat) (v1 v31 v34 : EV) (h : AHeap) : R:=
 pickE v31 (.bool true) v34 fun v35=>
 cnd (wantE v35 false)
 (offE 3 v1 fun v37=>
 ld1E v37 h fun v38=>
 intE gGtr (bin TT .gtr 3) v38 (.int .i64 256) fun v39=>
 revetmentref05_G_Right_j6 K v1 v35 v39 h)
 (revetmentref05_G_Right_j6 K v1 v35 (.tuple []) h)
def revetmentref05_G_Right_j8 (K : Nat) (v1 v26 v29 : EV) (h : AHeap) : R:=
 pickE v26 (.bool true) v29 fun v30=>
 cnd (wantE v30 false)
 (offE 3 v1 fun v32=>
 ld1E v32 h fun v33=>
 intE gLss (bin TT .lss 3) v33 (.int .i64 1) fun v34=>
 revetmentref05_G_Right_j7 K v1 v30 v34 h)
 (revetmentref05_G_Right_j7 K v1 v30 (.tuple []) h)
def revetmentref05_G_Right_j9 (K : Nat) (v1 v21 v24 : EV) (h : AHeap) : R:=
 pickE v21 (.bool true) v24 fun v25=>
 cnd (wantE v25 false)
 (offE 2 v1 fun v27=>
 ld1E v27 h fun v28=>
 intE gGtr (bin TT .gtr 3) v28 (.int .i64 64) fun v29=>
 revetmentref05_G_Right_j8 K v1 v25 v29 h)
 (revetmentref05_G_Right_j8 K v1 v25 (.tuple []) h)
def revetmentref05_G_Right_j10 (K : Nat) (v1 v16 v19 : EV) (h : AHeap) : R:=
 pickE v16 (.bool true) v19 fun v20=>
 cnd (wantE v20 false)
 (offE 2 v1 fun v22=>
 ld1E v22 h fun v23=>
 intE gLss (bin TT .lss 3) v23 (.int .i64 4) fun v24=>
 revetmentref05_G_Right_j9 K v1 v20 v24 h)
 (revetmentref05_G_Right_j9 K v1 v20 (.tuple []) h)
def revetmentref05_G_Right_j11 (K : Nat) (v1 v11 v14 : EV) (h : AHeap) : R:=
 pickE v11 (.bool true) v14 fun v15=>
 cnd (wantE v15 false)
 (offE 1 v1 fun v17=>
 ld1E v17 h fun v18=>
 intE gGtr (bin TT .gtr 3) v18 (.int .i64 64) fun v19=>
 revetmentref05_G_Right_j10 K v1 v15 v19 h)
 (revetmentref05_G_Right_j10 K v1 v15 (.tuple []) h)
def revetmentref05_G_Right_j12 (K : Nat) (v1 v6 v9 : EV) (h : AHeap) : R:=
 pickE v6 (.bool true) v9 fun v10=>
 cnd (wantE v10 false)
 (offE 1 v1 fun v12=>
 ld1E v12 h fun v13=>
 intE gLss (bin TT .lss 3) v13 (.int .i64 1) fun v14=>
 revetmentref05_G_Right_j11 K v1 v10 v14 h)
 (revetmentref05_G_Right_j11 K v1 v10 (.tuple []) h)
def revetmentref05_G_Right (K : Nat) (v0 : EV) (h : AHeap) : R:=
 boxE 37 v0 h fun v1 h=>
 offE 0 v1 fun v3=>
 ld1E v3 h fun v4=>
 intE gLss (bin TT .lss 3) v4 (.int .i64 3) fun v5=>
 cnd (wantE v5 false)
 (offE 0 v1 fun v7=>
 ld1E v7 h fun v8=>
 intE gGtr (bin TT .gtr 3) v8 (.int .i64 8) fun v9=>
 revetmentref05_G_Right_j12 K v1 v5 v9 h)
 (revetmentref05_G_Right_j12 K v1 v5 (.tuple []) h)
theorem revetmentref05_G_Right_run (H : Agree disp) (hd : 3<=d) (v0 : EV) (h : AHeap) : callC TT disp K d false 27 [v0] h = revetmentref05_G_Right K v0 h:=
 runL (H.bare (by kernel_rfl)) hd (by kernel_rfl) (fun d hd=>(W1 (revetmentref05_G_Parts_run H (lq hd rfl)) (W1 (revetmentref05_G_Segments_run H (lq hd rfl)) rfl))) (fun d c r=>rfl) (fun d c r=>by kernel_rfl)
def geom_Geom_Right_j0 (K : Nat) (base : Nat) (s : DX) (v12 v21 : EV) (h : AHeap) : R:=
 pickE v12 v21 (.bool false) fun v22=>
 some (v22,h)
def geom_Geom_Right_j1 (K : Nat) (base : Nat) (s : DX) (v1 v5 v10 : EV) (h : AHeap) : R:=
 pickE v5 v10 (.bool false) fun v11=>
 cnd (wantE v11 true)
 (offE 3 v1 fun v13=>
 loadE 11 2047 base v13 s fun s=>ld1E v13 h fun v14=>
 intE gMul (bin TT .mul 3) (.int .i64 2) v14 fun v15=>
 offE 2 v1 fun v16=>
 loadE 14 9215 base v16 s fun s=>ld1E v16 h fun v17=>
 loadE 15 1023 base v1 s fun s=>ldNE 6 v1 h fun v18=>
 bigE 16 33791 s h (fun h=>(geom_Geom_Segments K v18 h)) fun v19 h s=>
 intE gMul (bin TT .mul 3) v17 v19 fun v20=>
 intE gLeq (bin TT .leq 3) v15 v20 fun v21=>
 geom_Geom_Right_j0 K base s v11 v21 h)
 (geom_Geom_Right_j0 K base s v11 (.tuple []) h)
def geom_Geom_Right (K : Nat) (v0 : EV) (h : AHeap) : R:=
 boxE 23 v0 h fun v1 h=>
 drawE h fun base s=>
 loadE 0 0 base v1 s fun s=>ldNE 6 v1 h fun v3=>
 bigE 1 1 s h (fun h=>(geom_Geom_small K v3 h)) fun v4 h s=>
 cnd (wantE v4 true)
 (loadE 3 7 base v1 s fun s=>ldNE 6 v1 h fun v6=>
 bigE 4 15 s h (fun h=>(geom_Geom_Parts K v6 h)) fun v7 h s=>
 offE 2 v1 fun v8=>
 loadE 6 39 base v8 s fun s=>ld1E v8 h fun v9=>
 intE gLeq (bin TT .leq 3) v7 v9 fun v10=>
 geom_Geom_Right_j1 K base s v1 v4 v10 h)
 (geom_Geom_Right_j1 K base s v1 v4 (.tuple []) h)
theorem geom_Geom_Right_run (H : Agree disp) (hd : 3<=d) (v0 : EV) (h : AHeap) : callC TT disp K d false 62 [v0] h = geom_Geom_Right K v0 h:=
 runL (H.bare (by kernel_rfl)) hd (by kernel_rfl) (fun d hd=>(W1 (geom_Geom_small_run H (lq hd rfl)) (W1 (geom_Geom_Parts_run H (lq hd rfl)) (W1 (geom_Geom_Segments_run H (lq hd rfl)) rfl)))) (fun d c r=>rfl) (fun d c r=>by kernel_rfl)
def pool_New_j0 (K : Nat) (v4 : EV) (h : AHeap) : R:=
 some (.tuple [v4,(.int .i64 0)],h)
def pool_New_j2 (K : Nat) (ih1_ : EV->EV->EV->EV->AHeap->R) (v1 v4 v14 v15 : EV) (h : AHeap) : R:=
 intE gAdd (bin TT .add 3) v15 (.int .i64 1) fun v36=>
 ih1_ v1 v4 v14 v36 h
def pool_New_j3 (K : Nat) (ih1_ : EV->EV->EV->EV->AHeap->R) (v1 v4 v5 v14 v15 : EV) (h : AHeap) : R:=
 nilE v4 fun v28=>
 offE 6 v28 fun v29=>
 ld1E v29 h fun v30=>
 andE (buildSliceE [.nilptr] 153 1 1 [(0,v5)] h) fun v32 h=>
 andE (appendF 153 1 v30 v32 h) fun v33 h=>
 nilE v4 fun v34=>
 offE 6 v34 fun v35=>
 stE 1 v35 v33 h fun h=>
 pool_New_j2 K ih1_ v1 v4 v14 v15 h
def pool_New_j4 (K : Nat) (ih1_ : EV->EV->EV->EV->AHeap->R) (v1 v4 v14 v15 : EV) (h : AHeap) : R:=
 offE 1 v1 fun v18=>
 ld1E v18 h fun v19=>
 andE (queue_New K v19 h) fun v20 h=>
 extrE 0 v20 fun v21=>
 extrE 1 v20 fun v22=>
 intE gNeq (bin TT .neq 28) v22 (.int .i64 0) fun v24=>
 ifE v24
 (some (.tuple [.nilptr,v22],h))
 (pool_New_j3 K ih1_ v1 v4 v21 v14 v15 h)
def pool_New_b5 (K : Nat) : Nat->EV->EV->EV->EV->AHeap->R
 | 0=>fun _ _ _ _ _=>none
 | m + 1=>fun v1 v4 v14 v15 h=>
  intE gLss (bin TT .lss 3) v15 v14 fun v16=>
  ifE v16
  (pool_New_j4 K (pool_New_b5 K m) v1 v4 v14 v15 h)
  (pool_New_j0 K v4 h)
def pool_New_j6 (K : Nat) (v1 : EV) (h : AHeap) : R:=
 ldNE 6 v1 h fun v10=>
 buildE (nthPR [(0,6),(6,1)]) [(.int .i64 0),(.int .i64 0),(.int .i64 0),(.int .i64 0),(.int .i64 0),(.int .i64 0),.nilslice] [(0,v10)] fun v11=>
 boxE 152 v11 h fun v12 h=>
 offE 0 v1 fun v13=>
 ld1E v13 h fun v14=>
 pool_New_b5 K K v1 v12 v14 (.int .i64 0) h
def pool_New (K : Nat) (v0 : EV) (h : AHeap) : R:=
 boxE 23 v0 h fun v1 h=>
 ldNE 6 v1 h fun v7=>
 andE (geom_Geom_Right K v7 h) fun v8 h=>
 notE v8 fun v9=>
 ifE v9
 (some (.tuple [.nilptr,(.int .i64 20)],h))
 (pool_New_j6 K v1 h)
abbrev pool_New_c (K : Nat) (c : Caller) : Caller:=(w1 62 (geom_Geom_Right K) (w1 126 (queue_New K) c))
theorem pool_New_b5_r (c c' r : Caller) (K : Nat) (m : Nat) : loopD (fun ih=>codeD TT (pool_New_c K c) c' r K (nOf TT 73) (retOf TT 73) (lbOf TT 73 [true,true,true,false,true,false]) [(0,fun ρ h=>pool_New_j0 K (ρ 4) h)] ih) m = fun ρ h=>pool_New_b5 K m (ρ 1) (ρ 4) (ρ 14) (ρ 15) h:=
 loopD_eq (E:=fun m ρ h=>pool_New_b5 K m (ρ 1) (ρ 4) (ρ 14) (ρ 15) h) rfl (fun m=>ext2 fun ρ h=>by
  show _ = pool_New_b5 K (m + 1) (ρ 1) (ρ 4) (ρ 14) (ρ 15) h
  rw [pool_New_b5]; kernel_rfl) m
theorem pool_New_run (H : Agree disp) (hd : 4<=d) (v0 : EV) (h : AHeap) : callC TT disp K d false 73 [v0] h = pool_New K v0 h:=
 runL (H.bare (by kernel_rfl)) hd (by kernel_rfl) (fun d hd=>(W1 (geom_Geom_Right_run H (lq hd rfl)) (W1 (queue_New_run H (lq hd rfl)) rfl))) (fun d c r=>(cut [true,true,true,false,true,false] (pool_New_b5_r (callC TT disp K d false) c r K K) (by kernel_rfl) (by kernel_rfl) rfl)) (fun d c r=>by kernel_rfl)
def mirror_New_j0 (K : Nat) (v0 v4 v5 v8 : EV) (h : AHeap) : R:=
 drawE h fun base s=>
 loadE 1 0 base v4 s fun s=>ldNE 6 v4 h fun v34=>
 loadE 2 0 base v5 s fun s=>ldNE 256 v5 h fun v35=>
 loadE 4 0 base v4 s fun s=>ldNE 6 v4 h fun v37=>
 bigE 5 16 s h (fun h=>(geom_Geom_All K v37 h)) fun v38 h s=>
 newS 6 h s fun s=>andE (makeSliceE [(.int .i64 0)] 3 v38 v38 h) fun v39 h=>
 buildE (nthPR [(0,1),(1,6),(7,256),(263,1),(264,1),(265,1),(266,1),(267,1)]) ([.nilptr] ++ List.replicate 6 (.int .i64 0) ++ List.replicate 256 (.int .u32 0) ++ [.nilptr] ++ [.nilslice] ++ List.replicate 3 (.int .i64 0)) [(0,v0),(1,v34),(2,v35),(3,v8),(4,v39),(5,(.int .i64 (-1))),(6,(.int .i64 (-1)))] fun v40=>
 newS 8 h s fun s=>boxE 149 v40 h fun v41 h=>
 some (.tuple [v41,(.int .i64 0)],h)
def mirror_New_j1 (K : Nat) (base : Nat) (s : DX) (v0 v4 v5 v8 v25 v31 : EV) (h : AHeap) : R:=
 pickE v25 (.bool true) v31 fun v32=>
 ifE v32
 (some (.tuple [.nilptr,(.int .i64 20)],h))
 (mirror_New_j0 K v0 v4 v5 v8 h)
def mirror_New_j2 (K : Nat) (base : Nat) (s : DX) (v0 v4 v5 v8 v17 v23 : EV) (h : AHeap) : R:=
 pickE v17 (.bool true) v23 fun v24=>
 cnd (wantE v24 false)
 (bigE 12 4095 s h (fun h=>(plan_Drive_Device K v0 h)) fun v27 h s=>
 bigE 13 8191 s h (fun h=>(zdev_Device_Size K v27 h)) fun v28 h s=>
 offE 2 v4 fun v29=>
 loadE 15 18431 base v29 s fun s=>ld1E v29 h fun v30=>
 intE gNeq (bin TT .neq 3) v28 v30 fun v31=>
 mirror_New_j1 K base s v0 v4 v5 v8 v24 v31 h)
 (mirror_New_j1 K base s v0 v4 v5 v8 v24 (.tuple []) h)
def mirror_New (K : Nat) (v0 v1 v2 : EV) (h : AHeap) : R:=
 boxE 23 v1 h fun v4 h=>
 boxE 72 v2 h fun v5 h=>
 ldNE 6 v4 h fun v11=>
 andE (pool_New K v11 h) fun v12 h=>
 extrE 0 v12 fun v13=>
 extrE 1 v12 fun v14=>
 drawE h fun base s=>
 intE gNeq (bin TT .neq 28) v14 (.int .i64 0) fun v16=>
 cnd (wantE v16 false)
 (bigE 4 15 s h (fun h=>(plan_Drive_Device K v0 h)) fun v19 h s=>
 bigE 5 31 s h (fun h=>(zdev_Device_Zones K v19 h)) fun v20 h s=>
 loadE 6 7 base v4 s fun s=>ldNE 6 v4 h fun v21=>
 bigE 7 127 s h (fun h=>(geom_Geom_All K v21 h)) fun v22 h s=>
 intE gNeq (bin TT .neq 3) v20 v22 fun v23=>
 mirror_New_j2 K base s v0 v4 v5 v13 v16 v23 h)
 (mirror_New_j2 K base s v0 v4 v5 v13 v16 (.tuple []) h)
theorem mirror_New_run (H : Agree disp) (hd : 5<=d) (v0 v1 v2 : EV) (h : AHeap) : callC TT disp K d false 25 [v0,v1,v2] h = mirror_New K v0 v1 v2 h:=
 runL (H.bare (by kernel_rfl)) hd (by kernel_rfl) (fun d hd=>(W1 (pool_New_run H (lq hd rfl)) (W1 (plan_Drive_Device_run H (lq hd rfl)) (W1 (zdev_Device_Zones_run H (lq hd rfl)) (W1 (geom_Geom_All_run H (lq hd rfl)) (W1 (zdev_Device_Size_run H (lq hd rfl)) rfl)))))) (fun d c r=>rfl) (fun d c r=>by kernel_rfl)
end
end Go.Ev
