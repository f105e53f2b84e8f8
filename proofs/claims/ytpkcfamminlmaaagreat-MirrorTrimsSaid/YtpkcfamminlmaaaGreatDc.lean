import Derived.Test.YtpkcfamminlmaaaGreatDb
set_option linter.unusedVariables false
set_option linter.unusedSimpArgs false
set_option linter.unusedSectionVars false
namespace Go.Ev
open Go.Proofs
set_option maxRecDepth 100000
set_option maxHeartbeats 4000000
noncomputable section
variable {disp : Nat->Option FT} {K d : Nat}
def zdev_Device_Crash (K : Nat) (v0 : EV) (h : AHeap) : R:=
 nilE v0 fun v3=>
 offE 4 v3 fun v4=>
 stE 1 v4 (.bool true) h fun h=>
 some (.tuple [],h)
theorem zdev_Device_Crash_run (H : Agree disp) (hd : 1<=d) (v0 : EV) (h : AHeap) : callC TT disp K d false 39 [v0] h = zdev_Device_Crash K v0 h:=
 runL (H.bare (by kernel_rfl)) hd (by kernel_rfl) (fun d hd=>rfl) (fun d c r=>rfl) (fun d c r=>by kernel_rfl)
def revetmentref14_New (K : Nat) (v0 v1 : EV) (h : AHeap) : R:=
 boxE 36 v0 h fun v2 h=>
 boxE 37 v1 h fun v3 h=>
 newE (.cells ([.nilslice] ++ List.replicate 3 (.int .i64 0) ++ [(.bool false)] ++ List.replicate 2 .nilslice ++ List.replicate 8 (.int .i64 0) ++ List.replicate 2 .nilslice ++ List.replicate 3 (.int .i64 0)) 42) h fun v4 h=>
 ldNE 7 v2 h fun v5=>
 ldNE 6 v3 h fun v6=>
 offE 0 v3 fun v7=>
 ld1E v7 h fun v8=>
 offE 1 v3 fun v9=>
 ld1E v9 h fun v10=>
 buildE (nthPR [(0,1),(1,1),(2,1)]) [(.int .i64 0),(.int .i64 0),.nilslice] [(0,v8),(1,v10)] fun v11=>
 buildE (nthPR [(0,7),(7,6),(13,3),(16,1),(17,1),(18,1),(19,1)]) ([.nilslice] ++ List.replicate 3 (.int .i64 0) ++ [(.bool false)] ++ List.replicate 2 .nilslice ++ List.replicate 8 (.int .i64 0) ++ List.replicate 2 .nilslice ++ List.replicate 3 (.int .i64 0)) [(0,v5),(1,v6),(2,v11),(4,(.int .i64 (-1))),(5,(.int .i64 (-1)))] fun v12=>
 stE 20 v4 v12 h fun h=>
 resE TT [.c v4 42] h
theorem revetmentref14_New_run (H : Agree disp) (hd : 1<=d) (v0 v1 : EV) (h : AHeap) : callC TT disp K d false 54 [v0,v1] h = revetmentref14_New K v0 v1 h:=
 runL (H.bare (by kernel_rfl)) hd (by kernel_rfl) (fun d hd=>rfl) (fun d c r=>rfl) (fun d c r=>by kernel_rfl)
def revetmentref07_New_j0 (K : Nat) (v6 v7 : EV) (h : AHeap) : R:=
 ldNE 5 v7 h fun v23=>
 stE 5 v6 v23 h fun h=>
 resE TT [.c v6 33] h
def revetmentref07_New_j2 (K : Nat) (ih1_ : EV->EV->EV->EV->AHeap->R) (v0 v6 v7 v8 : EV) (h : AHeap) : R:=
 intE gAdd (bin TT .add 3) v8 (.int .i64 1) fun v16=>
 ih1_ v0 v6 v7 v16 h
def revetmentref07_New_j3 (K : Nat) (ih1_ : EV->EV->EV->EV->AHeap->R) (v0 v6 v7 v8 : EV) (h : AHeap) : R:=
 offE 0 v7 fun v17=>
 ld1E v17 h fun v18=>
 buildE (nthPR [(0,1),(1,1),(2,1),(3,1)]) [.nilslice,(.int .i64 0),(.int .i64 0),(.bool false)] [] fun v19=>
 andE (buildSliceE [.nilslice,(.int .i64 0),(.int .i64 0),(.bool false)] 215 4 1 [(0,v19)] h) fun v20 h=>
 andE (appendF 215 4 v18 v20 h) fun v21 h=>
 offE 0 v7 fun v22=>
 stE 1 v22 v21 h fun h=>
 revetmentref07_New_j2 K ih1_ v0 v6 v7 v8 h
def revetmentref07_New_b4 (K : Nat) : Nat->EV->EV->EV->EV->AHeap->R
 | 0=>fun _ _ _ _ _=>none
 | m + 1=>fun v0 v6 v7 v8 h=>
  intE gLss (bin TT .lss 3) v8 v0 fun v14=>
  ifE v14
  (revetmentref07_New_j3 K (revetmentref07_New_b4 K m) v0 v6 v7 v8 h)
  (revetmentref07_New_j0 K v6 v7 h)
def revetmentref07_New (K : Nat) (v0 v1 v2 : EV) (h : AHeap) : R:=
 newE (.cells [.nilslice,(.int .i64 0),(.int .i64 0),(.int .i64 0),(.bool false)] 33) h fun v6 h=>
 buildE (nthPR [(0,1),(1,1),(2,1),(3,1),(4,1)]) [.nilslice,(.int .i64 0),(.int .i64 0),(.int .i64 0),(.bool false)] [(1,v1),(2,v2)] fun v11=>
 newE (.cells [.nilslice,(.int .i64 0),(.int .i64 0),(.int .i64 0),(.bool false)] 33) h fun v7 h=>
 stE 5 v7 v11 h fun h=>
 revetmentref07_New_b4 K K v0 v6 v7 (.int .i64 0) h
abbrev revetmentref07_New_c (K : Nat) (c : Caller) : Caller:=c
theorem revetmentref07_New_b4_r (c c' r : Caller) (K : Nat) (m : Nat) : loopD (fun ih=>codeD TT (revetmentref07_New_c K c) c' r K (nOf TT 55) (retOf TT 55) (lbOf TT 55 [true,true,false,true,false]) [(0,fun ρ h=>revetmentref07_New_j0 K (ρ 6) (ρ 7) h)] ih) m = fun ρ h=>revetmentref07_New_b4 K m (ρ 0) (ρ 6) (ρ 7) (ρ 8) h:=
 loopD_eq (E:=fun m ρ h=>revetmentref07_New_b4 K m (ρ 0) (ρ 6) (ρ 7) (ρ 8) h) rfl (fun m=>ext2 fun ρ h=>by
  show _ = revetmentref07_New_b4 K (m + 1) (ρ 0) (ρ 6) (ρ 7) (ρ 8) h
  rw [revetmentref07_New_b4]; kernel_rfl) m
theorem revetmentref07_New_run (H : Agree disp) (hd : 1<=d) (v0 v1 v2 : EV) (h : AHeap) : callC TT disp K d false 55 [v0,v1,v2] h = revetmentref07_New K v0 v1 v2 h:=
 runL (H.bare (by kernel_rfl)) hd (by kernel_rfl) (fun d hd=>rfl) (fun d c r=>(cut [true,true,false,true,false] (revetmentref07_New_b4_r (callC TT disp K d false) c r K K) (by kernel_rfl) (by kernel_rfl) rfl)) (fun d c r=>by kernel_rfl)
def mirror_Mirror_Close_j0 (c r : Caller) (K : Nat) (v6 : EV) (h : AHeap) : R:=
 some (v6,h)
def mirror_Mirror_Close (c r : Caller) (K : Nat) (v0 : EV) (h : AHeap) : R:=
 nilE v0 fun v9=>
 offE 265 v9 fun v10=>
 ld1E v10 h fun v11=>
 nilE v0 fun v13=>
 offE 266 v13 fun v14=>
 ld1E v14 h fun v15=>
 nilE v0 fun v17=>
 offE 267 v17 fun v18=>
 ld1E v18 h fun v19=>
 nilE v0 fun v23=>
 offE 265 v23 fun v24=>
 stE 1 v24 (.int .i64 (-1)) h fun h=>
 nilE v0 fun v25=>
 offE 266 v25 fun v26=>
 stE 1 v26 (.int .i64 (-1)) h fun h=>
 nilE v0 fun v27=>
 offE 267 v27 fun v28=>
 stE 1 v28 (.int .i64 0) h fun h=>
 andE (c 123 [v0,v11,v19] h) fun v32 h=>
 andE (c 123 [v0,v15,v19] h) fun v36 h=>
 intE gEql (bin TT .eql 28) v32 (.int .i64 0) fun v38=>
 ifE v38
 (mirror_Mirror_Close_j0 c r K v36 h)
 (mirror_Mirror_Close_j0 c r K v32 h)
theorem mirror_Mirror_Close_run (H : Agree disp) (hd : 0<=d) (v0 : EV) (h : AHeap) : callC TT disp K (d + 1) false 70 [v0] h = mirror_Mirror_Close (callC TT disp K d false) (callC TT disp K d true) K v0 h:=
 runD (H.bare (by kernel_rfl)) (by kernel_rfl) rfl rfl (by kernel_rfl)
def mirror_Mirror_both_j0 (c r : Caller) (K : Nat) (v0 v2 v3 v5 v10 v11 : EV) (h : AHeap) : R:=
 ldNE 38 v5 h fun v34=>
 andE (c 131 [v0,v34,v11,v10,v2,v3] h) fun v39 h=>
 some (.tuple [v11,v39],h)
def mirror_Mirror_both (c r : Caller) (K : Nat) (v0 v1 v2 v3 : EV) (h : AHeap) : R:=
 boxE 89 v1 h fun v5 h=>
 nilE v0 fun v14=>
 offE 265 v14 fun v15=>
 ld1E v15 h fun v16=>
 nilE v0 fun v18=>
 offE 266 v18 fun v19=>
 ld1E v19 h fun v20=>
 ldNE 38 v5 h fun v22=>
 andE (c 131 [v0,v22,v16,v20,v2,v3] h) fun v27 h=>
 intE gNeq (bin TT .neq 28) v27 (.int .i64 0) fun v29=>
 ifE v29
 (some (.tuple [v16,v27],h))
 (mirror_Mirror_both_j0 c r K v0 v2 v3 v5 v16 v20 h)
theorem mirror_Mirror_both_run (H : Agree disp) (hd : 0<=d) (v0 v1 v2 v3 : EV) (h : AHeap) : callC TT disp K (d + 1) false 81 [v0,v1,v2,v3] h = mirror_Mirror_both (callC TT disp K d false) (callC TT disp K d true) K v0 v1 v2 v3 h:=
 runD (H.bare (by kernel_rfl)) (by kernel_rfl) rfl rfl (by kernel_rfl)
def zdev_Device_has_j0 (K : Nat) (v7 v14 : EV) (h : AHeap) : R:=
 pickE v7 v14 (.bool false) fun v15=>
 some (v15,h)
def zdev_Device_has (K : Nat) (v0 v1 : EV) (h : AHeap) : R:=
 intE gGeq (bin TT .geq 3) v1 (.int .i64 0) fun v6=>
 cnd (wantE v6 true)
 (nilE v0 fun v10=>
 offE 0 v10 fun v11=>
 ld1E v11 h fun v12=>
 lenE v12 fun v13=>
 intE gLss (bin TT .lss 3) v1 v13 fun v14=>
 zdev_Device_has_j0 K v6 v14 h)
 (zdev_Device_has_j0 K v6 (.tuple []) h)
theorem zdev_Device_has_run (H : Agree disp) (hd : 1<=d) (v0 v1 : EV) (h : AHeap) : callC TT disp K d false 85 [v0,v1] h = zdev_Device_has K v0 v1 h:=
 runL (H.bare (by kernel_rfl)) hd (by kernel_rfl) (fun d hd=>rfl) (fun d c r=>rfl) (fun d c r=>by kernel_rfl)
def zone_Zone_frame_Sector_State (K : Nat) (v0 : EV) (h : AHeap) : R:=
 nilE v0 fun v4=>
 offE 3 v4 fun v5=>
 ld1E v5 h fun v6=>
 some (v6,h)
theorem zone_Zone_frame_Sector_State_run (H : Agree disp) (hd : 1<=d) (v0 : EV) (h : AHeap) : callC TT disp K d false 86 [v0] h = zone_Zone_frame_Sector_State K v0 h:=
 runL (H.bare (by kernel_rfl)) hd (by kernel_rfl) (fun d hd=>rfl) (fun d c r=>rfl) (fun d c r=>by kernel_rfl)
def mirror_Mirror_lost_j0 (c r : Caller) (K : Nat) (h : AHeap) : R:=
 some ((.int .i64 0),h)
def mirror_Mirror_lost (c r : Caller) (K : Nat) (v0 v1 : EV) (h : AHeap) : R:=
 andE (c 20 [v0,v1] h) fun v7 h=>
 intE gEql (bin TT .eql 28) v7 (.int .i64 34) fun v8=>
 ifE v8
 (some ((.int .i64 34),h))
 (mirror_Mirror_lost_j0 c r K h)
theorem mirror_Mirror_lost_run (H : Agree disp) (hd : 0<=d) (v0 v1 : EV) (h : AHeap) : callC TT disp K (d + 1) false 134 [v0,v1] h = mirror_Mirror_lost (callC TT disp K d false) (callC TT disp K d true) K v0 v1 h:=
 runD (H.bare (by kernel_rfl)) (by kernel_rfl) rfl rfl (by kernel_rfl)
def zdev_Device_Down (K : Nat) (v0 : EV) (h : AHeap) : R:=
 nilE v0 fun v4=>
 offE 4 v4 fun v5=>
 ld1E v5 h fun v6=>
 some (v6,h)
theorem zdev_Device_Down_run (H : Agree disp) (hd : 1<=d) (v0 : EV) (h : AHeap) : callC TT disp K d false 166 [v0] h = zdev_Device_Down K v0 h:=
 runL (H.bare (by kernel_rfl)) hd (by kernel_rfl) (fun d hd=>rfl) (fun d c r=>rfl) (fun d c r=>by kernel_rfl)
def zdev_Device_Count (K : Nat) (v0 : EV) (h : AHeap) : R:=
 nilE v0 fun v4=>
 offE 3 v4 fun v5=>
 ld1E v5 h fun v6=>
 some (v6,h)
theorem zdev_Device_Count_run (H : Agree disp) (hd : 1<=d) (v0 : EV) (h : AHeap) : callC TT disp K d false 167 [v0] h = zdev_Device_Count K v0 h:=
 runL (H.bare (by kernel_rfl)) hd (by kernel_rfl) (fun d hd=>rfl) (fun d c r=>rfl) (fun d c r=>by kernel_rfl)
def slices_Clone__plan_Event_plan_Event_j0 (K : Nat) (v0 : EV) (h : AHeap) : R:=
 andE (buildSliceE (List.replicate 4 (.int .i64 0) ++ List.replicate 64 (.int .u8 0)) 105 68 0 [] h) fun v5 h=>
 andE (appendF 105 68 v5 v0 h) fun v7 h=>
 some (v7,h)
def slices_Clone__plan_Event_plan_Event (K : Nat) (v0 : EV) (h : AHeap) : R:=
 intE gEql (bin TT .eql 101) v0 .nilslice fun v4=>
 ifE v4
 (some (.nilslice,h))
 (slices_Clone__plan_Event_plan_Event_j0 K v0 h)
theorem slices_Clone__plan_Event_plan_Event_run (H : Agree disp) (hd : 1<=d) (v0 : EV) (h : AHeap) : callC TT disp K d false 168 [v0] h = slices_Clone__plan_Event_plan_Event K v0 h:=
 runL (H.bare (by kernel_rfl)) hd (by kernel_rfl) (fun d hd=>rfl) (fun d c r=>rfl) (fun d c r=>by kernel_rfl)
def zone_Zone_frame_Sector_Flush (K : Nat) (v0 : EV) (h : AHeap) : R:=
 nilE v0 fun v4=>
 offE 0 v4 fun v5=>
 ld1E v5 h fun v6=>
 lenE v6 fun v7=>
 nilE v0 fun v8=>
 offE 2 v8 fun v9=>
 stE 1 v9 v7 h fun h=>
 some (.tuple [],h)
theorem zone_Zone_frame_Sector_Flush_run (H : Agree disp) (hd : 1<=d) (v0 : EV) (h : AHeap) : callC TT disp K d false 170 [v0] h = zone_Zone_frame_Sector_Flush K v0 h:=
 runL (H.bare (by kernel_rfl)) hd (by kernel_rfl) (fun d hd=>rfl) (fun d c r=>rfl) (fun d c r=>by kernel_rfl)
def codec_Pen_Bytes (K : Nat) (v0 v1 : EV) (h : AHeap) : R:=
 nilE v0 fun v6=>
 offE 0 v6 fun v7=>
 ld1E v7 h fun v8=>
 andE (appendF 5 1 v8 v1 h) fun v10 h=>
 nilE v0 fun v11=>
 offE 0 v11 fun v12=>
 stE 1 v12 v10 h fun h=>
 some (.tuple [],h)
theorem codec_Pen_Bytes_run (H : Agree disp) (hd : 1<=d) (v0 v1 : EV) (h : AHeap) : callC TT disp K d false 174 [v0,v1] h = codec_Pen_Bytes K v0 v1 h:=
 runL (H.bare (by kernel_rfl)) hd (by kernel_rfl) (fun d hd=>rfl) (fun d c r=>rfl) (fun d c r=>by kernel_rfl)
def codec_Pen_Out_j0 (K : Nat) (v0 : EV) (h : AHeap) : R:=
 andE (buildSliceE [(.int .u8 0)] 5 1 0 [] h) fun v8 h=>
 nilE v0 fun v10=>
 offE 0 v10 fun v11=>
 ld1E v11 h fun v12=>
 andE (appendF 5 1 v8 v12 h) fun v13 h=>
 some (.tuple [v13,(.int .i64 0)],h)
def codec_Pen_Out (K : Nat) (v0 : EV) (h : AHeap) : R:=
 nilE v0 fun v5=>
 offE 1 v5 fun v6=>
 ld1E v6 h fun v7=>
 ifE v7
 (some (.tuple [.nilslice,(.int .i64 13)],h))
 (codec_Pen_Out_j0 K v0 h)
theorem codec_Pen_Out_run (H : Agree disp) (hd : 1<=d) (v0 : EV) (h : AHeap) : callC TT disp K d false 175 [v0] h = codec_Pen_Out K v0 h:=
 runL (H.bare (by kernel_rfl)) hd (by kernel_rfl) (fun d hd=>rfl) (fun d c r=>rfl) (fun d c r=>by kernel_rfl)
def frame_within_j0 (K : Nat) (v10 v13 : EV) (h : AHeap) : R:=
 pickE v10 v13 (.bool false) fun v14=>
 some (v14,h)
def frame_within (K : Nat) (v0 v1 v2 : EV) (h : AHeap) : R:=
 intE gGeq (bin TT .geq 3) v0 v1 fun v9=>
 cnd (wantE v9 true)
 (intE gLeq (bin TT .leq 3) v0 v2 fun v13=>
 frame_within_j0 K v9 v13 h)
 (frame_within_j0 K v9 (.tuple []) h)
theorem frame_within_run (H : Agree disp) (hd : 1<=d) (v0 v1 v2 : EV) (h : AHeap) : callC TT disp K d false 176 [v0,v1,v2] h = frame_within K v0 v1 v2 h:=
 runL (H.bare (by kernel_rfl)) hd (by kernel_rfl) (fun d hd=>rfl) (fun d c r=>rfl) (fun d c r=>by kernel_rfl)
def crc_Table_Step (K : Nat) (v0 v1 v2 : EV) (h : AHeap) : R:=
 boxE 72 v0 h fun v3 h=>
 binE (bin TT .shr 70) v1 (.int .u64 8) fun v8=>
 convE .u8 v1 fun v10=>
 binE (bin TT .xor 5) v10 v2 fun v12=>
 ixAE 256 1 v3 v12 fun v13=>
 ld1E v13 h fun v14=>
 binE (bin TT .xor 70) v8 v14 fun v15=>
 some (v15,h)
theorem crc_Table_Step_run (H : Agree disp) (hd : 1<=d) (v0 v1 v2 : EV) (h : AHeap) : callC TT disp K d false 178 [v0,v1,v2] h = crc_Table_Step K v0 v1 v2 h:=
 runL (H.bare (by kernel_rfl)) hd (by kernel_rfl) (fun d hd=>rfl) (fun d c r=>rfl) (fun d c r=>by kernel_rfl)
def plan_Drive_begin_j0 (c r : Caller) (K : Nat) (v0 v6 v13 : EV) (h : AHeap) : R:=
 pickE v6 v13 (.bool false) fun v14=>
 ifE v14
 (andE (c 118 [v0] h) fun v16 h=>
 some (.tuple [],h))
 (some (.tuple [],h))
def plan_Drive_begin (c r : Caller) (K : Nat) (v0 v1 : EV) (h : AHeap) : R:=
 intE gGeq (bin TT .geq 3) v1 (.int .i64 0) fun v5=>
 cnd (wantE v5 true)
 (nilE v0 fun v9=>
 offE 0 v9 fun v10=>
 ld1E v10 h fun v11=>
 andE (zdev_Device_Zones K v11 h) fun v12 h=>
 intE gLss (bin TT .lss 3) v1 v12 fun v13=>
 plan_Drive_begin_j0 c r K v0 v5 v13 h)
 (plan_Drive_begin_j0 c r K v0 v5 (.tuple []) h)
theorem plan_Drive_begin_run (H : Agree disp) (hd : 1<=d) (v0 v1 : EV) (h : AHeap) : callC TT disp K (d + 1) false 179 [v0,v1] h = plan_Drive_begin (callC TT disp K d false) (callC TT disp K d true) K v0 v1 h:=
 runD (H.bare (by kernel_rfl)) (by kernel_rfl) (W1 (zdev_Device_Zones_run H (lq hd rfl)) rfl) rfl (by kernel_rfl)
def codec_New (K : Nat) (v0 : EV) (h : AHeap) : R:=
 andE (buildSliceE [(.int .u8 0)] 5 1 0 [] h) fun v3 h=>
 andE (appendF 5 1 v3 v0 h) fun v5 h=>
 buildE (nthPR [(0,1),(1,1)]) [.nilslice,(.bool false)] [(0,v5)] fun v6=>
 boxE 316 v6 h fun v7 h=>
 some (v7,h)
theorem codec_New_run (H : Agree disp) (hd : 1<=d) (v0 : EV) (h : AHeap) : callC TT disp K d false 194 [v0] h = codec_New K v0 h:=
 runL (H.bare (by kernel_rfl)) hd (by kernel_rfl) (fun d hd=>rfl) (fun d c r=>rfl) (fun d c r=>by kernel_rfl)
def codec_Reader_Done_j0 (K : Nat) (h : AHeap) : R:=
 some ((.int .i64 0),h)
def codec_Reader_Done_j1 (K : Nat) (v7 v13 : EV) (h : AHeap) : R:=
 pickE v7 (.bool true) v13 fun v14=>
 ifE v14
 (some ((.int .i64 14),h))
 (codec_Reader_Done_j0 K h)
def codec_Reader_Done (K : Nat) (v0 : EV) (h : AHeap) : R:=
 nilE v0 fun v4=>
 offE 1 v4 fun v5=>
 ld1E v5 h fun v6=>
 cnd (wantE v6 false)
 (nilE v0 fun v9=>
 offE 0 v9 fun v10=>
 ld1E v10 h fun v11=>
 lenE v11 fun v12=>
 intE gGtr (bin TT .gtr 3) v12 (.int .i64 0) fun v13=>
 codec_Reader_Done_j1 K v6 v13 h)
 (codec_Reader_Done_j1 K v6 (.tuple []) h)
theorem codec_Reader_Done_run (H : Agree disp) (hd : 1<=d) (v0 : EV) (h : AHeap) : callC TT disp K d false 197 [v0] h = codec_Reader_Done K v0 h:=
 runL (H.bare (by kernel_rfl)) hd (by kernel_rfl) (fun d hd=>rfl) (fun d c r=>rfl) (fun d c r=>by kernel_rfl)
def entry_within_j0 (K : Nat) (v10 v13 : EV) (h : AHeap) : R:=
 pickE v10 v13 (.bool false) fun v14=>
 some (v14,h)
def entry_within (K : Nat) (v0 v1 v2 : EV) (h : AHeap) : R:=
 intE gGeq (bin TT .geq 3) v0 v1 fun v9=>
 cnd (wantE v9 true)
 (intE gLeq (bin TT .leq 3) v0 v2 fun v13=>
 entry_within_j0 K v9 v13 h)
 (entry_within_j0 K v9 (.tuple []) h)
theorem entry_within_run (H : Agree disp) (hd : 1<=d) (v0 v1 v2 : EV) (h : AHeap) : callC TT disp K d false 207 [v0,v1,v2] h = entry_within K v0 v1 v2 h:=
 runL (H.bare (by kernel_rfl)) hd (by kernel_rfl) (fun d hd=>rfl) (fun d c r=>rfl) (fun d c r=>by kernel_rfl)
def entry_Entry_counts_j0 (K : Nat) (h : AHeap) : R:=
 some ((.bool false),h)
def entry_Entry_counts_j1 (K : Nat) (v10 v13 : EV) (h : AHeap) : R:=
 pickE v10 v13 (.bool false) fun v14=>
 some (v14,h)
def entry_Entry_counts_j2 (K : Nat) (v28 v32 : EV) (h : AHeap) : R:=
 pickE v28 v32 (.bool false) fun v33=>
 some (v33,h)
def entry_Entry_counts_j3 (K : Nat) (v1 v20 v26 : EV) (h : AHeap) : R:=
 pickE v20 v26 (.bool false) fun v27=>
 cnd (wantE v27 true)
 (offE 6 v1 fun v29=>
 ldNE 32 v29 h fun v30=>
 buildE (evenP 1) (List.replicate 32 (.int .u8 0)) [] fun v31=>
 intE gEql (bin TT .eql 87) v30 v31 fun v32=>
 entry_Entry_counts_j2 K v27 v32 h)
 (entry_Entry_counts_j2 K v27 (.tuple []) h)
def entry_Entry_counts_j4 (K : Nat) (v39 v42 : EV) (h : AHeap) : R:=
 pickE v39 v42 (.bool false) fun v43=>
 some (v43,h)
def entry_Entry_counts (K : Nat) (v0 : EV) (h : AHeap) : R:=
 boxE 89 v0 h fun v1 h=>
 offE 0 v1 fun v3=>
 ld1E v3 h fun v4=>
 intE gEql (bin TT .eql 3) v4 (.int .i64 1) fun v6=>
 ifE v6
 (offE 2 v1 fun v7=>
 ld1E v7 h fun v8=>
 andE (entry_within K v8 (.int .i64 1) (.int .i64 4) h) fun v9 h=>
 cnd (wantE v9 true)
 (offE 4 v1 fun v11=>
 ld1E v11 h fun v12=>
 intE gEql (bin TT .eql 3) v12 (.int .i64 0) fun v13=>
 entry_Entry_counts_j1 K v9 v13 h)
 (entry_Entry_counts_j1 K v9 (.tuple []) h))
 (intE gEql (bin TT .eql 3) v4 (.int .i64 2) fun v16=>
 ifE v16
 (offE 2 v1 fun v17=>
 ld1E v17 h fun v18=>
 intE gEql (bin TT .eql 3) v18 (.int .i64 1) fun v19=>
 cnd (wantE v19 true)
 (offE 4 v1 fun v21=>
 ld1E v21 h fun v22=>
 offE 3 v1 fun v23=>
 ld1E v23 h fun v24=>
 intE gSub (bin TT .sub 3) (.int .i64 256) v24 fun v25=>
 andE (entry_within K v22 (.int .i64 1) v25 h) fun v26 h=>
 entry_Entry_counts_j3 K v1 v19 v26 h)
 (entry_Entry_counts_j3 K v1 v19 (.tuple []) h))
 (intE gEql (bin TT .eql 3) v4 (.int .i64 3) fun v35=>
 ifE v35
 (offE 2 v1 fun v36=>
 ld1E v36 h fun v37=>
 intE gEql (bin TT .eql 3) v37 (.int .i64 1) fun v38=>
 cnd (wantE v38 true)
 (offE 4 v1 fun v40=>
 ld1E v40 h fun v41=>
 intE gEql (bin TT .eql 3) v41 (.int .i64 0) fun v42=>
 entry_Entry_counts_j4 K v38 v42 h)
 (entry_Entry_counts_j4 K v38 (.tuple []) h))
 (entry_Entry_counts_j0 K h)))
theorem entry_Entry_counts_run (H : Agree disp) (hd : 2<=d) (v0 : EV) (h : AHeap) : callC TT disp K d false 208 [v0] h = entry_Entry_counts K v0 h:=
 runL (H.bare (by kernel_rfl)) hd (by kernel_rfl) (fun d hd=>(W3 (entry_within_run H (lq hd rfl)) rfl)) (fun d c r=>rfl) (fun d c r=>by kernel_rfl)
def codec_within_j0 (K : Nat) (v5 v7 : EV) (h : AHeap) : R:=
 pickE v5 v7 (.bool false) fun v8=>
 some (v8,h)
def codec_within (K : Nat) (v0 : EV) (h : AHeap) : R:=
 intE gGeq (bin TT .geq 3) v0 (.int .i64 1) fun v4=>
 cnd (wantE v4 true)
 (intE gLeq (bin TT .leq 3) v0 (.int .i64 7) fun v7=>
 codec_within_j0 K v4 v7 h)
 (codec_within_j0 K v4 (.tuple []) h)
theorem codec_within_run (H : Agree disp) (hd : 1<=d) (v0 : EV) (h : AHeap) : callC TT disp K d false 209 [v0] h = codec_within K v0 h:=
 runL (H.bare (by kernel_rfl)) hd (by kernel_rfl) (fun d hd=>rfl) (fun d c r=>rfl) (fun d c r=>by kernel_rfl)
def codec_Width_j0 (K : Nat) (v3 : EV) (h : AHeap) : R:=
 some (v3,h)
def codec_Width_j1 (K : Nat) (v3 v13 v15 : EV) (h : AHeap) : R:=
 pickE v13 (.bool true) v15 fun v16=>
 ifE v16
 (some ((.int .i64 8),h))
 (codec_Width_j0 K v3 h)
def codec_Width_j2 (K : Nat) (v0 v3 : EV) (h : AHeap) : R:=
 intE gLss (bin TT .lss 3) v0 (.int .i64 0) fun v12=>
 cnd (wantE v12 false)
 (intE gGtr (bin TT .gtr 3) v3 (.int .i64 7) fun v15=>
 codec_Width_j1 K v3 v12 v15 h)
 (codec_Width_j1 K v3 v12 (.tuple []) h)
def codec_Width_j4 (K : Nat) (ih3_ : EV->EV->AHeap->R) (v0 v3 : EV) (h : AHeap) : R:=
 binE (bin TT .shr 3) v0 (.int .u64 8) fun v8=>
 intE gAdd (bin TT .add 3) v3 (.int .i64 1) fun v10=>
 ih3_ v8 v10 h
def codec_Width_b5 (K : Nat) : Nat->EV->EV->AHeap->R
 | 0=>fun _ _ _=>none
 | m + 1=>fun v0 v3 h=>
  binE (bin TT .shr 3) v0 (.int .u64 8) fun v5=>
  intE gGtr (bin TT .gtr 3) v5 (.int .i64 0) fun v6=>
  ifE v6
  (codec_Width_j4 K (codec_Width_b5 K m) v0 v3 h)
  (codec_Width_j2 K v0 v3 h)
def codec_Width (K : Nat) (v0 : EV) (h : AHeap) : R:=
 codec_Width_b5 K K v0 (.int .i64 1) h
abbrev codec_Width_c (K : Nat) (c : Caller) : Caller:=c
theorem codec_Width_b5_r (c c' r : Caller) (K : Nat) (m : Nat) : loopD (fun ih=>codeD TT (codec_Width_c K c) c' r K (nOf TT 210) (retOf TT 210) (lbOf TT 210 [true,true,false,false]) [(0,fun ρ h=>codec_Width_j2 K (ρ 0) (ρ 3) h)] ih) m = fun ρ h=>codec_Width_b5 K m (ρ 0) (ρ 3) h:=
 loopD_eq (E:=fun m ρ h=>codec_Width_b5 K m (ρ 0) (ρ 3) h) rfl (fun m=>ext2 fun ρ h=>by
  show _ = codec_Width_b5 K (m + 1) (ρ 0) (ρ 3) h
  rw [codec_Width_b5]; kernel_rfl) m
theorem codec_Width_run (H : Agree disp) (hd : 1<=d) (v0 : EV) (h : AHeap) : callC TT disp K d false 210 [v0] h = codec_Width K v0 h:=
 runL (H.bare (by kernel_rfl)) hd (by kernel_rfl) (fun d hd=>rfl) (fun d c r=>(cut [true,true,false,false] (codec_Width_b5_r (callC TT disp K d false) c r K K) (by kernel_rfl) (by kernel_rfl) rfl)) (fun d c r=>by kernel_rfl)
def zdev_Device_begin_j0 (K : Nat) (v0 : EV) (h : AHeap) : R:=
 nilE v0 fun v16=>
 offE 3 v16 fun v17=>
 ld1E v17 h fun v18=>
 intE gAdd (bin TT .add 3) v18 (.int .i64 1) fun v19=>
 nilE v0 fun v20=>
 offE 3 v20 fun v21=>
 stE 1 v21 v19 h fun h=>
 some ((.int .i64 0),h)
def zdev_Device_begin (K : Nat) (v0 v1 : EV) (h : AHeap) : R:=
 nilE v0 fun v7=>
 offE 4 v7 fun v8=>
 ld1E v8 h fun v9=>
 ifE v9
 (some ((.int .i64 34),h))
 (andE (zdev_Device_has K v0 v1 h) fun v13 h=>
 notE v13 fun v14=>
 ifE v14
 (some ((.int .i64 13),h))
 (zdev_Device_begin_j0 K v0 h))
theorem zdev_Device_begin_run (H : Agree disp) (hd : 2<=d) (v0 v1 : EV) (h : AHeap) : callC TT disp K d false 212 [v0,v1] h = zdev_Device_begin K v0 v1 h:=
 runL (H.bare (by kernel_rfl)) hd (by kernel_rfl) (fun d hd=>(W2 (zdev_Device_has_run H (lq hd rfl)) rfl)) (fun d c r=>rfl) (fun d c r=>by kernel_rfl)
def zone_Zone_frame_Sector_Read_j0 (K : Nat) (v0 v1 v4 : EV) (h : AHeap) : R:=
 nilE v0 fun v28=>
 offE 0 v28 fun v29=>
 ld1E v29 h fun v30=>
 ixSE 64 v30 v1 fun v32=>
 ldNE 64 v32 h fun v33=>
 stE 64 v4 v33 h fun h=>
 resE TT [.c v4 103,.v (.int .i64 0)] h
def zone_Zone_frame_Sector_Read_j1 (K : Nat) (v0 v1 v4 v6 v17 v24 : EV) (h : AHeap) : R:=
 pickE v17 (.bool true) v24 fun v25=>
 ifE v25
 (ldNE 64 v6 h fun v26=>
 stE 64 v4 v26 h fun h=>
 resE TT [.c v4 103,.v (.int .i64 31)] h)
 (zone_Zone_frame_Sector_Read_j0 K v0 v1 v4 h)
def zone_Zone_frame_Sector_Read (K : Nat) (v0 v1 : EV) (h : AHeap) : R:=
 newE (.cells (List.replicate 64 (.int .u8 0)) 103) h fun v4 h=>
 newE (.cells (List.replicate 64 (.int .u8 0)) 103) h fun v6 h=>
 nilE v0 fun v9=>
 offE 3 v9 fun v10=>
 ld1E v10 h fun v11=>
 intE gEql (bin TT .eql 3) v11 (.int .i64 4) fun v12=>
 ifE v12
 (ldNE 64 v6 h fun v13=>
 stE 64 v4 v13 h fun h=>
 resE TT [.c v4 103,.v (.int .i64 32)] h)
 (intE gLss (bin TT .lss 3) v1 (.int .i64 0) fun v16=>
 cnd (wantE v16 false)
 (nilE v0 fun v20=>
 offE 0 v20 fun v21=>
 ld1E v21 h fun v22=>
 lenE v22 fun v23=>
 intE gGeq (bin TT .geq 3) v1 v23 fun v24=>
 zone_Zone_frame_Sector_Read_j1 K v0 v1 v4 v6 v16 v24 h)
 (zone_Zone_frame_Sector_Read_j1 K v0 v1 v4 v6 v16 (.tuple []) h))
theorem zone_Zone_frame_Sector_Read_run (H : Agree disp) (hd : 1<=d) (v0 v1 : EV) (h : AHeap) : callC TT disp K d false 213 [v0,v1] h = zone_Zone_frame_Sector_Read K v0 v1 h:=
 runL (H.bare (by kernel_rfl)) hd (by kernel_rfl) (fun d hd=>rfl) (fun d c r=>rfl) (fun d c r=>by kernel_rfl)
def codec_Reader_take_j0 (K : Nat) (v0 v1 : EV) (h : AHeap) : R:=
 nilE v0 fun v30=>
 offE 0 v30 fun v31=>
 ld1E v31 h fun v32=>
 sliE 1 v32 none (some v1) (some v1) fun v35=>
 nilE v0 fun v38=>
 offE 0 v38 fun v39=>
 ld1E v39 h fun v40=>
 sliE 1 v40 (some v1) none none fun v42=>
 nilE v0 fun v43=>
 offE 0 v43 fun v44=>
 stE 1 v44 v42 h fun h=>
 some (v35,h)
def codec_Reader_take_j1 (K : Nat) (v0 v1 v14 v21 : EV) (h : AHeap) : R:=
 pickE v14 (.bool true) v21 fun v22=>
 ifE v22
 (nilE v0 fun v25=>
 offE 0 v25 fun v26=>
 stE 1 v26 .nilslice h fun h=>
 nilE v0 fun v27=>
 offE 1 v27 fun v28=>
 stE 1 v28 (.bool true) h fun h=>
 some (.nilslice,h))
 (codec_Reader_take_j0 K v0 v1 h)
def codec_Reader_take_j2 (K : Nat) (v0 v1 v10 v12 : EV) (h : AHeap) : R:=
 pickE v10 (.bool true) v12 fun v13=>
 cnd (wantE v13 false)
 (nilE v0 fun v17=>
 offE 0 v17 fun v18=>
 ld1E v18 h fun v19=>
 lenE v19 fun v20=>
 intE gGtr (bin TT .gtr 3) v1 v20 fun v21=>
 codec_Reader_take_j1 K v0 v1 v13 v21 h)
 (codec_Reader_take_j1 K v0 v1 v13 (.tuple []) h)
def codec_Reader_take (K : Nat) (v0 v1 : EV) (h : AHeap) : R:=
 nilE v0 fun v7=>
 offE 1 v7 fun v8=>
 ld1E v8 h fun v9=>
 cnd (wantE v9 false)
 (intE gLss (bin TT .lss 3) v1 (.int .i64 0) fun v12=>
 codec_Reader_take_j2 K v0 v1 v9 v12 h)
 (codec_Reader_take_j2 K v0 v1 v9 (.tuple []) h)
theorem codec_Reader_take_run (H : Agree disp) (hd : 1<=d) (v0 v1 : EV) (h : AHeap) : callC TT disp K d false 220 [v0,v1] h = codec_Reader_take K v0 v1 h:=
 runL (H.bare (by kernel_rfl)) hd (by kernel_rfl) (fun d hd=>rfl) (fun d c r=>rfl) (fun d c r=>by kernel_rfl)
def zdev_Device_opened_j0 (K : Nat) (v3 : EV) (h : AHeap) : R:=
 some (v3,h)
def zdev_Device_opened_j2 (K : Nat) (ih1_ : EV->EV->EV->EV->AHeap->R) (v3 v9 v10 v11 : EV) (h : AHeap) : R:=
 intE gAdd (bin TT .add 3) v11 (.int .i64 1) fun v20=>
 ih1_ v3 v9 v10 v20 h
def zdev_Device_opened_j3 (K : Nat) (ih1_ : EV->EV->EV->EV->AHeap->R) (v3 v9 v10 v11 : EV) (h : AHeap) : R:=
 ixSE 1 v9 v11 fun v13=>
 ld1E v13 h fun v14=>
 andE (zone_Zone_frame_Sector_State K v14 h) fun v16 h=>
 intE gEql (bin TT .eql 3) v16 (.int .i64 1) fun v17=>
 ifE v17
 (intE gAdd (bin TT .add 3) v3 (.int .i64 1) fun v19=>
 zdev_Device_opened_j2 K ih1_ v19 v9 v10 v11 h)
 (zdev_Device_opened_j2 K ih1_ v3 v9 v10 v11 h)
def zdev_Device_opened_b4 (K : Nat) : Nat->EV->EV->EV->EV->AHeap->R
 | 0=>fun _ _ _ _ _=>none
 | m + 1=>fun v3 v9 v10 v11 h=>
  intE gLss (bin TT .lss 3) v11 v10 fun v12=>
  ifE v12
  (zdev_Device_opened_j3 K (zdev_Device_opened_b4 K m) v3 v9 v10 v11 h)
  (zdev_Device_opened_j0 K v3 h)
def zdev_Device_opened (K : Nat) (v0 : EV) (h : AHeap) : R:=
 nilE v0 fun v7=>
 offE 0 v7 fun v8=>
 ld1E v8 h fun v9=>
 lenE v9 fun v10=>
 zdev_Device_opened_b4 K K (.int .i64 0) v9 v10 (.int .i64 0) h
abbrev zdev_Device_opened_c (K : Nat) (c : Caller) : Caller:=(w1 86 (zone_Zone_frame_Sector_State K) c)
theorem zdev_Device_opened_b4_r (c c' r : Caller) (K : Nat) (m : Nat) : loopD (fun ih=>codeD TT (zdev_Device_opened_c K c) c' r K (nOf TT 222) (retOf TT 222) (lbOf TT 222 [true,true,false,true,false]) [(0,fun ρ h=>zdev_Device_opened_j0 K (ρ 3) h)] ih) m = fun ρ h=>zdev_Device_opened_b4 K m (ρ 3) (ρ 9) (ρ 10) (ρ 11) h:=
 loopD_eq (E:=fun m ρ h=>zdev_Device_opened_b4 K m (ρ 3) (ρ 9) (ρ 10) (ρ 11) h) rfl (fun m=>ext2 fun ρ h=>by
  show _ = zdev_Device_opened_b4 K (m + 1) (ρ 3) (ρ 9) (ρ 10) (ρ 11) h
  rw [zdev_Device_opened_b4]; kernel_rfl) m
theorem zdev_Device_opened_run (H : Agree disp) (hd : 2<=d) (v0 : EV) (h : AHeap) : callC TT disp K d false 222 [v0] h = zdev_Device_opened K v0 h:=
 runL (H.bare (by kernel_rfl)) hd (by kernel_rfl) (fun d hd=>(W1 (zone_Zone_frame_Sector_State_run H (lq hd rfl)) rfl)) (fun d c r=>(cut [true,true,false,true,false] (zdev_Device_opened_b4_r (callC TT disp K d false) c r K K) (by kernel_rfl) (by kernel_rfl) rfl)) (fun d c r=>by kernel_rfl)
def zdev_Device_Spoil_j0 (c r : Caller) (K : Nat) (v0 v1 v2 v7 : EV) (h : AHeap) : R:=
 nilE v0 fun v14=>
 offE 0 v14 fun v15=>
 ld1E v15 h fun v16=>
 ixSE 1 v16 v1 fun v18=>
 ld1E v18 h fun v19=>
 andE (c 238 [v19,v2,(.func 239 [] [v7])] h) fun v22 h=>
 some (v22,h)
def zdev_Device_Spoil (c r : Caller) (K : Nat) (v0 v1 v2 v3 : EV) (h : AHeap) : R:=
 boxE 103 v3 h fun v7 h=>
 andE (zdev_Device_has K v0 v1 h) fun v11 h=>
 notE v11 fun v12=>
 ifE v12
 (some ((.int .i64 13),h))
 (zdev_Device_Spoil_j0 c r K v0 v1 v2 v7 h)
theorem zdev_Device_Spoil_run (H : Agree disp) (hd : 1<=d) (v0 v1 v2 v3 : EV) (h : AHeap) : callC TT disp K (d + 1) false 225 [v0,v1,v2,v3] h = zdev_Device_Spoil (callC TT disp K d false) (callC TT disp K d true) K v0 v1 v2 v3 h:=
 runD (H.bare (by kernel_rfl)) (by kernel_rfl) (W2 (zdev_Device_has_run H (lq hd rfl)) rfl) rfl (by kernel_rfl)
def frame_Sector_Xor_j0 (K : Nat) (v2 v4 : EV) (h : AHeap) : R:=
 ldNE 64 v2 h fun v18=>
 stE 64 v4 v18 h fun h=>
 resE TT [.c v4 103] h
def frame_Sector_Xor_j2 (K : Nat) (ih1_ : EV->EV->EV->EV->AHeap->R) (v2 v3 v4 v6 : EV) (h : AHeap) : R:=
 intE gAdd (bin TT .add 3) v6 (.int .i64 1) fun v17=>
 ih1_ v2 v3 v4 v17 h
def frame_Sector_Xor_j3 (K : Nat) (ih1_ : EV->EV->EV->EV->AHeap->R) (v2 v3 v4 v6 : EV) (h : AHeap) : R:=
 drawE h fun base s=>
 ixAE 64 1 v2 v6 fun v10=>
 loadE 2 3 base v10 s fun s=>ld1E v10 h fun v11=>
 ixAE 64 1 v3 v6 fun v13=>
 loadE 5 24 base v13 s fun s=>ld1E v13 h fun v14=>
 binE (bin TT .xor 5) v11 v14 fun v15=>
 ixAE 64 1 v2 v6 fun v16=>
 stoE 8 255 v16 s fun s=>stE 1 v16 v15 h fun h=>
 frame_Sector_Xor_j2 K ih1_ v2 v3 v4 v6 h
def frame_Sector_Xor_b4 (K : Nat) : Nat->EV->EV->EV->EV->AHeap->R
 | 0=>fun _ _ _ _ _=>none
 | m + 1=>fun v2 v3 v4 v6 h=>
  intE gLss (bin TT .lss 3) v6 (.int .i64 64) fun v7=>
  ifE v7
  (frame_Sector_Xor_j3 K (frame_Sector_Xor_b4 K m) v2 v3 v4 v6 h)
  (frame_Sector_Xor_j0 K v2 v4 h)
def frame_Sector_Xor (K : Nat) (v0 v1 : EV) (h : AHeap) : R:=
 boxE 103 v0 h fun v2 h=>
 boxE 103 v1 h fun v3 h=>
 newE (.cells (List.replicate 64 (.int .u8 0)) 103) h fun v4 h=>
 frame_Sector_Xor_b4 K K v2 v3 v4 (.int .i64 0) h
abbrev frame_Sector_Xor_c (K : Nat) (c : Caller) : Caller:=c
theorem frame_Sector_Xor_b4_r (c c' r : Caller) (K : Nat) (m : Nat) : loopD (fun ih=>codeD TT (frame_Sector_Xor_c K c) c' r K (nOf TT 226) (retOf TT 226) (lbOf TT 226 [true,false,true,false]) [(0,fun ρ h=>frame_Sector_Xor_j0 K (ρ 2) (ρ 4) h)] ih) m = fun ρ h=>frame_Sector_Xor_b4 K m (ρ 2) (ρ 3) (ρ 4) (ρ 6) h:=
 loopD_eq (E:=fun m ρ h=>frame_Sector_Xor_b4 K m (ρ 2) (ρ 3) (ρ 4) (ρ 6) h) rfl (fun m=>ext2 fun ρ h=>by
  show _ = frame_Sector_Xor_b4 K (m + 1) (ρ 2) (ρ 3) (ρ 4) (ρ 6) h
  rw [frame_Sector_Xor_b4]; kernel_rfl) m
theorem frame_Sector_Xor_run (H : Agree disp) (hd : 1<=d) (v0 v1 : EV) (h : AHeap) : callC TT disp K d false 226 [v0,v1] h = frame_Sector_Xor K v0 v1 h:=
 runL (H.bare (by kernel_rfl)) hd (by kernel_rfl) (fun d hd=>rfl) (fun d c r=>(cut [true,false,true,false] (frame_Sector_Xor_b4_r (callC TT disp K d false) c r K K) (by kernel_rfl) (by kernel_rfl) rfl)) (fun d c r=>by kernel_rfl)
def zone_Zone_frame_Sector_Fail_j0 (K : Nat) (v0 v1 v6 v15 : EV) (h : AHeap) : R:=
 pickE v6 (.bool true) v15 fun v16=>
 ifE v16
 (nilE v0 fun v19=>
 offE 3 v19 fun v20=>
 stE 1 v20 v1 h fun h=>
 some (.tuple [],h))
 (some (.tuple [],h))
def zone_Zone_frame_Sector_Fail_j1 (K : Nat) (v0 v1 v6 v9 v14 : EV) (h : AHeap) : R:=
 cnd (wantE v6 false)
 (pickE v9 v14 (.bool false) fun v15=>
 zone_Zone_frame_Sector_Fail_j0 K v0 v1 v6 v15 h)
 (zone_Zone_frame_Sector_Fail_j0 K v0 v1 v6 (.tuple []) h)
def zone_Zone_frame_Sector_Fail_j2 (K : Nat) (v0 v1 v6 v9 : EV) (h : AHeap) : R:=
 cnd (wantE v9 true)
 (nilE v0 fun v11=>
 offE 3 v11 fun v12=>
 ld1E v12 h fun v13=>
 intE gNeq (bin TT .neq 3) v13 (.int .i64 4) fun v14=>
 zone_Zone_frame_Sector_Fail_j1 K v0 v1 v6 v9 v14 h)
 (zone_Zone_frame_Sector_Fail_j1 K v0 v1 v6 v9 (.tuple []) h)
def zone_Zone_frame_Sector_Fail (K : Nat) (v0 v1 : EV) (h : AHeap) : R:=
 intE gEql (bin TT .eql 3) v1 (.int .i64 4) fun v5=>
 cnd (wantE v5 false)
 (intE gEql (bin TT .eql 3) v1 (.int .i64 3) fun v8=>
 zone_Zone_frame_Sector_Fail_j2 K v0 v1 v5 v8 h)
 (zone_Zone_frame_Sector_Fail_j2 K v0 v1 v5 (.tuple []) h)
theorem zone_Zone_frame_Sector_Fail_run (H : Agree disp) (hd : 1<=d) (v0 v1 : EV) (h : AHeap) : callC TT disp K d false 227 [v0,v1] h = zone_Zone_frame_Sector_Fail K v0 v1 h:=
 runL (H.bare (by kernel_rfl)) hd (by kernel_rfl) (fun d hd=>rfl) (fun d c r=>rfl) (fun d c r=>by kernel_rfl)
def zone_Zone_frame_Sector_failed_j0 (K : Nat) (h : AHeap) : R:=
 some ((.int .i64 0),h)
def zone_Zone_frame_Sector_failed (K : Nat) (v0 : EV) (h : AHeap) : R:=
 nilE v0 fun v4=>
 offE 3 v4 fun v5=>
 ld1E v5 h fun v6=>
 intE gEql (bin TT .eql 3) v6 (.int .i64 4) fun v8=>
 ifE v8
 (some ((.int .i64 32),h))
 (intE gEql (bin TT .eql 3) v6 (.int .i64 3) fun v10=>
 ifE v10
 (some ((.int .i64 30),h))
 (zone_Zone_frame_Sector_failed_j0 K h))
theorem zone_Zone_frame_Sector_failed_run (H : Agree disp) (hd : 1<=d) (v0 : EV) (h : AHeap) : callC TT disp K d false 237 [v0] h = zone_Zone_frame_Sector_failed K v0 h:=
 runL (H.bare (by kernel_rfl)) hd (by kernel_rfl) (fun d hd=>rfl) (fun d c r=>rfl) (fun d c r=>by kernel_rfl)
def zone_Zone_frame_Sector_Change_j0 (c r : Caller) (K : Nat) (v0 v1 v2 : EV) (h : AHeap) : R:=
 drawE h fun base s=>
 nilE v0 fun v19=>
 offE 0 v19 fun v20=>
 loadE 3 7 base v20 s fun s=>ld1E v20 h fun v21=>
 nilE v0 fun v25=>
 offE 0 v25 fun v26=>
 loadE 9 448 base v26 s fun s=>ld1E v26 h fun v27=>
 ixSE 64 v27 v1 fun v29=>
 loadE 12 4032 base v29 s fun s=>ldNE 64 v29 h fun v30=>
 bigE 13 8160 s h (fun h=>(callE c r v2 [v30] h)) fun v31 h s=>
 ixSE 64 v21 v1 fun v32=>
 stoE 15 32767 v32 s fun s=>stE 64 v32 v31 h fun h=>
 some ((.int .i64 0),h)
def zone_Zone_frame_Sector_Change_j1 (c r : Caller) (K : Nat) (v0 v1 v2 v9 v16 : EV) (h : AHeap) : R:=
 pickE v9 (.bool true) v16 fun v17=>
 ifE v17
 (some ((.int .i64 31),h))
 (zone_Zone_frame_Sector_Change_j0 c r K v0 v1 v2 h)
def zone_Zone_frame_Sector_Change (c r : Caller) (K : Nat) (v0 v1 v2 : EV) (h : AHeap) : R:=
 intE gLss (bin TT .lss 3) v1 (.int .i64 0) fun v8=>
 cnd (wantE v8 false)
 (nilE v0 fun v12=>
 offE 0 v12 fun v13=>
 ld1E v13 h fun v14=>
 lenE v14 fun v15=>
 intE gGeq (bin TT .geq 3) v1 v15 fun v16=>
 zone_Zone_frame_Sector_Change_j1 c r K v0 v1 v2 v8 v16 h)
 (zone_Zone_frame_Sector_Change_j1 c r K v0 v1 v2 v8 (.tuple []) h)
theorem zone_Zone_frame_Sector_Change_run (H : Agree disp) (hd : 0<=d) (v0 v1 v2 : EV) (h : AHeap) : callC TT disp K (d + 1) false 238 [v0,v1,v2] h = zone_Zone_frame_Sector_Change (callC TT disp K d false) (callC TT disp K d true) K v0 v1 v2 h:=
 runD (H.bare (by kernel_rfl)) (by kernel_rfl) rfl rfl (by kernel_rfl)
def zdev_Device_Spoil_1 (K : Nat) (v0 v1 : EV) (h : AHeap) : R:=
 boxE 103 v0 h fun v2 h=>
 newE (.cells (List.replicate 64 (.int .u8 0)) 103) h fun v3 h=>
 ldNE 64 v2 h fun v4=>
 ldNE 64 v1 h fun v5=>
 andE (frame_Sector_Xor K v4 v5 h) fun v6 h=>
 stE 64 v3 v6 h fun h=>
 resE TT [.c v3 103] h
theorem zdev_Device_Spoil_1_run (H : Agree disp) (hd : 2<=d) (v0 v1 : EV) (h : AHeap) : callC TT disp K d false 239 [v0,v1] h = zdev_Device_Spoil_1 K v0 v1 h:=
 runL (H.bare (by kernel_rfl)) hd (by kernel_rfl) (fun d hd=>(W2 (frame_Sector_Xor_run H (lq hd rfl)) rfl)) (fun d c r=>rfl) (fun d c r=>by kernel_rfl)
def zdev_Device_State_j0 (K : Nat) (v0 v1 : EV) (h : AHeap) : R:=
 nilE v0 fun v10=>
 offE 0 v10 fun v11=>
 ld1E v11 h fun v12=>
 ixSE 1 v12 v1 fun v14=>
 ld1E v14 h fun v15=>
 andE (zone_Zone_frame_Sector_State K v15 h) fun v16 h=>
 some (v16,h)
def zdev_Device_State (K : Nat) (v0 v1 : EV) (h : AHeap) : R:=
 andE (zdev_Device_has K v0 v1 h) fun v7 h=>
 notE v7 fun v8=>
 ifE v8
 (some ((.int .i64 4),h))
 (zdev_Device_State_j0 K v0 v1 h)
theorem zdev_Device_State_run (H : Agree disp) (hd : 2<=d) (v0 v1 : EV) (h : AHeap) : callC TT disp K d false 37 [v0,v1] h = zdev_Device_State K v0 v1 h:=
 runL (H.bare (by kernel_rfl)) hd (by kernel_rfl) (fun d hd=>(W2 (zdev_Device_has_run H (lq hd rfl)) (W1 (zone_Zone_frame_Sector_State_run H (lq hd rfl)) rfl))) (fun d c r=>rfl) (fun d c r=>by kernel_rfl)
def plan_Drive_due_j1 (c r : Caller) (K : Nat) (ih0_ : EV->AHeap->R) (v0 : EV) (h : AHeap) : R:=
 nilE v0 fun v33=>
 offE 1 v33 fun v34=>
 ld1E v34 h fun v35=>
 ixSE 68 v35 (.int .i64 0) fun v36=>
 ldNE 68 v36 h fun v37=>
 newE (.cells (List.replicate 4 (.int .i64 0) ++ List.replicate 64 (.int .u8 0)) 105) h fun v2 h=>
 stE 68 v2 v37 h fun h=>
 nilE v0 fun v40=>
 offE 1 v40 fun v41=>
 ld1E v41 h fun v42=>
 sliE 68 v42 (some (.int .i64 1)) none none fun v43=>
 andE (slices_Clone__plan_Event_plan_Event K v43 h) fun v44 h=>
 nilE v0 fun v45=>
 offE 1 v45 fun v46=>
 stE 1 v46 v44 h fun h=>
 ldNE 68 v2 h fun v48=>
 andE (c 169 [v0,v48] h) fun v49 h=>
 ih0_ v0 h
def plan_Drive_due_j2 (c r : Caller) (K : Nat) (ih0_ : EV->AHeap->R) (base : Nat) (s : DX) (v0 v17 v30 : EV) (h : AHeap) : R:=
 pickE v17 v30 (.bool false) fun v31=>
 ifE v31
 (plan_Drive_due_j1 c r K ih0_ v0 h)
 (some (.tuple [],h))
def plan_Drive_due_j3 (c r : Caller) (K : Nat) (ih0_ : EV->AHeap->R) (base : Nat) (s : DX) (v0 v9 v15 : EV) (h : AHeap) : R:=
 pickE v9 v15 (.bool false) fun v16=>
 cnd (wantE v16 true)
 (nilE v0 fun v19=>
 offE 1 v19 fun v20=>
 loadE 18 262143 base v20 s fun s=>ld1E v20 h fun v21=>
 ixSE 68 v21 (.int .i64 0) fun v22=>
 offE 0 v22 fun v23=>
 loadE 21 2097151 base v23 s fun s=>ld1E v23 h fun v24=>
 nilE v0 fun v26=>
 offE 0 v26 fun v27=>
 loadE 25 29392895 base v27 s fun s=>ld1E v27 h fun v28=>
 bigE 26 62947327 s h (fun h=>(zdev_Device_Count K v28 h)) fun v29 h s=>
 intE gLeq (bin TT .leq 3) v24 v29 fun v30=>
 plan_Drive_due_j2 c r K ih0_ base s v0 v16 v30 h)
 (plan_Drive_due_j2 c r K ih0_ base s v0 v16 (.tuple []) h)
def plan_Drive_due_b4 (c r : Caller) (K : Nat) : Nat->EV->AHeap->R
 | 0=>fun _ _=>none
 | m + 1=>fun v0 h=>
  drawE h fun base s=>
  nilE v0 fun v4=>
  offE 0 v4 fun v5=>
  loadE 3 7 base v5 s fun s=>ld1E v5 h fun v6=>
  bigE 4 15 s h (fun h=>(zdev_Device_Down K v6 h)) fun v7 h s=>
  notE v7 fun v8=>
  cnd (wantE v8 true)
  (nilE v0 fun v11=>
  offE 1 v11 fun v12=>
  loadE 10 1023 base v12 s fun s=>ld1E v12 h fun v13=>
  lenE v13 fun v14=>
  intE gGtr (bin TT .gtr 3) v14 (.int .i64 0) fun v15=>
  plan_Drive_due_j3 c r K (plan_Drive_due_b4 c r K m) base s v0 v8 v15 h)
  (plan_Drive_due_j3 c r K (plan_Drive_due_b4 c r K m) base s v0 v8 (.tuple []) h)
def plan_Drive_due (c r : Caller) (K : Nat) (v0 : EV) (h : AHeap) : R:=
 plan_Drive_due_b4 c r K K v0 h
abbrev plan_Drive_due_c (K : Nat) (c : Caller) : Caller:=(w1 168 (slices_Clone__plan_Event_plan_Event K) (w1 167 (zdev_Device_Count K) (w1 166 (zdev_Device_Down K) c)))
theorem plan_Drive_due_b4_r (c r : Caller) (K : Nat) (m : Nat) : loopD (fun ih=>codeD TT (plan_Drive_due_c K c) c r K (nOf TT 118) (retOf TT 118) (lbOf TT 118 [false]) [(0,retOf TT 118)] ih) m = fun ρ h=>plan_Drive_due_b4 c r K m (ρ 0) h:=
 loopD_eq (E:=fun m ρ h=>plan_Drive_due_b4 c r K m (ρ 0) h) rfl (fun m=>ext2 fun ρ h=>by
  show _ = plan_Drive_due_b4 c r K (m + 1) (ρ 0) h
  rw [plan_Drive_due_b4]; kernel_rfl) m
theorem plan_Drive_due_run (H : Agree disp) (hd : 1<=d) (v0 : EV) (h : AHeap) : callC TT disp K (d + 1) false 118 [v0] h = plan_Drive_due (callC TT disp K d false) (callC TT disp K d true) K v0 h:=
 runD (H.bare (by kernel_rfl)) (by kernel_rfl) (W1 (slices_Clone__plan_Event_plan_Event_run H (lq hd rfl)) (W1 (zdev_Device_Count_run H (lq hd rfl)) (W1 (zdev_Device_Down_run H (lq hd rfl)) rfl))) (cut [false] (plan_Drive_due_b4_r (callC TT disp K d false) (callC TT disp K d true) K K) (by kernel_rfl) (by kernel_rfl) rfl) (by kernel_rfl)
def zdev_Device_Flush_j0 (K : Nat) (h : AHeap) : R:=
 some ((.int .i64 0),h)
def zdev_Device_Flush_j2 (K : Nat) (ih1_ : EV->EV->EV->AHeap->R) (v19 v20 v21 : EV) (h : AHeap) : R:=
 intE gAdd (bin TT .add 3) v21 (.int .i64 1) fun v27=>
 ih1_ v19 v20 v27 h
def zdev_Device_Flush_j3 (K : Nat) (ih1_ : EV->EV->EV->AHeap->R) (v19 v20 v21 : EV) (h : AHeap) : R:=
 ixSE 1 v19 v21 fun v23=>
 ld1E v23 h fun v24=>
 andE (zone_Zone_frame_Sector_Flush K v24 h) fun v26 h=>
 zdev_Device_Flush_j2 K ih1_ v19 v20 v21 h
def zdev_Device_Flush_b4 (K : Nat) : Nat->EV->EV->EV->AHeap->R
 | 0=>fun _ _ _ _=>none
 | m + 1=>fun v19 v20 v21 h=>
  intE gLss (bin TT .lss 3) v21 v20 fun v22=>
  ifE v22
  (zdev_Device_Flush_j3 K (zdev_Device_Flush_b4 K m) v19 v20 v21 h)
  (zdev_Device_Flush_j0 K h)
def zdev_Device_Flush_j5 (K : Nat) (v0 : EV) (h : AHeap) : R:=
 nilE v0 fun v10=>
 offE 3 v10 fun v11=>
 ld1E v11 h fun v12=>
 intE gAdd (bin TT .add 3) v12 (.int .i64 1) fun v13=>
 nilE v0 fun v14=>
 offE 3 v14 fun v15=>
 stE 1 v15 v13 h fun h=>
 nilE v0 fun v17=>
 offE 0 v17 fun v18=>
 ld1E v18 h fun v19=>
 lenE v19 fun v20=>
 zdev_Device_Flush_b4 K K v19 v20 (.int .i64 0) h
def zdev_Device_Flush (K : Nat) (v0 : EV) (h : AHeap) : R:=
 nilE v0 fun v6=>
 offE 4 v6 fun v7=>
 ld1E v7 h fun v8=>
 ifE v8
 (some ((.int .i64 34),h))
 (zdev_Device_Flush_j5 K v0 h)
abbrev zdev_Device_Flush_c (K : Nat) (c : Caller) : Caller:=(w1 170 (zone_Zone_frame_Sector_Flush K) c)
theorem zdev_Device_Flush_b4_r (c c' r : Caller) (K : Nat) (m : Nat) : loopD (fun ih=>codeD TT (zdev_Device_Flush_c K c) c' r K (nOf TT 119) (retOf TT 119) (lbOf TT 119 [true,true,true,false,true,false]) [(0,fun ρ h=>zdev_Device_Flush_j0 K h)] ih) m = fun ρ h=>zdev_Device_Flush_b4 K m (ρ 19) (ρ 20) (ρ 21) h:=
 loopD_eq (E:=fun m ρ h=>zdev_Device_Flush_b4 K m (ρ 19) (ρ 20) (ρ 21) h) rfl (fun m=>ext2 fun ρ h=>by
  show _ = zdev_Device_Flush_b4 K (m + 1) (ρ 19) (ρ 20) (ρ 21) h
  rw [zdev_Device_Flush_b4]; kernel_rfl) m
theorem zdev_Device_Flush_run (H : Agree disp) (hd : 2<=d) (v0 : EV) (h : AHeap) : callC TT disp K d false 119 [v0] h = zdev_Device_Flush K v0 h:=
 runL (H.bare (by kernel_rfl)) hd (by kernel_rfl) (fun d hd=>(W1 (zone_Zone_frame_Sector_Flush_run H (lq hd rfl)) rfl)) (fun d c r=>(cut [true,true,true,false,true,false] (zdev_Device_Flush_b4_r (callC TT disp K d false) c r K K) (by kernel_rfl) (by kernel_rfl) rfl)) (fun d c r=>by kernel_rfl)
def frame_Frame_Right_j0 (K : Nat) (v21 v24 : EV) (h : AHeap) : R:=
 pickE v21 v24 (.bool false) fun v25=>
 some (v25,h)
def frame_Frame_Right_j1 (K : Nat) (v1 v16 v19 : EV) (h : AHeap) : R:=
 pickE v16 v19 (.bool false) fun v20=>
 cnd (wantE v20 true)
 (offE 4 v1 fun v22=>
 ld1E v22 h fun v23=>
 andE (frame_within K v23 (.int .i64 0) (.int .i64 281474976710655) h) fun v24 h=>
 frame_Frame_Right_j0 K v20 v24 h)
 (frame_Frame_Right_j0 K v20 (.tuple []) h)
def frame_Frame_Right_j2 (K : Nat) (v1 v11 v14 : EV) (h : AHeap) : R:=
 pickE v11 v14 (.bool false) fun v15=>
 cnd (wantE v15 true)
 (offE 3 v1 fun v17=>
 ld1E v17 h fun v18=>
 andE (frame_within K v18 (.int .i64 1) (.int .i64 4294967295) h) fun v19 h=>
 frame_Frame_Right_j1 K v1 v15 v19 h)
 (frame_Frame_Right_j1 K v1 v15 (.tuple []) h)
def frame_Frame_Right_j3 (K : Nat) (v1 v6 v9 : EV) (h : AHeap) : R:=
 pickE v6 v9 (.bool false) fun v10=>
 cnd (wantE v10 true)
 (offE 2 v1 fun v12=>
 ld1E v12 h fun v13=>
 andE (frame_within K v13 (.int .i64 0) (.int .i64 65535) h) fun v14 h=>
 frame_Frame_Right_j2 K v1 v10 v14 h)
 (frame_Frame_Right_j2 K v1 v10 (.tuple []) h)
def frame_Frame_Right (K : Nat) (v0 : EV) (h : AHeap) : R:=
 boxE 120 v0 h fun v1 h=>
 offE 0 v1 fun v3=>
 ld1E v3 h fun v4=>
 andE (frame_within K v4 (.int .i64 1) (.int .i64 5) h) fun v5 h=>
 cnd (wantE v5 true)
 (offE 1 v1 fun v7=>
 ld1E v7 h fun v8=>
 andE (frame_within K v8 (.int .i64 0) (.int .i64 65535) h) fun v9 h=>
 frame_Frame_Right_j3 K v1 v5 v9 h)
 (frame_Frame_Right_j3 K v1 v5 (.tuple []) h)
theorem frame_Frame_Right_run (H : Agree disp) (hd : 2<=d) (v0 : EV) (h : AHeap) : callC TT disp K d false 129 [v0] h = frame_Frame_Right K v0 h:=
 runL (H.bare (by kernel_rfl)) hd (by kernel_rfl) (fun d hd=>(W3 (frame_within_run H (lq hd rfl)) rfl)) (fun d c r=>rfl) (fun d c r=>by kernel_rfl)
def crc_Table_over_j0 (K : Nat) (v1 : EV) (h : AHeap) : R:=
 some (v1,h)
def crc_Table_over_j2 (K : Nat) (ih1_ : EV->EV->EV->EV->EV->AHeap->R) (v0 v1 v9 v10 v11 : EV) (h : AHeap) : R:=
 intE gAdd (bin TT .add 3) v11 (.int .i64 1) fun v21=>
 ih1_ v0 v1 v9 v10 v21 h
def crc_Table_over_j3 (K : Nat) (ih1_ : EV->EV->EV->EV->EV->AHeap->R) (v0 v1 v9 v10 v11 : EV) (h : AHeap) : R:=
 ixSE 1 v9 v11 fun v13=>
 ld1E v13 h fun v14=>
 nilE v0 fun v16=>
 ldNE 256 v16 h fun v17=>
 andE (crc_Table_Step K v17 v1 v14 h) fun v20 h=>
 crc_Table_over_j2 K ih1_ v0 v20 v9 v10 v11 h
def crc_Table_over_b4 (K : Nat) : Nat->EV->EV->EV->EV->EV->AHeap->R
 | 0=>fun _ _ _ _ _ _=>none
 | m + 1=>fun v0 v1 v9 v10 v11 h=>
  intE gLss (bin TT .lss 3) v11 v10 fun v12=>
  ifE v12
  (crc_Table_over_j3 K (crc_Table_over_b4 K m) v0 v1 v9 v10 v11 h)
  (crc_Table_over_j0 K v1 h)
def crc_Table_over (K : Nat) (v0 v1 v2 : EV) (h : AHeap) : R:=
 lenE v2 fun v10=>
 crc_Table_over_b4 K K v0 v1 v2 v10 (.int .i64 0) h
abbrev crc_Table_over_c (K : Nat) (c : Caller) : Caller:=(w3 178 (crc_Table_Step K) c)
theorem crc_Table_over_b4_r (c c' r : Caller) (K : Nat) (m : Nat) : loopD (fun ih=>codeD TT (crc_Table_over_c K c) c' r K (nOf TT 132) (retOf TT 132) (lbOf TT 132 [true,false,true,false]) [(0,fun ρ h=>crc_Table_over_j0 K (ρ 1) h)] ih) m = fun ρ h=>crc_Table_over_b4 K m (ρ 0) (ρ 1) (ρ 9) (ρ 10) (ρ 11) h:=
 loopD_eq (E:=fun m ρ h=>crc_Table_over_b4 K m (ρ 0) (ρ 1) (ρ 9) (ρ 10) (ρ 11) h) rfl (fun m=>ext2 fun ρ h=>by
  show _ = crc_Table_over_b4 K (m + 1) (ρ 0) (ρ 1) (ρ 9) (ρ 10) (ρ 11) h
  rw [crc_Table_over_b4]; kernel_rfl) m
theorem crc_Table_over_run (H : Agree disp) (hd : 2<=d) (v0 v1 v2 : EV) (h : AHeap) : callC TT disp K d false 132 [v0,v1,v2] h = crc_Table_over K v0 v1 v2 h:=
 runL (H.bare (by kernel_rfl)) hd (by kernel_rfl) (fun d hd=>(W3 (crc_Table_Step_run H (lq hd rfl)) rfl)) (fun d c r=>(cut [true,false,true,false] (crc_Table_over_b4_r (callC TT disp K d false) c r K K) (by kernel_rfl) (by kernel_rfl) rfl)) (fun d c r=>by kernel_rfl)
def entry_Entry_Right_j0 (K : Nat) (v16 v18 : EV) (h : AHeap) : R:=
 pickE v16 v18 (.bool false) fun v19=>
 some (v19,h)
def entry_Entry_Right_j1 (K : Nat) (v1 v11 v14 : EV) (h : AHeap) : R:=
 pickE v11 v14 (.bool false) fun v15=>
 cnd (wantE v15 true)
 (ldNE 38 v1 h fun v17=>
 andE (entry_Entry_counts K v17 h) fun v18 h=>
 entry_Entry_Right_j0 K v15 v18 h)
 (entry_Entry_Right_j0 K v15 (.tuple []) h)
def entry_Entry_Right_j2 (K : Nat) (v1 v6 v9 : EV) (h : AHeap) : R:=
 pickE v6 v9 (.bool false) fun v10=>
 cnd (wantE v10 true)
 (offE 5 v1 fun v12=>
 ld1E v12 h fun v13=>
 andE (entry_within K v13 (.int .i64 0) (.int .i64 65535) h) fun v14 h=>
 entry_Entry_Right_j1 K v1 v10 v14 h)
 (entry_Entry_Right_j1 K v1 v10 (.tuple []) h)
def entry_Entry_Right (K : Nat) (v0 : EV) (h : AHeap) : R:=
 boxE 89 v0 h fun v1 h=>
 offE 1 v1 fun v3=>
 ld1E v3 h fun v4=>
 andE (entry_within K v4 (.int .i64 0) (.int .i64 281474976710655) h) fun v5 h=>
 cnd (wantE v5 true)
 (offE 3 v1 fun v7=>
 ld1E v7 h fun v8=>
 andE (entry_within K v8 (.int .i64 0) (.int .i64 255) h) fun v9 h=>
 entry_Entry_Right_j2 K v1 v5 v9 h)
 (entry_Entry_Right_j2 K v1 v5 (.tuple []) h)
theorem entry_Entry_Right_run (H : Agree disp) (hd : 3<=d) (v0 : EV) (h : AHeap) : callC TT disp K d false 172 [v0] h = entry_Entry_Right K v0 h:=
 runL (H.bare (by kernel_rfl)) hd (by kernel_rfl) (fun d hd=>(W3 (entry_within_run H (lq hd rfl)) (W1 (entry_Entry_counts_run H (lq hd rfl)) rfl))) (fun d c r=>rfl) (fun d c r=>by kernel_rfl)
def codec_Pen_Num_j1 (K : Nat) (ih0_ : EV->EV->EV->EV->AHeap->R) (v0 v2 v18 v19 : EV) (h : AHeap) : R:=
 intE gAdd (bin TT .add 3) v19 (.int .i64 1) fun v34=>
 ih0_ v0 v2 v18 v34 h
def codec_Pen_Num_j2 (K : Nat) (ih0_ : EV->EV->EV->EV->AHeap->R) (v0 v2 v18 v19 : EV) (h : AHeap) : R:=
 nilE v0 fun v23=>
 offE 0 v23 fun v24=>
 ld1E v24 h fun v25=>
 convE .u8 v2 fun v27=>
 andE (buildSliceE [(.int .u8 0)] 5 1 1 [(0,v27)] h) fun v28 h=>
 andE (appendF 5 1 v25 v28 h) fun v29 h=>
 nilE v0 fun v30=>
 offE 0 v30 fun v31=>
 stE 1 v31 v29 h fun h=>
 binE (bin TT .shr 3) v2 (.int .u64 8) fun v33=>
 codec_Pen_Num_j1 K ih0_ v0 v33 v18 v19 h
def codec_Pen_Num_b3 (K : Nat) : Nat->EV->EV->EV->EV->AHeap->R
 | 0=>fun _ _ _ _ _=>none
 | m + 1=>fun v0 v2 v18 v19 h=>
  intE gLss (bin TT .lss 3) v19 v18 fun v20=>
  ifE v20
  (codec_Pen_Num_j2 K (codec_Pen_Num_b3 K m) v0 v2 v18 v19 h)
  (some (.tuple [],h))
def codec_Pen_Num_j4 (K : Nat) (v0 v1 v2 : EV) (h : AHeap) : R:=
 codec_Pen_Num_b3 K K v0 v2 v1 (.int .i64 0) h
def codec_Pen_Num_j5 (K : Nat) (v0 v1 v2 v9 v13 : EV) (h : AHeap) : R:=
 pickE v9 (.bool true) v13 fun v14=>
 ifE v14
 (nilE v0 fun v16=>
 offE 1 v16 fun v17=>
 stE 1 v17 (.bool true) h fun h=>
 some (.tuple [],h))
 (codec_Pen_Num_j4 K v0 v1 v2 h)
def codec_Pen_Num (K : Nat) (v0 v1 v2 : EV) (h : AHeap) : R:=
 andE (codec_within K v1 h) fun v7 h=>
 notE v7 fun v8=>
 cnd (wantE v8 false)
 (andE (codec_Width K v2 h) fun v11 h=>
 intE gGtr (bin TT .gtr 3) v11 v1 fun v13=>
 codec_Pen_Num_j5 K v0 v1 v2 v8 v13 h)
 (codec_Pen_Num_j5 K v0 v1 v2 v8 (.tuple []) h)
abbrev codec_Pen_Num_c (K : Nat) (c : Caller) : Caller:=(w1 209 (codec_within K) (w1 210 (codec_Width K) c))
theorem codec_Pen_Num_b3_r (c c' r : Caller) (K : Nat) (m : Nat) : loopD (fun ih=>codeD TT (codec_Pen_Num_c K c) c' r K (nOf TT 173) (retOf TT 173) (lbOf TT 173 [true,true,false]) [(0,retOf TT 173)] ih) m = fun ρ h=>codec_Pen_Num_b3 K m (ρ 0) (ρ 2) (ρ 18) (ρ 19) h:=
 loopD_eq (E:=fun m ρ h=>codec_Pen_Num_b3 K m (ρ 0) (ρ 2) (ρ 18) (ρ 19) h) rfl (fun m=>ext2 fun ρ h=>by
  show _ = codec_Pen_Num_b3 K (m + 1) (ρ 0) (ρ 2) (ρ 18) (ρ 19) h
  rw [codec_Pen_Num_b3]; kernel_rfl) m
theorem codec_Pen_Num_run (H : Agree disp) (hd : 2<=d) (v0 v1 v2 : EV) (h : AHeap) : callC TT disp K d false 173 [v0,v1,v2] h = codec_Pen_Num K v0 v1 v2 h:=
 runL (H.bare (by kernel_rfl)) hd (by kernel_rfl) (fun d hd=>(W1 (codec_within_run H (lq hd rfl)) (W1 (codec_Width_run H (lq hd rfl)) rfl))) (fun d c r=>(cut [true,true,false] (codec_Pen_Num_b3_r (callC TT disp K d false) c r K K) (by kernel_rfl) (by kernel_rfl) rfl)) (fun d c r=>by kernel_rfl)
def zdev_Device_Read_j0 (K : Nat) (v0 v1 v2 v6 : EV) (h : AHeap) : R:=
 nilE v0 fun v17=>
 offE 0 v17 fun v18=>
 ld1E v18 h fun v19=>
 ixSE 1 v19 v1 fun v21=>
 ld1E v21 h fun v22=>
 andE (zone_Zone_frame_Sector_Read K v22 v2 h) fun v24 h=>
 extrE 0 v24 fun v25=>
 extrE 1 v24 fun v26=>
 stE 64 v6 v25 h fun h=>
 resE TT [.c v6 103,.v v26] h
def zdev_Device_Read (K : Nat) (v0 v1 v2 : EV) (h : AHeap) : R:=
 newE (.cells (List.replicate 64 (.int .u8 0)) 103) h fun v6 h=>
 andE (zdev_Device_begin K v0 v1 h) fun v11 h=>
 intE gNeq (bin TT .neq 28) v11 (.int .i64 0) fun v13=>
 ifE v13
 (buildE (evenP 1) (List.replicate 64 (.int .u8 0)) [] fun v14=>
 stE 64 v6 v14 h fun h=>
 resE TT [.c v6 103,.v v11] h)
 (zdev_Device_Read_j0 K v0 v1 v2 v6 h)
theorem zdev_Device_Read_run (H : Agree disp) (hd : 3<=d) (v0 v1 v2 : EV) (h : AHeap) : callC TT disp K d false 180 [v0,v1,v2] h = zdev_Device_Read K v0 v1 v2 h:=
 runL (H.bare (by kernel_rfl)) hd (by kernel_rfl) (fun d hd=>(W2 (zdev_Device_begin_run H (lq hd rfl)) (W2 (zone_Zone_frame_Sector_Read_run H (lq hd rfl)) rfl))) (fun d c r=>rfl) (fun d c r=>by kernel_rfl)
def codec_Reader_Num_j0 (K : Nat) (v5 : EV) (h : AHeap) : R:=
 some (v5,h)
def codec_Reader_Num_j2 (K : Nat) (ih1_ : EV->EV->EV->EV->AHeap->R) (v5 v15 v16 v17 : EV) (h : AHeap) : R:=
 intE gAdd (bin TT .add 3) v17 (.int .i64 1) fun v30=>
 ih1_ v5 v15 v16 v30 h
def codec_Reader_Num_j3 (K : Nat) (ih1_ : EV->EV->EV->EV->AHeap->R) (v5 v15 v16 v17 : EV) (h : AHeap) : R:=
 ixSE 1 v15 v17 fun v20=>
 ld1E v20 h fun v21=>
 convE .i64 v21 fun v24=>
 intE gMul (bin TT .mul 3) (.int .i64 8) v17 fun v26=>
 convE .u64 v26 fun v27=>
 binE (bin TT .shl 3) v24 v27 fun v28=>
 binE (bin TT .or 3) v5 v28 fun v29=>
 codec_Reader_Num_j2 K ih1_ v29 v15 v16 v17 h
def codec_Reader_Num_b4 (K : Nat) : Nat->EV->EV->EV->EV->AHeap->R
 | 0=>fun _ _ _ _ _=>none
 | m + 1=>fun v5 v15 v16 v17 h=>
  intE gLss (bin TT .lss 3) v17 v16 fun v18=>
  ifE v18
  (codec_Reader_Num_j3 K (codec_Reader_Num_b4 K m) v5 v15 v16 v17 h)
  (codec_Reader_Num_j0 K v5 h)
def codec_Reader_Num_j5 (K : Nat) (v0 v1 : EV) (h : AHeap) : R:=
 andE (codec_Reader_take K v0 v1 h) fun v15 h=>
 lenE v15 fun v16=>
 codec_Reader_Num_b4 K K (.int .i64 0) v15 v16 (.int .i64 0) h
def codec_Reader_Num (K : Nat) (v0 v1 : EV) (h : AHeap) : R:=
 andE (codec_within K v1 h) fun v9 h=>
 notE v9 fun v10=>
 ifE v10
 (andE (codec_Reader_take K v0 (.int .i64 (-1)) h) fun v12 h=>
 some ((.int .i64 0),h))
 (codec_Reader_Num_j5 K v0 v1 h)
abbrev codec_Reader_Num_c (K : Nat) (c : Caller) : Caller:=(w1 209 (codec_within K) (w2 220 (codec_Reader_take K) c))
theorem codec_Reader_Num_b4_r (c c' r : Caller) (K : Nat) (m : Nat) : loopD (fun ih=>codeD TT (codec_Reader_Num_c K c) c' r K (nOf TT 195) (retOf TT 195) (lbOf TT 195 [true,true,true,false,true,false]) [(0,fun ρ h=>codec_Reader_Num_j0 K (ρ 5) h)] ih) m = fun ρ h=>codec_Reader_Num_b4 K m (ρ 5) (ρ 15) (ρ 16) (ρ 17) h:=
 loopD_eq (E:=fun m ρ h=>codec_Reader_Num_b4 K m (ρ 5) (ρ 15) (ρ 16) (ρ 17) h) rfl (fun m=>ext2 fun ρ h=>by
  show _ = codec_Reader_Num_b4 K (m + 1) (ρ 5) (ρ 15) (ρ 16) (ρ 17) h
  rw [codec_Reader_Num_b4]; kernel_rfl) m
theorem codec_Reader_Num_run (H : Agree disp) (hd : 2<=d) (v0 v1 : EV) (h : AHeap) : callC TT disp K d false 195 [v0,v1] h = codec_Reader_Num K v0 v1 h:=
 runL (H.bare (by kernel_rfl)) hd (by kernel_rfl) (fun d hd=>(W1 (codec_within_run H (lq hd rfl)) (W2 (codec_Reader_take_run H (lq hd rfl)) rfl))) (fun d c r=>(cut [true,true,true,false,true,false] (codec_Reader_Num_b4_r (callC TT disp K d false) c r K K) (by kernel_rfl) (by kernel_rfl) rfl)) (fun d c r=>by kernel_rfl)
def codec_Reader_Bytes (K : Nat) (v0 v1 : EV) (h : AHeap) : R:=
 andE (codec_Reader_take K v0 v1 h) fun v7 h=>
 some (v7,h)
theorem codec_Reader_Bytes_run (H : Agree disp) (hd : 2<=d) (v0 v1 : EV) (h : AHeap) : callC TT disp K d false 196 [v0,v1] h = codec_Reader_Bytes K v0 v1 h:=
 runL (H.bare (by kernel_rfl)) hd (by kernel_rfl) (fun d hd=>(W2 (codec_Reader_take_run H (lq hd rfl)) rfl)) (fun d c r=>rfl) (fun d c r=>by kernel_rfl)
def plan_Drive_spoil_j0 (c r : Caller) (K : Nat) (v0 v3 : EV) (h : AHeap) : R:=
 offE 2 v3 fun v18=>
 ld1E v18 h fun v19=>
 offE 3 v3 fun v20=>
 ld1E v20 h fun v21=>
 buildE (nthPR [(0,1),(1,1)]) [(.int .i64 0),(.int .i64 0)] [(0,v19),(1,v21)] fun v22=>
 newE (.cells [(.int .i64 0),(.int .i64 0)] 243) h fun v4 h=>
 stE 2 v4 v22 h fun h=>
 drawE h fun base s=>
 nilE v0 fun v24=>
 offE 3 v24 fun v25=>
 loadE 3 7 base v25 s fun s=>ld1E v25 h fun v26=>
 loadE 4 0 base v4 s fun s=>ldNE 2 v4 h fun v27=>
 bigE 5 31 s h (fun h=>(lookupE TT 243 320 false v26 v27 h)) fun v28 h s=>
 newS 6 h s fun s=>newE (.cells (List.replicate 64 (.int .u8 0) ++ [(.int .i64 0)]) 320) h fun v5 h=>
 stoE 7 127 v5 s fun s=>stE 65 v5 v28 h fun h=>
 drawE h fun base s=>
 nilE v0 fun v30=>
 offE 3 v30 fun v31=>
 loadE 3 7 base v31 s fun s=>ld1E v31 h fun v32=>
 loadE 4 0 base v4 s fun s=>ldNE 2 v4 h fun v33=>
 offE 0 v5 fun v34=>
 loadE 6 32 base v34 s fun s=>ldNE 64 v34 h fun v35=>
 offE 4 v3 fun v36=>
 loadE 8 128 base v36 s fun s=>ldNE 64 v36 h fun v37=>
 bigE 9 480 s h (fun h=>(frame_Sector_Xor K v35 v37 h)) fun v38 h s=>
 offE 64 v5 fun v39=>
 loadE 11 1024 base v39 s fun s=>ld1E v39 h fun v40=>
 intE gAdd (bin TT .add 3) v40 (.int .i64 1) fun v41=>
 buildE (nthPR [(0,64),(64,1)]) (List.replicate 64 (.int .u8 0) ++ [(.int .i64 0)]) [(0,v38),(1,v41)] fun v42=>
 bigE 14 16383 s h (fun h=>(mapUpdateE TT 243 v32 v33 v42 h)) fun _ h s=>
 some (.tuple [],h)
def plan_Drive_spoil (c r : Caller) (K : Nat) (v0 v1 : EV) (h : AHeap) : R:=
 boxE 105 v1 h fun v3 h=>
 drawE h fun base s=>
 nilE v0 fun v7=>
 offE 0 v7 fun v8=>
 loadE 3 7 base v8 s fun s=>ld1E v8 h fun v9=>
 offE 2 v3 fun v10=>
 loadE 5 16 base v10 s fun s=>ld1E v10 h fun v11=>
 offE 3 v3 fun v12=>
 loadE 7 64 base v12 s fun s=>ld1E v12 h fun v13=>
 offE 4 v3 fun v14=>
 loadE 9 256 base v14 s fun s=>ldNE 64 v14 h fun v15=>
 bigE 10 1023 s h (fun h=>(c 225 [v9,v11,v13,v15] h)) fun v16 h s=>
 intE gNeq (bin TT .neq 28) v16 (.int .i64 0) fun v17=>
 ifE v17
 (some (.tuple [],h))
 (plan_Drive_spoil_j0 c r K v0 v3 h)
theorem plan_Drive_spoil_run (H : Agree disp) (hd : 1<=d) (v0 v1 : EV) (h : AHeap) : callC TT disp K (d + 1) false 205 [v0,v1] h = plan_Drive_spoil (callC TT disp K d false) (callC TT disp K d true) K v0 v1 h:=
 runD (H.bare (by kernel_rfl)) (by kernel_rfl) (W2 (frame_Sector_Xor_run H (lq hd rfl)) rfl) rfl (by kernel_rfl)
def zdev_Device_Fail_j0 (K : Nat) (v0 v1 v2 : EV) (h : AHeap) : R:=
 nilE v0 fun v12=>
 offE 0 v12 fun v13=>
 ld1E v13 h fun v14=>
 ixSE 1 v14 v1 fun v16=>
 ld1E v16 h fun v17=>
 andE (zone_Zone_frame_Sector_Fail K v17 v2 h) fun v19 h=>
 some ((.int .i64 0),h)
def zdev_Device_Fail (K : Nat) (v0 v1 v2 : EV) (h : AHeap) : R:=
 andE (zdev_Device_has K v0 v1 h) fun v9 h=>
 notE v9 fun v10=>
 ifE v10
 (some ((.int .i64 13),h))
 (zdev_Device_Fail_j0 K v0 v1 v2 h)
theorem zdev_Device_Fail_run (H : Agree disp) (hd : 2<=d) (v0 v1 v2 : EV) (h : AHeap) : callC TT disp K d false 206 [v0,v1,v2] h = zdev_Device_Fail K v0 v1 v2 h:=
 runL (H.bare (by kernel_rfl)) hd (by kernel_rfl) (fun d hd=>(W2 (zdev_Device_has_run H (lq hd rfl)) (W2 (zone_Zone_frame_Sector_Fail_run H (lq hd rfl)) rfl))) (fun d c r=>rfl) (fun d c r=>by kernel_rfl)
def zone_Zone_frame_Sector_Append_j0 (K : Nat) (v0 : EV) (h : AHeap) : R:=
 nilE v0 fun v44=>
 offE 0 v44 fun v45=>
 ld1E v45 h fun v46=>
 lenE v46 fun v47=>
 intE gSub (bin TT .sub 3) v47 (.int .i64 1) fun v48=>
 some (.tuple [v48,(.int .i64 0)],h)
def zone_Zone_frame_Sector_Append_j1 (K : Nat) (v0 v3 : EV) (h : AHeap) : R:=
 drawE h fun base s=>
 nilE v0 fun v19=>
 offE 0 v19 fun v20=>
 loadE 4 14 base v20 s fun s=>ld1E v20 h fun v21=>
 loadE 5 0 base v3 s fun s=>ldNE 64 v3 h fun v22=>
 newS 6 h s fun s=>andE (buildSliceE (List.replicate 64 (.int .u8 0)) 103 64 1 [(0,v22)] h) fun v23 h=>
 bigE 7 126 s h (fun h=>(appendF 103 64 v21 v23 h)) fun v24 h s=>
 nilE v0 fun v25=>
 offE 0 v25 fun v26=>
 stoE 10 1023 v26 s fun s=>stE 1 v26 v24 h fun h=>
 nilE v0 fun v28=>
 offE 3 v28 fun v29=>
 stE 1 v29 (.int .i64 1) h fun h=>
 nilE v0 fun v31=>
 offE 0 v31 fun v32=>
 ld1E v32 h fun v33=>
 lenE v33 fun v34=>
 nilE v0 fun v36=>
 offE 1 v36 fun v37=>
 ld1E v37 h fun v38=>
 intE gEql (bin TT .eql 3) v34 v38 fun v39=>
 ifE v39
 (nilE v0 fun v41=>
 offE 3 v41 fun v42=>
 stE 1 v42 (.int .i64 2) h fun h=>
 zone_Zone_frame_Sector_Append_j0 K v0 h)
 (zone_Zone_frame_Sector_Append_j0 K v0 h)
def zone_Zone_frame_Sector_Append_j2 (K : Nat) (v0 v3 : EV) (h : AHeap) : R:=
 nilE v0 fun v13=>
 offE 3 v13 fun v14=>
 ld1E v14 h fun v15=>
 intE gEql (bin TT .eql 3) v15 (.int .i64 2) fun v16=>
 ifE v16
 (some (.tuple [(.int .i64 0),(.int .i64 17)],h))
 (zone_Zone_frame_Sector_Append_j1 K v0 v3 h)
def zone_Zone_frame_Sector_Append (K : Nat) (v0 v1 : EV) (h : AHeap) : R:=
 boxE 103 v1 h fun v3 h=>
 andE (zone_Zone_frame_Sector_failed K v0 h) fun v8 h=>
 intE gNeq (bin TT .neq 28) v8 (.int .i64 0) fun v10=>
 ifE v10
 (some (.tuple [(.int .i64 0),v8],h))
 (zone_Zone_frame_Sector_Append_j2 K v0 v3 h)
theorem zone_Zone_frame_Sector_Append_run (H : Agree disp) (hd : 2<=d) (v0 v1 : EV) (h : AHeap) : callC TT disp K d false 223 [v0,v1] h = zone_Zone_frame_Sector_Append K v0 v1 h:=
 runL (H.bare (by kernel_rfl)) hd (by kernel_rfl) (fun d hd=>(W1 (zone_Zone_frame_Sector_failed_run H (lq hd rfl)) rfl)) (fun d c r=>rfl) (fun d c r=>by kernel_rfl)
def zone_Zone_frame_Sector_Finish_j0 (K : Nat) (v0 : EV) (h : AHeap) : R:=
 nilE v0 fun v11=>
 offE 3 v11 fun v12=>
 stE 1 v12 (.int .i64 2) h fun h=>
 nilE v0 fun v13=>
 offE 4 v13 fun v14=>
 stE 1 v14 (.bool true) h fun h=>
 some ((.int .i64 0),h)
def zone_Zone_frame_Sector_Finish (K : Nat) (v0 : EV) (h : AHeap) : R:=
 andE (zone_Zone_frame_Sector_failed K v0 h) fun v5 h=>
 intE gNeq (bin TT .neq 28) v5 (.int .i64 0) fun v7=>
 ifE v7
 (some (v5,h))
 (zone_Zone_frame_Sector_Finish_j0 K v0 h)
theorem zone_Zone_frame_Sector_Finish_run (H : Agree disp) (hd : 2<=d) (v0 : EV) (h : AHeap) : callC TT disp K d false 224 [v0] h = zone_Zone_frame_Sector_Finish K v0 h:=
 runL (H.bare (by kernel_rfl)) hd (by kernel_rfl) (fun d hd=>(W1 (zone_Zone_frame_Sector_failed_run H (lq hd rfl)) rfl)) (fun d c r=>rfl) (fun d c r=>by kernel_rfl)
def mirror_Mirror_Bad_j0 (K : Nat) (v12 v20 : EV) (h : AHeap) : R:=
 pickE v12 v20 (.bool false) fun v21=>
 some (v21,h)
def mirror_Mirror_Bad (K : Nat) (v0 v1 : EV) (h : AHeap) : R:=
 nilE v0 fun v6=>
 offE 1 v6 fun v7=>
 ldNE 6 v7 h fun v8=>
 andE (geom_Geom_Domain K v8 v1 h) fun v10 h=>
 intE gGeq (bin TT .geq 3) v10 (.int .i64 0) fun v11=>
 cnd (wantE v11 true)
 (nilE v0 fun v14=>
 offE 264 v14 fun v15=>
 ld1E v15 h fun v16=>
 ixSE 1 v16 v1 fun v18=>
 ld1E v18 h fun v19=>
 intE gEql (bin TT .eql 3) v19 (.int .i64 1) fun v20=>
 mirror_Mirror_Bad_j0 K v11 v20 h)
 (mirror_Mirror_Bad_j0 K v11 (.tuple []) h)
theorem mirror_Mirror_Bad_run (H : Agree disp) (hd : 3<=d) (v0 v1 : EV) (h : AHeap) : callC TT disp K d false 21 [v0,v1] h = mirror_Mirror_Bad K v0 v1 h:=
 runL (H.bare (by kernel_rfl)) hd (by kernel_rfl) (fun d hd=>(W2 (geom_Geom_Domain_run H (lq hd rfl)) rfl)) (fun d c r=>rfl) (fun d c r=>by kernel_rfl)
def plan_Drive_Flush (c r : Caller) (K : Nat) (v0 : EV) (h : AHeap) : R:=
 andE (c 118 [v0] h) fun v4 h=>
 nilE v0 fun v6=>
 offE 0 v6 fun v7=>
 ld1E v7 h fun v8=>
 andE (zdev_Device_Flush K v8 h) fun v9 h=>
 some (v9,h)
theorem plan_Drive_Flush_run (H : Agree disp) (hd : 2<=d) (v0 : EV) (h : AHeap) : callC TT disp K (d + 1) false 67 [v0] h = plan_Drive_Flush (callC TT disp K d false) (callC TT disp K d true) K v0 h:=
 runD (H.bare (by kernel_rfl)) (by kernel_rfl) (W1 (zdev_Device_Flush_run H (lq hd rfl)) rfl) rfl (by kernel_rfl)
def crc_Table_Sum (K : Nat) (v0 v1 : EV) (h : AHeap) : R:=
 boxE 72 v0 h fun v2 h=>
 andE (crc_Table_over K v2 (.int .u32 4294967295) v1 h) fun v6 h=>
 binE (bin TT .xor 70) v6 (.int .u32 4294967295) fun v7=>
 some (v7,h)
theorem crc_Table_Sum_run (H : Agree disp) (hd : 3<=d) (v0 v1 : EV) (h : AHeap) : callC TT disp K d false 82 [v0,v1] h = crc_Table_Sum K v0 v1 h:=
 runL (H.bare (by kernel_rfl)) hd (by kernel_rfl) (fun d hd=>(W3 (crc_Table_over_run H (lq hd rfl)) rfl)) (fun d c r=>rfl) (fun d c r=>by kernel_rfl)
def geom_Geom_Holds_j0 (K : Nat) (v16 v21 : EV) (h : AHeap) : R:=
 pickE v16 v21 (.bool false) fun v22=>
 some (v22,h)
def geom_Geom_Holds_j1 (K : Nat) (v2 v3 v9 v14 : EV) (h : AHeap) : R:=
 pickE v9 v14 (.bool false) fun v15=>
 cnd (wantE v15 true)
 (offE 2 v3 fun v18=>
 ld1E v18 h fun v19=>
 intE gSub (bin TT .sub 3) v19 (.int .i64 1) fun v20=>
 andE (geom_within K v2 (.int .i64 0) v20 h) fun v21 h=>
 geom_Geom_Holds_j0 K v15 v21 h)
 (geom_Geom_Holds_j0 K v15 (.tuple []) h)
def geom_Geom_Holds (K : Nat) (v0 v1 v2 : EV) (h : AHeap) : R:=
 boxE 23 v0 h fun v3 h=>
 ldNE 6 v3 h fun v7=>
 andE (geom_Geom_Right K v7 h) fun v8 h=>
 cnd (wantE v8 true)
 (ldNE 6 v3 h fun v11=>
 andE (geom_Geom_All K v11 h) fun v12 h=>
 intE gSub (bin TT .sub 3) v12 (.int .i64 1) fun v13=>
 andE (geom_within K v1 (.int .i64 0) v13 h) fun v14 h=>
 geom_Geom_Holds_j1 K v2 v3 v8 v14 h)
 (geom_Geom_Holds_j1 K v2 v3 v8 (.tuple []) h)
theorem geom_Geom_Holds_run (H : Agree disp) (hd : 4<=d) (v0 v1 v2 : EV) (h : AHeap) : callC TT disp K d false 92 [v0,v1,v2] h = geom_Geom_Holds K v0 v1 v2 h:=
 runL (H.bare (by kernel_rfl)) hd (by kernel_rfl) (fun d hd=>(W1 (geom_Geom_Right_run H (lq hd rfl)) (W1 (geom_Geom_All_run H (lq hd rfl)) (W3 (geom_within_run H (lq hd rfl)) rfl)))) (fun d c r=>rfl) (fun d c r=>by kernel_rfl)
def mirror_Mirror_leave_j0 (c r : Caller) (K : Nat) (v0 v1 : EV) (h : AHeap) : R:=
 nilE v0 fun v34=>
 offE 0 v34 fun v35=>
 ld1E v35 h fun v36=>
 andE (c 165 [v36,v1] h) fun v38 h=>
 some (v38,h)
def mirror_Mirror_leave_j1 (c r : Caller) (K : Nat) (v0 v1 v2 v15 v22 : EV) (h : AHeap) : R:=
 pickE v15 (.bool true) v22 fun v23=>
 ifE v23
 (some ((.int .i64 0),h))
 (intE gEql (bin TT .eql 3) v2 (.int .i64 0) fun v26=>
 ifE v26
 (nilE v0 fun v28=>
 offE 263 v28 fun v29=>
 ld1E v29 h fun v30=>
 andE (c 15 [v30,v1] h) fun v32 h=>
 some (v32,h))
 (mirror_Mirror_leave_j0 c r K v0 v1 h))
def mirror_Mirror_leave_j2 (c r : Caller) (K : Nat) (v0 v1 v2 v10 v13 : EV) (h : AHeap) : R:=
 pickE v10 (.bool true) v13 fun v14=>
 cnd (wantE v14 false)
 (nilE v0 fun v18=>
 offE 1 v18 fun v19=>
 offE 2 v19 fun v20=>
 ld1E v20 h fun v21=>
 intE gEql (bin TT .eql 3) v2 v21 fun v22=>
 mirror_Mirror_leave_j1 c r K v0 v1 v2 v14 v22 h)
 (mirror_Mirror_leave_j1 c r K v0 v1 v2 v14 (.tuple []) h)
def mirror_Mirror_leave (c r : Caller) (K : Nat) (v0 v1 v2 : EV) (h : AHeap) : R:=
 intE gEql (bin TT .eql 3) v1 (.int .i64 (-1)) fun v9=>
 cnd (wantE v9 false)
 (andE (mirror_Mirror_Bad K v0 v1 h) fun v13 h=>
 mirror_Mirror_leave_j2 c r K v0 v1 v2 v9 v13 h)
 (mirror_Mirror_leave_j2 c r K v0 v1 v2 v9 (.tuple []) h)
theorem mirror_Mirror_leave_run (H : Agree disp) (hd : 3<=d) (v0 v1 v2 : EV) (h : AHeap) : callC TT disp K (d + 1) false 123 [v0,v1,v2] h = mirror_Mirror_leave (callC TT disp K d false) (callC TT disp K d true) K v0 v1 v2 h:=
 runD (H.bare (by kernel_rfl)) (by kernel_rfl) (W2 (mirror_Mirror_Bad_run H (lq hd rfl)) rfl) rfl (by kernel_rfl)
def entry_Entry_Body_j0 (K : Nat) (v1 v2 v4 : EV) (h : AHeap) : R:=
 newE (.cells [.nilslice,(.bool false)] 278) h fun v5 h=>
 offE 1 v1 fun v12=>
 ld1E v12 h fun v13=>
 andE (codec_Pen_Num K v5 (.int .i64 6) v13 h) fun v14 h=>
 offE 2 v1 fun v15=>
 ld1E v15 h fun v16=>
 andE (codec_Pen_Num K v5 (.int .i64 1) v16 h) fun v17 h=>
 offE 3 v1 fun v18=>
 ld1E v18 h fun v19=>
 andE (codec_Pen_Num K v5 (.int .i64 1) v19 h) fun v20 h=>
 offE 4 v1 fun v21=>
 ld1E v21 h fun v22=>
 andE (codec_Pen_Num K v5 (.int .i64 2) v22 h) fun v23 h=>
 offE 5 v1 fun v24=>
 ld1E v24 h fun v25=>
 andE (codec_Pen_Num K v5 (.int .i64 2) v25 h) fun v26 h=>
 offE 6 v1 fun v27=>
 sliAE 32 1 v27 none none none fun v28=>
 andE (codec_Pen_Bytes K v5 v28 h) fun v29 h=>
 andE (codec_Pen_Out K v5 h) fun v31 h=>
 extrE 0 v31 fun v32=>
 extrE 1 v31 fun v33=>
 sliAE 44 1 v4 none none none fun v34=>
 andE (builtin TT .copy #[174,174] [v34,v32] h) fun v36 h=>
 ldNE 44 v4 h fun v37=>
 stE 44 v2 v37 h fun h=>
 resE TT [.c v2 118,.v v33] h
def entry_Entry_Body (K : Nat) (v0 : EV) (h : AHeap) : R:=
 boxE 89 v0 h fun v1 h=>
 newE (.cells (List.replicate 44 (.int .u8 0)) 118) h fun v2 h=>
 newE (.cells (List.replicate 44 (.int .u8 0)) 118) h fun v4 h=>
 ldNE 38 v1 h fun v8=>
 andE (entry_Entry_Right K v8 h) fun v9 h=>
 notE v9 fun v10=>
 ifE v10
 (ldNE 44 v4 h fun v11=>
 stE 44 v2 v11 h fun h=>
 resE TT [.c v2 118,.v (.int .i64 10)] h)
 (entry_Entry_Body_j0 K v1 v2 v4 h)
theorem entry_Entry_Body_run (H : Agree disp) (hd : 4<=d) (v0 : EV) (h : AHeap) : callC TT disp K d false 128 [v0] h = entry_Entry_Body K v0 h:=
 runL (H.bare (by kernel_rfl)) hd (by kernel_rfl) (fun d hd=>(W1 (entry_Entry_Right_run H (lq hd rfl)) (W3 (codec_Pen_Num_run H (lq hd rfl)) (W2 (codec_Pen_Bytes_run H (lq hd rfl)) (W1 (codec_Pen_Out_run H (lq hd rfl)) rfl))))) (fun d c r=>rfl) (fun d c r=>by kernel_rfl)
def plan_Drive_Read (c r : Caller) (K : Nat) (v0 v1 v2 : EV) (h : AHeap) : R:=
 newE (.cells (List.replicate 64 (.int .u8 0)) 103) h fun v6 h=>
 andE (c 179 [v0,v1] h) fun v10 h=>
 nilE v0 fun v12=>
 offE 0 v12 fun v13=>
 ld1E v13 h fun v14=>
 andE (zdev_Device_Read K v14 v1 v2 h) fun v17 h=>
 extrE 0 v17 fun v18=>
 extrE 1 v17 fun v19=>
 stE 64 v6 v18 h fun h=>
 resE TT [.c v6 103,.v v19] h
theorem plan_Drive_Read_run (H : Agree disp) (hd : 3<=d) (v0 v1 v2 : EV) (h : AHeap) : callC TT disp K (d + 1) false 133 [v0,v1,v2] h = plan_Drive_Read (callC TT disp K d false) (callC TT disp K d true) K v0 v1 v2 h:=
 runD (H.bare (by kernel_rfl)) (by kernel_rfl) (W3 (zdev_Device_Read_run H (lq hd rfl)) rfl) rfl (by kernel_rfl)
def plan_Drive_happen (c r : Caller) (K : Nat) (v0 v1 : EV) (h : AHeap) : R:=
 boxE 105 v1 h fun v3 h=>
 drawE h fun base s=>
 nilE v0 fun v6=>
 offE 2 v6 fun v7=>
 loadE 4 14 base v7 s fun s=>ld1E v7 h fun v8=>
 loadE 5 0 base v3 s fun s=>ldNE 68 v3 h fun v9=>
 newS 6 h s fun s=>andE (buildSliceE (List.replicate 4 (.int .i64 0) ++ List.replicate 64 (.int .u8 0)) 105 68 1 [(0,v9)] h) fun v10 h=>
 bigE 7 126 s h (fun h=>(appendF 105 68 v8 v10 h)) fun v11 h s=>
 nilE v0 fun v12=>
 offE 2 v12 fun v13=>
 stoE 10 1023 v13 s fun s=>stE 1 v13 v11 h fun h=>
 offE 1 v3 fun v14=>
 ld1E v14 h fun v15=>
 intE gEql (bin TT .eql 3) v15 (.int .i64 1) fun v17=>
 ifE v17
 (ldNE 68 v3 h fun v19=>
 andE (c 205 [v0,v19] h) fun v20 h=>
 some (.tuple [],h))
 (intE gEql (bin TT .eql 3) v15 (.int .i64 2) fun v22=>
 ifE v22
 (drawE h fun base s=>
 nilE v0 fun v24=>
 offE 0 v24 fun v25=>
 loadE 3 7 base v25 s fun s=>ld1E v25 h fun v26=>
 offE 2 v3 fun v27=>
 loadE 5 16 base v27 s fun s=>ld1E v27 h fun v28=>
 bigE 6 63 s h (fun h=>(zdev_Device_Fail K v26 v28 (.int .i64 3) h)) fun v29 h s=>
 some (.tuple [],h))
 (intE gEql (bin TT .eql 3) v15 (.int .i64 3) fun v31=>
 ifE v31
 (drawE h fun base s=>
 nilE v0 fun v33=>
 offE 0 v33 fun v34=>
 loadE 3 7 base v34 s fun s=>ld1E v34 h fun v35=>
 offE 2 v3 fun v36=>
 loadE 5 16 base v36 s fun s=>ld1E v36 h fun v37=>
 bigE 6 63 s h (fun h=>(zdev_Device_Fail K v35 v37 (.int .i64 4) h)) fun v38 h s=>
 some (.tuple [],h))
 (intE gEql (bin TT .eql 3) v15 (.int .i64 4) fun v40=>
 ifE v40
 (nilE v0 fun v42=>
 offE 0 v42 fun v43=>
 ld1E v43 h fun v44=>
 andE (zdev_Device_Crash K v44 h) fun v45 h=>
 some (.tuple [],h))
 (some (.tuple [],h)))))
theorem plan_Drive_happen_run (H : Agree disp) (hd : 2<=d) (v0 v1 : EV) (h : AHeap) : callC TT disp K (d + 1) false 169 [v0,v1] h = plan_Drive_happen (callC TT disp K d false) (callC TT disp K d true) K v0 v1 h:=
 runD (H.bare (by kernel_rfl)) (by kernel_rfl) (W3 (zdev_Device_Fail_run H (lq hd rfl)) (W1 (zdev_Device_Crash_run H (lq hd rfl)) rfl)) rfl (by kernel_rfl)
def entry_Of_j0 (K : Nat) (v4 v7 : EV) (h : AHeap) : R:=
 ldNE 38 v7 h fun v42=>
 stE 38 v4 v42 h fun h=>
 resE TT [.c v4 89,.v (.int .i64 0)] h
def entry_Of_j1 (K : Nat) (v4 v7 v36 v39 : EV) (h : AHeap) : R:=
 pickE v36 (.bool true) v39 fun v40=>
 ifE v40
 (buildE (nthPR [(0,1),(1,1),(2,1),(3,1),(4,1),(5,1),(6,32)]) (List.replicate 6 (.int .i64 0) ++ List.replicate 32 (.int .u8 0)) [] fun v41=>
 stE 38 v4 v41 h fun h=>
 resE TT [.c v4 89,.v (.int .i64 10)] h)
 (entry_Of_j0 K v4 v7 h)
def entry_Of (K : Nat) (v0 v1 : EV) (h : AHeap) : R:=
 boxE 118 v1 h fun v3 h=>
 newE (.cells (List.replicate 6 (.int .i64 0) ++ List.replicate 32 (.int .u8 0)) 89) h fun v4 h=>
 sliAE 44 1 v3 none none none fun v10=>
 andE (codec_New K v10 h) fun v11 h=>
 andE (codec_Reader_Num K v11 (.int .i64 6) h) fun v14 h=>
 andE (codec_Reader_Num K v11 (.int .i64 1) h) fun v16 h=>
 andE (codec_Reader_Num K v11 (.int .i64 1) h) fun v18 h=>
 andE (codec_Reader_Num K v11 (.int .i64 2) h) fun v20 h=>
 andE (codec_Reader_Num K v11 (.int .i64 2) h) fun v22 h=>
 buildE (nthPR [(0,1),(1,1),(2,1),(3,1),(4,1),(5,1),(6,32)]) (List.replicate 6 (.int .i64 0) ++ List.replicate 32 (.int .u8 0)) [(0,v0),(1,v14),(2,v16),(3,v18),(4,v20),(5,v22)] fun v23=>
 newE (.cells (List.replicate 6 (.int .i64 0) ++ List.replicate 32 (.int .u8 0)) 89) h fun v7 h=>
 stE 38 v7 v23 h fun h=>
 drawE h fun base s=>
 offE 6 v7 fun v24=>
 sliAE 32 1 v24 none none none fun v25=>
 bigE 3 4 s h (fun h=>(codec_Reader_Bytes K v11 (.int .i64 32) h)) fun v27 h s=>
 bigE 4 15 s h (fun h=>(builtin TT .copy #[174,174] [v25,v27] h)) fun v28 h s=>
 ldNE 38 v7 h fun v30=>
 andE (entry_Entry_Body K v30 h) fun v31 h=>
 extrE 0 v31 fun v32=>
 extrE 1 v31 fun v33=>
 newE (.cells (List.replicate 44 (.int .u8 0)) 118) h fun v8 h=>
 stE 44 v8 v32 h fun h=>
 intE gNeq (bin TT .neq 28) v33 (.int .i64 0) fun v35=>
 cnd (wantE v35 false)
 (ldNE 44 v8 h fun v37=>
 ldNE 44 v3 h fun v38=>
 intE gNeq (bin TT .neq 118) v37 v38 fun v39=>
 entry_Of_j1 K v4 v7 v35 v39 h)
 (entry_Of_j1 K v4 v7 v35 (.tuple []) h)
theorem entry_Of_run (H : Agree disp) (hd : 5<=d) (v0 v1 : EV) (h : AHeap) : callC TT disp K d false 181 [v0,v1] h = entry_Of K v0 v1 h:=
 runL (H.bare (by kernel_rfl)) hd (by kernel_rfl) (fun d hd=>(W1 (codec_New_run H (lq hd rfl)) (W2 (codec_Reader_Num_run H (lq hd rfl)) (W2 (codec_Reader_Bytes_run H (lq hd rfl)) (W1 (entry_Entry_Body_run H (lq hd rfl)) rfl))))) (fun d c r=>rfl) (fun d c r=>by kernel_rfl)
def crc_Table_Open_j0 (K : Nat) (v1 v6 : EV) (h : AHeap) : R:=
 andE (buildSliceE [(.int .u8 0)] 5 1 0 [] h) fun v35 h=>
 sliE 1 v1 none (some v6) none fun v38=>
 andE (appendF 5 1 v35 v38 h) fun v39 h=>
 some (.tuple [v39,(.int .i64 0)],h)
def crc_Table_Open_j2 (K : Nat) (ih1_ : EV->EV->EV->EV->EV->EV->AHeap->R) (v1 v6 v7 v22 v23 v24 : EV) (h : AHeap) : R:=
 intE gAdd (bin TT .add 3) v24 (.int .i64 1) fun v34=>
 ih1_ v1 v6 v7 v22 v23 v34 h
def crc_Table_Open_j3 (K : Nat) (ih1_ : EV->EV->EV->EV->EV->EV->AHeap->R) (v1 v6 v7 v22 v23 v24 : EV) (h : AHeap) : R:=
 binE (bin TT .shr 70) v7 (.int .u64 8) fun v33=>
 crc_Table_Open_j2 K ih1_ v1 v6 v33 v22 v23 v24 h
def crc_Table_Open_j4 (K : Nat) (ih1_ : EV->EV->EV->EV->EV->EV->AHeap->R) (v1 v6 v7 v22 v23 v24 : EV) (h : AHeap) : R:=
 ixSE 1 v22 v24 fun v26=>
 ld1E v26 h fun v27=>
 convE .u8 v7 fun v30=>
 intE gNeq (bin TT .neq 5) v27 v30 fun v31=>
 ifE v31
 (some (.tuple [.nilslice,(.int .i64 11)],h))
 (crc_Table_Open_j3 K ih1_ v1 v6 v7 v22 v23 v24 h)
def crc_Table_Open_b5 (K : Nat) : Nat->EV->EV->EV->EV->EV->EV->AHeap->R
 | 0=>fun _ _ _ _ _ _ _=>none
 | m + 1=>fun v1 v6 v7 v22 v23 v24 h=>
  intE gLss (bin TT .lss 3) v24 v23 fun v25=>
  ifE v25
  (crc_Table_Open_j4 K (crc_Table_Open_b5 K m) v1 v6 v7 v22 v23 v24 h)
  (crc_Table_Open_j0 K v1 v6 h)
def crc_Table_Open_j6 (K : Nat) (v1 v2 v6 : EV) (h : AHeap) : R:=
 drawE h fun base s=>
 loadE 0 0 base v2 s fun s=>ldNE 256 v2 h fun v15=>
 sliE 1 v1 none (some v6) none fun v18=>
 bigE 4 15 s h (fun h=>(crc_Table_Sum K v15 v18 h)) fun v19 h s=>
 sliE 1 v1 (some v6) none none fun v22=>
 lenE v22 fun v23=>
 crc_Table_Open_b5 K K v1 v6 v19 v22 v23 (.int .i64 0) h
def crc_Table_Open (K : Nat) (v0 v1 : EV) (h : AHeap) : R:=
 boxE 72 v0 h fun v2 h=>
 lenE v1 fun v11=>
 intE gSub (bin TT .sub 3) v11 (.int .i64 4) fun v12=>
 intE gLss (bin TT .lss 3) v12 (.int .i64 0) fun v14=>
 ifE v14
 (some (.tuple [.nilslice,(.int .i64 14)],h))
 (crc_Table_Open_j6 K v1 v2 v12 h)
abbrev crc_Table_Open_c (K : Nat) (c : Caller) : Caller:=(w2 82 (crc_Table_Sum K) c)
theorem crc_Table_Open_b5_r (c c' r : Caller) (K : Nat) (m : Nat) : loopD (fun ih=>codeD TT (crc_Table_Open_c K c) c' r K (nOf TT 193) (retOf TT 193) (lbOf TT 193 [true,true,true,true,false,true,false]) [(0,fun ρ h=>crc_Table_Open_j0 K (ρ 1) (ρ 6) h)] ih) m = fun ρ h=>crc_Table_Open_b5 K m (ρ 1) (ρ 6) (ρ 7) (ρ 22) (ρ 23) (ρ 24) h:=
 loopD_eq (E:=fun m ρ h=>crc_Table_Open_b5 K m (ρ 1) (ρ 6) (ρ 7) (ρ 22) (ρ 23) (ρ 24) h) rfl (fun m=>ext2 fun ρ h=>by
  show _ = crc_Table_Open_b5 K (m + 1) (ρ 1) (ρ 6) (ρ 7) (ρ 22) (ρ 23) (ρ 24) h
  rw [crc_Table_Open_b5]; kernel_rfl) m
theorem crc_Table_Open_run (H : Agree disp) (hd : 4<=d) (v0 v1 : EV) (h : AHeap) : callC TT disp K d false 193 [v0,v1] h = crc_Table_Open K v0 v1 h:=
 runL (H.bare (by kernel_rfl)) hd (by kernel_rfl) (fun d hd=>(W2 (crc_Table_Sum_run H (lq hd rfl)) rfl)) (fun d c r=>(cut [true,true,true,true,false,true,false] (crc_Table_Open_b5_r (callC TT disp K d false) c r K K) (by kernel_rfl) (by kernel_rfl) rfl)) (fun d c r=>by kernel_rfl)
def zdev_Device_Append_j0 (K : Nat) (v0 v1 v5 : EV) (h : AHeap) : R:=
 drawE h fun base s=>
 nilE v0 fun v34=>
 offE 0 v34 fun v35=>
 loadE 3 7 base v35 s fun s=>ld1E v35 h fun v36=>
 ixSE 1 v36 v1 fun v38=>
 loadE 6 63 base v38 s fun s=>ld1E v38 h fun v39=>
 loadE 7 0 base v5 s fun s=>ldNE 64 v5 h fun v40=>
 bigE 8 255 s h (fun h=>(zone_Zone_frame_Sector_Append K v39 v40 h)) fun v41 h s=>
 extrE 0 v41 fun v42=>
 extrE 1 v41 fun v43=>
 some (.tuple [v42,v43],h)
def zdev_Device_Append_j1 (K : Nat) (base : Nat) (s : DX) (v0 v1 v5 v24 v31 : EV) (h : AHeap) : R:=
 pickE v24 v31 (.bool false) fun v32=>
 ifE v32
 (some (.tuple [(.int .i64 0),(.int .i64 33)],h))
 (zdev_Device_Append_j0 K v0 v1 v5 h)
def zdev_Device_Append_j2 (K : Nat) (v0 v1 v5 : EV) (h : AHeap) : R:=
 drawE h fun base s=>
 nilE v0 fun v16=>
 offE 0 v16 fun v17=>
 loadE 3 7 base v17 s fun s=>ld1E v17 h fun v18=>
 ixSE 1 v18 v1 fun v20=>
 loadE 6 63 base v20 s fun s=>ld1E v20 h fun v21=>
 bigE 7 127 s h (fun h=>(zone_Zone_frame_Sector_State K v21 h)) fun v22 h s=>
 intE gEql (bin TT .eql 3) v22 (.int .i64 0) fun v23=>
 cnd (wantE v23 true)
 (bigE 11 2047 s h (fun h=>(zdev_Device_opened K v0 h)) fun v26 h s=>
 nilE v0 fun v28=>
 offE 2 v28 fun v29=>
 loadE 15 29695 base v29 s fun s=>ld1E v29 h fun v30=>
 intE gGeq (bin TT .geq 3) v26 v30 fun v31=>
 zdev_Device_Append_j1 K base s v0 v1 v5 v23 v31 h)
 (zdev_Device_Append_j1 K base s v0 v1 v5 v23 (.tuple []) h)
def zdev_Device_Append (K : Nat) (v0 v1 v2 : EV) (h : AHeap) : R:=
 boxE 103 v2 h fun v5 h=>
 andE (zdev_Device_begin K v0 v1 h) fun v11 h=>
 intE gNeq (bin TT .neq 28) v11 (.int .i64 0) fun v13=>
 ifE v13
 (some (.tuple [(.int .i64 0),v11],h))
 (zdev_Device_Append_j2 K v0 v1 v5 h)
theorem zdev_Device_Append_run (H : Agree disp) (hd : 3<=d) (v0 v1 v2 : EV) (h : AHeap) : callC TT disp K d false 203 [v0,v1,v2] h = zdev_Device_Append K v0 v1 v2 h:=
 runL (H.bare (by kernel_rfl)) hd (by kernel_rfl) (fun d hd=>(W2 (zdev_Device_begin_run H (lq hd rfl)) (W2 (zone_Zone_frame_Sector_Append_run H (lq hd rfl)) (W1 (zone_Zone_frame_Sector_State_run H (lq hd rfl)) (W1 (zdev_Device_opened_run H (lq hd rfl)) rfl))))) (fun d c r=>rfl) (fun d c r=>by kernel_rfl)
def zdev_Device_Finish_j0 (K : Nat) (v0 v1 : EV) (h : AHeap) : R:=
 nilE v0 fun v13=>
 offE 0 v13 fun v14=>
 ld1E v14 h fun v15=>
 ixSE 1 v15 v1 fun v17=>
 ld1E v17 h fun v18=>
 andE (zone_Zone_frame_Sector_Finish K v18 h) fun v19 h=>
 some (v19,h)
def zdev_Device_Finish (K : Nat) (v0 v1 : EV) (h : AHeap) : R:=
 andE (zdev_Device_begin K v0 v1 h) fun v8 h=>
 intE gNeq (bin TT .neq 28) v8 (.int .i64 0) fun v10=>
 ifE v10
 (some (v8,h))
 (zdev_Device_Finish_j0 K v0 v1 h)
theorem zdev_Device_Finish_run (H : Agree disp) (hd : 3<=d) (v0 v1 : EV) (h : AHeap) : callC TT disp K d false 204 [v0,v1] h = zdev_Device_Finish K v0 v1 h:=
 runL (H.bare (by kernel_rfl)) hd (by kernel_rfl) (fun d hd=>(W2 (zdev_Device_begin_run H (lq hd rfl)) (W1 (zone_Zone_frame_Sector_Finish_run H (lq hd rfl)) rfl))) (fun d c r=>rfl) (fun d c r=>by kernel_rfl)
def crc_Table_Seal (K : Nat) (v0 v1 : EV) (h : AHeap) : R:=
 boxE 72 v0 h fun v2 h=>
 ldNE 256 v2 h fun v6=>
 andE (crc_Table_Sum K v6 v1 h) fun v8 h=>
 andE (buildSliceE [(.int .u8 0)] 5 1 0 [] h) fun v9 h=>
 andE (appendF 5 1 v9 v1 h) fun v11 h=>
 convE .u8 v8 fun v13=>
 binE (bin TT .shr 70) v8 (.int .u64 8) fun v15=>
 convE .u8 v15 fun v16=>
 binE (bin TT .shr 70) v8 (.int .u64 16) fun v18=>
 convE .u8 v18 fun v19=>
 binE (bin TT .shr 70) v8 (.int .u64 24) fun v21=>
 convE .u8 v21 fun v22=>
 andE (buildSliceE [(.int .u8 0)] 5 1 4 [(0,v13),(1,v16),(2,v19),(3,v22)] h) fun v23 h=>
 andE (appendF 5 1 v11 v23 h) fun v24 h=>
 some (v24,h)
theorem crc_Table_Seal_run (H : Agree disp) (hd : 4<=d) (v0 v1 : EV) (h : AHeap) : callC TT disp K d false 211 [v0,v1] h = crc_Table_Seal K v0 v1 h:=
 runL (H.bare (by kernel_rfl)) hd (by kernel_rfl) (fun d hd=>(W2 (crc_Table_Sum_run H (lq hd rfl)) rfl)) (fun d c r=>rfl) (fun d c r=>by kernel_rfl)
def mirror_Mirror_Quarantine_j0 (c r : Caller) (K : Nat) (h : AHeap) : R:=
 some ((.int .i64 0),h)
def mirror_Mirror_Quarantine_j1 (c r : Caller) (K : Nat) (v0 : EV) (h : AHeap) : R:=
 andE (c 70 [v0] h) fun v44 h=>
 intE gEql (bin TT .eql 28) v44 (.int .i64 34) fun v45=>
 ifE v45
 (some ((.int .i64 34),h))
 (mirror_Mirror_Quarantine_j0 c r K h)
def mirror_Mirror_Quarantine_j2 (c r : Caller) (K : Nat) (v0 v35 v41 : EV) (h : AHeap) : R:=
 pickE v35 v41 (.bool false) fun v42=>
 ifE v42
 (some ((.int .i64 0),h))
 (mirror_Mirror_Quarantine_j1 c r K v0 h)
def mirror_Mirror_Quarantine_j3 (c r : Caller) (K : Nat) (v0 v1 : EV) (h : AHeap) : R:=
 nilE v0 fun v18=>
 offE 264 v18 fun v19=>
 ld1E v19 h fun v20=>
 ixSE 1 v20 v1 fun v22=>
 stE 1 v22 (.int .i64 1) h fun h=>
 nilE v0 fun v24=>
 offE 263 v24 fun v25=>
 ld1E v25 h fun v26=>
 andE (c 69 [v26,v1] h) fun v28 h=>
 nilE v0 fun v31=>
 offE 265 v31 fun v32=>
 ld1E v32 h fun v33=>
 intE gNeq (bin TT .neq 3) v1 v33 fun v34=>
 cnd (wantE v34 true)
 (nilE v0 fun v38=>
 offE 266 v38 fun v39=>
 ld1E v39 h fun v40=>
 intE gNeq (bin TT .neq 3) v1 v40 fun v41=>
 mirror_Mirror_Quarantine_j2 c r K v0 v34 v41 h)
 (mirror_Mirror_Quarantine_j2 c r K v0 v34 (.tuple []) h)
def mirror_Mirror_Quarantine (c r : Caller) (K : Nat) (v0 v1 : EV) (h : AHeap) : R:=
 nilE v0 fun v7=>
 offE 1 v7 fun v8=>
 ldNE 6 v8 h fun v9=>
 andE (geom_Geom_Domain K v9 v1 h) fun v11 h=>
 intE gLss (bin TT .lss 3) v11 (.int .i64 0) fun v12=>
 ifE v12
 (some ((.int .i64 13),h))
 (andE (mirror_Mirror_Bad K v0 v1 h) fun v16 h=>
 ifE v16
 (some ((.int .i64 16),h))
 (mirror_Mirror_Quarantine_j3 c r K v0 v1 h))
theorem mirror_Mirror_Quarantine_run (H : Agree disp) (hd : 3<=d) (v0 v1 : EV) (h : AHeap) : callC TT disp K (d + 1) false 20 [v0,v1] h = mirror_Mirror_Quarantine (callC TT disp K d false) (callC TT disp K d true) K v0 v1 h:=
 runD (H.bare (by kernel_rfl)) (by kernel_rfl) (W2 (geom_Geom_Domain_run H (lq hd rfl)) (W2 (mirror_Mirror_Bad_run H (lq hd rfl)) rfl)) rfl (by kernel_rfl)
def revetmentlaw14_started_j0 (K : Nat) (v1 v3 v5 v8 : EV) (h : AHeap) : R:=
 drawE h fun base s=>
 offE 0 v1 fun v54=>
 loadE 2 2 base v54 s fun s=>ld1E v54 h fun v55=>
 offE 1 v1 fun v56=>
 loadE 4 8 base v56 s fun s=>ld1E v56 h fun v57=>
 intE gMul (bin TT .mul 3) v55 v57 fun v58=>
 offE 2 v1 fun v59=>
 loadE 7 64 base v59 s fun s=>ld1E v59 h fun v60=>
 offE 5 v1 fun v61=>
 loadE 9 256 base v61 s fun s=>ld1E v61 h fun v62=>
 bigE 10 1022 s h (fun h=>(revetmentref07_New K v58 v60 v62 h)) fun v63 h s=>
 buildE (nthPR [(0,5),(5,1),(6,1)]) [.nilslice,(.int .i64 0),(.int .i64 0),(.int .i64 0),(.bool false),.nilslice,.nilslice] [(0,v63)] fun v64=>
 loadE 12 0 base v5 s fun s=>ldNE 6 v5 h fun v65=>
 bigE 13 8190 s h (fun h=>(revetmentref14_New K v64 v65 h)) fun v66 h s=>
 stoE 15 32767 v3 s fun s=>stE 20 v3 v66 h fun h=>
 resE TT [.v v8,.c v3 42,.v (.bool true)] h
def revetmentlaw14_started_j1 (K : Nat) (v1 v3 v5 v8 v48 v50 : EV) (h : AHeap) : R:=
 pickE v48 (.bool true) v50 fun v51=>
 ifE v51
 (buildE (nthPR [(0,7),(7,6),(13,3),(16,1),(17,1),(18,1),(19,1)]) ([.nilslice] ++ List.replicate 3 (.int .i64 0) ++ [(.bool false)] ++ List.replicate 2 .nilslice ++ List.replicate 8 (.int .i64 0) ++ List.replicate 2 .nilslice ++ List.replicate 3 (.int .i64 0)) [] fun v52=>
 stE 20 v3 v52 h fun h=>
 resE TT [.v .nilptr,.c v3 42,.v (.bool false)] h)
 (revetmentlaw14_started_j0 K v1 v3 v5 v8 h)
def revetmentlaw14_started_j2 (K : Nat) (v1 v3 v5 v6 : EV) (h : AHeap) : R:=
 drawE h fun base s=>
 loadE 1 0 base v1 s fun s=>ldNE 6 v1 h fun v41=>
 bigE 2 0 s h (fun h=>(crc_New K h)) fun v42 h s=>
 bigE 3 7 s h (fun h=>(mirror_New K v6 v41 v42 h)) fun v43 h s=>
 extrE 0 v43 fun v44=>
 extrE 1 v43 fun v45=>
 intE gNeq (bin TT .neq 28) v45 (.int .i64 0) fun v47=>
 cnd (wantE v47 false)
 (intE gEql (bin TT .eql 29) v44 .nilptr fun v50=>
 revetmentlaw14_started_j1 K v1 v3 v5 v44 v47 v50 h)
 (revetmentlaw14_started_j1 K v1 v3 v5 v44 v47 (.tuple []) h)
def revetmentlaw14_started_j3 (K : Nat) (v1 v3 v5 : EV) (h : AHeap) : R:=
 offE 0 v1 fun v24=>
 ld1E v24 h fun v25=>
 offE 1 v1 fun v26=>
 ld1E v26 h fun v27=>
 intE gMul (bin TT .mul 3) v25 v27 fun v28=>
 offE 2 v1 fun v29=>
 ld1E v29 h fun v30=>
 offE 5 v1 fun v31=>
 ld1E v31 h fun v32=>
 andE (plan_New K v28 v30 v32 h) fun v33 h=>
 extrE 0 v33 fun v34=>
 extrE 1 v33 fun v35=>
 intE gNeq (bin TT .neq 28) v35 (.int .i64 0) fun v37=>
 ifE v37
 (buildE (nthPR [(0,7),(7,6),(13,3),(16,1),(17,1),(18,1),(19,1)]) ([.nilslice] ++ List.replicate 3 (.int .i64 0) ++ [(.bool false)] ++ List.replicate 2 .nilslice ++ List.replicate 8 (.int .i64 0) ++ List.replicate 2 .nilslice ++ List.replicate 3 (.int .i64 0)) [] fun v38=>
 stE 20 v3 v38 h fun h=>
 resE TT [.v .nilptr,.c v3 42,.v (.bool false)] h)
 (revetmentlaw14_started_j2 K v1 v3 v5 v34 h)
def revetmentlaw14_started_j4 (K : Nat) (v1 v3 v5 v14 v20 : EV) (h : AHeap) : R:=
 pickE v14 (.bool true) v20 fun v21=>
 ifE v21
 (buildE (nthPR [(0,7),(7,6),(13,3),(16,1),(17,1),(18,1),(19,1)]) ([.nilslice] ++ List.replicate 3 (.int .i64 0) ++ [(.bool false)] ++ List.replicate 2 .nilslice ++ List.replicate 8 (.int .i64 0) ++ List.replicate 2 .nilslice ++ List.replicate 3 (.int .i64 0)) [] fun v22=>
 stE 20 v3 v22 h fun h=>
 resE TT [.v .nilptr,.c v3 42,.v (.bool false)] h)
 (revetmentlaw14_started_j3 K v1 v3 v5 h)
def revetmentlaw14_started (K : Nat) (v0 : EV) (h : AHeap) : R:=
 boxE 23 v0 h fun v1 h=>
 newE (.cells ([.nilslice] ++ List.replicate 3 (.int .i64 0) ++ [(.bool false)] ++ List.replicate 2 .nilslice ++ List.replicate 8 (.int .i64 0) ++ List.replicate 2 .nilslice ++ List.replicate 3 (.int .i64 0)) 42) h fun v3 h=>
 ldNE 6 v1 h fun v10=>
 newE (.cells [(.int .i64 0),(.int .i64 0),(.int .i64 0),(.int .i64 0),(.int .i64 0),(.int .i64 0)] 37) h fun v5 h=>
 stE 6 v5 v10 h fun h=>
 ldNE 6 v5 h fun v11=>
 andE (revetmentref05_G_Right K v11 h) fun v12 h=>
 notE v12 fun v13=>
 cnd (wantE v13 false)
 (offE 0 v1 fun v15=>
 ld1E v15 h fun v16=>
 offE 1 v1 fun v17=>
 ld1E v17 h fun v18=>
 intE gMul (bin TT .mul 3) v16 v18 fun v19=>
 intE gGtr (bin TT .gtr 3) v19 (.int .i64 64) fun v20=>
 revetmentlaw14_started_j4 K v1 v3 v5 v13 v20 h)
 (revetmentlaw14_started_j4 K v1 v3 v5 v13 (.tuple []) h)
theorem revetmentlaw14_started_run (H : Agree disp) (hd : 6<=d) (v0 : EV) (h : AHeap) : callC TT disp K d false 33 [v0] h = revetmentlaw14_started K v0 h:=
 runL (H.bare (by kernel_rfl)) hd (by kernel_rfl) (fun d hd=>(W1 (revetmentref05_G_Right_run H (lq hd rfl)) (W3 (revetmentref07_New_run H (lq hd rfl)) (W2 (revetmentref14_New_run H (lq hd rfl)) (W0 (crc_New_run H (lq hd rfl)) (W3 (mirror_New_run H (lq hd rfl)) (W3 (plan_New_run H (lq hd rfl)) rfl))))))) (fun d c r=>rfl) (fun d c r=>by kernel_rfl)
def bmap_Entry_Right_j0 (K : Nat) (h : AHeap) : R:=
 some ((.bool false),h)
def bmap_Entry_Right_j1 (K : Nat) (base : Nat) (s : DX) (v57 v60 : EV) (h : AHeap) : R:=
 pickE v57 v60 (.bool false) fun v61=>
 some (v61,h)
def bmap_Entry_Right_j2 (K : Nat) (base : Nat) (s : DX) (v2 v52 v55 : EV) (h : AHeap) : R:=
 pickE v52 v55 (.bool false) fun v56=>
 cnd (wantE v56 true)
 (offE 5 v2 fun v58=>
 loadE 42 4398046511103 base v58 s fun s=>ld1E v58 h fun v59=>
 intE gLeq (bin TT .leq 3) v59 (.int .i64 4294967295) fun v60=>
 bmap_Entry_Right_j1 K base s v56 v60 h)
 (bmap_Entry_Right_j1 K base s v56 (.tuple []) h)
def bmap_Entry_Right_j3 (K : Nat) (base : Nat) (s : DX) (v2 v47 v50 : EV) (h : AHeap) : R:=
 pickE v47 v50 (.bool false) fun v51=>
 cnd (wantE v51 true)
 (offE 5 v2 fun v53=>
 loadE 37 137438953471 base v53 s fun s=>ld1E v53 h fun v54=>
 intE gGeq (bin TT .geq 3) v54 (.int .i64 0) fun v55=>
 bmap_Entry_Right_j2 K base s v2 v51 v55 h)
 (bmap_Entry_Right_j2 K base s v2 v51 (.tuple []) h)
def bmap_Entry_Right_j4 (K : Nat) (base : Nat) (s : DX) (v2 v42 v45 : EV) (h : AHeap) : R:=
 pickE v42 v45 (.bool false) fun v46=>
 cnd (wantE v46 true)
 (offE 4 v2 fun v48=>
 loadE 32 4294967295 base v48 s fun s=>ld1E v48 h fun v49=>
 intE gLeq (bin TT .leq 3) v49 (.int .i64 281474976710655) fun v50=>
 bmap_Entry_Right_j3 K base s v2 v46 v50 h)
 (bmap_Entry_Right_j3 K base s v2 v46 (.tuple []) h)
def bmap_Entry_Right_j5 (K : Nat) (base : Nat) (s : DX) (v2 v31 v40 : EV) (h : AHeap) : R:=
 pickE v31 v40 (.bool false) fun v41=>
 cnd (wantE v41 true)
 (offE 4 v2 fun v43=>
 loadE 27 134217727 base v43 s fun s=>ld1E v43 h fun v44=>
 intE gGeq (bin TT .geq 3) v44 (.int .i64 1) fun v45=>
 bmap_Entry_Right_j4 K base s v2 v41 v45 h)
 (bmap_Entry_Right_j4 K base s v2 v41 (.tuple []) h)
def bmap_Entry_Right_j6 (K : Nat) (base : Nat) (s : DX) (v2 v3 v23 v29 : EV) (h : AHeap) : R:=
 pickE v23 v29 (.bool false) fun v30=>
 cnd (wantE v30 true)
 (loadE 15 32767 base v3 s fun s=>ldNE 6 v3 h fun v32=>
 offE 1 v2 fun v33=>
 loadE 17 98303 base v33 s fun s=>ld1E v33 h fun v34=>
 bigE 18 262143 s h (fun h=>(geom_Geom_Domain K v32 v34 h)) fun v35 h s=>
 loadE 19 32767 base v3 s fun s=>ldNE 6 v3 h fun v36=>
 offE 2 v2 fun v37=>
 loadE 21 1081343 base v37 s fun s=>ld1E v37 h fun v38=>
 bigE 22 4194303 s h (fun h=>(geom_Geom_Domain K v36 v38 h)) fun v39 h s=>
 intE gNeq (bin TT .neq 3) v35 v39 fun v40=>
 bmap_Entry_Right_j5 K base s v2 v30 v40 h)
 (bmap_Entry_Right_j5 K base s v2 v30 (.tuple []) h)
def bmap_Entry_Right_j7 (K : Nat) (v2 v3 v6 v7 : EV) (h : AHeap) : R:=
 ifE v7
 (ldNE 6 v2 h fun v10=>
 offE 0 v2 fun v11=>
 ld1E v11 h fun v12=>
 buildE (nthPR [(0,1),(1,1),(2,1),(3,1),(4,1),(5,1)]) [(.int .i64 0),(.int .i64 0),(.int .i64 0),(.int .i64 0),(.int .i64 0),(.int .i64 0)] [(0,v12)] fun v13=>
 intE gEql (bin TT .eql 83) v10 v13 fun v14=>
 some (v14,h))
 (intE gEql (bin TT .eql 3) v6 (.int .i64 1) fun v16=>
 ifE v16
 (drawE h fun base s=>
 loadE 0 0 base v3 s fun s=>ldNE 6 v3 h fun v17=>
 offE 1 v2 fun v18=>
 loadE 2 2 base v18 s fun s=>ld1E v18 h fun v19=>
 offE 3 v2 fun v20=>
 loadE 4 8 base v20 s fun s=>ld1E v20 h fun v21=>
 bigE 5 31 s h (fun h=>(geom_Geom_Holds K v17 v19 v21 h)) fun v22 h s=>
 cnd (wantE v22 true)
 (loadE 7 127 base v3 s fun s=>ldNE 6 v3 h fun v24=>
 offE 2 v2 fun v25=>
 loadE 9 383 base v25 s fun s=>ld1E v25 h fun v26=>
 offE 3 v2 fun v27=>
 loadE 11 1151 base v27 s fun s=>ld1E v27 h fun v28=>
 bigE 12 4095 s h (fun h=>(geom_Geom_Holds K v24 v26 v28 h)) fun v29 h s=>
 bmap_Entry_Right_j6 K base s v2 v3 v22 v29 h)
 (bmap_Entry_Right_j6 K base s v2 v3 v22 (.tuple []) h))
 (bmap_Entry_Right_j0 K h))
def bmap_Entry_Right (K : Nat) (v0 v1 : EV) (h : AHeap) : R:=
 boxE 83 v0 h fun v2 h=>
 boxE 23 v1 h fun v3 h=>
 offE 0 v2 fun v5=>
 ld1E v5 h fun v6=>
 intE gEql (bin TT .eql 3) v6 (.int .i64 0) fun v8=>
 ifE v8
 (bmap_Entry_Right_j7 K v2 v3 v6 v8 h)
 (intE gEql (bin TT .eql 3) v6 (.int .i64 2) fun v9=>
 bmap_Entry_Right_j7 K v2 v3 v6 v9 h)
theorem bmap_Entry_Right_run (H : Agree disp) (hd : 5<=d) (v0 v1 : EV) (h : AHeap) : callC TT disp K d false 43 [v0,v1] h = bmap_Entry_Right K v0 v1 h:=
 runL (H.bare (by kernel_rfl)) hd (by kernel_rfl) (fun d hd=>(W2 (geom_Geom_Domain_run H (lq hd rfl)) (W3 (geom_Geom_Holds_run H (lq hd rfl)) rfl))) (fun d c r=>rfl) (fun d c r=>by kernel_rfl)
def entry_Entry_Frame_j0 (K : Nat) (v10 v14 : EV) (h : AHeap) : R:=
 ldNE 49 v14 h fun v51=>
 stE 49 v10 v51 h fun h=>
 resE TT [.c v10 120,.v (.int .i64 0)] h
def entry_Entry_Frame_j1 (K : Nat) (v10 v14 v41 v48 : EV) (h : AHeap) : R:=
 pickE v41 (.bool true) v48 fun v49=>
 ifE v49
 (buildE (nthPR [(0,1),(1,1),(2,1),(3,1),(4,1),(5,44)]) (List.replicate 5 (.int .i64 0) ++ List.replicate 44 (.int .u8 0)) [] fun v50=>
 stE 49 v10 v50 h fun h=>
 resE TT [.c v10 120,.v (.int .i64 10)] h)
 (entry_Entry_Frame_j0 K v10 v14 h)
def entry_Entry_Frame_j2 (K : Nat) (v4 v5 v10 v14 v35 v39 : EV) (h : AHeap) : R:=
 pickE v35 (.bool true) v39 fun v40=>
 cnd (wantE v40 false)
 (offE 1 v5 fun v42=>
 ld1E v42 h fun v43=>
 offE 2 v5 fun v45=>
 ld1E v45 h fun v46=>
 intE gSub (bin TT .sub 3) v4 v46 fun v47=>
 intE gLeq (bin TT .leq 3) v43 v47 fun v48=>
 entry_Entry_Frame_j1 K v10 v14 v40 v48 h)
 (entry_Entry_Frame_j1 K v10 v14 v40 (.tuple []) h)
def entry_Entry_Frame_j3 (K : Nat) (v4 v5 v10 v14 v30 v33 : EV) (h : AHeap) : R:=
 pickE v30 (.bool true) v33 fun v34=>
 cnd (wantE v34 false)
 (offE 1 v5 fun v36=>
 ld1E v36 h fun v37=>
 intE gGtr (bin TT .gtr 3) v37 v4 fun v39=>
 entry_Entry_Frame_j2 K v4 v5 v10 v14 v34 v39 h)
 (entry_Entry_Frame_j2 K v4 v5 v10 v14 v34 (.tuple []) h)
def entry_Entry_Frame (K : Nat) (v0 v1 v2 v3 v4 : EV) (h : AHeap) : R:=
 boxE 89 v0 h fun v5 h=>
 newE (.cells (List.replicate 5 (.int .i64 0) ++ List.replicate 44 (.int .u8 0)) 120) h fun v10 h=>
 ldNE 38 v5 h fun v16=>
 andE (entry_Entry_Body K v16 h) fun v17 h=>
 extrE 0 v17 fun v18=>
 extrE 1 v17 fun v19=>
 newE (.cells (List.replicate 44 (.int .u8 0)) 118) h fun v12 h=>
 stE 44 v12 v18 h fun h=>
 offE 0 v5 fun v20=>
 ld1E v20 h fun v21=>
 ldNE 44 v12 h fun v26=>
 buildE (nthPR [(0,1),(1,1),(2,1),(3,1),(4,1),(5,44)]) (List.replicate 5 (.int .i64 0) ++ List.replicate 44 (.int .u8 0)) [(0,v21),(1,v1),(2,v2),(3,v3),(4,v4),(5,v26)] fun v27=>
 newE (.cells (List.replicate 5 (.int .i64 0) ++ List.replicate 44 (.int .u8 0)) 120) h fun v14 h=>
 stE 49 v14 v27 h fun h=>
 intE gNeq (bin TT .neq 28) v19 (.int .i64 0) fun v29=>
 cnd (wantE v29 false)
 (ldNE 49 v14 h fun v31=>
 andE (frame_Frame_Right K v31 h) fun v32 h=>
 notE v32 fun v33=>
 entry_Entry_Frame_j3 K v4 v5 v10 v14 v29 v33 h)
 (entry_Entry_Frame_j3 K v4 v5 v10 v14 v29 (.tuple []) h)
theorem entry_Entry_Frame_run (H : Agree disp) (hd : 5<=d) (v0 v1 v2 v3 v4 : EV) (h : AHeap) : callC TT disp K d false 79 [v0,v1,v2,v3,v4] h = entry_Entry_Frame K v0 v1 v2 v3 v4 h:=
 runL (H.bare (by kernel_rfl)) hd (by kernel_rfl) (fun d hd=>(W1 (entry_Entry_Body_run H (lq hd rfl)) (W1 (frame_Frame_Right_run H (lq hd rfl)) rfl))) (fun d c r=>rfl) (fun d c r=>by kernel_rfl)
def mirror_Mirror_ready_j0 (c r : Caller) (K : Nat) (v0 v4 v5 : EV) (h : AHeap) : R:=
 nilE v0 fun v48=>
 offE 265 v48 fun v49=>
 stE 1 v49 v4 h fun h=>
 nilE v0 fun v50=>
 offE 266 v50 fun v51=>
 stE 1 v51 v5 h fun h=>
 nilE v0 fun v52=>
 offE 267 v52 fun v53=>
 stE 1 v53 (.int .i64 0) h fun h=>
 some ((.int .i64 0),h)
def mirror_Mirror_ready_j1 (c r : Caller) (K : Nat) (v0 : EV) (h : AHeap) : R:=
 nilE v0 fun v34=>
 offE 263 v34 fun v35=>
 ld1E v35 h fun v36=>
 andE (pool_Pool_Pair K v36 h) fun v37 h=>
 extrE 0 v37 fun v38=>
 extrE 1 v37 fun v39=>
 extrE 2 v37 fun v40=>
 intE gNeq (bin TT .neq 28) v40 (.int .i64 0) fun v42=>
 ifE v42
 (some ((.int .i64 40),h))
 (mirror_Mirror_ready_j0 c r K v0 v38 v39 h)
def mirror_Mirror_ready_j2 (c r : Caller) (K : Nat) (v0 : EV) (h : AHeap) : R:=
 nilE v0 fun v25=>
 offE 0 v25 fun v26=>
 ld1E v26 h fun v27=>
 andE (c 67 [v27] h) fun v28 h=>
 intE gNeq (bin TT .neq 28) v28 (.int .i64 0) fun v30=>
 ifE v30
 (some (v28,h))
 (mirror_Mirror_ready_j1 c r K v0 h)
def mirror_Mirror_ready_j3 (c r : Caller) (K : Nat) (v0 v12 v22 : EV) (h : AHeap) : R:=
 pickE v12 v22 (.bool false) fun v23=>
 ifE v23
 (some ((.int .i64 0),h))
 (mirror_Mirror_ready_j2 c r K v0 h)
def mirror_Mirror_ready (c r : Caller) (K : Nat) (v0 : EV) (h : AHeap) : R:=
 nilE v0 fun v8=>
 offE 265 v8 fun v9=>
 ld1E v9 h fun v10=>
 intE gNeq (bin TT .neq 3) v10 (.int .i64 (-1)) fun v11=>
 cnd (wantE v11 true)
 (nilE v0 fun v14=>
 offE 267 v14 fun v15=>
 ld1E v15 h fun v16=>
 nilE v0 fun v18=>
 offE 1 v18 fun v19=>
 offE 2 v19 fun v20=>
 ld1E v20 h fun v21=>
 intE gLss (bin TT .lss 3) v16 v21 fun v22=>
 mirror_Mirror_ready_j3 c r K v0 v11 v22 h)
 (mirror_Mirror_ready_j3 c r K v0 v11 (.tuple []) h)
theorem mirror_Mirror_ready_run (H : Agree disp) (hd : 4<=d) (v0 : EV) (h : AHeap) : callC TT disp K (d + 1) false 80 [v0] h = mirror_Mirror_ready (callC TT disp K d false) (callC TT disp K d true) K v0 h:=
 runD (H.bare (by kernel_rfl)) (by kernel_rfl) (W1 (pool_Pool_Pair_run H (lq hd rfl)) rfl) rfl (by kernel_rfl)
def mirror_Mirror_lives_j0 (K : Nat) (base : Nat) (s : DX) (v8 v14 : EV) (h : AHeap) : R:=
 pickE v8 v14 (.bool false) fun v15=>
 some (v15,h)
def mirror_Mirror_lives (K : Nat) (v0 v1 : EV) (h : AHeap) : R:=
 boxE 83 v1 h fun v3 h=>
 drawE h fun base s=>
 offE 0 v3 fun v5=>
 loadE 1 1 base v5 s fun s=>ld1E v5 h fun v6=>
 intE gEql (bin TT .eql 3) v6 (.int .i64 1) fun v7=>
 cnd (wantE v7 true)
 (loadE 4 15 base v3 s fun s=>ldNE 6 v3 h fun v9=>
 nilE v0 fun v11=>
 offE 1 v11 fun v12=>
 loadE 8 239 base v12 s fun s=>ldNE 6 v12 h fun v13=>
 bigE 9 511 s h (fun h=>(bmap_Entry_Right K v9 v13 h)) fun v14 h s=>
 mirror_Mirror_lives_j0 K base s v7 v14 h)
 (mirror_Mirror_lives_j0 K base s v7 (.tuple []) h)
theorem mirror_Mirror_lives_run (H : Agree disp) (hd : 6<=d) (v0 v1 : EV) (h : AHeap) : callC TT disp K d false 83 [v0,v1] h = mirror_Mirror_lives K v0 v1 h:=
 runL (H.bare (by kernel_rfl)) hd (by kernel_rfl) (fun d hd=>(W2 (bmap_Entry_Right_run H (lq hd rfl)) rfl)) (fun d c r=>rfl) (fun d c r=>by kernel_rfl)
def entry_Read_j0 (K : Nat) (v2 v4 : EV) (h : AHeap) : R:=
 ldNE 38 v4 h fun v35=>
 stE 38 v2 v35 h fun h=>
 resE TT [.c v2 89,.v (.int .i64 0)] h
def entry_Read_j1 (K : Nat) (v1 v2 v4 : EV) (h : AHeap) : R:=
 ldNE 38 v4 h fun v19=>
 offE 1 v1 fun v20=>
 ld1E v20 h fun v21=>
 offE 2 v1 fun v22=>
 ld1E v22 h fun v23=>
 offE 3 v1 fun v24=>
 ld1E v24 h fun v25=>
 offE 4 v1 fun v26=>
 ld1E v26 h fun v27=>
 andE (entry_Entry_Frame K v19 v21 v23 v25 v27 h) fun v28 h=>
 extrE 0 v28 fun v29=>
 extrE 1 v28 fun v30=>
 intE gNeq (bin TT .neq 28) v30 (.int .i64 0) fun v32=>
 ifE v32
 (buildE (nthPR [(0,1),(1,1),(2,1),(3,1),(4,1),(5,1),(6,32)]) (List.replicate 6 (.int .i64 0) ++ List.replicate 32 (.int .u8 0)) [] fun v33=>
 stE 38 v2 v33 h fun h=>
 resE TT [.c v2 89,.v v30] h)
 (entry_Read_j0 K v2 v4 h)
def entry_Read (K : Nat) (v0 : EV) (h : AHeap) : R:=
 boxE 120 v0 h fun v1 h=>
 newE (.cells (List.replicate 6 (.int .i64 0) ++ List.replicate 32 (.int .u8 0)) 89) h fun v2 h=>
 offE 0 v1 fun v7=>
 ld1E v7 h fun v8=>
 offE 5 v1 fun v9=>
 ldNE 44 v9 h fun v10=>
 andE (entry_Of K v8 v10 h) fun v11 h=>
 extrE 0 v11 fun v12=>
 extrE 1 v11 fun v13=>
 newE (.cells (List.replicate 6 (.int .i64 0) ++ List.replicate 32 (.int .u8 0)) 89) h fun v4 h=>
 stE 38 v4 v12 h fun h=>
 intE gNeq (bin TT .neq 28) v13 (.int .i64 0) fun v15=>
 ifE v15
 (buildE (nthPR [(0,1),(1,1),(2,1),(3,1),(4,1),(5,1),(6,32)]) (List.replicate 6 (.int .i64 0) ++ List.replicate 32 (.int .u8 0)) [] fun v16=>
 stE 38 v2 v16 h fun h=>
 resE TT [.c v2 89,.v v13] h)
 (entry_Read_j1 K v1 v2 v4 h)
theorem entry_Read_run (H : Agree disp) (hd : 6<=d) (v0 : EV) (h : AHeap) : callC TT disp K d false 135 [v0] h = entry_Read K v0 h:=
 runL (H.bare (by kernel_rfl)) hd (by kernel_rfl) (fun d hd=>(W2 (entry_Of_run H (lq hd rfl)) (W5 (entry_Entry_Frame_run H (lq hd rfl)) rfl))) (fun d c r=>rfl) (fun d c r=>by kernel_rfl)
def frame_Decode_j0 (K : Nat) (v4 v9 : EV) (h : AHeap) : R:=
 ldNE 49 v9 h fun v58=>
 stE 49 v4 v58 h fun h=>
 resE TT [.c v4 120,.v (.int .i64 0)] h
def frame_Decode_j1 (K : Nat) (v4 v9 v52 v55 : EV) (h : AHeap) : R:=
 pickE v52 (.bool true) v55 fun v56=>
 ifE v56
 (buildE (nthPR [(0,1),(1,1),(2,1),(3,1),(4,1),(5,44)]) (List.replicate 5 (.int .i64 0) ++ List.replicate 44 (.int .u8 0)) [] fun v57=>
 stE 49 v4 v57 h fun h=>
 resE TT [.c v4 120,.v (.int .i64 10)] h)
 (frame_Decode_j0 K v4 v9 h)
def frame_Decode_j2 (K : Nat) (v4 v8 v9 v47 v50 : EV) (h : AHeap) : R:=
 pickE v47 (.bool true) v50 fun v51=>
 cnd (wantE v51 false)
 (andE (codec_Reader_Done K v8 h) fun v54 h=>
 intE gNeq (bin TT .neq 28) v54 (.int .i64 0) fun v55=>
 frame_Decode_j1 K v4 v9 v51 v55 h)
 (frame_Decode_j1 K v4 v9 v51 (.tuple []) h)
def frame_Decode_j3 (K : Nat) (v4 v6 : EV) (h : AHeap) : R:=
 andE (codec_New K v6 h) fun v22 h=>
 andE (codec_Reader_Num K v22 (.int .i64 1) h) fun v24 h=>
 buildE (nthPR [(0,1),(1,1),(2,1),(3,1),(4,1),(5,44)]) (List.replicate 5 (.int .i64 0) ++ List.replicate 44 (.int .u8 0)) [(0,v24)] fun v25=>
 newE (.cells (List.replicate 5 (.int .i64 0) ++ List.replicate 44 (.int .u8 0)) 120) h fun v9 h=>
 stE 49 v9 v25 h fun h=>
 andE (codec_Reader_Num K v22 (.int .i64 1) h) fun v27 h=>
 andE (codec_Reader_Num K v22 (.int .i64 2) h) fun v29 h=>
 andE (codec_Reader_Num K v22 (.int .i64 2) h) fun v31 h=>
 andE (codec_Reader_Num K v22 (.int .i64 4) h) fun v33 h=>
 andE (codec_Reader_Num K v22 (.int .i64 6) h) fun v35 h=>
 offE 1 v9 fun v36=>
 stE 1 v36 v29 h fun h=>
 offE 2 v9 fun v37=>
 stE 1 v37 v31 h fun h=>
 offE 3 v9 fun v38=>
 stE 1 v38 v33 h fun h=>
 offE 4 v9 fun v39=>
 stE 1 v39 v35 h fun h=>
 drawE h fun base s=>
 offE 5 v9 fun v40=>
 sliAE 44 1 v40 none none none fun v41=>
 bigE 3 4 s h (fun h=>(codec_Reader_Bytes K v22 (.int .i64 44) h)) fun v43 h s=>
 bigE 4 15 s h (fun h=>(builtin TT .copy #[174,174] [v41,v43] h)) fun v44 h s=>
 intE gNeq (bin TT .neq 3) v27 (.int .i64 1) fun v46=>
 cnd (wantE v46 false)
 (ldNE 49 v9 h fun v48=>
 andE (frame_Frame_Right K v48 h) fun v49 h=>
 notE v49 fun v50=>
 frame_Decode_j2 K v4 v22 v9 v46 v50 h)
 (frame_Decode_j2 K v4 v22 v9 v46 (.tuple []) h)
def frame_Decode (K : Nat) (v0 v1 : EV) (h : AHeap) : R:=
 boxE 72 v0 h fun v2 h=>
 boxE 103 v1 h fun v3 h=>
 newE (.cells (List.replicate 5 (.int .i64 0) ++ List.replicate 44 (.int .u8 0)) 120) h fun v4 h=>
 drawE h fun base s=>
 loadE 0 0 base v2 s fun s=>ldNE 256 v2 h fun v12=>
 sliAE 64 1 v3 none none none fun v13=>
 bigE 2 3 s h (fun h=>(crc_Table_Open K v12 v13 h)) fun v14 h s=>
 extrE 0 v14 fun v15=>
 extrE 1 v14 fun v16=>
 intE gNeq (bin TT .neq 28) v16 (.int .i64 0) fun v18=>
 ifE v18
 (buildE (nthPR [(0,1),(1,1),(2,1),(3,1),(4,1),(5,44)]) (List.replicate 5 (.int .i64 0) ++ List.replicate 44 (.int .u8 0)) [] fun v19=>
 stE 49 v4 v19 h fun h=>
 resE TT [.c v4 120,.v v16] h)
 (frame_Decode_j3 K v4 v15 h)
theorem frame_Decode_run (H : Agree disp) (hd : 5<=d) (v0 v1 : EV) (h : AHeap) : callC TT disp K d false 154 [v0,v1] h = frame_Decode K v0 v1 h:=
 runL (H.bare (by kernel_rfl)) hd (by kernel_rfl) (fun d hd=>(W2 (crc_Table_Open_run H (lq hd rfl)) (W1 (codec_Reader_Done_run H (lq hd rfl)) (W1 (codec_New_run H (lq hd rfl)) (W2 (codec_Reader_Num_run H (lq hd rfl)) (W2 (codec_Reader_Bytes_run H (lq hd rfl)) (W1 (frame_Frame_Right_run H (lq hd rfl)) rfl))))))) (fun d c r=>rfl) (fun d c r=>by kernel_rfl)
def plan_Drive_Append_j0 (c r : Caller) (K : Nat) (v8 v9 : EV) (h : AHeap) : R:=
 some (.tuple [v8,v9],h)
def plan_Drive_Append (c r : Caller) (K : Nat) (v0 v1 v2 : EV) (h : AHeap) : R:=
 boxE 103 v2 h fun v5 h=>
 andE (c 179 [v0,v1] h) fun v12 h=>
 drawE h fun base s=>
 nilE v0 fun v15=>
 offE 0 v15 fun v16=>
 loadE 3 7 base v16 s fun s=>ld1E v16 h fun v17=>
 loadE 5 0 base v5 s fun s=>ldNE 64 v5 h fun v19=>
 bigE 6 63 s h (fun h=>(zdev_Device_Append K v17 v1 v19 h)) fun v20 h s=>
 extrE 0 v20 fun v21=>
 extrE 1 v20 fun v22=>
 intE gEql (bin TT .eql 28) v22 (.int .i64 0) fun v24=>
 ifE v24
 (nilE v0 fun v26=>
 offE 3 v26 fun v27=>
 ld1E v27 h fun v28=>
 buildE (nthPR [(0,1),(1,1)]) [(.int .i64 0),(.int .i64 0)] [(0,v1),(1,v21)] fun v31=>
 andE (builtin TT .delete #[164,243] [v28,v31] h) fun _ h=>
 plan_Drive_Append_j0 c r K v21 v22 h)
 (plan_Drive_Append_j0 c r K v21 v22 h)
theorem plan_Drive_Append_run (H : Agree disp) (hd : 3<=d) (v0 v1 v2 : EV) (h : AHeap) : callC TT disp K (d + 1) false 164 [v0,v1,v2] h = plan_Drive_Append (callC TT disp K d false) (callC TT disp K d true) K v0 v1 v2 h:=
 runD (H.bare (by kernel_rfl)) (by kernel_rfl) (W3 (zdev_Device_Append_run H (lq hd rfl)) rfl) rfl (by kernel_rfl)
def plan_Drive_Finish (c r : Caller) (K : Nat) (v0 v1 : EV) (h : AHeap) : R:=
 andE (c 179 [v0,v1] h) fun v7 h=>
 nilE v0 fun v9=>
 offE 0 v9 fun v10=>
 ld1E v10 h fun v11=>
 andE (zdev_Device_Finish K v11 v1 h) fun v13 h=>
 some (v13,h)
theorem plan_Drive_Finish_run (H : Agree disp) (hd : 3<=d) (v0 v1 : EV) (h : AHeap) : callC TT disp K (d + 1) false 165 [v0,v1] h = plan_Drive_Finish (callC TT disp K d false) (callC TT disp K d true) K v0 v1 h:=
 runD (H.bare (by kernel_rfl)) (by kernel_rfl) (W2 (zdev_Device_Finish_run H (lq hd rfl)) rfl) rfl (by kernel_rfl)
def frame_Encode_j0 (K : Nat) (v2 v4 v7 : EV) (h : AHeap) : R:=
 ldNE 256 v2 h fun v40=>
 andE (crc_Table_Seal K v40 v7 h) fun v42 h=>
 s2apE 64 v42 fun v43=>
 ldNE 64 v43 h fun v44=>
 stE 64 v4 v44 h fun h=>
 resE TT [.c v4 103,.v (.int .i64 0)] h
def frame_Encode_j1 (K : Nat) (v2 v3 v4 : EV) (h : AHeap) : R:=
 newE (.cells [.nilslice,(.bool false)] 278) h fun v6 h=>
 offE 0 v3 fun v13=>
 ld1E v13 h fun v14=>
 andE (codec_Pen_Num K v6 (.int .i64 1) v14 h) fun v15 h=>
 andE (codec_Pen_Num K v6 (.int .i64 1) (.int .i64 1) h) fun v16 h=>
 offE 1 v3 fun v17=>
 ld1E v17 h fun v18=>
 andE (codec_Pen_Num K v6 (.int .i64 2) v18 h) fun v19 h=>
 offE 2 v3 fun v20=>
 ld1E v20 h fun v21=>
 andE (codec_Pen_Num K v6 (.int .i64 2) v21 h) fun v22 h=>
 offE 3 v3 fun v23=>
 ld1E v23 h fun v24=>
 andE (codec_Pen_Num K v6 (.int .i64 4) v24 h) fun v25 h=>
 offE 4 v3 fun v26=>
 ld1E v26 h fun v27=>
 andE (codec_Pen_Num K v6 (.int .i64 6) v27 h) fun v28 h=>
 offE 5 v3 fun v29=>
 sliAE 44 1 v29 none none none fun v30=>
 andE (codec_Pen_Bytes K v6 v30 h) fun v31 h=>
 andE (codec_Pen_Out K v6 h) fun v33 h=>
 extrE 0 v33 fun v34=>
 extrE 1 v33 fun v35=>
 intE gNeq (bin TT .neq 28) v35 (.int .i64 0) fun v37=>
 ifE v37
 (buildE (evenP 1) (List.replicate 64 (.int .u8 0)) [] fun v38=>
 stE 64 v4 v38 h fun h=>
 resE TT [.c v4 103,.v v35] h)
 (frame_Encode_j0 K v2 v4 v34 h)
def frame_Encode (K : Nat) (v0 v1 : EV) (h : AHeap) : R:=
 boxE 72 v0 h fun v2 h=>
 boxE 120 v1 h fun v3 h=>
 newE (.cells (List.replicate 64 (.int .u8 0)) 103) h fun v4 h=>
 ldNE 49 v3 h fun v9=>
 andE (frame_Frame_Right K v9 h) fun v10 h=>
 notE v10 fun v11=>
 ifE v11
 (buildE (evenP 1) (List.replicate 64 (.int .u8 0)) [] fun v12=>
 stE 64 v4 v12 h fun h=>
 resE TT [.c v4 103,.v (.int .i64 10)] h)
 (frame_Encode_j1 K v2 v3 v4 h)
theorem frame_Encode_run (H : Agree disp) (hd : 5<=d) (v0 v1 : EV) (h : AHeap) : callC TT disp K d false 177 [v0,v1] h = frame_Encode K v0 v1 h:=
 runL (H.bare (by kernel_rfl)) hd (by kernel_rfl) (fun d hd=>(W1 (frame_Frame_Right_run H (lq hd rfl)) (W2 (crc_Table_Seal_run H (lq hd rfl)) (W3 (codec_Pen_Num_run H (lq hd rfl)) (W2 (codec_Pen_Bytes_run H (lq hd rfl)) (W1 (codec_Pen_Out_run H (lq hd rfl)) rfl)))))) (fun d c r=>rfl) (fun d c r=>by kernel_rfl)
def mirror_Mirror_Place_j1 (c r : Caller) (K : Nat) (ih0_ : EV->EV->EV->EV->EV->AHeap->R) (v0 v2 v3 v5 v8 v13 : EV) (h : AHeap) : R:=
 andE (c 20 [v0,v13] h) fun v93 h=>
 intE gEql (bin TT .eql 28) v93 (.int .i64 34) fun v94=>
 ifE v94
 (buildE (nthPR [(0,1),(1,1),(2,1),(3,1),(4,1),(5,1)]) [(.int .i64 0),(.int .i64 0),(.int .i64 0),(.int .i64 0),(.int .i64 0),(.int .i64 0)] [] fun v95=>
 stE 6 v8 v95 h fun h=>
 resE TT [.c v8 83,.v (.int .i64 34)] h)
 (ih0_ v0 v2 v3 v5 v8 h)
def mirror_Mirror_Place_j2 (c r : Caller) (K : Nat) (ih0_ : EV->EV->EV->EV->EV->AHeap->R) (v0 v2 v3 v5 v8 v13 : EV) (h : AHeap) : R:=
 nilE v0 fun v80=>
 offE 266 v80 fun v81=>
 ld1E v81 h fun v82=>
 intE gEql (bin TT .eql 3) v13 v82 fun v83=>
 ifE v83
 (nilE v0 fun v85=>
 offE 267 v85 fun v86=>
 ld1E v86 h fun v87=>
 intE gAdd (bin TT .add 3) v87 (.int .i64 1) fun v88=>
 nilE v0 fun v89=>
 offE 267 v89 fun v90=>
 stE 1 v90 v88 h fun h=>
 mirror_Mirror_Place_j1 c r K ih0_ v0 v2 v3 v5 v8 v13 h)
 (mirror_Mirror_Place_j1 c r K ih0_ v0 v2 v3 v5 v8 v13 h)
def mirror_Mirror_Place_j3 (c r : Caller) (K : Nat) (ih0_ : EV->EV->EV->EV->EV->AHeap->R) (v0 v2 v3 v5 v8 : EV) (h : AHeap) : R:=
 ldNE 38 v5 h fun v35=>
 andE (c 81 [v0,v35,v2,v3] h) fun v38 h=>
 extrE 0 v38 fun v39=>
 extrE 1 v38 fun v40=>
 intE gEql (bin TT .eql 28) v40 (.int .i64 0) fun v43=>
 ifE v43
 (drawE h fun base s=>
 nilE v0 fun v45=>
 offE 265 v45 fun v46=>
 loadE 3 7 base v46 s fun s=>ld1E v46 h fun v47=>
 nilE v0 fun v49=>
 offE 266 v49 fun v50=>
 loadE 7 112 base v50 s fun s=>ld1E v50 h fun v51=>
 nilE v0 fun v53=>
 offE 267 v53 fun v54=>
 loadE 11 1792 base v54 s fun s=>ld1E v54 h fun v55=>
 nilE v0 fun v58=>
 offE 7 v58 fun v59=>
 loadE 16 57344 base v59 s fun s=>ldNE 256 v59 h fun v60=>
 offE 6 v5 fun v61=>
 sliAE 32 1 v61 none none none fun v62=>
 bigE 19 516096 s h (fun h=>(crc_Table_Sum K v60 v62 h)) fun v63 h s=>
 convE .i64 v63 fun v64=>
 buildE (nthPR [(0,1),(1,1),(2,1),(3,1),(4,1),(5,1)]) [(.int .i64 0),(.int .i64 0),(.int .i64 0),(.int .i64 0),(.int .i64 0),(.int .i64 0)] [(0,(.int .i64 1)),(1,v47),(2,v51),(3,v55),(4,v3),(5,v64)] fun v65=>
 newS 22 h s fun s=>newE (.cells [(.int .i64 0),(.int .i64 0),(.int .i64 0),(.int .i64 0),(.int .i64 0),(.int .i64 0)] 83) h fun v15 h=>
 stoE 23 8388607 v15 s fun s=>stE 6 v15 v65 h fun h=>
 nilE v0 fun v67=>
 offE 267 v67 fun v68=>
 ld1E v68 h fun v69=>
 intE gAdd (bin TT .add 3) v69 (.int .i64 1) fun v70=>
 nilE v0 fun v71=>
 offE 267 v71 fun v72=>
 stE 1 v72 v70 h fun h=>
 ldNE 6 v15 h fun v73=>
 stE 6 v8 v73 h fun h=>
 resE TT [.c v8 83,.v (.int .i64 0)] h)
 (intE gEql (bin TT .eql 28) v40 (.int .i64 34) fun v75=>
 ifE v75
 (buildE (nthPR [(0,1),(1,1),(2,1),(3,1),(4,1),(5,1)]) [(.int .i64 0),(.int .i64 0),(.int .i64 0),(.int .i64 0),(.int .i64 0),(.int .i64 0)] [] fun v76=>
 stE 6 v8 v76 h fun h=>
 resE TT [.c v8 83,.v v40] h)
 (mirror_Mirror_Place_j2 c r K ih0_ v0 v2 v3 v5 v8 v39 h))
def mirror_Mirror_Place_b4 (c r : Caller) (K : Nat) : Nat->EV->EV->EV->EV->EV->AHeap->R
 | 0=>fun _ _ _ _ _ _=>none
 | m + 1=>fun v0 v2 v3 v5 v8 h=>
  andE (c 80 [v0] h) fun v28 h=>
  intE gNeq (bin TT .neq 28) v28 (.int .i64 0) fun v30=>
  ifE v30
  (buildE (nthPR [(0,1),(1,1),(2,1),(3,1),(4,1),(5,1)]) [(.int .i64 0),(.int .i64 0),(.int .i64 0),(.int .i64 0),(.int .i64 0),(.int .i64 0)] [] fun v31=>
  stE 6 v8 v31 h fun h=>
  resE TT [.c v8 83,.v v28] h)
  (mirror_Mirror_Place_j3 c r K (mirror_Mirror_Place_b4 c r K m) v0 v2 v3 v5 v8 h)
def mirror_Mirror_Place_j5 (c r : Caller) (K : Nat) (v0 v2 v3 v5 v8 : EV) (h : AHeap) : R:=
 mirror_Mirror_Place_b4 c r K K v0 v2 v3 v5 v8 h
def mirror_Mirror_Place (c r : Caller) (K : Nat) (v0 v1 v2 v3 : EV) (h : AHeap) : R:=
 boxE 89 v1 h fun v5 h=>
 newE (.cells [(.int .i64 0),(.int .i64 0),(.int .i64 0),(.int .i64 0),(.int .i64 0),(.int .i64 0)] 83) h fun v8 h=>
 ldNE 38 v5 h fun v17=>
 andE (entry_Entry_Frame K v17 (.int .i64 0) (.int .i64 0) v2 v3 h) fun v20 h=>
 extrE 0 v20 fun v21=>
 extrE 1 v20 fun v22=>
 newE (.cells (List.replicate 5 (.int .i64 0) ++ List.replicate 44 (.int .u8 0)) 120) h fun v10 h=>
 stE 49 v10 v21 h fun h=>
 intE gNeq (bin TT .neq 28) v22 (.int .i64 0) fun v24=>
 ifE v24
 (buildE (nthPR [(0,1),(1,1),(2,1),(3,1),(4,1),(5,1)]) [(.int .i64 0),(.int .i64 0),(.int .i64 0),(.int .i64 0),(.int .i64 0),(.int .i64 0)] [] fun v25=>
 stE 6 v8 v25 h fun h=>
 resE TT [.c v8 83,.v v22] h)
 (mirror_Mirror_Place_j5 c r K v0 v2 v3 v5 v8 h)
abbrev mirror_Mirror_Place_c (K : Nat) (c : Caller) : Caller:=(w5 79 (entry_Entry_Frame K) (w2 82 (crc_Table_Sum K) c))
theorem mirror_Mirror_Place_b4_r (c r : Caller) (K : Nat) (m : Nat) : loopD (fun ih=>codeD TT (mirror_Mirror_Place_c K c) c r K (nOf TT 34) (retOf TT 34) (lbOf TT 34 [true,true,false]) [(0,retOf TT 34)] ih) m = fun ρ h=>mirror_Mirror_Place_b4 c r K m (ρ 0) (ρ 2) (ρ 3) (ρ 5) (ρ 8) h:=
 loopD_eq (E:=fun m ρ h=>mirror_Mirror_Place_b4 c r K m (ρ 0) (ρ 2) (ρ 3) (ρ 5) (ρ 8) h) rfl (fun m=>ext2 fun ρ h=>by
  show _ = mirror_Mirror_Place_b4 c r K (m + 1) (ρ 0) (ρ 2) (ρ 3) (ρ 5) (ρ 8) h
  rw [mirror_Mirror_Place_b4]; kernel_rfl) m
theorem mirror_Mirror_Place_run (H : Agree disp) (hd : 5<=d) (v0 v1 v2 v3 : EV) (h : AHeap) : callC TT disp K (d + 1) false 34 [v0,v1,v2,v3] h = mirror_Mirror_Place (callC TT disp K d false) (callC TT disp K d true) K v0 v1 v2 v3 h:=
 runD (H.bare (by kernel_rfl)) (by kernel_rfl) (W5 (entry_Entry_Frame_run H (lq hd rfl)) (W2 (crc_Table_Sum_run H (lq hd rfl)) rfl)) (cut [true,true,false] (mirror_Mirror_Place_b4_r (callC TT disp K d false) (callC TT disp K d true) K K) (by kernel_rfl) (by kernel_rfl) rfl) (by kernel_rfl)
def mirror_Mirror_Read_j0 (c r : Caller) (K : Nat) (v4 : EV) (h : AHeap) : R:=
 buildE (evenP 1) (List.replicate 32 (.int .u8 0)) [] fun v49=>
 stE 32 v4 v49 h fun h=>
 resE TT [.c v4 87,.v (.int .i64 41)] h
def mirror_Mirror_Read_j2 (c r : Caller) (K : Nat) (ih1_ : EV->EV->EV->EV->EV->AHeap->R) (v0 v3 v4 v26 v27 : EV) (h : AHeap) : R:=
 intE gAdd (bin TT .add 3) v27 (.int .i64 1) fun v48=>
 ih1_ v0 v3 v4 v26 v48 h
def mirror_Mirror_Read_j3 (c r : Caller) (K : Nat) (ih1_ : EV->EV->EV->EV->EV->AHeap->R) (v0 v3 v4 v8 v10 v26 v27 v42 v44 : EV) (h : AHeap) : R:=
 pickE v42 (.bool true) v44 fun v45=>
 ifE v45
 (ldNE 32 v8 h fun v46=>
 stE 32 v4 v46 h fun h=>
 resE TT [.c v4 87,.v v10] h)
 (mirror_Mirror_Read_j2 c r K ih1_ v0 v3 v4 v26 v27 h)
def mirror_Mirror_Read_j4 (c r : Caller) (K : Nat) (ih1_ : EV->EV->EV->EV->EV->AHeap->R) (v0 v3 v4 v26 v27 : EV) (h : AHeap) : R:=
 ixVE 2 2 true 2 v26 v27 fun v29=>
 newE (.cells [(.int .i64 0),(.int .i64 0)] 176) h fun v7 h=>
 stE 2 v7 v29 h fun h=>
 ldNE 6 v3 h fun v32=>
 ixAE 2 1 v7 (.int .i64 0) fun v33=>
 ld1E v33 h fun v34=>
 ixAE 2 1 v7 (.int .i64 1) fun v35=>
 ld1E v35 h fun v36=>
 andE (c 84 [v0,v32,v34,v36] h) fun v37 h=>
 extrE 0 v37 fun v38=>
 extrE 1 v37 fun v39=>
 extrE 2 v37 fun v40=>
 newE (.cells (List.replicate 32 (.int .u8 0)) 87) h fun v8 h=>
 stE 32 v8 v38 h fun h=>
 cnd (wantE v39 false)
 (intE gNeq (bin TT .neq 28) v40 (.int .i64 0) fun v44=>
 mirror_Mirror_Read_j3 c r K ih1_ v0 v3 v4 v8 v40 v26 v27 v39 v44 h)
 (mirror_Mirror_Read_j3 c r K ih1_ v0 v3 v4 v8 v40 v26 v27 v39 (.tuple []) h)
def mirror_Mirror_Read_b5 (c r : Caller) (K : Nat) : Nat->EV->EV->EV->EV->EV->AHeap->R
 | 0=>fun _ _ _ _ _ _=>none
 | m + 1=>fun v0 v3 v4 v26 v27 h=>
  intE gLss (bin TT .lss 3) v27 (.int .i64 2) fun v28=>
  ifE v28
  (mirror_Mirror_Read_j4 c r K (mirror_Mirror_Read_b5 c r K m) v0 v3 v4 v26 v27 h)
  (mirror_Mirror_Read_j0 c r K v4 h)
def mirror_Mirror_Read_j6 (c r : Caller) (K : Nat) (v0 v3 v4 : EV) (h : AHeap) : R:=
 offE 1 v3 fun v16=>
 ld1E v16 h fun v17=>
 offE 2 v3 fun v18=>
 ld1E v18 h fun v19=>
 buildE (evenP 1) [(.int .i64 0),(.int .i64 0)] [(0,v17),(1,v19)] fun v20=>
 offE 2 v3 fun v21=>
 ld1E v21 h fun v22=>
 offE 1 v3 fun v23=>
 ld1E v23 h fun v24=>
 buildE (evenP 1) [(.int .i64 0),(.int .i64 0)] [(0,v22),(1,v24)] fun v25=>
 buildE (evenP 2) [(.int .i64 0),(.int .i64 0),(.int .i64 0),(.int .i64 0)] [(0,v20),(1,v25)] fun v26=>
 mirror_Mirror_Read_b5 c r K K v0 v3 v4 v26 (.int .i64 0) h
def mirror_Mirror_Read (c r : Caller) (K : Nat) (v0 v1 : EV) (h : AHeap) : R:=
 boxE 83 v1 h fun v3 h=>
 newE (.cells (List.replicate 32 (.int .u8 0)) 87) h fun v4 h=>
 ldNE 6 v3 h fun v12=>
 andE (mirror_Mirror_lives K v0 v12 h) fun v13 h=>
 notE v13 fun v14=>
 ifE v14
 (buildE (evenP 1) (List.replicate 32 (.int .u8 0)) [] fun v15=>
 stE 32 v4 v15 h fun h=>
 resE TT [.c v4 87,.v (.int .i64 10)] h)
 (mirror_Mirror_Read_j6 c r K v0 v3 v4 h)
abbrev mirror_Mirror_Read_c (K : Nat) (c : Caller) : Caller:=(w2 83 (mirror_Mirror_lives K) c)
theorem mirror_Mirror_Read_b5_r (c r : Caller) (K : Nat) (m : Nat) : loopD (fun ih=>codeD TT (mirror_Mirror_Read_c K c) c r K (nOf TT 35) (retOf TT 35) (lbOf TT 35 [true,true,false,true,false]) [(0,fun ρ h=>mirror_Mirror_Read_j0 c r K (ρ 4) h)] ih) m = fun ρ h=>mirror_Mirror_Read_b5 c r K m (ρ 0) (ρ 3) (ρ 4) (ρ 26) (ρ 27) h:=
 loopD_eq (E:=fun m ρ h=>mirror_Mirror_Read_b5 c r K m (ρ 0) (ρ 3) (ρ 4) (ρ 26) (ρ 27) h) rfl (fun m=>ext2 fun ρ h=>by
  show _ = mirror_Mirror_Read_b5 c r K (m + 1) (ρ 0) (ρ 3) (ρ 4) (ρ 26) (ρ 27) h
  rw [mirror_Mirror_Read_b5]; kernel_rfl) m
theorem mirror_Mirror_Read_run (H : Agree disp) (hd : 6<=d) (v0 v1 : EV) (h : AHeap) : callC TT disp K (d + 1) false 35 [v0,v1] h = mirror_Mirror_Read (callC TT disp K d false) (callC TT disp K d true) K v0 v1 h:=
 runD (H.bare (by kernel_rfl)) (by kernel_rfl) (W2 (mirror_Mirror_lives_run H (lq hd rfl)) rfl) (cut [true,true,false,true,false] (mirror_Mirror_Read_b5_r (callC TT disp K d false) (callC TT disp K d true) K K) (by kernel_rfl) (by kernel_rfl) rfl) (by kernel_rfl)
def frame_At_j0 (K : Nat) (v8 v10 : EV) (h : AHeap) : R:=
 ldNE 49 v10 h fun v33=>
 stE 49 v8 v33 h fun h=>
 resE TT [.c v8 120,.v (.int .i64 0)] h
def frame_At_j1 (K : Nat) (v8 v10 v26 v30 : EV) (h : AHeap) : R:=
 pickE v26 (.bool true) v30 fun v31=>
 ifE v31
 (buildE (nthPR [(0,1),(1,1),(2,1),(3,1),(4,1),(5,44)]) (List.replicate 5 (.int .i64 0) ++ List.replicate 44 (.int .u8 0)) [] fun v32=>
 stE 49 v8 v32 h fun h=>
 resE TT [.c v8 120,.v (.int .i64 12)] h)
 (frame_At_j0 K v8 v10 h)
def frame_At_j2 (K : Nat) (v2 v3 v8 v10 : EV) (h : AHeap) : R:=
 offE 1 v10 fun v22=>
 ld1E v22 h fun v23=>
 intE gNeq (bin TT .neq 3) v23 v2 fun v25=>
 cnd (wantE v25 false)
 (offE 2 v10 fun v27=>
 ld1E v27 h fun v28=>
 intE gNeq (bin TT .neq 3) v28 v3 fun v30=>
 frame_At_j1 K v8 v10 v25 v30 h)
 (frame_At_j1 K v8 v10 v25 (.tuple []) h)
def frame_At (K : Nat) (v0 v1 v2 v3 : EV) (h : AHeap) : R:=
 boxE 72 v0 h fun v4 h=>
 boxE 103 v1 h fun v5 h=>
 newE (.cells (List.replicate 5 (.int .i64 0) ++ List.replicate 44 (.int .u8 0)) 120) h fun v8 h=>
 ldNE 256 v4 h fun v13=>
 ldNE 64 v5 h fun v14=>
 andE (frame_Decode K v13 v14 h) fun v15 h=>
 extrE 0 v15 fun v16=>
 extrE 1 v15 fun v17=>
 newE (.cells (List.replicate 5 (.int .i64 0) ++ List.replicate 44 (.int .u8 0)) 120) h fun v10 h=>
 stE 49 v10 v16 h fun h=>
 intE gNeq (bin TT .neq 28) v17 (.int .i64 0) fun v19=>
 ifE v19
 (buildE (nthPR [(0,1),(1,1),(2,1),(3,1),(4,1),(5,44)]) (List.replicate 5 (.int .i64 0) ++ List.replicate 44 (.int .u8 0)) [] fun v20=>
 stE 49 v8 v20 h fun h=>
 resE TT [.c v8 120,.v v17] h)
 (frame_At_j2 K v2 v3 v8 v10 h)
theorem frame_At_run (H : Agree disp) (hd : 6<=d) (v0 v1 v2 v3 : EV) (h : AHeap) : callC TT disp K d false 108 [v0,v1,v2,v3] h = frame_At K v0 v1 v2 v3 h:=
 runL (H.bare (by kernel_rfl)) hd (by kernel_rfl) (fun d hd=>(W2 (frame_Decode_run H (lq hd rfl)) rfl)) (fun d c r=>rfl) (fun d c r=>by kernel_rfl)
def mirror_Mirror_put_j0 (c r : Caller) (K : Nat) (v14 : EV) (h : AHeap) : R:=
 some (v14,h)
def mirror_Mirror_put_j1 (c r : Caller) (K : Nat) (v14 v58 v64 : EV) (h : AHeap) : R:=
 pickE v58 v64 (.bool false) fun v65=>
 ifE v65
 (some ((.int .i64 30),h))
 (mirror_Mirror_put_j0 c r K v14 h)
def mirror_Mirror_put_j2 (c r : Caller) (K : Nat) (v0 v2 v15 : EV) (h : AHeap) : R:=
 drawE h fun base s=>
 nilE v0 fun v48=>
 offE 0 v48 fun v49=>
 loadE 3 7 base v49 s fun s=>ld1E v49 h fun v50=>
 loadE 5 0 base v15 s fun s=>ldNE 64 v15 h fun v52=>
 bigE 6 63 s h (fun h=>(c 164 [v50,v2,v52] h)) fun v53 h s=>
 extrE 0 v53 fun v54=>
 extrE 1 v53 fun v55=>
 intE gEql (bin TT .eql 28) v55 (.int .i64 0) fun v57=>
 cnd (wantE v57 true)
 (nilE v0 fun v61=>
 offE 267 v61 fun v62=>
 ld1E v62 h fun v63=>
 intE gNeq (bin TT .neq 3) v54 v63 fun v64=>
 mirror_Mirror_put_j1 c r K v55 v57 v64 h)
 (mirror_Mirror_put_j1 c r K v55 v57 (.tuple []) h)
def mirror_Mirror_put_j3 (c r : Caller) (K : Nat) (v0 v2 v13 : EV) (h : AHeap) : R:=
 drawE h fun base s=>
 nilE v0 fun v36=>
 offE 7 v36 fun v37=>
 loadE 3 7 base v37 s fun s=>ldNE 256 v37 h fun v38=>
 loadE 4 0 base v13 s fun s=>ldNE 49 v13 h fun v39=>
 bigE 5 31 s h (fun h=>(frame_Encode K v38 v39 h)) fun v40 h s=>
 extrE 0 v40 fun v41=>
 extrE 1 v40 fun v42=>
 newS 9 h s fun s=>newE (.cells (List.replicate 64 (.int .u8 0)) 103) h fun v15 h=>
 stoE 10 767 v15 s fun s=>stE 64 v15 v41 h fun h=>
 intE gNeq (bin TT .neq 28) v42 (.int .i64 0) fun v44=>
 ifE v44
 (some (v42,h))
 (mirror_Mirror_put_j2 c r K v0 v2 v15 h)
def mirror_Mirror_put (c r : Caller) (K : Nat) (v0 v1 v2 v3 v4 v5 : EV) (h : AHeap) : R:=
 boxE 89 v1 h fun v7 h=>
 offE 5 v7 fun v18=>
 stE 1 v18 v3 h fun h=>
 drawE h fun base s=>
 loadE 0 0 base v7 s fun s=>ldNE 38 v7 h fun v20=>
 nilE v0 fun v23=>
 offE 267 v23 fun v24=>
 loadE 5 28 base v24 s fun s=>ld1E v24 h fun v25=>
 bigE 8 255 s h (fun h=>(entry_Entry_Frame K v20 v2 v25 v4 v5 h)) fun v28 h s=>
 extrE 0 v28 fun v29=>
 extrE 1 v28 fun v30=>
 newS 12 h s fun s=>newE (.cells (List.replicate 5 (.int .i64 0) ++ List.replicate 44 (.int .u8 0)) 120) h fun v13 h=>
 stoE 13 6143 v13 s fun s=>stE 49 v13 v29 h fun h=>
 intE gNeq (bin TT .neq 28) v30 (.int .i64 0) fun v32=>
 ifE v32
 (some (v30,h))
 (mirror_Mirror_put_j3 c r K v0 v2 v13 h)
theorem mirror_Mirror_put_run (H : Agree disp) (hd : 5<=d) (v0 v1 v2 v3 v4 v5 : EV) (h : AHeap) : callC TT disp K (d + 1) false 131 [v0,v1,v2,v3,v4,v5] h = mirror_Mirror_put (callC TT disp K d false) (callC TT disp K d true) K v0 v1 v2 v3 v4 v5 h:=
 runD (H.bare (by kernel_rfl)) (by kernel_rfl) (W5 (entry_Entry_Frame_run H (lq hd rfl)) (W2 (frame_Encode_run H (lq hd rfl)) rfl)) rfl (by kernel_rfl)
def mirror_Mirror_copy_j0 (c r : Caller) (K : Nat) (v8 v14 : EV) (h : AHeap) : R:=
 offE 6 v14 fun v94=>
 ldNE 32 v94 h fun v95=>
 stE 32 v8 v95 h fun h=>
 resE TT [.c v8 87,.v (.bool true),.v (.int .i64 0)] h
def mirror_Mirror_copy_j1 (c r : Caller) (K : Nat) (base : Nat) (s : DX) (v8 v14 v80 v91 : EV) (h : AHeap) : R:=
 pickE v80 (.bool true) v91 fun v92=>
 ifE v92
 (buildE (evenP 1) (List.replicate 32 (.int .u8 0)) [] fun v93=>
 stE 32 v8 v93 h fun h=>
 resE TT [.c v8 87,.v (.bool false),.v (.int .i64 0)] h)
 (mirror_Mirror_copy_j0 c r K v8 v14 h)
def mirror_Mirror_copy_j2 (c r : Caller) (K : Nat) (base : Nat) (s : DX) (v0 v5 v8 v14 v74 v78 : EV) (h : AHeap) : R:=
 pickE v74 (.bool true) v78 fun v79=>
 cnd (wantE v79 false)
 (nilE v0 fun v82=>
 offE 7 v82 fun v83=>
 loadE 12 4095 base v83 s fun s=>ldNE 256 v83 h fun v84=>
 offE 6 v14 fun v85=>
 sliAE 32 1 v85 none none none fun v86=>
 bigE 15 32767 s h (fun h=>(crc_Table_Sum K v84 v86 h)) fun v87 h s=>
 convE .i64 v87 fun v88=>
 offE 5 v5 fun v89=>
 loadE 18 131583 base v89 s fun s=>ld1E v89 h fun v90=>
 intE gNeq (bin TT .neq 3) v88 v90 fun v91=>
 mirror_Mirror_copy_j1 c r K base s v8 v14 v79 v91 h)
 (mirror_Mirror_copy_j1 c r K base s v8 v14 v79 (.tuple []) h)
def mirror_Mirror_copy_j3 (c r : Caller) (K : Nat) (v0 v3 v5 v8 v13 : EV) (h : AHeap) : R:=
 ldNE 49 v13 h fun v68=>
 andE (entry_Read K v68 h) fun v69 h=>
 extrE 0 v69 fun v70=>
 extrE 1 v69 fun v71=>
 newE (.cells (List.replicate 6 (.int .i64 0) ++ List.replicate 32 (.int .u8 0)) 89) h fun v14 h=>
 stE 38 v14 v70 h fun h=>
 drawE h fun base s=>
 intE gNeq (bin TT .neq 28) v71 (.int .i64 0) fun v73=>
 cnd (wantE v73 false)
 (offE 5 v14 fun v75=>
 loadE 4 15 base v75 s fun s=>ld1E v75 h fun v76=>
 intE gNeq (bin TT .neq 3) v76 v3 fun v78=>
 mirror_Mirror_copy_j2 c r K base s v0 v5 v8 v14 v73 v78 h)
 (mirror_Mirror_copy_j2 c r K base s v0 v5 v8 v14 v73 (.tuple []) h)
def mirror_Mirror_copy_j4 (c r : Caller) (K : Nat) (v0 v3 v5 v8 v13 v59 v64 : EV) (h : AHeap) : R:=
 pickE v59 (.bool true) v64 fun v65=>
 ifE v65
 (buildE (evenP 1) (List.replicate 32 (.int .u8 0)) [] fun v66=>
 stE 32 v8 v66 h fun h=>
 resE TT [.c v8 87,.v (.bool false),.v (.int .i64 0)] h)
 (mirror_Mirror_copy_j3 c r K v0 v3 v5 v8 v13 h)
def mirror_Mirror_copy_j5 (c r : Caller) (K : Nat) (v0 v3 v5 v8 v13 v54 v57 : EV) (h : AHeap) : R:=
 pickE v54 (.bool true) v57 fun v58=>
 cnd (wantE v58 false)
 (offE 4 v13 fun v60=>
 ld1E v60 h fun v61=>
 offE 4 v5 fun v62=>
 ld1E v62 h fun v63=>
 intE gNeq (bin TT .neq 3) v61 v63 fun v64=>
 mirror_Mirror_copy_j4 c r K v0 v3 v5 v8 v13 v58 v64 h)
 (mirror_Mirror_copy_j4 c r K v0 v3 v5 v8 v13 v58 (.tuple []) h)
def mirror_Mirror_copy_j6 (c r : Caller) (K : Nat) (v0 v2 v3 v5 v8 v11 : EV) (h : AHeap) : R:=
 drawE h fun base s=>
 nilE v0 fun v42=>
 offE 7 v42 fun v43=>
 loadE 3 7 base v43 s fun s=>ldNE 256 v43 h fun v44=>
 loadE 4 0 base v11 s fun s=>ldNE 64 v11 h fun v45=>
 offE 3 v5 fun v47=>
 loadE 7 64 base v47 s fun s=>ld1E v47 h fun v48=>
 bigE 8 255 s h (fun h=>(frame_At K v44 v45 v2 v48 h)) fun v49 h s=>
 extrE 0 v49 fun v50=>
 extrE 1 v49 fun v51=>
 newS 12 h s fun s=>newE (.cells (List.replicate 5 (.int .i64 0) ++ List.replicate 44 (.int .u8 0)) 120) h fun v13 h=>
 stoE 13 6143 v13 s fun s=>stE 49 v13 v50 h fun h=>
 intE gNeq (bin TT .neq 28) v51 (.int .i64 0) fun v53=>
 cnd (wantE v53 false)
 (offE 0 v13 fun v55=>
 ld1E v55 h fun v56=>
 intE gEql (bin TT .eql 3) v56 (.int .i64 2) fun v57=>
 mirror_Mirror_copy_j5 c r K v0 v3 v5 v8 v13 v53 v57 h)
 (mirror_Mirror_copy_j5 c r K v0 v3 v5 v8 v13 v53 (.tuple []) h)
def mirror_Mirror_copy (c r : Caller) (K : Nat) (v0 v1 v2 v3 : EV) (h : AHeap) : R:=
 boxE 83 v1 h fun v5 h=>
 newE (.cells (List.replicate 32 (.int .u8 0)) 87) h fun v8 h=>
 drawE h fun base s=>
 nilE v0 fun v17=>
 offE 0 v17 fun v18=>
 loadE 3 7 base v18 s fun s=>ld1E v18 h fun v19=>
 offE 3 v5 fun v21=>
 loadE 6 32 base v21 s fun s=>ld1E v21 h fun v22=>
 bigE 7 127 s h (fun h=>(c 133 [v19,v2,v22] h)) fun v23 h s=>
 extrE 0 v23 fun v24=>
 extrE 1 v23 fun v25=>
 newS 11 h s fun s=>newE (.cells (List.replicate 64 (.int .u8 0)) 103) h fun v11 h=>
 stoE 12 3071 v11 s fun s=>stE 64 v11 v24 h fun h=>
 intE gEql (bin TT .eql 28) v25 (.int .i64 0) fun v29=>
 ifE v29
 (mirror_Mirror_copy_j6 c r K v0 v2 v3 v5 v8 v11 h)
 (intE gEql (bin TT .eql 28) v25 (.int .i64 34) fun v31=>
 ifE v31
 (buildE (evenP 1) (List.replicate 32 (.int .u8 0)) [] fun v32=>
 stE 32 v8 v32 h fun h=>
 resE TT [.c v8 87,.v (.bool false),.v v25] h)
 (intE gEql (bin TT .eql 28) v25 (.int .i64 32) fun v35=>
 ifE v35
 (buildE (evenP 1) (List.replicate 32 (.int .u8 0)) [] fun v36=>
 andE (c 134 [v0,v2] h) fun v39 h=>
 stE 32 v8 v36 h fun h=>
 resE TT [.c v8 87,.v (.bool false),.v v39] h)
 (buildE (evenP 1) (List.replicate 32 (.int .u8 0)) [] fun v27=>
 stE 32 v8 v27 h fun h=>
 resE TT [.c v8 87,.v (.bool false),.v (.int .i64 0)] h)))
theorem mirror_Mirror_copy_run (H : Agree disp) (hd : 6<=d) (v0 v1 v2 v3 : EV) (h : AHeap) : callC TT disp K (d + 1) false 84 [v0,v1,v2,v3] h = mirror_Mirror_copy (callC TT disp K d false) (callC TT disp K d true) K v0 v1 v2 v3 h:=
 runD (H.bare (by kernel_rfl)) (by kernel_rfl) (W2 (crc_Table_Sum_run H (lq hd rfl)) (W1 (entry_Read_run H (lq hd rfl)) (W4 (frame_At_run H (lq hd rfl)) rfl))) rfl (by kernel_rfl)
end
end Go.Ev
