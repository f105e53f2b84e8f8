import Derived.Test.YtpkcfamminlmaaaGreatDc
set_option linter.unusedVariables false
set_option linter.unusedSimpArgs false
set_option linter.unusedSectionVars false
namespace Go.Ev
open Go.Proofs
set_option maxRecDepth 100000
set_option maxHeartbeats 4000000
noncomputable section
variable {disp : Nat->Option FT} {K d : Nat}
def revetmentlaw14_MirrorTrims_j0 (c r : Caller) (K : Nat) (v64 v69 : EV) (h : AHeap) : R:=
 pickE v64 v69 (.bool false) fun v70=>
 some (v70,h)
def revetmentlaw14_MirrorTrims_j1 (c r : Caller) (K : Nat) (v9 v56 v62 : EV) (h : AHeap) : R:=
 pickE v56 (.bool true) v62 fun v63=>
 cnd (wantE v63 true)
 (andE (mirror_Mirror_Drive K v9 h) fun v66 h=>
 andE (plan_Drive_Device K v66 h) fun v67 h=>
 andE (zdev_Device_State K v67 (.int .i64 0) h) fun v68 h=>
 intE gEql (bin TT .eql 3) v68 (.int .i64 1) fun v69=>
 revetmentlaw14_MirrorTrims_j0 c r K v63 v69 h)
 (revetmentlaw14_MirrorTrims_j0 c r K v63 (.tuple []) h)
def revetmentlaw14_MirrorTrims_j2 (c r : Caller) (K : Nat) (v9 v56 v59 v61 : EV) (h : AHeap) : R:=
 cnd (wantE v56 false)
 (pickE v59 v61 (.bool false) fun v62=>
 revetmentlaw14_MirrorTrims_j1 c r K v9 v56 v62 h)
 (revetmentlaw14_MirrorTrims_j1 c r K v9 v56 (.tuple []) h)
def revetmentlaw14_MirrorTrims_j3 (c r : Caller) (K : Nat) (v9 v15 v56 v59 : EV) (h : AHeap) : R:=
 cnd (wantE v59 true)
 (intE gEql (bin TT .eql 28) v15 (.int .i64 10) fun v61=>
 revetmentlaw14_MirrorTrims_j2 c r K v9 v56 v59 v61 h)
 (revetmentlaw14_MirrorTrims_j2 c r K v9 v56 v59 (.tuple []) h)
def revetmentlaw14_MirrorTrims_j4 (c r : Caller) (K : Nat) (v1 v9 v12 : EV) (h : AHeap) : R:=
 ldNE 6 v12 h fun v50=>
 andE (c 35 [v9,v50] h) fun v51 h=>
 extrE 0 v51 fun v52=>
 extrE 1 v51 fun v53=>
 newE (.cells (List.replicate 32 (.int .u8 0)) 87) h fun v14 h=>
 stE 32 v14 v52 h fun h=>
 intE gEql (bin TT .eql 28) v53 (.int .i64 41) fun v55=>
 cnd (wantE v55 false)
 (intE gLss (bin TT .lss 3) v1 (.int .i64 1) fun v58=>
 revetmentlaw14_MirrorTrims_j3 c r K v9 v53 v55 v58 h)
 (revetmentlaw14_MirrorTrims_j3 c r K v9 v53 v55 (.tuple []) h)
def revetmentlaw14_MirrorTrims_j5 (c r : Caller) (K : Nat) (v1 v2 v3 v4 v9 : EV) (h : AHeap) : R:=
 andE (mirror_Mirror_Pool K v9 h) fun v27 h=>
 andE (c 15 [v27,(.int .i64 0)] h) fun v28 h=>
 drawE h fun base s=>
 bigE 1 1 s h (fun h=>(mirror_Mirror_Pool K v9 h)) fun v30 h s=>
 offE 1 v4 fun v31=>
 loadE 3 4 base v31 s fun s=>ld1E v31 h fun v32=>
 bigE 4 15 s h (fun h=>(c 15 [v30,v32] h)) fun v33 h s=>
 buildE (nthPR [(0,1),(1,1),(2,1),(3,1),(4,1),(5,1),(6,32)]) (List.replicate 6 (.int .i64 0) ++ List.replicate 32 (.int .u8 0)) [(0,(.int .i64 2)),(1,v1),(2,(.int .i64 1)),(3,v2),(4,v3)] fun v39=>
 andE (c 34 [v9,v39,(.int .i64 1),v1] h) fun v41 h=>
 extrE 0 v41 fun v42=>
 extrE 1 v41 fun v43=>
 newE (.cells [(.int .i64 0),(.int .i64 0),(.int .i64 0),(.int .i64 0),(.int .i64 0),(.int .i64 0)] 83) h fun v12 h=>
 stE 6 v12 v42 h fun h=>
 intE gNeq (bin TT .neq 28) v43 (.int .i64 0) fun v45=>
 ifE v45
 (intE gEql (bin TT .eql 28) v43 (.int .i64 10) fun v47=>
 some (v47,h))
 (revetmentlaw14_MirrorTrims_j4 c r K v1 v9 v12 h)
def revetmentlaw14_MirrorTrims_j6 (c r : Caller) (K : Nat) (v1 v2 v3 v4 : EV) (h : AHeap) : R:=
 ldNE 6 v4 h fun v19=>
 andE (revetmentlaw14_started K v19 h) fun v20 h=>
 extrE 0 v20 fun v21=>
 extrE 1 v20 fun v22=>
 extrE 2 v20 fun v23=>
 newE (.cells ([.nilslice] ++ List.replicate 3 (.int .i64 0) ++ [(.bool false)] ++ List.replicate 2 .nilslice ++ List.replicate 8 (.int .i64 0) ++ List.replicate 2 .nilslice ++ List.replicate 3 (.int .i64 0)) 42) h fun v10 h=>
 stE 20 v10 v22 h fun h=>
 notE v23 fun v25=>
 ifE v25
 (some ((.bool true),h))
 (revetmentlaw14_MirrorTrims_j5 c r K v1 v2 v3 v4 v21 h)
def revetmentlaw14_MirrorTrims (c r : Caller) (K : Nat) (v0 v1 v2 v3 : EV) (h : AHeap) : R:=
 boxE 23 v0 h fun v4 h=>
 andE (c 23 [] h) fun v16 h=>
 notE v16 fun v17=>
 ifE v17
 (some ((.bool false),h))
 (revetmentlaw14_MirrorTrims_j6 c r K v1 v2 v3 v4 h)
theorem revetmentlaw14_MirrorTrims_run (H : Agree disp) (hd : 6<=d) (v0 v1 v2 v3 : EV) (h : AHeap) : callC TT disp K (d + 1) false 6 [v0,v1,v2,v3] h = revetmentlaw14_MirrorTrims (callC TT disp K d false) (callC TT disp K d true) K v0 v1 v2 v3 h:=
 runD (H.bare (by kernel_rfl)) (by kernel_rfl) (W1 (mirror_Mirror_Drive_run H (lq hd rfl)) (W1 (plan_Drive_Device_run H (lq hd rfl)) (W2 (zdev_Device_State_run H (lq hd rfl)) (W1 (mirror_Mirror_Pool_run H (lq hd rfl)) (W1 (revetmentlaw14_started_run H (lq hd rfl)) rfl))))) rfl (by kernel_rfl)
end
end Go.Ev
