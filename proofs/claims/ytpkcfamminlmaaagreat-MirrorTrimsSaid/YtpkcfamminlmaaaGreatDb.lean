import Derived.Test.YtpkcfamminlmaaaGreatDa
set_option linter.unusedVariables false
set_option linter.unusedSimpArgs false
set_option linter.unusedSectionVars false
namespace Go.Ev
open Go.Proofs
set_option maxRecDepth 100000
set_option maxHeartbeats 4000000
noncomputable section
variable {disp : Nat->Option FT} {K d : Nat}
def queue_Queue_Put (K : Nat) (v0 v1 : EV) (h : AHeap) : R:=
 nilE v0 fun v6=>
 offE 0 v6 fun v7=>
 ld1E v7 h fun v8=>
 andE (sendE v8 v1 h) fun v10 h=>
 extrE 0 v10 fun v11=>
 intE gEql (bin TT .eql 3) v11 (.int .i64 0) fun v12=>
 ifE v12
 (some ((.int .i64 0),h))
 (some ((.int .i64 17),h))
theorem queue_Queue_Put_run (H : Agree disp) (hd : 1<=d) (v0 v1 : EV) (h : AHeap) : callC TT disp K d false 61 [v0,v1] h = queue_Queue_Put K v0 v1 h:=
 runL (H.bare (by kernel_rfl)) hd (by kernel_rfl) (fun d hd=>rfl) (fun d c r=>rfl) (fun d c r=>by kernel_rfl)
def pool_Pool_All (K : Nat) (v0 : EV) (h : AHeap) : R:=
 boxE 49 v0 h fun v1 h=>
 some ((.func 149 [] [v1]),h)
theorem pool_Pool_All_run (H : Agree disp) (hd : 1<=d) (v0 : EV) (h : AHeap) : callC TT disp K d false 105 [v0] h = pool_Pool_All K v0 h:=
 runL (H.bare (by kernel_rfl)) hd (by kernel_rfl) (fun d hd=>rfl) (fun d c r=>rfl) (fun d c r=>by kernel_rfl)
def pool_Pool_Drop_1 (K : Nat) (v0 v1 : EV) (h : AHeap) : R:=
 ld1E v1 h fun v5=>
 intE gNeq (bin TT .neq 3) v0 v5 fun v6=>
 some (v6,h)
theorem pool_Pool_Drop_1_run (H : Agree disp) (hd : 1<=d) (v0 v1 : EV) (h : AHeap) : callC TT disp K d false 122 [v0,v1] h = pool_Pool_Drop_1 K v0 v1 h:=
 runL (H.bare (by kernel_rfl)) hd (by kernel_rfl) (fun d hd=>rfl) (fun d c r=>rfl) (fun d c r=>by kernel_rfl)
def queue_Queue_All (K : Nat) (v0 : EV) (h : AHeap) : R:=
 boxE 153 v0 h fun v1 h=>
 some ((.func 190 [] [v1]),h)
theorem queue_Queue_All_run (H : Agree disp) (hd : 1<=d) (v0 : EV) (h : AHeap) : callC TT disp K d false 150 [v0] h = queue_Queue_All K v0 h:=
 runL (H.bare (by kernel_rfl)) hd (by kernel_rfl) (fun d hd=>rfl) (fun d c r=>rfl) (fun d c r=>by kernel_rfl)
def queue_Queue_Take (K : Nat) (v0 : EV) (h : AHeap) : R:=
 nilE v0 fun v7=>
 offE 0 v7 fun v8=>
 ld1E v8 h fun v9=>
 andE (recvE (.int .i64 0) v9 h) fun v10 h=>
 extrE 0 v10 fun v11=>
 intE gEql (bin TT .eql 3) v11 (.int .i64 0) fun v12=>
 ifE v12
 (extrE 2 v10 fun v14=>
 some (.tuple [v14,(.int .i64 0)],h))
 (some (.tuple [(.int .i64 0),(.int .i64 15)],h))
theorem queue_Queue_Take_run (H : Agree disp) (hd : 1<=d) (v0 : EV) (h : AHeap) : callC TT disp K d false 171 [v0] h = queue_Queue_Take K v0 h:=
 runL (H.bare (by kernel_rfl)) hd (by kernel_rfl) (fun d hd=>rfl) (fun d c r=>rfl) (fun d c r=>by kernel_rfl)
def queue_Queue_list_j0 (K : Nat) (v3 : EV) (h : AHeap) : R:=
 some (v3,h)
def queue_Queue_list_j2 (K : Nat) (ih1_ : EV->EV->EV->EV->EV->AHeap->R) (v0 v3 v24 v25 v26 : EV) (h : AHeap) : R:=
 intE gAdd (bin TT .add 3) v26 (.int .i64 1) fun v33=>
 ih1_ v0 v3 v24 v25 v33 h
def queue_Queue_list_j3 (K : Nat) (ih1_ : EV->EV->EV->EV->EV->AHeap->R) (v0 v3 v24 v25 v26 : EV) (h : AHeap) : R:=
 ixSE 1 v24 v26 fun v28=>
 ld1E v28 h fun v29=>
 andE (queue_Queue_Put K v0 v29 h) fun v32 h=>
 queue_Queue_list_j2 K ih1_ v0 v3 v24 v25 v26 h
def queue_Queue_list_b4 (K : Nat) : Nat->EV->EV->EV->EV->EV->AHeap->R
 | 0=>fun _ _ _ _ _ _=>none
 | m + 1=>fun v0 v3 v24 v25 v26 h=>
  intE gLss (bin TT .lss 3) v26 v25 fun v27=>
  ifE v27
  (queue_Queue_list_j3 K (queue_Queue_list_b4 K m) v0 v3 v24 v25 v26 h)
  (queue_Queue_list_j0 K v3 h)
def queue_Queue_list_j5 (K : Nat) (v0 v3 : EV) (h : AHeap) : R:=
 lenE v3 fun v25=>
 queue_Queue_list_b4 K K v0 v3 v3 v25 (.int .i64 0) h
def queue_Queue_list_j7 (K : Nat) (ih6_ : EV->EV->EV->EV->AHeap->R) (v0 v3 v9 v10 : EV) (h : AHeap) : R:=
 intE gAdd (bin TT .add 3) v10 (.int .i64 1) fun v23=>
 ih6_ v0 v3 v9 v23 h
def queue_Queue_list_j8 (K : Nat) (ih6_ : EV->EV->EV->EV->AHeap->R) (v0 v3 v9 v10 : EV) (h : AHeap) : R:=
 andE (queue_Queue_Take K v0 h) fun v14 h=>
 extrE 0 v14 fun v15=>
 extrE 1 v14 fun v16=>
 intE gEql (bin TT .eql 28) v16 (.int .i64 0) fun v18=>
 ifE v18
 (andE (buildSliceE [(.int .i64 0)] 3 1 1 [(0,v15)] h) fun v21 h=>
 andE (appendF 3 1 v3 v21 h) fun v22 h=>
 queue_Queue_list_j7 K ih6_ v0 v22 v9 v10 h)
 (queue_Queue_list_j7 K ih6_ v0 v3 v9 v10 h)
def queue_Queue_list_b9 (K : Nat) : Nat->EV->EV->EV->EV->AHeap->R
 | 0=>fun _ _ _ _ _=>none
 | m + 1=>fun v0 v3 v9 v10 h=>
  intE gLss (bin TT .lss 3) v10 v9 fun v11=>
  ifE v11
  (queue_Queue_list_j8 K (queue_Queue_list_b9 K m) v0 v3 v9 v10 h)
  (queue_Queue_list_j5 K v0 v3 h)
def queue_Queue_list (K : Nat) (v0 : EV) (h : AHeap) : R:=
 andE (queue_Queue_Len K v0 h) fun v9 h=>
 queue_Queue_list_b9 K K v0 .nilslice v9 (.int .i64 0) h
abbrev queue_Queue_list_c (K : Nat) (c : Caller) : Caller:=(w1 71 (queue_Queue_Len K) (w2 61 (queue_Queue_Put K) (w1 171 (queue_Queue_Take K) c)))
theorem queue_Queue_list_b4_r (c c' r : Caller) (K : Nat) (m : Nat) : loopD (fun ih=>codeD TT (queue_Queue_list_c K c) c' r K (nOf TT 191) (retOf TT 191) (lbOf TT 191 [true,true,true,false,true,false]) [(2,fun ρ h=>queue_Queue_list_j0 K (ρ 3) h)] ih) m = fun ρ h=>queue_Queue_list_b4 K m (ρ 0) (ρ 3) (ρ 24) (ρ 25) (ρ 26) h:=
 loopD_eq (E:=fun m ρ h=>queue_Queue_list_b4 K m (ρ 0) (ρ 3) (ρ 24) (ρ 25) (ρ 26) h) rfl (fun m=>ext2 fun ρ h=>by
  show _ = queue_Queue_list_b4 K (m + 1) (ρ 0) (ρ 3) (ρ 24) (ρ 25) (ρ 26) h
  rw [queue_Queue_list_b4]; kernel_rfl) m
theorem queue_Queue_list_b9_r (c c' r : Caller) (K : Nat) (m : Nat) : loopD (fun ih=>codeD TT (queue_Queue_list_c K c) c' r K (nOf TT 191) (retOf TT 191) (lbOf TT 191 [true,true,false,true,false]) [(0,fun ρ h=>queue_Queue_list_j5 K (ρ 0) (ρ 3) h)] ih) m = fun ρ h=>queue_Queue_list_b9 K m (ρ 0) (ρ 3) (ρ 9) (ρ 10) h:=
 loopD_eq (E:=fun m ρ h=>queue_Queue_list_b9 K m (ρ 0) (ρ 3) (ρ 9) (ρ 10) h) rfl (fun m=>ext2 fun ρ h=>by
  show _ = queue_Queue_list_b9 K (m + 1) (ρ 0) (ρ 3) (ρ 9) (ρ 10) h
  rw [queue_Queue_list_b9]; kernel_rfl) m
theorem queue_Queue_list_run (H : Agree disp) (hd : 2<=d) (v0 : EV) (h : AHeap) : callC TT disp K d false 191 [v0] h = queue_Queue_list K v0 h:=
 runL (H.bare (by kernel_rfl)) hd (by kernel_rfl) (fun d hd=>(W1 (queue_Queue_Len_run H (lq hd rfl)) (W2 (queue_Queue_Put_run H (lq hd rfl)) (W1 (queue_Queue_Take_run H (lq hd rfl)) rfl)))) (fun d c r=>(cut [true,true,true,false,true,false] (queue_Queue_list_b4_r (callC TT disp K d false) c r K K) (by kernel_rfl) (by kernel_rfl) (cut [true,true,false,true,false] (queue_Queue_list_b9_r (callC TT disp K d false) c r K K) (by kernel_rfl) (by kernel_rfl) rfl))) (fun d c r=>by kernel_rfl)
theorem pool_Pool_Has_rng0 : (rangeAt TT 49 0).1 = .tmp 8:=by kernel_rfl
def pool_Pool_Has_j0 (c r : Caller) (K : Nat) (tm : Tmps) (v4 : EV) (h : AHeap) (ds : List Nat) : R:=
 stE 1 v4 (.bool false) h fun h=>
 unwindF ds h fun h=>resE TT [.c v4 4] h
theorem pool_Pool_Has_j0_d (H : Agree disp) (hd : 1<=d) (tm : Tmps) (h : AHeap) (ds : List Nat) : F49j0 (callC TT disp K d false) (callC TT disp K d true) K tm h ds = pool_Pool_Has_j0 (callC TT disp K d false) (callC TT disp K d true) K tm (tmp tm 4) h ds:=by
 simp only [F49j0,pool_Pool_Has_j0,F49ret,dd,↓reduceIte,Nat.reduceEqDiff,Int.reduceOfNat,Int.reduceNegSucc,Nat.reduceAdd,tt0]
def pool_Pool_Has (c r : Caller) (K : Nat) (v0 v1 : EV) (h : AHeap) : R:=
 (fun (tm : Tmps) (ds : List Nat)=>
 boxE 3 v1 h fun v3 h=>
 newE (.cells [(.bool false)] 4) h fun v4 h=>
 andE (pool_Pool_All K v0 h) fun v8 h=>
 rangeE c TT 49 14 0 v8 ((((tm.put 3 (some v3)).put 4 (some v4)).put 7 (some v0)).put 8 (some v8)) h ds (fun h ds=>
 pool_Pool_Has_j0 c r K ((((tm.put 3 (some v3)).put 4 (some v4)).put 7 (some v0)).put 8 (some v8)) v4 h ds) (fun id h ds=>
 cnd (Nat.beq 0 id) (pool_Pool_Has_j0 c r K ((((tm.put 3 (some v3)).put 4 (some v4)).put 7 (some v0)).put 8 (some v8)) v4 h ds) (none)) (fun h ds=>
 unwindF ds h fun h=>resE TT [.c v4 4] h)) ((Tr.nil.put 0 (some v0)).put 1 (some v1)) []
theorem pool_Pool_Has_run (H : Agree disp) (hd : 1<=d) (v0 v1 : EV) (h : AHeap) : callC TT disp K (d + 1) false 49 [v0,v1] h = pool_Pool_Has (callC TT disp K d false) (callC TT disp K d true) K v0 v1 h:=by
 rw [callC_at ((H.plain 49 rfl).trans (show disp3 49 = some F49 by kernel_rfl))]
 unfold F49
 rw [funC_at (by simp)]
 simp only [pool_Pool_Has,F49ret,dd,↓reduceIte,Nat.reduceEqDiff,Int.reduceOfNat,Int.reduceNegSucc,Nat.reduceAdd,pool_Pool_Has_j0_d H hd,pool_Pool_All_run H (lq hd rfl),tt0,rangeS_e pool_Pool_Has_rng0,rangeS_in pool_Pool_Has_rng0,evalO_tmp',evalO_func,envC_cons,envC_nil]
def pool_Pool_Has_r0body (c r : Caller) (K : Nat) (l : Nat) (v3 : EV) (v4 : EV) (v6 : EV) (h : AHeap) : R:=
 ld1E v3 h fun v12=>
 intE gEql (bin TT .eql 3) v6 v12 fun v13=>
 ifE v13
 (stE 1 v4 (.bool true) h fun h=>
 endE l false .done (some .ret) h)
 (endE l true .ready none h)
theorem pool_Pool_Has_r0body_d (H : Agree disp) (hd : 1<=d) {l : Nat} (tm : Tmps) (h : AHeap) : F49r0body (callC TT disp K d false) (callC TT disp K d true) K l tm h [] = pool_Pool_Has_r0body (callC TT disp K d false) (callC TT disp K d true) K l (tmp tm 3) (tmp tm 4) (tmp tm 6) h:=by
 simp only [F49r0body,pool_Pool_Has_r0body,dd,↓reduceIte,Nat.reduceEqDiff,Int.reduceOfNat,Int.reduceNegSucc,Nat.reduceAdd,tt0]
def pool_Pool_Has_r0 (c r : Caller) (K : Nat) (l : Nat) (v3 : EV) (v4 : EV) (v10 : EV) (h : AHeap) : R:=
 beginE l h fun h=>pool_Pool_Has_r0body c r K l v3 v4 v10 h
theorem pool_Pool_Has_r0_d (H : Agree disp) (hd : 1<=d) {l : Nat} (tm : Tmps) (h : AHeap) : F49r0 (callC TT disp K d false) (callC TT disp K d true) K l tm h [] = pool_Pool_Has_r0 (callC TT disp K d false) (callC TT disp K d true) K l (tmp tm 3) (tmp tm 4) (tmp tm 10) h:=by
 simp only [F49r0,pool_Pool_Has_r0,dd,↓reduceIte,Nat.reduceEqDiff,Int.reduceOfNat,Int.reduceNegSucc,Nat.reduceAdd,pool_Pool_Has_r0body_d H hd,tt0]
theorem pool_Pool_Has_r0_run (H : Agree disp) (hd : 1<=d) {l : Nat} (tm : Tmps) (h : AHeap) (x9 : EV) (x10 : EV) {st : LoopState} {p : Option Code} {d0 : Nat} (hg : h.get l = some (.loop st p 49 14 tm [9,10] (rangeAt TT 49 0).2.2.1 (rangeAt TT 49 0).2.2.2 d0)) :
 callC TT disp K (d + 1) true l [x9,x10] h = pool_Pool_Has_r0 (callC TT disp K d false) (callC TT disp K d true) K l (tmp tm 3) (tmp tm 4) x10 h:=by
 rw [callC_round,roundF_run hg (show setParams [9,10] [x9,x10] 14 tm = some ((tm.put 9 (some x9)).put 10 (some x10)) from rfl),F49r0_eq,pool_Pool_Has_r0_d H hd]
 simp only [dd,↓reduceIte,Nat.reduceEqDiff,Int.reduceOfNat,Int.reduceNegSucc,Nat.reduceAdd]
def geom_Geom_Domain_j0 (K : Nat) (v1 v2 : EV) (h : AHeap) : R:=
 offE 1 v2 fun v14=>
 ld1E v14 h fun v15=>
 binE (bin TT .quo 3) v1 v15 fun v16=>
 some (v16,h)
def geom_Geom_Domain_j1 (K : Nat) (v1 v2 v7 v11 : EV) (h : AHeap) : R:=
 pickE v7 (.bool true) v11 fun v12=>
 ifE v12
 (some ((.int .i64 (-1)),h))
 (geom_Geom_Domain_j0 K v1 v2 h)
def geom_Geom_Domain (K : Nat) (v0 v1 : EV) (h : AHeap) : R:=
 boxE 23 v0 h fun v2 h=>
 intE gLss (bin TT .lss 3) v1 (.int .i64 0) fun v6=>
 cnd (wantE v6 false)
 (ldNE 6 v2 h fun v9=>
 andE (geom_Geom_All K v9 h) fun v10 h=>
 intE gGeq (bin TT .geq 3) v1 v10 fun v11=>
 geom_Geom_Domain_j1 K v1 v2 v6 v11 h)
 (geom_Geom_Domain_j1 K v1 v2 v6 (.tuple []) h)
theorem geom_Geom_Domain_run (H : Agree disp) (hd : 2<=d) (v0 v1 : EV) (h : AHeap) : callC TT disp K d false 60 [v0,v1] h = geom_Geom_Domain K v0 v1 h:=
 runL (H.bare (by kernel_rfl)) hd (by kernel_rfl) (fun d hd=>(W1 (geom_Geom_All_run H (lq hd rfl)) rfl)) (fun d c r=>rfl) (fun d c r=>by kernel_rfl)
def pool_Pool_Drop_j0 (c r : Caller) (K : Nat) (h : AHeap) : R:=
 some ((.int .i64 0),h)
def pool_Pool_Drop_j1 (c r : Caller) (K : Nat) (v14 v24 : EV) (h : AHeap) : R:=
 pickE v14 (.bool true) v24 fun v25=>
 ifE v25
 (some ((.int .i64 15),h))
 (pool_Pool_Drop_j0 c r K h)
def pool_Pool_Drop (c r : Caller) (K : Nat) (v0 v1 : EV) (h : AHeap) : R:=
 boxE 3 v1 h fun v3 h=>
 drawE h fun base s=>
 nilE v0 fun v7=>
 offE 0 v7 fun v8=>
 loadE 3 7 base v8 s fun s=>ldNE 6 v8 h fun v9=>
 loadE 4 0 base v3 s fun s=>ld1E v3 h fun v10=>
 bigE 5 31 s h (fun h=>(geom_Geom_Domain K v9 v10 h)) fun v11 h s=>
 intE gLss (bin TT .lss 3) v11 (.int .i64 0) fun v13=>
 cnd (wantE v13 false)
 (nilE v0 fun v16=>
 offE 6 v16 fun v17=>
 ld1E v17 h fun v18=>
 ixSE 1 v18 v11 fun v20=>
 ld1E v20 h fun v21=>
 andE (c 121 [v21,(.func 122 [] [v3])] h) fun v23 h=>
 intE gEql (bin TT .eql 3) v23 (.int .i64 0) fun v24=>
 pool_Pool_Drop_j1 c r K v13 v24 h)
 (pool_Pool_Drop_j1 c r K v13 (.tuple []) h)
theorem pool_Pool_Drop_run (H : Agree disp) (hd : 2<=d) (v0 v1 : EV) (h : AHeap) : callC TT disp K (d + 1) false 69 [v0,v1] h = pool_Pool_Drop (callC TT disp K d false) (callC TT disp K d true) K v0 v1 h:=
 runD (H.bare (by kernel_rfl)) (by kernel_rfl) (W2 (geom_Geom_Domain_run H (lq hd rfl)) rfl) rfl (by kernel_rfl)
def queue_Queue_Keep_j0 (c r : Caller) (K : Nat) (v5 : EV) (h : AHeap) : R:=
 some (v5,h)
def queue_Queue_Keep_j2 (c r : Caller) (K : Nat) (ih1_ : EV->EV->EV->EV->EV->AHeap->R) (v0 v1 v5 v9 v10 : EV) (h : AHeap) : R:=
 intE gAdd (bin TT .add 3) v10 (.int .i64 1) fun v28=>
 ih1_ v0 v1 v5 v9 v28 h
def queue_Queue_Keep_j3 (c r : Caller) (K : Nat) (ih1_ : EV->EV->EV->EV->EV->AHeap->R) (v0 v1 v5 v6 v9 v10 : EV) (h : AHeap) : R:=
 andE (queue_Queue_Put K v0 v6 h) fun v27 h=>
 queue_Queue_Keep_j2 c r K ih1_ v0 v1 v5 v9 v10 h
def queue_Queue_Keep_j4 (c r : Caller) (K : Nat) (ih1_ : EV->EV->EV->EV->EV->AHeap->R) (v0 v1 v5 v6 v9 v10 : EV) (h : AHeap) : R:=
 andE (callE c r v1 [v6] h) fun v21 h=>
 notE v21 fun v22=>
 ifE v22
 (intE gAdd (bin TT .add 3) v5 (.int .i64 1) fun v24=>
 queue_Queue_Keep_j2 c r K ih1_ v0 v1 v24 v9 v10 h)
 (queue_Queue_Keep_j3 c r K ih1_ v0 v1 v5 v6 v9 v10 h)
def queue_Queue_Keep_j5 (c r : Caller) (K : Nat) (ih1_ : EV->EV->EV->EV->EV->AHeap->R) (v0 v1 v5 v9 v10 : EV) (h : AHeap) : R:=
 andE (queue_Queue_Take K v0 h) fun v14 h=>
 extrE 0 v14 fun v15=>
 extrE 1 v14 fun v16=>
 intE gNeq (bin TT .neq 28) v16 (.int .i64 0) fun v18=>
 ifE v18
 (queue_Queue_Keep_j0 c r K v5 h)
 (queue_Queue_Keep_j4 c r K ih1_ v0 v1 v5 v15 v9 v10 h)
def queue_Queue_Keep_b6 (c r : Caller) (K : Nat) : Nat->EV->EV->EV->EV->EV->AHeap->R
 | 0=>fun _ _ _ _ _ _=>none
 | m + 1=>fun v0 v1 v5 v9 v10 h=>
  intE gLss (bin TT .lss 3) v10 v9 fun v11=>
  ifE v11
  (queue_Queue_Keep_j5 c r K (queue_Queue_Keep_b6 c r K m) v0 v1 v5 v9 v10 h)
  (queue_Queue_Keep_j0 c r K v5 h)
def queue_Queue_Keep (c r : Caller) (K : Nat) (v0 v1 : EV) (h : AHeap) : R:=
 andE (queue_Queue_Len K v0 h) fun v9 h=>
 queue_Queue_Keep_b6 c r K K v0 v1 (.int .i64 0) v9 (.int .i64 0) h
abbrev queue_Queue_Keep_c (K : Nat) (c : Caller) : Caller:=(w1 71 (queue_Queue_Len K) (w2 61 (queue_Queue_Put K) (w1 171 (queue_Queue_Take K) c)))
theorem queue_Queue_Keep_b6_r (c r : Caller) (K : Nat) (m : Nat) : loopD (fun ih=>codeD TT (queue_Queue_Keep_c K c) c r K (nOf TT 121) (retOf TT 121) (lbOf TT 121 [true,true,false,true,false]) [(0,fun ρ h=>queue_Queue_Keep_j0 c r K (ρ 5) h)] ih) m = fun ρ h=>queue_Queue_Keep_b6 c r K m (ρ 0) (ρ 1) (ρ 5) (ρ 9) (ρ 10) h:=
 loopD_eq (E:=fun m ρ h=>queue_Queue_Keep_b6 c r K m (ρ 0) (ρ 1) (ρ 5) (ρ 9) (ρ 10) h) rfl (fun m=>ext2 fun ρ h=>by
  show _ = queue_Queue_Keep_b6 c r K (m + 1) (ρ 0) (ρ 1) (ρ 5) (ρ 9) (ρ 10) h
  rw [queue_Queue_Keep_b6]; kernel_rfl) m
theorem queue_Queue_Keep_run (H : Agree disp) (hd : 1<=d) (v0 v1 : EV) (h : AHeap) : callC TT disp K (d + 1) false 121 [v0,v1] h = queue_Queue_Keep (callC TT disp K d false) (callC TT disp K d true) K v0 v1 h:=
 runD (H.bare (by kernel_rfl)) (by kernel_rfl) (W1 (queue_Queue_Len_run H (lq hd rfl)) (W2 (queue_Queue_Put_run H (lq hd rfl)) (W1 (queue_Queue_Take_run H (lq hd rfl)) rfl))) (cut [true,true,false,true,false] (queue_Queue_Keep_b6_r (callC TT disp K d false) (callC TT disp K d true) K K) (by kernel_rfl) (by kernel_rfl) rfl) (by kernel_rfl)
theorem pool_Pool_All_1_rng0 : (rangeAt TT 149 0).1 = .tmp 18:=by kernel_rfl
def pool_Pool_All_1_j1 (c r : Caller) (K : Nat) (ih0_ : Tmps->EV->EV->EV->AHeap->List Nat->R) (tm : Tmps) (v10 : EV) (v11 : EV) (v12 : EV) (h : AHeap) (ds : List Nat) : R:=
 intE gAdd (bin TT .add 3) v12 (.int .i64 1) fun v26=>
 ih0_ ((tm.put 26 (some v26)).put 12 (some v26)) v10 v11 v26 h ds
theorem pool_Pool_All_1_j1_d (H : Agree disp) (hd : 1<=d) {ih0_ : CF} {ih0_' : Tmps->EV->EV->EV->AHeap->List Nat->R} (hih0_ : ∀ tm h ds,ih0_ tm h ds = ih0_' tm (tmp tm 10) (tmp tm 11) (tmp tm 12) h ds) (tm : Tmps) (h : AHeap) (ds : List Nat) : F149j1 (callC TT disp K d false) (callC TT disp K d true) K ih0_ tm h ds = pool_Pool_All_1_j1 (callC TT disp K d false) (callC TT disp K d true) K ih0_' tm (tmp tm 10) (tmp tm 11) (tmp tm 12) h ds:=by
 simp only [F149j1,pool_Pool_All_1_j1,F149ret,dd,↓reduceIte,Nat.reduceEqDiff,Int.reduceOfNat,Int.reduceNegSucc,Nat.reduceAdd,hih0_,tt0]
def pool_Pool_All_1_j2 (c r : Caller) (K : Nat) (ih0_ : Tmps->EV->EV->EV->AHeap->List Nat->R) (tm : Tmps) (v10 : EV) (v11 : EV) (v12 : EV) (h : AHeap) (ds : List Nat) : R:=
 ixSE 1 v10 v12 fun v15=>
 ld1E v15 h fun v16=>
 newE (.cells [(.int .i64 0)] 3) h fun v3 h=>
 stE 1 v3 v12 h fun h=>
 andE (queue_Queue_All K v16 h) fun v18 h=>
 rangeE c TT 149 27 0 v18 (((((((tm.put 14 (some v12)).put 15 (some v15)).put 16 (some v16)).put 3 (some v3)).put 4 (some v16)).put 17 (some v16)).put 18 (some v18)) h ds (fun h ds=>
 pool_Pool_All_1_j1 c r K ih0_ (((((((tm.put 14 (some v12)).put 15 (some v15)).put 16 (some v16)).put 3 (some v3)).put 4 (some v16)).put 17 (some v16)).put 18 (some v18)) v10 v11 v12 h ds) (fun id h ds=>
 cnd (Nat.beq 2 id) (pool_Pool_All_1_j1 c r K ih0_ (((((((tm.put 14 (some v12)).put 15 (some v15)).put 16 (some v16)).put 3 (some v3)).put 4 (some v16)).put 17 (some v16)).put 18 (some v18)) v10 v11 v12 h ds) (cnd (Nat.beq 1 id) (pool_Pool_All_1_j1 c r K ih0_ (((((((tm.put 14 (some v12)).put 15 (some v15)).put 16 (some v16)).put 3 (some v3)).put 4 (some v16)).put 17 (some v16)).put 18 (some v18)) v10 v11 v12 h ds) (cnd (Nat.beq 0 id) (unwindF ds h fun h=>some (.tuple [],h)) (none)))) (fun h ds=>
 unwindF ds h fun h=>some (.tuple [],h))
theorem pool_Pool_All_1_j2_d (H : Agree disp) (hd : 1<=d) {ih0_ : CF} {ih0_' : Tmps->EV->EV->EV->AHeap->List Nat->R} (hih0_ : ∀ tm h ds,ih0_ tm h ds = ih0_' tm (tmp tm 10) (tmp tm 11) (tmp tm 12) h ds) (tm : Tmps) (h : AHeap) (ds : List Nat) : F149j2 (callC TT disp K d false) (callC TT disp K d true) K ih0_ tm h ds = pool_Pool_All_1_j2 (callC TT disp K d false) (callC TT disp K d true) K ih0_' tm (tmp tm 10) (tmp tm 11) (tmp tm 12) h ds:=by
 simp only [F149j2,pool_Pool_All_1_j2,F149ret,dd,↓reduceIte,Nat.reduceEqDiff,Int.reduceOfNat,Int.reduceNegSucc,Nat.reduceAdd,hih0_,pool_Pool_All_1_j1_d H hd hih0_,queue_Queue_All_run H (lq hd rfl),tt0,rangeS_e pool_Pool_All_1_rng0,rangeS_in pool_Pool_All_1_rng0,evalO_tmp',evalO_func,envC_cons,envC_nil]
def pool_Pool_All_1_b3 (c r : Caller) (K : Nat) : Nat->Tmps->EV->EV->EV->AHeap->List Nat->R
 | 0=>fun _ _ _ _ _ _=>none
 | m + 1=>fun tm v10 v11 v12 h ds=>
  intE gLss (bin TT .lss 3) v12 v11 fun v13=>
  ifE v13
  (pool_Pool_All_1_j2 c r K (pool_Pool_All_1_b3 c r K m) (tm.put 13 (some v13)) v10 v11 v12 h ds)
  (unwindF ds h fun h=>some (.tuple [],h))
theorem pool_Pool_All_1_b3_d (H : Agree disp) (hd : 1<=d) : ∀ (m : Nat) (tm : Tmps) (h : AHeap) (ds : List Nat),loopC (F149b3 (callC TT disp K d false) (callC TT disp K d true) K) m tm h ds = pool_Pool_All_1_b3 (callC TT disp K d false) (callC TT disp K d true) K m tm (tmp tm 10) (tmp tm 11) (tmp tm 12) h ds:=by
 intro m
 induction m with
 | zero=>intros; rfl
 | succ m hih0_=>
  intro tm h ds
  rw [loopC_succ]
  simp only [F149b3,pool_Pool_All_1_b3,F149ret,dd,↓reduceIte,Nat.reduceEqDiff,Int.reduceOfNat,Int.reduceNegSucc,Nat.reduceAdd,hih0_,pool_Pool_All_1_j2_d H hd hih0_,tt0]
def pool_Pool_All_1 (c r : Caller) (K : Nat) (v0 v1 : EV) (h : AHeap) : R:=
 (fun (tm : Tmps) (ds : List Nat)=>
 boxE 142 v0 h fun v2 h=>
 ld1E v1 h fun v7=>
 nilE v7 fun v8=>
 offE 6 v8 fun v9=>
 ld1E v9 h fun v10=>
 lenE v10 fun v11=>
 pool_Pool_All_1_b3 c r K K (((((((tm.put 2 (some v2)).put 7 (some v7)).put 8 (some v8)).put 9 (some v9)).put 10 (some v10)).put 11 (some v11)).put 12 (some (.int .i64 0))) v10 v11 (.int .i64 0) h ds) ((Tr.nil.put 0 (some v0)).put 1 (some v1)) []
theorem pool_Pool_All_1_run (H : Agree disp) (hd : 1<=d) (v0 v1 : EV) (h : AHeap) : callC TT disp K (d + 1) false 149 [v0,v1] h = pool_Pool_All_1 (callC TT disp K d false) (callC TT disp K d true) K v0 v1 h:=by
 rw [callC_at ((H.plain 149 rfl).trans (show disp3 149 = some F149 by kernel_rfl))]
 unfold F149
 rw [funC_at (by simp)]
 simp only [pool_Pool_All_1,F149ret,dd,↓reduceIte,Nat.reduceEqDiff,Int.reduceOfNat,Int.reduceNegSucc,Nat.reduceAdd,pool_Pool_All_1_b3_d H hd,tt0]
def pool_Pool_All_1_r0body (c r : Caller) (K : Nat) (l : Nat) (v2 : EV) (v3 : EV) (v6 : EV) (h : AHeap) : R:=
 ld1E v2 h fun v21=>
 ld1E v3 h fun v22=>
 andE (callE c r v21 [v22,v6] h) fun v24 h=>
 notE v24 fun v25=>
 ifE v25
 (endE l false .done (some .ret) h)
 (endE l true .ready none h)
theorem pool_Pool_All_1_r0body_d (H : Agree disp) (hd : 1<=d) {l : Nat} (tm : Tmps) (h : AHeap) : F149r0body (callC TT disp K d false) (callC TT disp K d true) K l tm h [] = pool_Pool_All_1_r0body (callC TT disp K d false) (callC TT disp K d true) K l (tmp tm 2) (tmp tm 3) (tmp tm 6) h:=by
 simp only [F149r0body,pool_Pool_All_1_r0body,dd,↓reduceIte,Nat.reduceEqDiff,Int.reduceOfNat,Int.reduceNegSucc,Nat.reduceAdd,tt0]
def pool_Pool_All_1_r0 (c r : Caller) (K : Nat) (l : Nat) (v2 : EV) (v3 : EV) (v20 : EV) (h : AHeap) : R:=
 beginE l h fun h=>pool_Pool_All_1_r0body c r K l v2 v3 v20 h
theorem pool_Pool_All_1_r0_d (H : Agree disp) (hd : 1<=d) {l : Nat} (tm : Tmps) (h : AHeap) : F149r0 (callC TT disp K d false) (callC TT disp K d true) K l tm h [] = pool_Pool_All_1_r0 (callC TT disp K d false) (callC TT disp K d true) K l (tmp tm 2) (tmp tm 3) (tmp tm 20) h:=by
 simp only [F149r0,pool_Pool_All_1_r0,dd,↓reduceIte,Nat.reduceEqDiff,Int.reduceOfNat,Int.reduceNegSucc,Nat.reduceAdd,pool_Pool_All_1_r0body_d H hd,tt0]
theorem pool_Pool_All_1_r0_run (H : Agree disp) (hd : 1<=d) {l : Nat} (tm : Tmps) (h : AHeap) (x19 : EV) (x20 : EV) {st : LoopState} {p : Option Code} {d0 : Nat} (hg : h.get l = some (.loop st p 149 27 tm [19,20] (rangeAt TT 149 0).2.2.1 (rangeAt TT 149 0).2.2.2 d0)) :
 callC TT disp K (d + 1) true l [x19,x20] h = pool_Pool_All_1_r0 (callC TT disp K d false) (callC TT disp K d true) K l (tmp tm 2) (tmp tm 3) x20 h:=by
 rw [callC_round,roundF_run hg (show setParams [19,20] [x19,x20] 27 tm = some ((tm.put 19 (some x19)).put 20 (some x20)) from rfl),F149r0_eq,pool_Pool_All_1_r0_d H hd]
 simp only [dd,↓reduceIte,Nat.reduceEqDiff,Int.reduceOfNat,Int.reduceNegSucc,Nat.reduceAdd]
def pool_Pool_Take_j0 (K : Nat) (v0 v1 : EV) (h : AHeap) : R:=
 nilE v0 fun v18=>
 offE 6 v18 fun v19=>
 ld1E v19 h fun v20=>
 ixSE 1 v20 v1 fun v22=>
 ld1E v22 h fun v23=>
 andE (queue_Queue_Take K v23 h) fun v24 h=>
 extrE 0 v24 fun v25=>
 extrE 1 v24 fun v26=>
 some (.tuple [v25,v26],h)
def pool_Pool_Take_j1 (K : Nat) (v0 v1 v8 v15 : EV) (h : AHeap) : R:=
 pickE v8 (.bool true) v15 fun v16=>
 ifE v16
 (some (.tuple [(.int .i64 0),(.int .i64 13)],h))
 (pool_Pool_Take_j0 K v0 v1 h)
def pool_Pool_Take (K : Nat) (v0 v1 : EV) (h : AHeap) : R:=
 intE gLss (bin TT .lss 3) v1 (.int .i64 0) fun v7=>
 cnd (wantE v7 false)
 (nilE v0 fun v11=>
 offE 6 v11 fun v12=>
 ld1E v12 h fun v13=>
 lenE v13 fun v14=>
 intE gGeq (bin TT .geq 3) v1 v14 fun v15=>
 pool_Pool_Take_j1 K v0 v1 v7 v15 h)
 (pool_Pool_Take_j1 K v0 v1 v7 (.tuple []) h)
theorem pool_Pool_Take_run (H : Agree disp) (hd : 2<=d) (v0 v1 : EV) (h : AHeap) : callC TT disp K d false 161 [v0,v1] h = pool_Pool_Take K v0 v1 h:=
 runL (H.bare (by kernel_rfl)) hd (by kernel_rfl) (fun d hd=>(W1 (queue_Queue_Take_run H (lq hd rfl)) rfl)) (fun d c r=>rfl) (fun d c r=>by kernel_rfl)
def queue_Queue_All_1_j1 (c r : Caller) (K : Nat) (ih0_ : EV->EV->EV->EV->AHeap->R) (v0 v6 v7 v8 : EV) (h : AHeap) : R:=
 intE gAdd (bin TT .add 3) v8 (.int .i64 1) fun v18=>
 ih0_ v0 v6 v7 v18 h
def queue_Queue_All_1_j2 (c r : Caller) (K : Nat) (ih0_ : EV->EV->EV->EV->AHeap->R) (v0 v6 v7 v8 : EV) (h : AHeap) : R:=
 ixSE 1 v6 v8 fun v11=>
 ld1E v11 h fun v12=>
 andE (callE c r v0 [v8,v12] h) fun v16 h=>
 notE v16 fun v17=>
 ifE v17
 (some (.tuple [],h))
 (queue_Queue_All_1_j1 c r K ih0_ v0 v6 v7 v8 h)
def queue_Queue_All_1_b3 (c r : Caller) (K : Nat) : Nat->EV->EV->EV->EV->AHeap->R
 | 0=>fun _ _ _ _ _=>none
 | m + 1=>fun v0 v6 v7 v8 h=>
  intE gLss (bin TT .lss 3) v8 v7 fun v9=>
  ifE v9
  (queue_Queue_All_1_j2 c r K (queue_Queue_All_1_b3 c r K m) v0 v6 v7 v8 h)
  (some (.tuple [],h))
def queue_Queue_All_1 (c r : Caller) (K : Nat) (v0 v1 : EV) (h : AHeap) : R:=
 ld1E v1 h fun v5=>
 andE (queue_Queue_list K v5 h) fun v6 h=>
 lenE v6 fun v7=>
 queue_Queue_All_1_b3 c r K K v0 v6 v7 (.int .i64 0) h
abbrev queue_Queue_All_1_c (K : Nat) (c : Caller) : Caller:=(w1 191 (queue_Queue_list K) c)
theorem queue_Queue_All_1_b3_r (c r : Caller) (K : Nat) (m : Nat) : loopD (fun ih=>codeD TT (queue_Queue_All_1_c K c) c r K (nOf TT 190) (retOf TT 190) (lbOf TT 190 [true,false]) [(0,retOf TT 190)] ih) m = fun ρ h=>queue_Queue_All_1_b3 c r K m (ρ 0) (ρ 6) (ρ 7) (ρ 8) h:=
 loopD_eq (E:=fun m ρ h=>queue_Queue_All_1_b3 c r K m (ρ 0) (ρ 6) (ρ 7) (ρ 8) h) rfl (fun m=>ext2 fun ρ h=>by
  show _ = queue_Queue_All_1_b3 c r K (m + 1) (ρ 0) (ρ 6) (ρ 7) (ρ 8) h
  rw [queue_Queue_All_1_b3]; kernel_rfl) m
theorem queue_Queue_All_1_run (H : Agree disp) (hd : 2<=d) (v0 v1 : EV) (h : AHeap) : callC TT disp K (d + 1) false 190 [v0,v1] h = queue_Queue_All_1 (callC TT disp K d false) (callC TT disp K d true) K v0 v1 h:=
 runD (H.bare (by kernel_rfl)) (by kernel_rfl) (W1 (queue_Queue_list_run H (lq hd rfl)) rfl) (cut [true,false] (queue_Queue_All_1_b3_r (callC TT disp K d false) (callC TT disp K d true) K K) (by kernel_rfl) (by kernel_rfl) rfl) (by kernel_rfl)
def pool_Pool_Give_j0 (c r : Caller) (K : Nat) (v0 v1 v5 : EV) (h : AHeap) : R:=
 nilE v0 fun v20=>
 offE 6 v20 fun v21=>
 ld1E v21 h fun v22=>
 ixSE 1 v22 v5 fun v24=>
 ld1E v24 h fun v25=>
 andE (queue_Queue_Put K v25 v1 h) fun v27 h=>
 some (v27,h)
def pool_Pool_Give (c r : Caller) (K : Nat) (v0 v1 : EV) (h : AHeap) : R:=
 nilE v0 fun v7=>
 offE 0 v7 fun v8=>
 ldNE 6 v8 h fun v9=>
 andE (geom_Geom_Domain K v9 v1 h) fun v11 h=>
 intE gLss (bin TT .lss 3) v11 (.int .i64 0) fun v14=>
 ifE v14
 (some ((.int .i64 13),h))
 (andE (c 49 [v0,v1] h) fun v18 h=>
 ifE v18
 (some ((.int .i64 16),h))
 (pool_Pool_Give_j0 c r K v0 v1 v11 h))
theorem pool_Pool_Give_run (H : Agree disp) (hd : 2<=d) (v0 v1 : EV) (h : AHeap) : callC TT disp K (d + 1) false 15 [v0,v1] h = pool_Pool_Give (callC TT disp K d false) (callC TT disp K d true) K v0 v1 h:=
 runD (H.bare (by kernel_rfl)) (by kernel_rfl) (W2 (geom_Geom_Domain_run H (lq hd rfl)) (W2 (queue_Queue_Put_run H (lq hd rfl)) rfl)) rfl (by kernel_rfl)
def pool_Pool_Pair_j0 (K : Nat) (v7 v9 v10 : EV) (h : AHeap) : R:=
 resE TT [.v v7,.v v9,.v v10] h
def pool_Pool_Pair_j1 (K : Nat) (v0 : EV) (h : AHeap) : R:=
 andE (pool_Pool_fullest K v0 (.int .i64 (-1)) h) fun v15 h=>
 andE (pool_Pool_fullest K v0 v15 h) fun v18 h=>
 andE (pool_Pool_Take K v0 v15 h) fun v22 h=>
 extrE 0 v22 fun v23=>
 extrE 1 v22 fun v24=>
 andE (pool_Pool_Take K v0 v18 h) fun v28 h=>
 extrE 0 v28 fun v29=>
 extrE 1 v28 fun v30=>
 intE gNeq (bin TT .neq 28) v24 (.int .i64 0) fun v32=>
 ifE v32
 (resE TT [.v (.int .i64 0),.v (.int .i64 0),.v v24] h)
 (pool_Pool_Pair_j0 K v23 v29 v30 h)
def pool_Pool_Pair (K : Nat) (v0 : EV) (h : AHeap) : R:=
 andE (pool_Pool_Pairs K v0 h) fun v12 h=>
 intE gEql (bin TT .eql 3) v12 (.int .i64 0) fun v13=>
 ifE v13
 (resE TT [.v (.int .i64 0),.v (.int .i64 0),.v (.int .i64 15)] h)
 (pool_Pool_Pair_j1 K v0 h)
theorem pool_Pool_Pair_run (H : Agree disp) (hd : 4<=d) (v0 : EV) (h : AHeap) : callC TT disp K d false 130 [v0] h = pool_Pool_Pair K v0 h:=
 runL (H.bare (by kernel_rfl)) hd (by kernel_rfl) (fun d hd=>(W1 (pool_Pool_Pairs_run H (lq hd rfl)) (W2 (pool_Pool_fullest_run H (lq hd rfl)) (W2 (pool_Pool_Take_run H (lq hd rfl)) rfl)))) (fun d c r=>rfl) (fun d c r=>by kernel_rfl)
end
end Go.Ev
