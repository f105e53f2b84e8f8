import Derived.Test.YtpkcfamminlmaaaGreatDc
set_option linter.unusedVariables false
set_option linter.unusedSimpArgs false
set_option linter.unusedSectionVars false
namespace Go.Ev
open Go.Proofs
set_option maxRecDepth 100000
set_option maxHeartbeats 4000000
noncomputable section
variable {disp:Nat->Option FT}{K d:Nat}
def Iw(c r:Ad)(K:Nat)(h:Aa):R:=
 some ((.bool true),h)
def F6(c r:Ad)(K:Nat)(ih1_:EV->EV->EV->EV->EV->Aa->R)(v9 v18 v98 v99 v100:EV)(h:Aa):R:=
 An Hw (bin TT .add 3) v100 (.int .i64 1) fun v129=>
 ih1_ v9 v18 v98 v99 v129 h
def Iu(c r:Ad)(K:Nat)(ih1_:EV->EV->EV->EV->EV->Aa->R)(base:Nat)(s:DX)(v9 v18 v98 v99 v100 v122 v127:EV)(h:Aa):R:=
 Bk v122 (.bool true) v127 fun v128=>
 De v128
 (some ((.bool false),h))
 (F6 c r K ih1_ v9 v18 v98 v99 v100 h)
def Iv(c r:Ad)(K:Nat)(ih1_:EV->EV->EV->EV->EV->Aa->R)(base:Nat)(s:DX)(v9 v18 v21 v23 v98 v99 v100 v118 v120:EV)(h:Aa):R:=
 Bk v118 (.bool true) v120 fun v121=>
 As (Ay v121 false)
 (Bd 7 127 base v23 s fun s=>Ca 32 v23 h fun v123=>
 My .u8 v21 fun v125=>
 Ci 10 895 s h (fun h=>(Tb K v125 h)) fun v126 h s=>
 An Gv (bin TT .neq 87) v123 v126 fun v127=>
 Iu c r K ih1_ base s v9 v18 v98 v99 v100 v121 v127 h)
 (Iu c r K ih1_ base s v9 v18 v98 v99 v100 v121 (.tuple []) h)
def Na(c r:Ad)(K:Nat)(ih1_:EV->EV->EV->EV->EV->Aa->R)(v9 v18 v21 v22 v98 v99 v100:EV)(h:Aa):R:=
 Ca 6 v22 h fun v111=>
 Aj (c 41 [v9,v111] h) fun v112 h=>
 Bv 0 v112 fun v113=>
 Bv 1 v112 fun v114=>
 Bv 2 v112 fun v115=>
 Hj (.cells (List.replicate 32 (.int .u8 0)) 87) h fun v23 h=>
 D5 32 v23 v113 h fun h=>
 Fz h fun base s=>
 An Gv (bin TT .neq 28) v115 (.int .i64 0) fun v117=>
 As (Ay v117 false)
 (An Gv (bin TT .neq 3) v114 (.int .i64 2) fun v120=>
 Iv c r K ih1_ base s v9 v18 v21 v23 v98 v99 v100 v117 v120 h)
 (Iv c r K ih1_ base s v9 v18 v21 v23 v98 v99 v100 v117 (.tuple []) h)
def Mv(c r:Ad)(K:Nat)(ih1_:EV->EV->EV->EV->EV->Aa->R)(v9 v18 v98 v99 v100:EV)(h:Aa):R:=
 It 6 v98 v100 fun v103=>
 Ca 6 v103 h fun v104=>
 Hj (.cells [(.int .i64 0),(.int .i64 0),(.int .i64 0),(.int .i64 0),(.int .i64 0),(.int .i64 0)] 83) h fun v22 h=>
 D5 6 v22 v104 h fun h=>
 Am 1 v22 fun v105=>
 Al v105 h fun v106=>
 An Fj (bin TT .eql 3) v106 v18 fun v108=>
 De v108
 (F6 c r K ih1_ v9 v18 v98 v99 v100 h)
 (Na c r K ih1_ v9 v18 v100 v22 v98 v99 v100 h)
def Bx(c r:Ad)(K:Nat):Nat->EV->EV->EV->EV->EV->Aa->R
 | 0=>fun _ _ _ _ _ _=>none
 | m+1=>fun v9 v18 v98 v99 v100 h=>
  An Hl (bin TT .lss 3) v100 v99 fun v101=>
  De v101
  (Mv c r K (Bx c r K m) v9 v18 v98 v99 v100 h)
  (Iw c r K h)
def Dz(c r:Ad)(K:Nat)(v3 v9 v14:EV)(h:Aa):R:=
 Aj (Hx K v9 h) fun v86 h=>
 Bv 0 v86 fun v87=>
 Bv 1 v86 fun v88=>
 Bv 2 v86 fun v89=>
 Aj (Ef K v9 h) fun v91 h=>
 Aj (Di K v91 h) fun v92 h=>
 Aj (G9 K v92 h) fun v93 h=>
 Aj (Ef K v9 h) fun v95 h=>
 Aj (Im K v95 v3 h) fun v97 h=>
 Hg v14 fun v99=>
 Bx c r K K v9 v87 v14 v99 (.int .i64 0) h
def Lz(c r:Ad)(K:Nat)(ih9_:EV->EV->EV->EV->EV->Aa->R)(v3 v9 v14 v60 v61:EV)(h:Aa):R:=
 An Hw (bin TT .add 3) v61 (.int .i64 1) fun v83=>
 ih9_ v3 v9 v14 v60 v83 h
def Lv(c r:Ad)(K:Nat)(ih9_:EV->EV->EV->EV->EV->Aa->R)(v3 v9 v14 v16 v60 v61:EV)(h:Aa):R:=
 Ca 6 v16 h fun v80=>
 Aj (B1 [(.int .i64 0),(.int .i64 0),(.int .i64 0),(.int .i64 0),(.int .i64 0),(.int .i64 0)] 83 6 1 [(0,v80)] h) fun v81 h=>
 Aj (Dt 83 6 v14 v81 h) fun v82 h=>
 Lz c r K ih9_ v3 v9 v82 v60 v61 h
def Ly(c r:Ad)(K:Nat)(ih9_:EV->EV->EV->EV->EV->Aa->R)(v3 v9 v14 v60 v61:EV)(h:Aa):R:=
 An Hw (bin TT .add 3) v61 (.int .i64 1) fun v67=>
 My .u8 v61 fun v69=>
 Aj (Tb K v69 h) fun v70 h=>
 Bu (D3 [(0,1),(1,1),(2,1),(3,1),(4,1),(5,1),(6,32)]) (List.replicate 6 (.int .i64 0)++List.replicate 32 (.int .u8 0)) [(0,(.int .i64 3)),(1,v67),(2,(.int .i64 1)),(6,v70)] fun v71=>
 An Hw (bin TT .add 3) v61 (.int .i64 1) fun v73=>
 Aj (c 34 [v9,v71,(.int .i64 1),v73] h) fun v74 h=>
 Bv 0 v74 fun v75=>
 Bv 1 v74 fun v76=>
 Hj (.cells [(.int .i64 0),(.int .i64 0),(.int .i64 0),(.int .i64 0),(.int .i64 0),(.int .i64 0)] 83) h fun v16 h=>
 D5 6 v16 v75 h fun h=>
 An Gv (bin TT .neq 28) v76 (.int .i64 0) fun v78=>
 De v78
 (Dz c r K v3 v9 v14 h)
 (Lv c r K ih9_ v3 v9 v14 v16 v60 v61 h)
def B5(c r:Ad)(K:Nat):Nat->EV->EV->EV->EV->EV->Aa->R
 | 0=>fun _ _ _ _ _ _=>none
 | m+1=>fun v3 v9 v14 v60 v61 h=>
  An Hl (bin TT .lss 3) v61 v60 fun v62=>
  De v62
  (Ly c r K (B5 c r K m) v3 v9 v14 v60 v61 h)
  (Dz c r K v3 v9 v14 h)
def Fp(c r:Ad)(K:Nat)(v2 v3 v9:EV)(h:Aa):R:=
 B5 c r K K v3 v9 .Ag v2 (.int .i64 0) h
def L5(c r:Ad)(K:Nat)(ih15_:EV->EV->EV->EV->EV->EV->Aa->R)(v2 v3 v9 v49 v50 v51:EV)(h:Aa):R:=
 An Hw (bin TT .add 3) v51 (.int .i64 1) fun v59=>
 ih15_ v2 v3 v9 v49 v50 v59 h
def L7(c r:Ad)(K:Nat)(ih15_:EV->EV->EV->EV->EV->EV->Aa->R)(v2 v3 v9 v49 v50 v51:EV)(h:Aa):R:=
 It 1 v49 v51 fun v53=>
 Al v53 h fun v54=>
 Aj (Hz K v9 h) fun v56 h=>
 Aj (c 15 [v56,v54] h) fun v58 h=>
 L5 c r K ih15_ v2 v3 v9 v49 v50 v51 h
def B6(c r:Ad)(K:Nat):Nat->EV->EV->EV->EV->EV->EV->Aa->R
 | 0=>fun _ _ _ _ _ _ _=>none
 | m+1=>fun v2 v3 v9 v49 v50 v51 h=>
  An Hl (bin TT .lss 3) v51 v50 fun v52=>
  De v52
  (L7 c r K (B6 c r K m) v2 v3 v9 v49 v50 v51 h)
  (Fp c r K v2 v3 v9 h)
def L0(c r:Ad)(K:Nat)(v1 v2 v3 v9:EV)(h:Aa):R:=
 Hg v1 fun v50=>
 B6 c r K K v2 v3 v9 v1 v50 (.int .i64 0) h
def Fo(c r:Ad)(K:Nat)(v1 v2 v3 v9 v45 v47:EV)(h:Aa):R:=
 Bk v45 (.bool true) v47 fun v48=>
 De v48
 (some ((.bool true),h))
 (L0 c r K v1 v2 v3 v9 h)
def Fs(c r:Ad)(K:Nat)(v1 v2 v3 v9 v41 v43:EV)(h:Aa):R:=
 Bk v41 (.bool true) v43 fun v44=>
 As (Ay v44 false)
 (An Ww (bin TT .gtr 3) v2 (.int .i64 100) fun v47=>
 Fo c r K v1 v2 v3 v9 v44 v47 h)
 (Fo c r K v1 v2 v3 v9 v44 (.tuple []) h)
def Fm(c r:Ad)(K:Nat)(v1 v2 v3 v9 v36 v39:EV)(h:Aa):R:=
 Bk v36 (.bool true) v39 fun v40=>
 As (Ay v40 false)
 (An Hl (bin TT .lss 3) v2 (.int .i64 0) fun v43=>
 Fs c r K v1 v2 v3 v9 v40 v43 h)
 (Fs c r K v1 v2 v3 v9 v40 (.tuple []) h)
def Lu(c r:Ad)(K:Nat)(v1 v2 v3 v4:EV)(h:Aa):R:=
 Ca 6 v4 h fun v29=>
 Aj (G6 K v29 h) fun v30 h=>
 Bv 0 v30 fun v31=>
 Bv 1 v30 fun v32=>
 Bv 2 v30 fun v33=>
 Hj (.cells ([.Ag]++List.replicate 3 (.int .i64 0)++[(.bool false)]++List.replicate 2 .Ag++List.replicate 8 (.int .i64 0)++List.replicate 2 .Ag++List.replicate 3 (.int .i64 0)) 42) h fun v10 h=>
 D5 20 v10 v32 h fun h=>
 Q1 v33 fun v35=>
 As (Ay v35 false)
 (Hg v1 fun v38=>
 An Ww (bin TT .gtr 3) v38 (.int .i64 64) fun v39=>
 Fm c r K v1 v2 v3 v31 v35 v39 h)
 (Fm c r K v1 v2 v3 v31 v35 (.tuple []) h)
def J9(c r:Ad)(K:Nat)(v0 v1 v2 v3:EV)(h:Aa):R:=
 Ea 23 v0 h fun v4 h=>
 Aj (c 23 [] h) fun v26 h=>
 Q1 v26 fun v27=>
 De v27
 (some ((.bool false),h))
 (Lu c r K v1 v2 v3 v4 h)
abbrev Je(K:Nat)(c:Ad):Ad:=(w1 38 (Tb K) (w1 28 (Hx K) (w1 31 (Ef K) (w1 36 (Di K) (w1 39 (G9 K) (w2 40 (Im K) (w1 14 (Hz K) (w1 33 (G6 K) c))))))))
theorem S7(c r:Ad)(K:Nat)(m:Nat):I0 (fun ih=>H6 TT (Je K c) c r K (nOf TT 7) (F2 TT 7) (Sb TT 7 [true,true,true,true,true,true,true,true,true,true,false,true,false]) [(4,fun ρ h=>Iw c r K h)] ih) m=fun ρ h=>Bx c r K m (ρ 9) (ρ 18) (ρ 98) (ρ 99) (ρ 100) h:=
 C3 (E:=fun m ρ h=>Bx c r K m (ρ 9) (ρ 18) (ρ 98) (ρ 99) (ρ 100) h) rfl (fun m=>Se fun ρ h=>by
  show _=Bx c r K (m+1) (ρ 9) (ρ 18) (ρ 98) (ρ 99) (ρ 100) h
  rw[Bx];kernel_rfl) m
theorem Sf(c r:Ad)(K:Nat)(m:Nat):I0 (fun ih=>H6 TT (Je K c) c r K (nOf TT 7) (F2 TT 7) (Sb TT 7 [true,true,true,true,true,true,false,true,false]) [(2,fun ρ h=>Dz c r K (ρ 3) (ρ 9) (ρ 14) h)] ih) m=fun ρ h=>B5 c r K m (ρ 3) (ρ 9) (ρ 14) (ρ 60) (ρ 61) h:=
 C3 (E:=fun m ρ h=>B5 c r K m (ρ 3) (ρ 9) (ρ 14) (ρ 60) (ρ 61) h) rfl (fun m=>Se fun ρ h=>by
  show _=B5 c r K (m+1) (ρ 3) (ρ 9) (ρ 14) (ρ 60) (ρ 61) h
  rw[B5];kernel_rfl) m
theorem Sc(c r:Ad)(K:Nat)(m:Nat):I0 (fun ih=>H6 TT (Je K c) c r K (nOf TT 7) (F2 TT 7) (Sb TT 7 [true,true,true,true,false,true,false]) [(0,fun ρ h=>Fp c r K (ρ 2) (ρ 3) (ρ 9) h)] ih) m=fun ρ h=>B6 c r K m (ρ 2) (ρ 3) (ρ 9) (ρ 49) (ρ 50) (ρ 51) h:=
 C3 (E:=fun m ρ h=>B6 c r K m (ρ 2) (ρ 3) (ρ 9) (ρ 49) (ρ 50) (ρ 51) h) rfl (fun m=>Se fun ρ h=>by
  show _=B6 c r K (m+1) (ρ 2) (ρ 3) (ρ 9) (ρ 49) (ρ 50) (ρ 51) h
  rw[B6];kernel_rfl) m
theorem Uu(H:Aw disp)(hd:6<=d)(v0 v1 v2 v3:EV)(h:Aa):Ae TT disp K (d+1) false 7 [v0,v1,v2,v3] h=J9 (Ae TT disp K d false) (Ae TT disp K d true) K v0 v1 v2 v3 h:=
 Um (H.bare (by kernel_rfl)) (by kernel_rfl) (W1 (Ani H (lq hd rfl)) (W1 (Ace H (lq hd rfl)) (W1 (Aaq H (lq hd rfl)) (W1 (Su H (lq hd rfl)) (W1 (Sr H (lq hd rfl)) (W2 (Adl H (lq hd rfl)) (W1 (Acj H (lq hd rfl)) (W1 (X2 H (lq hd rfl)) rfl)))))))) (cut [true,true,true,true,true,true,true,true,true,true,false,true,false] (S7 (Ae TT disp K d false) (Ae TT disp K d true) K K) (by kernel_rfl) (by kernel_rfl) (cut [true,true,true,true,true,true,false,true,false] (Sf (Ae TT disp K d false) (Ae TT disp K d true) K K) (by kernel_rfl) (by kernel_rfl) (cut [true,true,true,true,false,true,false] (Sc (Ae TT disp K d false) (Ae TT disp K d true) K K) (by kernel_rfl) (by kernel_rfl) rfl))) (by kernel_rfl)
end
end Go.Ev
