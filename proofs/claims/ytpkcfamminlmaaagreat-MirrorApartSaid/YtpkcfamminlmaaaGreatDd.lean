import Derived.Test.YtpkcfamminlmaaaGreatDc
set_option linter.unusedVariables false
set_option linter.unusedSimpArgs false
set_option linter.unusedSectionVars false
namespace Go.Ev
open Go.Proofs
set_option maxRecDepth 100000
set_option maxHeartbeats 4000000
noncomputable section
variable {disp:Nat->Option FT}{K d:Nat}
def Fc(c r:Ac)(K:Nat)(h:Aa):R:=
 some ((.bool true),h)
def Ck(c r:Ac)(K:Nat)(ih1_:EV->EV->EV->EV->EV->Aa->R)(v4 v9 v16 v72 v73:EV)(h:Aa):R:=
 Ap Ip (bin TT .add 3) v73 (.int .i64 1) fun v164=>
 ih1_ v4 v9 v16 v72 v164 h
def E8(c r:Ac)(K:Nat)(ih1_:EV->EV->EV->EV->EV->Aa->R)(v4 v9 v16 v18 v72 v73:EV)(h:Aa):R:=
 B8 6 v18 h fun v161=>
 Al (B3 [(.int .i64 0),(.int .i64 0),(.int .i64 0),(.int .i64 0),(.int .i64 0),(.int .i64 0)] 83 6 1 [(0,v161)] h) fun v162 h=>
 Al (D5 83 6 v16 v162 h) fun v163 h=>
 Ck c r K ih1_ v4 v9 v163 v72 v73 h
def He(c r:Ac)(K:Nat)(ih1_:EV->EV->EV->EV->EV->Aa->R)(ih4_:EV->EV->EV->EV->EV->EV->EV->EV->EV->Aa->R)(v4 v9 v16 v18 v72 v73 v120 v121 v122:EV)(h:Aa):R:=
 Ap Ip (bin TT .add 3) v122 (.int .i64 1) fun v159=>
 ih4_ v4 v9 v16 v18 v72 v73 v120 v121 v159 h
def E9(c r:Ac)(K:Nat)(ih1_:EV->EV->EV->EV->EV->Aa->R)(ih4_:EV->EV->EV->EV->EV->EV->EV->EV->EV->Aa->R)(v4 v9 v16 v18 v72 v73 v120 v121 v122 v131 v157:EV)(h:Aa):R:=
 Bg v131 v157 (.bool false) fun v158=>
 Fg v158
 (some ((.bool false),h))
 (He c r K ih1_ ih4_ v4 v9 v16 v18 v72 v73 v120 v121 v122 h)
def E7(c r:Ac)(K:Nat)(ih1_:EV->EV->EV->EV->EV->Aa->R)(ih4_:EV->EV->EV->EV->EV->EV->EV->EV->EV->Aa->R)(v4 v9 v16 v18 v72 v73 v120 v121 v122 v131 v151 v156:EV)(h:Aa):R:=
 Ao (As v131 true)
 (Bg v151 (.bool true) v156 fun v157=>
 E9 c r K ih1_ ih4_ v4 v9 v16 v18 v72 v73 v120 v121 v122 v131 v157 h)
 (E9 c r K ih1_ ih4_ v4 v9 v16 v18 v72 v73 v120 v121 v122 v131 (.tuple []) h)
def Fb(c r:Ac)(K:Nat)(ih1_:EV->EV->EV->EV->EV->Aa->R)(ih4_:EV->EV->EV->EV->EV->EV->EV->EV->EV->Aa->R)(v4 v9 v16 v18 v21 v72 v73 v120 v121 v122 v131 v151:EV)(h:Aa):R:=
 Ao (As v151 false)
 (An 2 v21 fun v152=>
 Am v152 h fun v153=>
 An 1 v18 fun v154=>
 Am v154 h fun v155=>
 Ap Gj (bin TT .eql 3) v153 v155 fun v156=>
 E7 c r K ih1_ ih4_ v4 v9 v16 v18 v72 v73 v120 v121 v122 v131 v151 v156 h)
 (E7 c r K ih1_ ih4_ v4 v9 v16 v18 v72 v73 v120 v121 v122 v131 v151 (.tuple []) h)
def E6(c r:Ac)(K:Nat)(ih1_:EV->EV->EV->EV->EV->Aa->R)(ih4_:EV->EV->EV->EV->EV->EV->EV->EV->EV->Aa->R)(v4 v9 v16 v18 v21 v72 v73 v120 v121 v122 v131 v144 v149:EV)(h:Aa):R:=
 Ao (As v131 true)
 (Bg v144 (.bool true) v149 fun v150=>
 Fb c r K ih1_ ih4_ v4 v9 v16 v18 v21 v72 v73 v120 v121 v122 v131 v150 h)
 (Fb c r K ih1_ ih4_ v4 v9 v16 v18 v21 v72 v73 v120 v121 v122 v131 (.tuple []) h)
def El(c r:Ac)(K:Nat)(ih1_:EV->EV->EV->EV->EV->Aa->R)(ih4_:EV->EV->EV->EV->EV->EV->EV->EV->EV->Aa->R)(v4 v9 v16 v18 v21 v72 v73 v120 v121 v122 v131 v144:EV)(h:Aa):R:=
 Ao (As v144 false)
 (An 1 v21 fun v145=>
 Am v145 h fun v146=>
 An 2 v18 fun v147=>
 Am v147 h fun v148=>
 Ap Gj (bin TT .eql 3) v146 v148 fun v149=>
 E6 c r K ih1_ ih4_ v4 v9 v16 v18 v21 v72 v73 v120 v121 v122 v131 v144 v149 h)
 (E6 c r K ih1_ ih4_ v4 v9 v16 v18 v21 v72 v73 v120 v121 v122 v131 v144 (.tuple []) h)
def Ew(c r:Ac)(K:Nat)(ih1_:EV->EV->EV->EV->EV->Aa->R)(ih4_:EV->EV->EV->EV->EV->EV->EV->EV->EV->Aa->R)(v4 v9 v16 v18 v21 v72 v73 v120 v121 v122 v131 v137 v142:EV)(h:Aa):R:=
 Ao (As v131 true)
 (Bg v137 (.bool true) v142 fun v143=>
 El c r K ih1_ ih4_ v4 v9 v16 v18 v21 v72 v73 v120 v121 v122 v131 v143 h)
 (El c r K ih1_ ih4_ v4 v9 v16 v18 v21 v72 v73 v120 v121 v122 v131 (.tuple []) h)
def Ey(c r:Ac)(K:Nat)(ih1_:EV->EV->EV->EV->EV->Aa->R)(ih4_:EV->EV->EV->EV->EV->EV->EV->EV->EV->Aa->R)(v4 v9 v16 v18 v21 v72 v73 v120 v121 v122 v131 v137:EV)(h:Aa):R:=
 Ao (As v137 false)
 (An 2 v21 fun v138=>
 Am v138 h fun v139=>
 An 2 v18 fun v140=>
 Am v140 h fun v141=>
 Ap Gj (bin TT .eql 3) v139 v141 fun v142=>
 Ew c r K ih1_ ih4_ v4 v9 v16 v18 v21 v72 v73 v120 v121 v122 v131 v137 v142 h)
 (Ew c r K ih1_ ih4_ v4 v9 v16 v18 v21 v72 v73 v120 v121 v122 v131 v137 (.tuple []) h)
def Kz(c r:Ac)(K:Nat)(ih1_:EV->EV->EV->EV->EV->Aa->R)(ih4_:EV->EV->EV->EV->EV->EV->EV->EV->EV->Aa->R)(v4 v9 v16 v18 v72 v73 v120 v121 v122:EV)(h:Aa):R:=
 Ix 6 v120 v122 fun v124=>
 B8 6 v124 h fun v125=>
 Mo (.cells [(.int .i64 0),(.int .i64 0),(.int .i64 0),(.int .i64 0),(.int .i64 0),(.int .i64 0)] 83) h fun v21 h=>
 Jf 6 v21 v125 h fun h=>
 An 3 v21 fun v126=>
 Am v126 h fun v127=>
 An 3 v18 fun v128=>
 Am v128 h fun v129=>
 Ap Gj (bin TT .eql 3) v127 v129 fun v130=>
 Ao (As v130 true)
 (An 1 v21 fun v132=>
 Am v132 h fun v133=>
 An 1 v18 fun v134=>
 Am v134 h fun v135=>
 Ap Gj (bin TT .eql 3) v133 v135 fun v136=>
 Ey c r K ih1_ ih4_ v4 v9 v16 v18 v21 v72 v73 v120 v121 v122 v130 v136 h)
 (Ey c r K ih1_ ih4_ v4 v9 v16 v18 v21 v72 v73 v120 v121 v122 v130 (.tuple []) h)
def Bk(c r:Ac)(K:Nat)(ih1_:EV->EV->EV->EV->EV->Aa->R):Nat->EV->EV->EV->EV->EV->EV->EV->EV->EV->Aa->R
 | 0=>fun _ _ _ _ _ _ _ _ _ _=>none
 | m+1=>fun v4 v9 v16 v18 v72 v73 v120 v121 v122 h=>
  Ap Ih (bin TT .lss 3) v122 v121 fun v123=>
  Fg v123
  (Kz c r K ih1_ (Bk c r K ih1_ m) v4 v9 v16 v18 v72 v73 v120 v121 v122 h)
  (E8 c r K ih1_ v4 v9 v16 v18 v72 v73 h)
def K3(c r:Ac)(K:Nat)(ih1_:EV->EV->EV->EV->EV->Aa->R)(v4 v9 v16 v18 v72 v73:EV)(h:Aa):R:=
 Ho v16 fun v121=>
 Bk c r K ih1_ K v4 v9 v16 v18 v72 v73 v16 v121 (.int .i64 0) h
def G3(c r:Ac)(K:Nat)(ih1_:EV->EV->EV->EV->EV->Aa->R)(v4 v9 v16 v18 v72 v73 v113 v118:EV)(h:Aa):R:=
 Bg v113 (.bool true) v118 fun v119=>
 Fg v119
 (some ((.bool false),h))
 (K3 c r K ih1_ v4 v9 v16 v18 v72 v73 h)
def G9(c r:Ac)(K:Nat)(ih1_:EV->EV->EV->EV->EV->Aa->R)(v4 v9 v16 v17 v18 v72 v73 v107 v111:EV)(h:Aa):R:=
 Bg v107 (.bool true) v111 fun v112=>
 Ao (As v112 false)
 (An 4 v18 fun v114=>
 Am v114 h fun v115=>
 Ap Ip (bin TT .add 3) v17 (.int .i64 1) fun v117=>
 Ap La (bin TT .neq 3) v115 v117 fun v118=>
 G3 c r K ih1_ v4 v9 v16 v18 v72 v73 v112 v118 h)
 (G3 c r K ih1_ v4 v9 v16 v18 v72 v73 v112 (.tuple []) h)
def Ha(c r:Ac)(K:Nat)(ih1_:EV->EV->EV->EV->EV->Aa->R)(v4 v9 v16 v17 v18 v72 v73 v101 v105:EV)(h:Aa):R:=
 Bg v101 (.bool true) v105 fun v106=>
 Ao (As v106 false)
 (An 2 v18 fun v109=>
 Am v109 h fun v110=>
 Al (Ff K v9 v110 h) fun v111 h=>
 G9 c r K ih1_ v4 v9 v16 v17 v18 v72 v73 v106 v111 h)
 (G9 c r K ih1_ v4 v9 v16 v17 v18 v72 v73 v106 (.tuple []) h)
def K9(c r:Ac)(K:Nat)(ih1_:EV->EV->EV->EV->EV->Aa->R)(v4 v9 v16 v17 v18 v72 v73:EV)(h:Aa):R:=
 B8 6 v18 h fun v97=>
 B8 6 v4 h fun v98=>
 Al (Kr K v97 v98 h) fun v99 h=>
 Sz v99 fun v100=>
 Ao (As v100 false)
 (An 1 v18 fun v103=>
 Am v103 h fun v104=>
 Al (Ff K v9 v104 h) fun v105 h=>
 Ha c r K ih1_ v4 v9 v16 v17 v18 v72 v73 v100 v105 h)
 (Ha c r K ih1_ v4 v9 v16 v17 v18 v72 v73 v100 (.tuple []) h)
def Et(c r:Ac)(K:Nat)(ih1_:EV->EV->EV->EV->EV->Aa->R)(v4 v9 v16 v72 v73 v93 v95:EV)(h:Aa):R:=
 Bg v93 v95 (.bool false) fun v96=>
 Fg v96
 (some ((.bool false),h))
 (Ck c r K ih1_ v4 v9 v16 v72 v73 h)
def K4(c r:Ac)(K:Nat)(ih1_:EV->EV->EV->EV->EV->Aa->R)(v4 v9 v16 v72 v73:EV)(h:Aa):R:=
 Ap Ip (bin TT .add 3) v73 (.int .i64 1) fun v79=>
 O7 .u8 v73 fun v81=>
 Al (Uk K v81 h) fun v82 h=>
 C0 (Gk [(0,1),(1,1),(2,1),(3,1),(4,1),(5,1),(6,32)]) (List.replicate 6 (.int .i64 0)++List.replicate 32 (.int .u8 0)) [(0,(.int .i64 3)),(1,v79),(2,(.int .i64 1)),(6,v82)] fun v83=>
 Ap Ip (bin TT .add 3) v73 (.int .i64 1) fun v85=>
 Al (c 34 [v9,v83,(.int .i64 1),v85] h) fun v86 h=>
 Cq 0 v86 fun v87=>
 Cq 1 v86 fun v88=>
 Mo (.cells [(.int .i64 0),(.int .i64 0),(.int .i64 0),(.int .i64 0),(.int .i64 0),(.int .i64 0)] 83) h fun v18 h=>
 Jf 6 v18 v87 h fun h=>
 Ap La (bin TT .neq 28) v88 (.int .i64 0) fun v90=>
 Fg v90
 (Ap La (bin TT .neq 28) v88 (.int .i64 40) fun v92=>
 Ao (As v92 true)
 (Ap La (bin TT .neq 28) v88 (.int .i64 34) fun v95=>
 Et c r K ih1_ v4 v9 v16 v72 v73 v92 v95 h)
 (Et c r K ih1_ v4 v9 v16 v72 v73 v92 (.tuple []) h))
 (K9 c r K ih1_ v4 v9 v16 v73 v18 v72 v73 h)
def Ba(c r:Ac)(K:Nat):Nat->EV->EV->EV->EV->EV->Aa->R
 | 0=>fun _ _ _ _ _ _=>none
 | m+1=>fun v4 v9 v16 v72 v73 h=>
  Ap Ih (bin TT .lss 3) v73 v72 fun v74=>
  Fg v74
  (K4 c r K (Ba c r K m) v4 v9 v16 v72 v73 h)
  (Fc c r K h)
def Eo(c r:Ac)(K:Nat)(v3 v4 v9:EV)(h:Aa):R:=
 Ba c r K K v4 v9 .Ag v3 (.int .i64 0) h
def Ks(c r:Ac)(K:Nat)(ih24_:EV->EV->EV->EV->EV->EV->Aa->R)(v3 v4 v9 v61 v62 v63:EV)(h:Aa):R:=
 Ap Ip (bin TT .add 3) v63 (.int .i64 1) fun v71=>
 ih24_ v3 v4 v9 v61 v62 v71 h
def Kv(c r:Ac)(K:Nat)(ih24_:EV->EV->EV->EV->EV->EV->Aa->R)(v3 v4 v9 v61 v62 v63:EV)(h:Aa):R:=
 Ix 68 v61 v63 fun v65=>
 B8 68 v65 h fun v66=>
 Mo (.cells (List.replicate 4 (.int .i64 0)++List.replicate 64 (.int .u8 0)) 105) h fun v15 h=>
 Jf 68 v15 v66 h fun h=>
 Gn h fun base s=>
 Cs 1 1 s h (fun h=>(Gi K v9 h)) fun v68 h s=>
 A9 2 0 base v15 s fun s=>B8 68 v15 h fun v69=>
 Cs 3 7 s h (fun h=>(c 42 [v68,v69] h)) fun v70 h s=>
 Ks c r K ih24_ v3 v4 v9 v61 v62 v63 h
def Bt(c r:Ac)(K:Nat):Nat->EV->EV->EV->EV->EV->EV->Aa->R
 | 0=>fun _ _ _ _ _ _ _=>none
 | m+1=>fun v3 v4 v9 v61 v62 v63 h=>
  Ap Ih (bin TT .lss 3) v63 v62 fun v64=>
  Fg v64
  (Kv c r K (Bt c r K m) v3 v4 v9 v61 v62 v63 h)
  (Eo c r K v3 v4 v9 h)
def Er(c r:Ac)(K:Nat)(v2 v3 v4 v9:EV)(h:Aa):R:=
 Ho v2 fun v62=>
 Bt c r K K v3 v4 v9 v2 v62 (.int .i64 0) h
def Kq(c r:Ac)(K:Nat)(ih29_:EV->EV->EV->EV->EV->EV->EV->Aa->R)(v2 v3 v4 v9 v50 v51 v52:EV)(h:Aa):R:=
 Ap Ip (bin TT .add 3) v52 (.int .i64 1) fun v60=>
 ih29_ v2 v3 v4 v9 v50 v51 v60 h
def K2(c r:Ac)(K:Nat)(ih29_:EV->EV->EV->EV->EV->EV->EV->Aa->R)(v2 v3 v4 v9 v50 v51 v52:EV)(h:Aa):R:=
 Ix 1 v50 v52 fun v54=>
 Am v54 h fun v55=>
 Al (G6 K v9 h) fun v57 h=>
 Al (c 15 [v57,v55] h) fun v59 h=>
 Kq c r K ih29_ v2 v3 v4 v9 v50 v51 v52 h
def Bu(c r:Ac)(K:Nat):Nat->EV->EV->EV->EV->EV->EV->EV->Aa->R
 | 0=>fun _ _ _ _ _ _ _ _=>none
 | m+1=>fun v2 v3 v4 v9 v50 v51 v52 h=>
  Ap Ih (bin TT .lss 3) v52 v51 fun v53=>
  Fg v53
  (K2 c r K (Bu c r K m) v2 v3 v4 v9 v50 v51 v52 h)
  (Er c r K v2 v3 v4 v9 h)
def Ky(c r:Ac)(K:Nat)(v1 v2 v3 v4 v9:EV)(h:Aa):R:=
 Ho v1 fun v51=>
 Bu c r K K v2 v3 v4 v9 v1 v51 (.int .i64 0) h
def Em(c r:Ac)(K:Nat)(v1 v2 v3 v4 v9 v46 v48:EV)(h:Aa):R:=
 Bg v46 (.bool true) v48 fun v49=>
 Fg v49
 (some ((.bool true),h))
 (Ky c r K v1 v2 v3 v4 v9 h)
def Es(c r:Ac)(K:Nat)(v1 v2 v3 v4 v9 v42 v44:EV)(h:Aa):R:=
 Bg v42 (.bool true) v44 fun v45=>
 Ao (As v45 false)
 (Ap Tz (bin TT .gtr 3) v3 (.int .i64 60) fun v48=>
 Em c r K v1 v2 v3 v4 v9 v45 v48 h)
 (Em c r K v1 v2 v3 v4 v9 v45 (.tuple []) h)
def Ez(c r:Ac)(K:Nat)(v1 v2 v3 v4 v9 v37 v40:EV)(h:Aa):R:=
 Bg v37 (.bool true) v40 fun v41=>
 Ao (As v41 false)
 (Ap Ih (bin TT .lss 3) v3 (.int .i64 0) fun v44=>
 Es c r K v1 v2 v3 v4 v9 v41 v44 h)
 (Es c r K v1 v2 v3 v4 v9 v41 (.tuple []) h)
def E0(c r:Ac)(K:Nat)(v1 v2 v3 v4 v9 v32 v35:EV)(h:Aa):R:=
 Bg v32 (.bool true) v35 fun v36=>
 Ao (As v36 false)
 (Ho v2 fun v39=>
 Ap Tz (bin TT .gtr 3) v39 (.int .i64 30) fun v40=>
 Ez c r K v1 v2 v3 v4 v9 v36 v40 h)
 (Ez c r K v1 v2 v3 v4 v9 v36 (.tuple []) h)
def Ko(c r:Ac)(K:Nat)(v1 v2 v3 v4:EV)(h:Aa):R:=
 B8 6 v4 h fun v25=>
 Al (Ge K v25 h) fun v26 h=>
 Cq 0 v26 fun v27=>
 Cq 1 v26 fun v28=>
 Cq 2 v26 fun v29=>
 Mo (.cells ([.Ag]++List.replicate 3 (.int .i64 0)++[(.bool false)]++List.replicate 2 .Ag++List.replicate 8 (.int .i64 0)++List.replicate 2 .Ag++List.replicate 3 (.int .i64 0)) 42) h fun v10 h=>
 Jf 20 v10 v28 h fun h=>
 Sz v29 fun v31=>
 Ao (As v31 false)
 (Ho v1 fun v34=>
 Ap Tz (bin TT .gtr 3) v34 (.int .i64 64) fun v35=>
 E0 c r K v1 v2 v3 v4 v27 v31 v35 h)
 (E0 c r K v1 v2 v3 v4 v27 v31 (.tuple []) h)
def Ir(c r:Ac)(K:Nat)(v0 v1 v2 v3:EV)(h:Aa):R:=
 E3 23 v0 h fun v4 h=>
 Al (c 23 [] h) fun v22 h=>
 Sz v22 fun v23=>
 Fg v23
 (some ((.bool false),h))
 (Ko c r K v1 v2 v3 v4 h)
abbrev Fp(K:Nat)(c:Ac):Ac:=(w2 21 (Ff K) (w2 43 (Kr K) (w1 38 (Uk K) (w1 31 (Gi K) (w1 14 (G6 K) (w1 33 (Ge K) c))))))
theorem Qd(c r:Ac)(K:Nat)(ih1_:EV->EV->EV->EV->EV->Aa->R)(m:Nat):Jb (fun ih=>Ht TT (Fp K c) c r K (nOf TT 8) (Gy TT 8) (Tx TT 8 [true,true,true,true,true,true,true,false,true,false,false,true,true,false,false,true,true,true,true,false,true,false]) [(6,fun ρ h=>E8 c r K ih1_ (ρ 4) (ρ 9) (ρ 16) (ρ 18) (ρ 72) (ρ 73) h),(5,fun ρ h=>Ck c r K ih1_ (ρ 4) (ρ 9) (ρ 16) (ρ 72) (ρ 73) h),(4,fun ρ h=>Fc c r K h)] ih) m=fun ρ h=>Bk c r K ih1_ m (ρ 4) (ρ 9) (ρ 16) (ρ 18) (ρ 72) (ρ 73) (ρ 120) (ρ 121) (ρ 122) h:=
 Dl (E:=fun m ρ h=>Bk c r K ih1_ m (ρ 4) (ρ 9) (ρ 16) (ρ 18) (ρ 72) (ρ 73) (ρ 120) (ρ 121) (ρ 122) h) rfl (fun m=>To fun ρ h=>by
  show _=Bk c r K ih1_ (m+1) (ρ 4) (ρ 9) (ρ 16) (ρ 18) (ρ 72) (ρ 73) (ρ 120) (ρ 121) (ρ 122) h
  rw[Bk];kernel_rfl) m
theorem Pr(c r:Ac)(K:Nat)(m:Nat):Jb (fun ih=>Ht TT (Fp K c) c r K (nOf TT 8) (Gy TT 8) (Tx TT 8 [true,true,true,true,true,true,true,false,true,false]) [(4,fun ρ h=>Fc c r K h)] ih) m=fun ρ h=>Ba c r K m (ρ 4) (ρ 9) (ρ 16) (ρ 72) (ρ 73) h:=
 A7a (E:=fun m ρ h=>Ba c r K m (ρ 4) (ρ 9) (ρ 16) (ρ 72) (ρ 73) h) rfl (fun m=>(cut [true,true,false,false,true,true,true,true,false,true,false] (Qd c r K (Ba c r K m) K) (by kernel_rfl) (by kernel_rfl) rfl)) (fun m=>To fun ρ h=>by
  show _=Ba c r K (m+1) (ρ 4) (ρ 9) (ρ 16) (ρ 72) (ρ 73) h
  rw[Ba];kernel_rfl) m
theorem Pq(c r:Ac)(K:Nat)(m:Nat):Jb (fun ih=>Ht TT (Fp K c) c r K (nOf TT 8) (Gy TT 8) (Tx TT 8 [true,true,true,true,true,false,true,false]) [(2,fun ρ h=>Eo c r K (ρ 3) (ρ 4) (ρ 9) h)] ih) m=fun ρ h=>Bt c r K m (ρ 3) (ρ 4) (ρ 9) (ρ 61) (ρ 62) (ρ 63) h:=
 Dl (E:=fun m ρ h=>Bt c r K m (ρ 3) (ρ 4) (ρ 9) (ρ 61) (ρ 62) (ρ 63) h) rfl (fun m=>To fun ρ h=>by
  show _=Bt c r K (m+1) (ρ 3) (ρ 4) (ρ 9) (ρ 61) (ρ 62) (ρ 63) h
  rw[Bt];kernel_rfl) m
theorem Py(c r:Ac)(K:Nat)(m:Nat):Jb (fun ih=>Ht TT (Fp K c) c r K (nOf TT 8) (Gy TT 8) (Tx TT 8 [true,true,true,true,false,true,false]) [(0,fun ρ h=>Er c r K (ρ 2) (ρ 3) (ρ 4) (ρ 9) h)] ih) m=fun ρ h=>Bu c r K m (ρ 2) (ρ 3) (ρ 4) (ρ 9) (ρ 50) (ρ 51) (ρ 52) h:=
 Dl (E:=fun m ρ h=>Bu c r K m (ρ 2) (ρ 3) (ρ 4) (ρ 9) (ρ 50) (ρ 51) (ρ 52) h) rfl (fun m=>To fun ρ h=>by
  show _=Bu c r K (m+1) (ρ 2) (ρ 3) (ρ 4) (ρ 9) (ρ 50) (ρ 51) (ρ 52) h
  rw[Bu];kernel_rfl) m
theorem Q7(H:Au disp)(hd:6<=d)(v0 v1 v2 v3:EV)(h:Aa):Af TT disp K (d+1) false 8 [v0,v1,v2,v3] h=Ir (Af TT disp K d false) (Af TT disp K d true) K v0 v1 v2 v3 h:=
 Vb (H.bare (by kernel_rfl)) (by kernel_rfl) (W2 (Mp H (lq hd rfl)) (W2 (Abj H (lq hd rfl)) (W1 (Ak9 H (lq hd rfl)) (W1 (X1 H (lq hd rfl)) (W1 (Yj H (lq hd rfl)) (W1 (Ve H (lq hd rfl)) rfl)))))) (cut [true,true,true,true,true,true,true,false,true,false] (Pr (Af TT disp K d false) (Af TT disp K d true) K K) (by kernel_rfl) (by kernel_rfl) (cut [true,true,true,true,true,false,true,false] (Pq (Af TT disp K d false) (Af TT disp K d true) K K) (by kernel_rfl) (by kernel_rfl) (cut [true,true,true,true,false,true,false] (Py (Af TT disp K d false) (Af TT disp K d true) K K) (by kernel_rfl) (by kernel_rfl) rfl))) (by kernel_rfl)
end
end Go.Ev
