import Derived.Test.YtpkcfamminlmaaaGreatFun
set_option linter.unusedVariables false
set_option linter.unusedSimpArgs false
set_option linter.unusedSectionVars false
namespace Go.Ev
open Go.Proofs
set_option maxRecDepth 100000
set_option maxHeartbeats 4000000
noncomputable section
variable {disp:Nat->Option FT}{K d:Nat}
def D4(K:Nat)(v0:EV)(h:Aa):R:=
 Bp v0 fun v4=>
 Ao 263 v4 fun v5=>
 Aq v5 h fun v6=>
 some (v6,h)
theorem Pb(H:Ap disp)(hd:1<=d)(v0:EV)(h:Aa):Ad TT disp K d false 14 [v0] h=D4 K v0 h:=
 Cp (H.bare (by kernel_rfl)) hd (by kernel_rfl) (fun d hd=>rfl) (fun d c r=>rfl) (fun d c r=>by kernel_rfl)
def E4(K:Nat)(v0:EV)(h:Aa):R:=
 J6 (.cells [(.int .i64 0),(.int .i64 0),(.int .i64 0),(.int .i64 0),(.int .i64 0),(.int .i64 0)] 23) h fun v2 h=>
 Bp v0 fun v4=>
 Ao 1 v4 fun v5=>
 Cm 6 v5 h fun v6=>
 Jq 6 v2 v6 h fun h=>
 Jh TT [.c v2 23] h
theorem Ow(H:Ap disp)(hd:1<=d)(v0:EV)(h:Aa):Ad TT disp K d false 30 [v0] h=E4 K v0 h:=
 Cp (H.bare (by kernel_rfl)) hd (by kernel_rfl) (fun d hd=>rfl) (fun d c r=>rfl) (fun d c r=>by kernel_rfl)
def Bv(K:Nat)(v0:EV)(h:Aa):R:=
 Bp v0 fun v4=>
 Ao 0 v4 fun v5=>
 Aq v5 h fun v6=>
 some (v6,h)
theorem Jn(H:Ap disp)(hd:1<=d)(v0:EV)(h:Aa):Ad TT disp K d false 31 [v0] h=Bv K v0 h:=
 Cp (H.bare (by kernel_rfl)) hd (by kernel_rfl) (fun d hd=>rfl) (fun d c r=>rfl) (fun d c r=>by kernel_rfl)
def Fx(K:Nat)(v0:EV)(h:Aa):R:=
 J6 (.cells (List.replicate 256 (.int .u32 0)) 72) h fun v2 h=>
 Bp v0 fun v4=>
 Ao 7 v4 fun v5=>
 Cm 256 v5 h fun v6=>
 Jq 256 v2 v6 h fun h=>
 Jh TT [.c v2 72] h
theorem V8(H:Ap disp)(hd:1<=d)(v0:EV)(h:Aa):Ad TT disp K d false 32 [v0] h=Fx K v0 h:=
 Cp (H.bare (by kernel_rfl)) hd (by kernel_rfl) (fun d hd=>rfl) (fun d c r=>rfl) (fun d c r=>by kernel_rfl)
def Cq(K:Nat)(v0:EV)(h:Aa):R:=
 Bp v0 fun v4=>
 Ao 0 v4 fun v5=>
 Aq v5 h fun v6=>
 some (v6,h)
theorem K9(H:Ap disp)(hd:1<=d)(v0:EV)(h:Aa):Ad TT disp K d false 36 [v0] h=Cq K v0 h:=
 Cp (H.bare (by kernel_rfl)) hd (by kernel_rfl) (fun d hd=>rfl) (fun d c r=>rfl) (fun d c r=>by kernel_rfl)
def Hm(K:Nat)(v0:EV)(h:Aa):R:=
 Dx 23 v0 h fun v1 h=>
 Ao 0 v1 fun v3=>
 Aq v3 h fun v4=>
 Ao 1 v1 fun v5=>
 Aq v5 h fun v6=>
 Ar Q4 (bin TT .mul 3) v4 v6 fun v7=>
 some (v7,h)
theorem Lq(H:Ap disp)(hd:1<=d)(v0:EV)(h:Aa):Ad TT disp K d false 63 [v0] h=Hm K v0 h:=
 Cp (H.bare (by kernel_rfl)) hd (by kernel_rfl) (fun d hd=>rfl) (fun d c r=>rfl) (fun d c r=>by kernel_rfl)
def Ie(K:Nat)(v0:EV)(h:Aa):R:=
 Bp v0 fun v4=>
 Ao 0 v4 fun v5=>
 Aq v5 h fun v6=>
 Aj (Anq v6 h) fun v7 h=>
 some (v7,h)
theorem Ab3(H:Ap disp)(hd:1<=d)(v0:EV)(h:Aa):Ad TT disp K d false 71 [v0] h=Ie K v0 h:=
 Cp (H.bare (by kernel_rfl)) hd (by kernel_rfl) (fun d hd=>rfl) (fun d c r=>rfl) (fun d c r=>by kernel_rfl)
def Ih(K:Nat)(v0:EV)(h:Aa):R:=
 Bp v0 fun v4=>
 Ao 0 v4 fun v5=>
 Aq v5 h fun v6=>
 I4 v6 fun v7=>
 some (v7,h)
theorem Pl(H:Ap disp)(hd:1<=d)(v0:EV)(h:Aa):Ad TT disp K d false 74 [v0] h=Ih K v0 h:=
 Cp (H.bare (by kernel_rfl)) hd (by kernel_rfl) (fun d hd=>rfl) (fun d c r=>rfl) (fun d c r=>by kernel_rfl)
def Hs(K:Nat)(v0:EV)(h:Aa):R:=
 Bp v0 fun v4=>
 Ao 1 v4 fun v5=>
 Aq v5 h fun v6=>
 some (v6,h)
theorem Q9(H:Ap disp)(hd:1<=d)(v0:EV)(h:Aa):Ad TT disp K d false 75 [v0] h=Hs K v0 h:=
 Cp (H.bare (by kernel_rfl)) hd (by kernel_rfl) (fun d hd=>rfl) (fun d c r=>rfl) (fun d c r=>by kernel_rfl)
def Ia(K:Nat)(v3:EV)(h:Aa):R:=
 some (v3,h)
def Ms(K:Nat)(ih1_:EV->EV->EV->Aa->R)(v1 v3 v4:EV)(h:Aa):R:=
 Ar Hh (bin TT .add 3) v4 (.int .i64 2) fun v10=>
 ih1_ v1 v3 v10 h
def Mu(K:Nat)(ih1_:EV->EV->EV->Aa->R)(v1 v3 v4:EV)(h:Aa):R:=
 Ar Hh (bin TT .add 3) v3 (.int .i64 1) fun v12=>
 Ms K ih1_ v1 v12 v4 h
def B9(K:Nat):Nat->EV->EV->EV->Aa->R
 | 0=>fun _ _ _ _=>none
 | m+1=>fun v1 v3 v4 h=>
  Ao 3 v1 fun v6=>
  Aq v6 h fun v7=>
  Ar G4 (bin TT .lss 3) v4 v7 fun v8=>
  Et v8
  (Mu K (B9 K m) v1 v3 v4 h)
  (Ia K v3 h)
def Hj(K:Nat)(v0:EV)(h:Aa):R:=
 Dx 37 v0 h fun v1 h=>
 B9 K K v1 (.int .i64 1) (.int .i64 0) h
abbrev Vm(K:Nat)(c:Ac):Ac:=c
theorem Sw(c c' r:Ac)(K:Nat)(m:Nat):G9 (fun ih=>F7 TT (Vm K c) c' r K (nOf TT 76) (E1 TT 76) (Pt TT 76 [true,true,false,true,false]) [(0,fun ρ h=>Ia K (ρ 3) h)] ih) m=fun ρ h=>B9 K m (ρ 1) (ρ 3) (ρ 4) h:=
 Cw (E:=fun m ρ h=>B9 K m (ρ 1) (ρ 3) (ρ 4) h) rfl (fun m=>P6 fun ρ h=>by
  show _=B9 K (m+1) (ρ 1) (ρ 3) (ρ 4) h
  rw[B9];kernel_rfl) m
theorem Tt(H:Ap disp)(hd:1<=d)(v0:EV)(h:Aa):Ad TT disp K d false 76 [v0] h=Hj K v0 h:=
 Cp (H.bare (by kernel_rfl)) hd (by kernel_rfl) (fun d hd=>rfl) (fun d c r=>(cut [true,true,false,true,false] (Sw (Ad TT disp K d false) c r K K) (by kernel_rfl) (by kernel_rfl) rfl)) (fun d c r=>by kernel_rfl)
def Ic(K:Nat)(v0:EV)(h:Aa):R:=
 Dx 23 v0 h fun v1 h=>
 Ao 3 v1 fun v3=>
 Aq v3 h fun v4=>
 Ar Hh (bin TT .add 3) v4 (.int .i64 2) fun v5=>
 Ar Sx (bin TT .sub 3) v5 (.int .i64 1) fun v6=>
 Ng (bin TT .quo 3) v6 (.int .i64 2) fun v7=>
 Ar Hh (bin TT .add 3) (.int .i64 1) v7 fun v8=>
 some (v8,h)
theorem Sa(H:Ap disp)(hd:1<=d)(v0:EV)(h:Aa):Ad TT disp K d false 112 [v0] h=Ic K v0 h:=
 Cp (H.bare (by kernel_rfl)) hd (by kernel_rfl) (fun d hd=>rfl) (fun d c r=>rfl) (fun d c r=>by kernel_rfl)
def Ou(K:Nat)(v7 v10:EV)(h:Aa):R:=
 B2 v7 v10 (.bool false) fun v11=>
 some (v11,h)
def N7(K:Nat)(v0 v1:EV)(h:Aa):R:=
 Ar Wa (bin TT .geq 3) v0 (.int .i64 1) fun v6=>
 An (Au v6 true)
 (Ar Ad9 (bin TT .leq 3) v0 v1 fun v10=>
 Ou K v6 v10 h)
 (Ou K v6 (.tuple []) h)
theorem Ah7(H:Ap disp)(hd:1<=d)(v0 v1:EV)(h:Aa):Ad TT disp K d false 124 [v0,v1] h=N7 K v0 v1 h:=
 Cp (H.bare (by kernel_rfl)) hd (by kernel_rfl) (fun d hd=>rfl) (fun d c r=>rfl) (fun d c r=>by kernel_rfl)
def Nm(K:Nat)(v0:EV)(h:Aa):R:=
 C4 (Gg [(0,1),(1,1),(2,1),(3,1),(4,1)]) [.Af,(.int .i64 0),(.int .i64 0),(.int .i64 0),(.bool false)] [(1,v0)] fun v11=>
 Dx 240 v11 h fun v12 h=>
 some (.tuple [v12,(.int .i64 0)],h)
def I0(K:Nat)(v0 v6 v8:EV)(h:Aa):R:=
 B2 v6 (.bool true) v8 fun v9=>
 Et v9
 (some (.tuple [.Da,(.int .i64 13)],h))
 (Nm K v0 h)
def F9(K:Nat)(v0:EV)(h:Aa):R:=
 Ar G4 (bin TT .lss 3) v0 (.int .i64 1) fun v5=>
 An (Au v5 false)
 (Ar Y8 (bin TT .gtr 3) v0 (.int .i64 64) fun v8=>
 I0 K v0 v5 v8 h)
 (I0 K v0 v5 (.tuple []) h)
theorem Uk(H:Ap disp)(hd:1<=d)(v0:EV)(h:Aa):Ad TT disp K d false 125 [v0] h=F9 K v0 h:=
 Cp (H.bare (by kernel_rfl)) hd (by kernel_rfl) (fun d hd=>rfl) (fun d c r=>rfl) (fun d c r=>by kernel_rfl)
def Aek(K:Nat)(v0:EV)(h:Aa):R:=
 Aj (Ab0 v0 h) fun v11 h=>
 C4 (Gg [(0,1)]) [.S6] [(0,v11)] fun v12=>
 Dx 218 v12 h fun v13 h=>
 some (.tuple [v13,(.int .i64 0)],h)
def Xo(K:Nat)(v0 v6 v8:EV)(h:Aa):R:=
 B2 v6 (.bool true) v8 fun v9=>
 Et v9
 (some (.tuple [.Da,(.int .i64 13)],h))
 (Aek K v0 h)
def Wj(K:Nat)(v0:EV)(h:Aa):R:=
 Ar G4 (bin TT .lss 3) v0 (.int .i64 1) fun v5=>
 An (Au v5 false)
 (Ar Y8 (bin TT .gtr 3) v0 (.int .i64 4096) fun v8=>
 Xo K v0 v5 v8 h)
 (Xo K v0 v5 (.tuple []) h)
theorem Alx(H:Ap disp)(hd:1<=d)(v0:EV)(h:Aa):Ad TT disp K d false 126 [v0] h=Wj K v0 h:=
 Cp (H.bare (by kernel_rfl)) hd (by kernel_rfl) (fun d hd=>rfl) (fun d c r=>rfl) (fun d c r=>by kernel_rfl)
def Ol(K:Nat)(v0:EV)(h:Aa):R:=
 Ng (bin TT .quo 3) v0 (.int .i64 2) fun v10=>
 some (v10,h)
def I8(K:Nat)(v0:EV)(h:Aa):R:=
 Ar G4 (bin TT .lss 3) v0 (.int .i64 0) fun v4=>
 Et v4
 (Ar Sx (bin TT .sub 3) (.int .i64 1) v0 fun v6=>
 Ng (bin TT .quo 3) v6 (.int .i64 2) fun v7=>
 Ane v7 fun v8=>
 some (v8,h))
 (Ol K v0 h)
theorem Wh(H:Ap disp)(hd:1<=d)(v0:EV)(h:Aa):Ad TT disp K d false 127 [v0] h=I8 K v0 h:=
 Cp (H.bare (by kernel_rfl)) hd (by kernel_rfl) (fun d hd=>rfl) (fun d c r=>rfl) (fun d c r=>by kernel_rfl)
def Ub(K:Nat)(v10 v13:EV)(h:Aa):R:=
 B2 v10 v13 (.bool false) fun v14=>
 some (v14,h)
def Gr(K:Nat)(v0 v1 v2:EV)(h:Aa):R:=
 Ar Wa (bin TT .geq 3) v0 v1 fun v9=>
 An (Au v9 true)
 (Ar Ad9 (bin TT .leq 3) v0 v2 fun v13=>
 Ub K v9 v13 h)
 (Ub K v9 (.tuple []) h)
theorem Yh(H:Ap disp)(hd:1<=d)(v0 v1 v2:EV)(h:Aa):Ad TT disp K d false 140 [v0,v1,v2] h=Gr K v0 v1 v2 h:=
 Cp (H.bare (by kernel_rfl)) hd (by kernel_rfl) (fun d hd=>rfl) (fun d c r=>rfl) (fun d c r=>by kernel_rfl)
def Lt(K:Nat)(v0:EV)(h:Aa):R:=
 Dx 23 v0 h fun v1 h=>
 Ao 0 v1 fun v3=>
 Aq v3 h fun v4=>
 Ao 4 v1 fun v5=>
 Aq v5 h fun v6=>
 Ar Q4 (bin TT .mul 3) v4 v6 fun v7=>
 Ar Hh (bin TT .add 3) v7 (.int .i64 4) fun v8=>
 some (v8,h)
theorem Yu(H:Ap disp)(hd:1<=d)(v0:EV)(h:Aa):Ad TT disp K d false 159 [v0] h=Lt K v0 h:=
 Cp (H.bare (by kernel_rfl)) hd (by kernel_rfl) (fun d hd=>rfl) (fun d c r=>rfl) (fun d c r=>by kernel_rfl)
def Aas(K:Nat)(v8:EV)(h:Aa):R:=
 some (.tuple [v8,(.int .i64 0)],h)
def Ah2(K:Nat)(ih1_:EV->EV->EV->EV->Aa->R)(v1 v8 v23 v24:EV)(h:Aa):R:=
 Ar Hh (bin TT .add 3) v24 (.int .i64 1) fun v44=>
 ih1_ v1 v8 v23 v44 h
def Ahf(K:Nat)(ih1_:EV->EV->EV->EV->Aa->R)(v1 v8 v9 v23 v24:EV)(h:Aa):R:=
 Bp v8 fun v36=>
 Ao 0 v36 fun v37=>
 Aq v37 h fun v38=>
 Aj (B4 [.Da] 180 1 1 [(0,v9)] h) fun v40 h=>
 Aj (C8 180 1 v38 v40 h) fun v41 h=>
 Bp v8 fun v42=>
 Ao 0 v42 fun v43=>
 Jq 1 v43 v41 h fun h=>
 Ah2 K ih1_ v1 v8 v23 v24 h
def Ah0(K:Nat)(ih1_:EV->EV->EV->EV->Aa->R)(v1 v8 v23 v24:EV)(h:Aa):R:=
 Aj (F9 K v1 h) fun v28 h=>
 Cy 0 v28 fun v29=>
 Cy 1 v28 fun v30=>
 Ar Jr (bin TT .neq 28) v30 (.int .i64 0) fun v32=>
 Et v32
 (some (.tuple [.Da,v30],h))
 (Ahf K ih1_ v1 v8 v29 v23 v24 h)
def Jw(K:Nat):Nat->EV->EV->EV->EV->Aa->R
 | 0=>fun _ _ _ _ _=>none
 | m+1=>fun v1 v8 v23 v24 h=>
  Ar G4 (bin TT .lss 3) v24 v23 fun v25=>
  Et v25
  (Ah0 K (Jw K m) v1 v8 v23 v24 h)
  (Aas K v8 h)
def Ahi(K:Nat)(v0 v1 v2:EV)(h:Aa):R:=
 C4 (Gg [(0,1),(1,1),(2,1),(3,1),(4,1)]) [.Af,(.int .i64 0),(.int .i64 0),(.int .i64 0),(.bool false)] [(1,v1),(2,v2)] fun v21=>
 Dx 183 v21 h fun v22 h=>
 Jw K K v1 v22 v0 (.int .i64 0) h
def Aam(K:Nat)(v0 v1 v2 v14 v17:EV)(h:Aa):R:=
 B2 v14 (.bool true) v17 fun v18=>
 Et v18
 (some (.tuple [.Da,(.int .i64 13)],h))
 (Ahi K v0 v1 v2 h)
def Af7(K:Nat)(v0 v1 v2:EV)(h:Aa):R:=
 Aj (N7 K v0 (.int .i64 512) h) fun v12 h=>
 Mp v12 fun v13=>
 An (Au v13 false)
 (Aj (N7 K v2 (.int .i64 64) h) fun v16 h=>
 Mp v16 fun v17=>
 Aam K v0 v1 v2 v13 v17 h)
 (Aam K v0 v1 v2 v13 (.tuple []) h)
abbrev Atj(K:Nat)(c:Ac):Ac:=(w2 124 (N7 K) (w1 125 (F9 K) c))
theorem All(c c' r:Ac)(K:Nat)(m:Nat):G9 (fun ih=>F7 TT (Atj K c) c' r K (nOf TT 72) (E1 TT 72) (Pt TT 72 [true,true,true,false,true,false]) [(0,fun ρ h=>Aas K (ρ 8) h)] ih) m=fun ρ h=>Jw K m (ρ 1) (ρ 8) (ρ 23) (ρ 24) h:=
 Cw (E:=fun m ρ h=>Jw K m (ρ 1) (ρ 8) (ρ 23) (ρ 24) h) rfl (fun m=>P6 fun ρ h=>by
  show _=Jw K (m+1) (ρ 1) (ρ 8) (ρ 23) (ρ 24) h
  rw[Jw];kernel_rfl) m
theorem Am3(H:Ap disp)(hd:2<=d)(v0 v1 v2:EV)(h:Aa):Ad TT disp K d false 72 [v0,v1,v2] h=Af7 K v0 v1 v2 h:=
 Cp (H.bare (by kernel_rfl)) hd (by kernel_rfl) (fun d hd=>(W2 (Ah7 H (lq hd rfl)) (W1 (Uk H (lq hd rfl)) rfl))) (fun d c r=>(cut [true,true,true,false,true,false] (All (Ad TT disp K d false) c r K K) (by kernel_rfl) (by kernel_rfl) rfl)) (fun d c r=>by kernel_rfl)
def E0(K:Nat)(v1 v5:EV)(h:Aa):R:=
 Gf h fun base s=>
 Ct 1 1 s h (fun h=>(I8 K v5 h)) fun v40 h s=>
 Ar Sx (bin TT .sub 3) v40 (.int .i64 1) fun v41=>
 Ao 0 v1 fun v42=>
 Bm 4 8 base v42 s fun s=>Aq v42 h fun v43=>
 Ao 4 v1 fun v44=>
 Bm 6 32 base v44 s fun s=>Aq v44 h fun v45=>
 Ar Q4 (bin TT .mul 3) v43 v45 fun v46=>
 Ar Sx (bin TT .sub 3) v41 v46 fun v47=>
 some (v47,h)
def F4(K:Nat)(v0:EV)(h:Aa):R:=
 Dx 37 v0 h fun v1 h=>
 Ao 1 v1 fun v7=>
 Aq v7 h fun v8=>
 Ao 4 v1 fun v9=>
 Aq v9 h fun v10=>
 Ar Sx (bin TT .sub 3) v8 v10 fun v11=>
 Ar Sx (bin TT .sub 3) v11 (.int .i64 2) fun v12=>
 Ao 0 v1 fun v13=>
 Aq v13 h fun v14=>
 Ao 4 v1 fun v15=>
 Aq v15 h fun v16=>
 Ar Q4 (bin TT .mul 3) v14 v16 fun v17=>
 Ar Hh (bin TT .add 3) v17 (.int .i64 4) fun v18=>
 Ao 0 v1 fun v19=>
 Aq v19 h fun v20=>
 Ar Sx (bin TT .sub 3) v20 (.int .i64 1) fun v21=>
 Ar Q4 (bin TT .mul 3) v21 v12 fun v23=>
 Ar Sx (bin TT .sub 3) v23 v18 fun v25=>
 Ar Hh (bin TT .add 3) v25 (.int .i64 1) fun v26=>
 Ao 0 v1 fun v27=>
 Aq v27 h fun v28=>
 Ar Q4 (bin TT .mul 3) v28 v12 fun v30=>
 Ar Q4 (bin TT .mul 3) (.int .i64 2) v18 fun v32=>
 Ar Sx (bin TT .sub 3) v30 v32 fun v33=>
 Ar Hh (bin TT .add 3) v33 (.int .i64 1) fun v34=>
 Ar G4 (bin TT .lss 3) v34 v26 fun v37=>
 Et v37
 (E0 K v1 v34 h)
 (E0 K v1 v26 h)
theorem Rd(H:Ap disp)(hd:2<=d)(v0:EV)(h:Aa):Ad TT disp K d false 77 [v0] h=F4 K v0 h:=
 Cp (H.bare (by kernel_rfl)) hd (by kernel_rfl) (fun d hd=>(W1 (Wh H (lq hd rfl)) rfl)) (fun d c r=>rfl) (fun d c r=>by kernel_rfl)
def D8(K:Nat)(v26 v29:EV)(h:Aa):R:=
 B2 v26 v29 (.bool false) fun v30=>
 some (v30,h)
def Ee(K:Nat)(v1 v21 v24:EV)(h:Aa):R:=
 B2 v21 v24 (.bool false) fun v25=>
 An (Au v25 true)
 (Ao 5 v1 fun v27=>
 Aq v27 h fun v28=>
 Aj (Gr K v28 (.int .i64 4) (.int .i64 64) h) fun v29 h=>
 D8 K v25 v29 h)
 (D8 K v25 (.tuple []) h)
def Ed(K:Nat)(v1 v16 v19:EV)(h:Aa):R:=
 B2 v16 v19 (.bool false) fun v20=>
 An (Au v20 true)
 (Ao 4 v1 fun v22=>
 Aq v22 h fun v23=>
 Aj (Gr K v23 (.int .i64 0) (.int .i64 4) h) fun v24 h=>
 Ee K v1 v20 v24 h)
 (Ee K v1 v20 (.tuple []) h)
def D9(K:Nat)(v1 v11 v14:EV)(h:Aa):R:=
 B2 v11 v14 (.bool false) fun v15=>
 An (Au v15 true)
 (Ao 3 v1 fun v17=>
 Aq v17 h fun v18=>
 Aj (Gr K v18 (.int .i64 1) (.int .i64 256) h) fun v19 h=>
 Ed K v1 v15 v19 h)
 (Ed K v1 v15 (.tuple []) h)
def Ec(K:Nat)(v1 v6 v9:EV)(h:Aa):R:=
 B2 v6 v9 (.bool false) fun v10=>
 An (Au v10 true)
 (Ao 2 v1 fun v12=>
 Aq v12 h fun v13=>
 Aj (Gr K v13 (.int .i64 4) (.int .i64 64) h) fun v14 h=>
 D9 K v1 v10 v14 h)
 (D9 K v1 v10 (.tuple []) h)
def Nr(K:Nat)(v0:EV)(h:Aa):R:=
 Dx 23 v0 h fun v1 h=>
 Ao 0 v1 fun v3=>
 Aq v3 h fun v4=>
 Aj (Gr K v4 (.int .i64 3) (.int .i64 8) h) fun v5 h=>
 An (Au v5 true)
 (Ao 1 v1 fun v7=>
 Aq v7 h fun v8=>
 Aj (Gr K v8 (.int .i64 1) (.int .i64 64) h) fun v9 h=>
 Ec K v1 v5 v9 h)
 (Ec K v1 v5 (.tuple []) h)
theorem Ab8(H:Ap disp)(hd:2<=d)(v0:EV)(h:Aa):Ad TT disp K d false 111 [v0] h=Nr K v0 h:=
 Cp (H.bare (by kernel_rfl)) hd (by kernel_rfl) (fun d hd=>(W3 (Yh H (lq hd rfl)) rfl)) (fun d c r=>rfl) (fun d c r=>by kernel_rfl)
def Jx(K:Nat)(v0:EV)(h:Aa):R:=
 Dx 23 v0 h fun v1 h=>
 Gf h fun base s=>
 Ao 1 v1 fun v6=>
 Bm 1 1 base v6 s fun s=>Aq v6 h fun v7=>
 Ao 4 v1 fun v8=>
 Bm 3 4 base v8 s fun s=>Aq v8 h fun v9=>
 Ar Sx (bin TT .sub 3) v7 v9 fun v10=>
 Ar Sx (bin TT .sub 3) v10 (.int .i64 2) fun v11=>
 Bm 6 0 base v1 s fun s=>Cm 6 v1 h fun v12=>
 Ct 7 64 s h (fun h=>(Lt K v12 h)) fun v13 h s=>
 Ao 0 v1 fun v14=>
 Aq v14 h fun v15=>
 Ar Sx (bin TT .sub 3) v15 (.int .i64 1) fun v16=>
 Ar Q4 (bin TT .mul 3) v16 v11 fun v18=>
 Ar Sx (bin TT .sub 3) v18 v13 fun v20=>
 Ar Hh (bin TT .add 3) v20 (.int .i64 1) fun v21=>
 Ao 0 v1 fun v22=>
 Aq v22 h fun v23=>
 Ar Q4 (bin TT .mul 3) v23 v11 fun v25=>
 Ar Q4 (bin TT .mul 3) (.int .i64 2) v13 fun v27=>
 Ar Sx (bin TT .sub 3) v25 v27 fun v28=>
 Ar Hh (bin TT .add 3) v28 (.int .i64 1) fun v29=>
 Aj (builtin TT .min #[3,3] [v21,v29] h) fun v30 h=>
 Ng (bin TT .shr 3) v30 (.int .u64 1) fun v32=>
 Ar Sx (bin TT .sub 3) v32 (.int .i64 1) fun v33=>
 Ao 0 v1 fun v34=>
 Aq v34 h fun v35=>
 Ao 4 v1 fun v36=>
 Aq v36 h fun v37=>
 Ar Q4 (bin TT .mul 3) v35 v37 fun v38=>
 Ar Sx (bin TT .sub 3) v33 v38 fun v39=>
 some (v39,h)
theorem X6(H:Ap disp)(hd:2<=d)(v0:EV)(h:Aa):Ad TT disp K d false 113 [v0] h=Jx K v0 h:=
 Cp (H.bare (by kernel_rfl)) hd (by kernel_rfl) (fun d hd=>(W1 (Yu H (lq hd rfl)) rfl)) (fun d c r=>rfl) (fun d c r=>by kernel_rfl)
def Ahm(K:Nat)(v8:EV)(h:Aa):R:=
 Aj (Aef h) fun v21 h=>
 C4 (Gg [(0,1),(1,1),(2,1),(3,1)]) [.Da,.Af,.Af,.Xu] [(0,v8),(3,v21)] fun v22=>
 Dx 166 v22 h fun v23 h=>
 some (.tuple [v23,(.int .i64 0)],h)
def Aev(K:Nat)(v0 v1 v2:EV)(h:Aa):R:=
 Aj (Af7 K v0 v1 v2 h) fun v14 h=>
 Cy 0 v14 fun v15=>
 Cy 1 v14 fun v16=>
 Ar Jr (bin TT .neq 28) v16 (.int .i64 0) fun v18=>
 Et v18
 (some (.tuple [.Da,v16],h))
 (Ahm K v15 h)
theorem Aos(H:Ap disp)(hd:3<=d)(v0 v1 v2:EV)(h:Aa):Ad TT disp K d false 24 [v0,v1,v2] h=Aev K v0 v1 v2 h:=
 Cp (H.bare (by kernel_rfl)) hd (by kernel_rfl) (fun d hd=>(W3 (Am3 H (lq hd rfl)) rfl)) (fun d c r=>rfl) (fun d c r=>by kernel_rfl)
def F5(K:Nat)(base:Nat)(s:DX)(v66 v75:EV)(h:Aa):R:=
 B2 v66 v75 (.bool false) fun v76=>
 some (v76,h)
def Mv(K:Nat)(v1:EV)(h:Aa):R:=
 Gf h fun base s=>
 Bm 0 0 base v1 s fun s=>Cm 6 v1 h fun v61=>
 Ct 1 1 s h (fun h=>(Hj K v61 h)) fun v62 h s=>
 Ao 2 v1 fun v63=>
 Bm 3 4 base v63 s fun s=>Aq v63 h fun v64=>
 Ar Ad9 (bin TT .leq 3) v62 v64 fun v65=>
 An (Au v65 true)
 (Ao 3 v1 fun v67=>
 Bm 7 127 base v67 s fun s=>Aq v67 h fun v68=>
 Ar Q4 (bin TT .mul 3) (.int .i64 2) v68 fun v69=>
 Ao 2 v1 fun v70=>
 Bm 10 575 base v70 s fun s=>Aq v70 h fun v71=>
 Bm 11 63 base v1 s fun s=>Cm 6 v1 h fun v72=>
 Ct 12 2111 s h (fun h=>(F4 K v72 h)) fun v73 h s=>
 Ar Q4 (bin TT .mul 3) v71 v73 fun v74=>
 Ar Ad9 (bin TT .leq 3) v69 v74 fun v75=>
 F5 K base s v65 v75 h)
 (F5 K base s v65 (.tuple []) h)
def A4(K:Nat)(v1 v56 v59:EV)(h:Aa):R:=
 B2 v56 (.bool true) v59 fun v60=>
 Et v60
 (some ((.bool false),h))
 (Mv K v1 h)
def A9(K:Nat)(v1 v51 v54:EV)(h:Aa):R:=
 B2 v51 (.bool true) v54 fun v55=>
 An (Au v55 false)
 (Ao 5 v1 fun v57=>
 Aq v57 h fun v58=>
 Ar Y8 (bin TT .gtr 3) v58 (.int .i64 64) fun v59=>
 A4 K v1 v55 v59 h)
 (A4 K v1 v55 (.tuple []) h)
def Be(K:Nat)(v1 v46 v49:EV)(h:Aa):R:=
 B2 v46 (.bool true) v49 fun v50=>
 An (Au v50 false)
 (Ao 5 v1 fun v52=>
 Aq v52 h fun v53=>
 Ar G4 (bin TT .lss 3) v53 (.int .i64 4) fun v54=>
 A9 K v1 v50 v54 h)
 (A9 K v1 v50 (.tuple []) h)
def Bl(K:Nat)(v1 v41 v44:EV)(h:Aa):R:=
 B2 v41 (.bool true) v44 fun v45=>
 An (Au v45 false)
 (Ao 4 v1 fun v47=>
 Aq v47 h fun v48=>
 Ar Y8 (bin TT .gtr 3) v48 (.int .i64 4) fun v49=>
 Be K v1 v45 v49 h)
 (Be K v1 v45 (.tuple []) h)
def Br(K:Nat)(v1 v36 v39:EV)(h:Aa):R:=
 B2 v36 (.bool true) v39 fun v40=>
 An (Au v40 false)
 (Ao 4 v1 fun v42=>
 Aq v42 h fun v43=>
 Ar G4 (bin TT .lss 3) v43 (.int .i64 0) fun v44=>
 Bl K v1 v40 v44 h)
 (Bl K v1 v40 (.tuple []) h)
def B3(K:Nat)(v1 v31 v34:EV)(h:Aa):R:=
 B2 v31 (.bool true) v34 fun v35=>
 An (Au v35 false)
 (Ao 3 v1 fun v37=>
 Aq v37 h fun v38=>
 Ar Y8 (bin TT .gtr 3) v38 (.int .i64 256) fun v39=>
 Br K v1 v35 v39 h)
 (Br K v1 v35 (.tuple []) h)
def B8(K:Nat)(v1 v26 v29:EV)(h:Aa):R:=
 B2 v26 (.bool true) v29 fun v30=>
 An (Au v30 false)
 (Ao 3 v1 fun v32=>
 Aq v32 h fun v33=>
 Ar G4 (bin TT .lss 3) v33 (.int .i64 1) fun v34=>
 B3 K v1 v30 v34 h)
 (B3 K v1 v30 (.tuple []) h)
def Cl(K:Nat)(v1 v21 v24:EV)(h:Aa):R:=
 B2 v21 (.bool true) v24 fun v25=>
 An (Au v25 false)
 (Ao 2 v1 fun v27=>
 Aq v27 h fun v28=>
 Ar Y8 (bin TT .gtr 3) v28 (.int .i64 64) fun v29=>
 B8 K v1 v25 v29 h)
 (B8 K v1 v25 (.tuple []) h)
def C7(K:Nat)(v1 v16 v19:EV)(h:Aa):R:=
 B2 v16 (.bool true) v19 fun v20=>
 An (Au v20 false)
 (Ao 2 v1 fun v22=>
 Aq v22 h fun v23=>
 Ar G4 (bin TT .lss 3) v23 (.int .i64 4) fun v24=>
 Cl K v1 v20 v24 h)
 (Cl K v1 v20 (.tuple []) h)
def Ea(K:Nat)(v1 v11 v14:EV)(h:Aa):R:=
 B2 v11 (.bool true) v14 fun v15=>
 An (Au v15 false)
 (Ao 1 v1 fun v17=>
 Aq v17 h fun v18=>
 Ar Y8 (bin TT .gtr 3) v18 (.int .i64 64) fun v19=>
 C7 K v1 v15 v19 h)
 (C7 K v1 v15 (.tuple []) h)
def Fi(K:Nat)(v1 v6 v9:EV)(h:Aa):R:=
 B2 v6 (.bool true) v9 fun v10=>
 An (Au v10 false)
 (Ao 1 v1 fun v12=>
 Aq v12 h fun v13=>
 Ar G4 (bin TT .lss 3) v13 (.int .i64 1) fun v14=>
 Ea K v1 v10 v14 h)
 (Ea K v1 v10 (.tuple []) h)
def Hc(K:Nat)(v0:EV)(h:Aa):R:=
 Dx 37 v0 h fun v1 h=>
 Ao 0 v1 fun v3=>
 Aq v3 h fun v4=>
 Ar G4 (bin TT .lss 3) v4 (.int .i64 3) fun v5=>
 An (Au v5 false)
 (Ao 0 v1 fun v7=>
 Aq v7 h fun v8=>
 Ar Y8 (bin TT .gtr 3) v8 (.int .i64 8) fun v9=>
 Fi K v1 v5 v9 h)
 (Fi K v1 v5 (.tuple []) h)
theorem Tu(H:Ap disp)(hd:3<=d)(v0:EV)(h:Aa):Ad TT disp K d false 27 [v0] h=Hc K v0 h:=
 Cp (H.bare (by kernel_rfl)) hd (by kernel_rfl) (fun d hd=>(W1 (Tt H (lq hd rfl)) (W1 (Rd H (lq hd rfl)) rfl))) (fun d c r=>rfl) (fun d c r=>by kernel_rfl)
def Hy(K:Nat)(base:Nat)(s:DX)(v12 v21:EV)(h:Aa):R:=
 B2 v12 v21 (.bool false) fun v22=>
 some (v22,h)
def J1(K:Nat)(base:Nat)(s:DX)(v1 v5 v10:EV)(h:Aa):R:=
 B2 v5 v10 (.bool false) fun v11=>
 An (Au v11 true)
 (Ao 3 v1 fun v13=>
 Bm 11 2047 base v13 s fun s=>Aq v13 h fun v14=>
 Ar Q4 (bin TT .mul 3) (.int .i64 2) v14 fun v15=>
 Ao 2 v1 fun v16=>
 Bm 14 9215 base v16 s fun s=>Aq v16 h fun v17=>
 Bm 15 1023 base v1 s fun s=>Cm 6 v1 h fun v18=>
 Ct 16 33791 s h (fun h=>(Jx K v18 h)) fun v19 h s=>
 Ar Q4 (bin TT .mul 3) v17 v19 fun v20=>
 Ar Ad9 (bin TT .leq 3) v15 v20 fun v21=>
 Hy K base s v11 v21 h)
 (Hy K base s v11 (.tuple []) h)
def G6(K:Nat)(v0:EV)(h:Aa):R:=
 Dx 23 v0 h fun v1 h=>
 Gf h fun base s=>
 Bm 0 0 base v1 s fun s=>Cm 6 v1 h fun v3=>
 Ct 1 1 s h (fun h=>(Nr K v3 h)) fun v4 h s=>
 An (Au v4 true)
 (Bm 3 7 base v1 s fun s=>Cm 6 v1 h fun v6=>
 Ct 4 15 s h (fun h=>(Ic K v6 h)) fun v7 h s=>
 Ao 2 v1 fun v8=>
 Bm 6 39 base v8 s fun s=>Aq v8 h fun v9=>
 Ar Ad9 (bin TT .leq 3) v7 v9 fun v10=>
 J1 K base s v1 v4 v10 h)
 (J1 K base s v1 v4 (.tuple []) h)
theorem M9(H:Ap disp)(hd:3<=d)(v0:EV)(h:Aa):Ad TT disp K d false 62 [v0] h=G6 K v0 h:=
 Cp (H.bare (by kernel_rfl)) hd (by kernel_rfl) (fun d hd=>(W1 (Ab8 H (lq hd rfl)) (W1 (Sa H (lq hd rfl)) (W1 (X6 H (lq hd rfl)) rfl)))) (fun d c r=>rfl) (fun d c r=>by kernel_rfl)
def Abj(K:Nat)(v4:EV)(h:Aa):R:=
 some (.tuple [v4,(.int .i64 0)],h)
def Ag2(K:Nat)(ih1_:EV->EV->EV->EV->Aa->R)(v1 v4 v14 v15:EV)(h:Aa):R:=
 Ar Hh (bin TT .add 3) v15 (.int .i64 1) fun v36=>
 ih1_ v1 v4 v14 v36 h
def Ahz(K:Nat)(ih1_:EV->EV->EV->EV->Aa->R)(v1 v4 v5 v14 v15:EV)(h:Aa):R:=
 Bp v4 fun v28=>
 Ao 6 v28 fun v29=>
 Aq v29 h fun v30=>
 Aj (B4 [.Da] 153 1 1 [(0,v5)] h) fun v32 h=>
 Aj (C8 153 1 v30 v32 h) fun v33 h=>
 Bp v4 fun v34=>
 Ao 6 v34 fun v35=>
 Jq 1 v35 v33 h fun h=>
 Ag2 K ih1_ v1 v4 v14 v15 h
def Ahu(K:Nat)(ih1_:EV->EV->EV->EV->Aa->R)(v1 v4 v14 v15:EV)(h:Aa):R:=
 Ao 1 v1 fun v18=>
 Aq v18 h fun v19=>
 Aj (Wj K v19 h) fun v20 h=>
 Cy 0 v20 fun v21=>
 Cy 1 v20 fun v22=>
 Ar Jr (bin TT .neq 28) v22 (.int .i64 0) fun v24=>
 Et v24
 (some (.tuple [.Da,v22],h))
 (Ahz K ih1_ v1 v4 v21 v14 v15 h)
def Jt(K:Nat):Nat->EV->EV->EV->EV->Aa->R
 | 0=>fun _ _ _ _ _=>none
 | m+1=>fun v1 v4 v14 v15 h=>
  Ar G4 (bin TT .lss 3) v15 v14 fun v16=>
  Et v16
  (Ahu K (Jt K m) v1 v4 v14 v15 h)
  (Abj K v4 h)
def Ahk(K:Nat)(v1:EV)(h:Aa):R:=
 Cm 6 v1 h fun v10=>
 C4 (Gg [(0,6),(6,1)]) [(.int .i64 0),(.int .i64 0),(.int .i64 0),(.int .i64 0),(.int .i64 0),(.int .i64 0),.Af] [(0,v10)] fun v11=>
 Dx 152 v11 h fun v12 h=>
 Ao 0 v1 fun v13=>
 Aq v13 h fun v14=>
 Jt K K v1 v12 v14 (.int .i64 0) h
def Vz(K:Nat)(v0:EV)(h:Aa):R:=
 Dx 23 v0 h fun v1 h=>
 Cm 6 v1 h fun v7=>
 Aj (G6 K v7 h) fun v8 h=>
 Mp v8 fun v9=>
 Et v9
 (some (.tuple [.Da,(.int .i64 20)],h))
 (Ahk K v1 h)
abbrev Aro(K:Nat)(c:Ac):Ac:=(w1 62 (G6 K) (w1 126 (Wj K) c))
theorem Ale(c c' r:Ac)(K:Nat)(m:Nat):G9 (fun ih=>F7 TT (Aro K c) c' r K (nOf TT 73) (E1 TT 73) (Pt TT 73 [true,true,true,false,true,false]) [(0,fun ρ h=>Abj K (ρ 4) h)] ih) m=fun ρ h=>Jt K m (ρ 1) (ρ 4) (ρ 14) (ρ 15) h:=
 Cw (E:=fun m ρ h=>Jt K m (ρ 1) (ρ 4) (ρ 14) (ρ 15) h) rfl (fun m=>P6 fun ρ h=>by
  show _=Jt K (m+1) (ρ 1) (ρ 4) (ρ 14) (ρ 15) h
  rw[Jt];kernel_rfl) m
theorem An7(H:Ap disp)(hd:4<=d)(v0:EV)(h:Aa):Ad TT disp K d false 73 [v0] h=Vz K v0 h:=
 Cp (H.bare (by kernel_rfl)) hd (by kernel_rfl) (fun d hd=>(W1 (M9 H (lq hd rfl)) (W1 (Alx H (lq hd rfl)) rfl))) (fun d c r=>(cut [true,true,true,false,true,false] (Ale (Ad TT disp K d false) c r K K) (by kernel_rfl) (by kernel_rfl) rfl)) (fun d c r=>by kernel_rfl)
def Acl(K:Nat)(v0 v4 v5 v8:EV)(h:Aa):R:=
 Gf h fun base s=>
 Bm 1 0 base v4 s fun s=>Cm 6 v4 h fun v34=>
 Bm 2 0 base v5 s fun s=>Cm 256 v5 h fun v35=>
 Bm 4 0 base v4 s fun s=>Cm 6 v4 h fun v37=>
 Ct 5 16 s h (fun h=>(Hm K v37 h)) fun v38 h s=>
 Aax 6 h s fun s=>Aj (Ny [(.int .i64 0)] 3 v38 v38 h) fun v39 h=>
 C4 (Gg [(0,1),(1,6),(7,256),(263,1),(264,1),(265,1),(266,1),(267,1)]) ([.Da]++List.replicate 6 (.int .i64 0)++List.replicate 256 (.int .u32 0)++[.Da]++[.Af]++List.replicate 3 (.int .i64 0)) [(0,v0),(1,v34),(2,v35),(3,v8),(4,v39),(5,(.int .i64 (-1))),(6,(.int .i64 (-1)))] fun v40=>
 Aax 8 h s fun s=>Dx 149 v40 h fun v41 h=>
 some (.tuple [v41,(.int .i64 0)],h)
def K6(K:Nat)(base:Nat)(s:DX)(v0 v4 v5 v8 v25 v31:EV)(h:Aa):R:=
 B2 v25 (.bool true) v31 fun v32=>
 Et v32
 (some (.tuple [.Da,(.int .i64 20)],h))
 (Acl K v0 v4 v5 v8 h)
def Qh(K:Nat)(base:Nat)(s:DX)(v0 v4 v5 v8 v17 v23:EV)(h:Aa):R:=
 B2 v17 (.bool true) v23 fun v24=>
 An (Au v24 false)
 (Ct 12 4095 s h (fun h=>(Cq K v0 h)) fun v27 h s=>
 Ct 13 8191 s h (fun h=>(Hs K v27 h)) fun v28 h s=>
 Ao 2 v4 fun v29=>
 Bm 15 18431 base v29 s fun s=>Aq v29 h fun v30=>
 Ar Jr (bin TT .neq 3) v28 v30 fun v31=>
 K6 K base s v0 v4 v5 v8 v24 v31 h)
 (K6 K base s v0 v4 v5 v8 v24 (.tuple []) h)
def Xj(K:Nat)(v0 v1 v2:EV)(h:Aa):R:=
 Dx 23 v1 h fun v4 h=>
 Dx 72 v2 h fun v5 h=>
 Cm 6 v4 h fun v11=>
 Aj (Vz K v11 h) fun v12 h=>
 Cy 0 v12 fun v13=>
 Cy 1 v12 fun v14=>
 Gf h fun base s=>
 Ar Jr (bin TT .neq 28) v14 (.int .i64 0) fun v16=>
 An (Au v16 false)
 (Ct 4 15 s h (fun h=>(Cq K v0 h)) fun v19 h s=>
 Ct 5 31 s h (fun h=>(Ih K v19 h)) fun v20 h s=>
 Bm 6 7 base v4 s fun s=>Cm 6 v4 h fun v21=>
 Ct 7 127 s h (fun h=>(Hm K v21 h)) fun v22 h s=>
 Ar Jr (bin TT .neq 3) v20 v22 fun v23=>
 Qh K base s v0 v4 v5 v13 v16 v23 h)
 (Qh K base s v0 v4 v5 v13 v16 (.tuple []) h)
theorem Ajb(H:Ap disp)(hd:5<=d)(v0 v1 v2:EV)(h:Aa):Ad TT disp K d false 25 [v0,v1,v2] h=Xj K v0 v1 v2 h:=
 Cp (H.bare (by kernel_rfl)) hd (by kernel_rfl) (fun d hd=>(W1 (An7 H (lq hd rfl)) (W1 (K9 H (lq hd rfl)) (W1 (Pl H (lq hd rfl)) (W1 (Lq H (lq hd rfl)) (W1 (Q9 H (lq hd rfl)) rfl)))))) (fun d c r=>rfl) (fun d c r=>by kernel_rfl)
end
end Go.Ev
