import Derived.Test.YtpkcfamminlmaaaGreatFun
set_option linter.unusedVariables false
set_option linter.unusedSimpArgs false
set_option linter.unusedSectionVars false
namespace Go.Ev
open Go.Proofs
set_option maxRecDepth 100000
set_option maxHeartbeats 4000000
noncomputable section
variable {disp:Nat->Option FT}{K d:Nat}
def Jq(K:Nat)(v0:EV)(h:Aa):R:=
 Bj v0 fun v4=>
 Ap 263 v4 fun v5=>
 Av v5 h fun v6=>
 some (v6,h)
theorem Abw(H:Aq disp)(hd:1<=d)(v0:EV)(h:Aa):Ad TT disp K d false 14 [v0] h=Jq K v0 h:=
 Cm (H.bare (by kernel_rfl)) hd (by kernel_rfl) (fun d hd=>rfl) (fun d c r=>rfl) (fun d c r=>by kernel_rfl)
def Ic(K:Nat)(v0:EV)(h:Aa):R:=
 Fw (.cells [(.int .i64 0),(.int .i64 0),(.int .i64 0),(.int .i64 0),(.int .i64 0),(.int .i64 0)] 23) h fun v2 h=>
 Bj v0 fun v4=>
 Ap 1 v4 fun v5=>
 B4 6 v5 h fun v6=>
 Dw 6 v2 v6 h fun h=>
 Ct TT [.c v2 23] h
theorem Acn(H:Aq disp)(hd:1<=d)(v0:EV)(h:Aa):Ad TT disp K d false 30 [v0] h=Ic K v0 h:=
 Cm (H.bare (by kernel_rfl)) hd (by kernel_rfl) (fun d hd=>rfl) (fun d c r=>rfl) (fun d c r=>by kernel_rfl)
def Cr(K:Nat)(v0:EV)(h:Aa):R:=
 Bj v0 fun v4=>
 Ap 0 v4 fun v5=>
 Av v5 h fun v6=>
 some (v6,h)
theorem Abj(H:Aq disp)(hd:1<=d)(v0:EV)(h:Aa):Ad TT disp K d false 31 [v0] h=Cr K v0 h:=
 Cm (H.bare (by kernel_rfl)) hd (by kernel_rfl) (fun d hd=>rfl) (fun d c r=>rfl) (fun d c r=>by kernel_rfl)
def Gd(K:Nat)(v0:EV)(h:Aa):R:=
 Fw (.cells (List.replicate 256 (.int .u32 0)) 72) h fun v2 h=>
 Bj v0 fun v4=>
 Ap 7 v4 fun v5=>
 B4 256 v5 h fun v6=>
 Dw 256 v2 v6 h fun h=>
 Ct TT [.c v2 72] h
theorem Abq(H:Aq disp)(hd:1<=d)(v0:EV)(h:Aa):Ad TT disp K d false 32 [v0] h=Gd K v0 h:=
 Cm (H.bare (by kernel_rfl)) hd (by kernel_rfl) (fun d hd=>rfl) (fun d c r=>rfl) (fun d c r=>by kernel_rfl)
def C2(K:Nat)(v0:EV)(h:Aa):R:=
 Bj v0 fun v4=>
 Ap 0 v4 fun v5=>
 Av v5 h fun v6=>
 some (v6,h)
theorem Sy(H:Aq disp)(hd:1<=d)(v0:EV)(h:Aa):Ad TT disp K d false 36 [v0] h=C2 K v0 h:=
 Cm (H.bare (by kernel_rfl)) hd (by kernel_rfl) (fun d hd=>rfl) (fun d c r=>rfl) (fun d c r=>by kernel_rfl)
def Hj(K:Nat)(v0:EV)(h:Aa):R:=
 D8 23 v0 h fun v1 h=>
 Ap 0 v1 fun v3=>
 Av v3 h fun v4=>
 Ap 1 v1 fun v5=>
 Av v5 h fun v6=>
 Ar Vm (bin TT .mul 3) v4 v6 fun v7=>
 some (v7,h)
theorem Kn(H:Aq disp)(hd:1<=d)(v0:EV)(h:Aa):Ad TT disp K d false 63 [v0] h=Hj K v0 h:=
 Cm (H.bare (by kernel_rfl)) hd (by kernel_rfl) (fun d hd=>rfl) (fun d c r=>rfl) (fun d c r=>by kernel_rfl)
def C4(K:Nat)(v0:EV)(h:Aa):R:=
 Bj v0 fun v4=>
 Ap 0 v4 fun v5=>
 Av v5 h fun v6=>
 Al (Au4 v6 h) fun v7 h=>
 some (v7,h)
theorem I7(H:Aq disp)(hd:1<=d)(v0:EV)(h:Aa):Ad TT disp K d false 71 [v0] h=C4 K v0 h:=
 Cm (H.bare (by kernel_rfl)) hd (by kernel_rfl) (fun d hd=>rfl) (fun d c r=>rfl) (fun d c r=>by kernel_rfl)
def Kt(K:Nat)(v0:EV)(h:Aa):R:=
 Bj v0 fun v4=>
 Ap 0 v4 fun v5=>
 Av v5 h fun v6=>
 E9 v6 fun v7=>
 some (v7,h)
theorem Sw(H:Aq disp)(hd:1<=d)(v0:EV)(h:Aa):Ad TT disp K d false 74 [v0] h=Kt K v0 h:=
 Cm (H.bare (by kernel_rfl)) hd (by kernel_rfl) (fun d hd=>rfl) (fun d c r=>rfl) (fun d c r=>by kernel_rfl)
def Jn(K:Nat)(v0:EV)(h:Aa):R:=
 Bj v0 fun v4=>
 Ap 1 v4 fun v5=>
 Av v5 h fun v6=>
 some (v6,h)
theorem Uq(H:Aq disp)(hd:1<=d)(v0:EV)(h:Aa):Ad TT disp K d false 75 [v0] h=Jn K v0 h:=
 Cm (H.bare (by kernel_rfl)) hd (by kernel_rfl) (fun d hd=>rfl) (fun d c r=>rfl) (fun d c r=>by kernel_rfl)
def J2(K:Nat)(v3:EV)(h:Aa):R:=
 some (v3,h)
def Pg(K:Nat)(ih1_:EV->EV->EV->Aa->R)(v1 v3 v4:EV)(h:Aa):R:=
 Ar Fx (bin TT .add 3) v4 (.int .i64 2) fun v10=>
 ih1_ v1 v3 v10 h
def Pd(K:Nat)(ih1_:EV->EV->EV->Aa->R)(v1 v3 v4:EV)(h:Aa):R:=
 Ar Fx (bin TT .add 3) v3 (.int .i64 1) fun v12=>
 Pg K ih1_ v1 v12 v4 h
def Cp(K:Nat):Nat->EV->EV->EV->Aa->R
 | 0=>fun _ _ _ _=>none
 | m+1=>fun v1 v3 v4 h=>
  Ap 3 v1 fun v6=>
  Av v6 h fun v7=>
  Ar Gc (bin TT .lss 3) v4 v7 fun v8=>
  Dx v8
  (Pd K (Cp K m) v1 v3 v4 h)
  (J2 K v3 h)
def Ja(K:Nat)(v0:EV)(h:Aa):R:=
 D8 37 v0 h fun v1 h=>
 Cp K K v1 (.int .i64 1) (.int .i64 0) h
abbrev Aah(K:Nat)(c:Ae):Ae:=c
theorem Wv(c c' r:Ae)(K:Nat)(m:Nat):Io (fun ih=>Hy TT (Aah K c) c' r K (nOf TT 76) (F7 TT 76) (Q2 TT 76 [true,true,false,true,false]) [(0,fun ρ h=>J2 K (ρ 3) h)] ih) m=fun ρ h=>Cp K m (ρ 1) (ρ 3) (ρ 4) h:=
 C6 (E:=fun m ρ h=>Cp K m (ρ 1) (ρ 3) (ρ 4) h) rfl (fun m=>Qz fun ρ h=>by
  show _=Cp K (m+1) (ρ 1) (ρ 3) (ρ 4) h
  rw[Cp];kernel_rfl) m
theorem Yj(H:Aq disp)(hd:1<=d)(v0:EV)(h:Aa):Ad TT disp K d false 76 [v0] h=Ja K v0 h:=
 Cm (H.bare (by kernel_rfl)) hd (by kernel_rfl) (fun d hd=>rfl) (fun d c r=>(cut [true,true,false,true,false] (Wv (Ad TT disp K d false) c r K K) (by kernel_rfl) (by kernel_rfl) rfl)) (fun d c r=>by kernel_rfl)
def Oi(K:Nat)(v5:EV)(h:Aa):R:=
 some (v5,h)
def Kx(K:Nat)(ih1_:EV->EV->EV->EV->EV->EV->Aa->R)(v0 v1 v5 v11 v12 v13:EV)(h:Aa):R:=
 Ar Fx (bin TT .add 3) v13 (.int .i64 1) fun v39=>
 ih1_ v0 v1 v5 v11 v12 v39 h
def G8(K:Nat)(ih1_:EV->EV->EV->EV->EV->EV->Aa->R)(base:Nat)(s:DX)(v0 v1 v5 v6 v11 v12 v13 v21 v36:EV)(h:Aa):R:=
 Br v21 v36 (.bool false) fun v37=>
 Dx v37
 (Kx K ih1_ v0 v1 v6 v11 v12 v13 h)
 (Kx K ih1_ v0 v1 v5 v11 v12 v13 h)
def G7(K:Nat)(ih1_:EV->EV->EV->EV->EV->EV->Aa->R)(base:Nat)(s:DX)(v0 v1 v5 v6 v11 v12 v13 v21 v24 v35:EV)(h:Aa):R:=
 Ay (Ah v21 true)
 (Br v24 (.bool true) v35 fun v36=>
 G8 K ih1_ base s v0 v1 v5 v6 v11 v12 v13 v21 v36 h)
 (G8 K ih1_ base s v0 v1 v5 v6 v11 v12 v13 v21 (.tuple []) h)
def Kc(K:Nat)(ih1_:EV->EV->EV->EV->EV->EV->Aa->R)(base:Nat)(s:DX)(v0 v1 v5 v6 v7 v11 v12 v13 v21 v24:EV)(h:Aa):R:=
 Ay (Ah v24 false)
 (Cs 8 255 s h (fun h=>(C4 K v7 h)) fun v26 h s=>
 Bj v0 fun v28=>
 Ap 6 v28 fun v29=>
 Bc 12 3711 base v29 s fun s=>Av v29 h fun v30=>
 Gn 1 v30 v5 fun v32=>
 Bc 15 32383 base v32 s fun s=>Av v32 h fun v33=>
 Cs 16 65535 s h (fun h=>(C4 K v33 h)) fun v34 h s=>
 Ar Sc (bin TT .gtr 3) v26 v34 fun v35=>
 G7 K ih1_ base s v0 v1 v5 v6 v11 v12 v13 v21 v24 v35 h)
 (G7 K ih1_ base s v0 v1 v5 v6 v11 v12 v13 v21 v24 (.tuple []) h)
def Vf(K:Nat)(ih1_:EV->EV->EV->EV->EV->EV->Aa->R)(v0 v1 v5 v11 v12 v13:EV)(h:Aa):R:=
 Gn 1 v11 v13 fun v16=>
 Av v16 h fun v17=>
 E4 h fun base s=>
 Ar E5 (bin TT .neq 3) v13 v1 fun v20=>
 Ay (Ah v20 true)
 (Ar Gc (bin TT .lss 3) v5 (.int .i64 0) fun v23=>
 Kc K ih1_ base s v0 v1 v5 v13 v17 v11 v12 v13 v20 v23 h)
 (Kc K ih1_ base s v0 v1 v5 v13 v17 v11 v12 v13 v20 (.tuple []) h)
def Du(K:Nat):Nat->EV->EV->EV->EV->EV->EV->Aa->R
 | 0=>fun _ _ _ _ _ _ _=>none
 | m+1=>fun v0 v1 v5 v11 v12 v13 h=>
  Ar Gc (bin TT .lss 3) v13 v12 fun v14=>
  Dx v14
  (Vf K (Du K m) v0 v1 v5 v11 v12 v13 h)
  (Oi K v5 h)
def Hn(K:Nat)(v0 v1:EV)(h:Aa):R:=
 Bj v0 fun v9=>
 Ap 6 v9 fun v10=>
 Av v10 h fun v11=>
 E9 v11 fun v12=>
 Du K K v0 v1 (.int .i64 (-1)) v11 v12 (.int .i64 0) h
abbrev Agw(K:Nat)(c:Ae):Ae:=(w1 71 (C4 K) c)
theorem Ab1(c c' r:Ae)(K:Nat)(m:Nat):Io (fun ih=>Hy TT (Agw K c) c' r K (nOf TT 78) (F7 TT 78) (Q2 TT 78 [true,true,false,true,false]) [(0,fun ρ h=>Oi K (ρ 5) h)] ih) m=fun ρ h=>Du K m (ρ 0) (ρ 1) (ρ 5) (ρ 11) (ρ 12) (ρ 13) h:=
 C6 (E:=fun m ρ h=>Du K m (ρ 0) (ρ 1) (ρ 5) (ρ 11) (ρ 12) (ρ 13) h) rfl (fun m=>Qz fun ρ h=>by
  show _=Du K (m+1) (ρ 0) (ρ 1) (ρ 5) (ρ 11) (ρ 12) (ρ 13) h
  rw[Du];kernel_rfl) m
theorem S7(H:Aq disp)(hd:2<=d)(v0 v1:EV)(h:Aa):Ad TT disp K d false 78 [v0,v1] h=Hn K v0 v1 h:=
 Cm (H.bare (by kernel_rfl)) hd (by kernel_rfl) (fun d hd=>(W1 (I7 H (lq hd rfl)) rfl)) (fun d c r=>(cut [true,true,false,true,false] (Ab1 (Ad TT disp K d false) c r K K) (by kernel_rfl) (by kernel_rfl) rfl)) (fun d c r=>by kernel_rfl)
def I3(K:Nat)(v0:EV)(h:Aa):R:=
 D8 23 v0 h fun v1 h=>
 Ap 3 v1 fun v3=>
 Av v3 h fun v4=>
 Ar Fx (bin TT .add 3) v4 (.int .i64 2) fun v5=>
 Ar Sq (bin TT .sub 3) v5 (.int .i64 1) fun v6=>
 K3 (bin TT .quo 3) v6 (.int .i64 2) fun v7=>
 Ar Fx (bin TT .add 3) (.int .i64 1) v7 fun v8=>
 some (v8,h)
theorem Vx(H:Aq disp)(hd:1<=d)(v0:EV)(h:Aa):Ad TT disp K d false 112 [v0] h=I3 K v0 h:=
 Cm (H.bare (by kernel_rfl)) hd (by kernel_rfl) (fun d hd=>rfl) (fun d c r=>rfl) (fun d c r=>by kernel_rfl)
def Rw(K:Nat)(v7 v10:EV)(h:Aa):R:=
 Br v7 v10 (.bool false) fun v11=>
 some (v11,h)
def Qu(K:Nat)(v0 v1:EV)(h:Aa):R:=
 Ar Y0 (bin TT .geq 3) v0 (.int .i64 1) fun v6=>
 Ay (Ah v6 true)
 (Ar Afk (bin TT .leq 3) v0 v1 fun v10=>
 Rw K v6 v10 h)
 (Rw K v6 (.tuple []) h)
theorem Anp(H:Aq disp)(hd:1<=d)(v0 v1:EV)(h:Aa):Ad TT disp K d false 124 [v0,v1] h=Qu K v0 v1 h:=
 Cm (H.bare (by kernel_rfl)) hd (by kernel_rfl) (fun d hd=>rfl) (fun d c r=>rfl) (fun d c r=>by kernel_rfl)
def Px(K:Nat)(v0:EV)(h:Aa):R:=
 B7 (Dj [(0,1),(1,1),(2,1),(3,1),(4,1)]) [.Af,(.int .i64 0),(.int .i64 0),(.int .i64 0),(.bool false)] [(1,v0)] fun v11=>
 D8 240 v11 h fun v12 h=>
 some (.tuple [v12,(.int .i64 0)],h)
def Kz(K:Nat)(v0 v6 v8:EV)(h:Aa):R:=
 Br v6 (.bool true) v8 fun v9=>
 Dx v9
 (some (.tuple [.Bi,(.int .i64 13)],h))
 (Px K v0 h)
def H5(K:Nat)(v0:EV)(h:Aa):R:=
 Ar Gc (bin TT .lss 3) v0 (.int .i64 1) fun v5=>
 Ay (Ah v5 false)
 (Ar Sc (bin TT .gtr 3) v0 (.int .i64 64) fun v8=>
 Kz K v0 v5 v8 h)
 (Kz K v0 v5 (.tuple []) h)
theorem Y1(H:Aq disp)(hd:1<=d)(v0:EV)(h:Aa):Ad TT disp K d false 125 [v0] h=H5 K v0 h:=
 Cm (H.bare (by kernel_rfl)) hd (by kernel_rfl) (fun d hd=>rfl) (fun d c r=>rfl) (fun d c r=>by kernel_rfl)
def Akb(K:Nat)(v0:EV)(h:Aa):R:=
 Al (Ago v0 h) fun v11 h=>
 B7 (Dj [(0,1)]) [.Xf] [(0,v11)] fun v12=>
 D8 218 v12 h fun v13 h=>
 some (.tuple [v13,(.int .i64 0)],h)
def Acj(K:Nat)(v0 v6 v8:EV)(h:Aa):R:=
 Br v6 (.bool true) v8 fun v9=>
 Dx v9
 (some (.tuple [.Bi,(.int .i64 13)],h))
 (Akb K v0 h)
def Aa8(K:Nat)(v0:EV)(h:Aa):R:=
 Ar Gc (bin TT .lss 3) v0 (.int .i64 1) fun v5=>
 Ay (Ah v5 false)
 (Ar Sc (bin TT .gtr 3) v0 (.int .i64 4096) fun v8=>
 Acj K v0 v5 v8 h)
 (Acj K v0 v5 (.tuple []) h)
theorem Art(H:Aq disp)(hd:1<=d)(v0:EV)(h:Aa):Ad TT disp K d false 126 [v0] h=Aa8 K v0 h:=
 Cm (H.bare (by kernel_rfl)) hd (by kernel_rfl) (fun d hd=>rfl) (fun d c r=>rfl) (fun d c r=>by kernel_rfl)
def Q9(K:Nat)(v0:EV)(h:Aa):R:=
 K3 (bin TT .quo 3) v0 (.int .i64 2) fun v10=>
 some (v10,h)
def Ld(K:Nat)(v0:EV)(h:Aa):R:=
 Ar Gc (bin TT .lss 3) v0 (.int .i64 0) fun v4=>
 Dx v4
 (Ar Sq (bin TT .sub 3) (.int .i64 1) v0 fun v6=>
 K3 (bin TT .quo 3) v6 (.int .i64 2) fun v7=>
 Avh v7 fun v8=>
 some (v8,h))
 (Q9 K v0 h)
theorem Abt(H:Aq disp)(hd:1<=d)(v0:EV)(h:Aa):Ad TT disp K d false 127 [v0] h=Ld K v0 h:=
 Cm (H.bare (by kernel_rfl)) hd (by kernel_rfl) (fun d hd=>rfl) (fun d c r=>rfl) (fun d c r=>by kernel_rfl)
def Yq(K:Nat)(v10 v13:EV)(h:Aa):R:=
 Br v10 v13 (.bool false) fun v14=>
 some (v14,h)
def Ir(K:Nat)(v0 v1 v2:EV)(h:Aa):R:=
 Ar Y0 (bin TT .geq 3) v0 v1 fun v9=>
 Ay (Ah v9 true)
 (Ar Afk (bin TT .leq 3) v0 v2 fun v13=>
 Yq K v9 v13 h)
 (Yq K v9 (.tuple []) h)
theorem Adk(H:Aq disp)(hd:1<=d)(v0 v1 v2:EV)(h:Aa):Ad TT disp K d false 140 [v0,v1,v2] h=Ir K v0 v1 v2 h:=
 Cm (H.bare (by kernel_rfl)) hd (by kernel_rfl) (fun d hd=>rfl) (fun d c r=>rfl) (fun d c r=>by kernel_rfl)
def Np(K:Nat)(v0:EV)(h:Aa):R:=
 D8 23 v0 h fun v1 h=>
 Ap 0 v1 fun v3=>
 Av v3 h fun v4=>
 Ap 4 v1 fun v5=>
 Av v5 h fun v6=>
 Ar Vm (bin TT .mul 3) v4 v6 fun v7=>
 Ar Fx (bin TT .add 3) v7 (.int .i64 4) fun v8=>
 some (v8,h)
theorem Ad9(H:Aq disp)(hd:1<=d)(v0:EV)(h:Aa):Ad TT disp K d false 159 [v0] h=Np K v0 h:=
 Cm (H.bare (by kernel_rfl)) hd (by kernel_rfl) (fun d hd=>rfl) (fun d c r=>rfl) (fun d c r=>by kernel_rfl)
def Yo(K:Nat)(v0 v1:EV)(h:Aa):R:=
 Bj v0 fun v17=>
 Ap 6 v17 fun v18=>
 Av v18 h fun v19=>
 Gn 1 v19 v1 fun v21=>
 Av v21 h fun v22=>
 Al (C4 K v22 h) fun v23 h=>
 some (v23,h)
def L5(K:Nat)(v0 v1 v7 v14:EV)(h:Aa):R:=
 Br v7 (.bool true) v14 fun v15=>
 Dx v15
 (some ((.int .i64 0),h))
 (Yo K v0 v1 h)
def Mq(K:Nat)(v0 v1:EV)(h:Aa):R:=
 Ar Gc (bin TT .lss 3) v1 (.int .i64 0) fun v6=>
 Ay (Ah v6 false)
 (Bj v0 fun v10=>
 Ap 6 v10 fun v11=>
 Av v11 h fun v12=>
 E9 v12 fun v13=>
 Ar Y0 (bin TT .geq 3) v1 v13 fun v14=>
 L5 K v0 v1 v6 v14 h)
 (L5 K v0 v1 v6 (.tuple []) h)
theorem Agv(H:Aq disp)(hd:2<=d)(v0 v1:EV)(h:Aa):Ad TT disp K d false 22 [v0,v1] h=Mq K v0 v1 h:=
 Cm (H.bare (by kernel_rfl)) hd (by kernel_rfl) (fun d hd=>(W1 (I7 H (lq hd rfl)) rfl)) (fun d c r=>rfl) (fun d c r=>by kernel_rfl)
def Qk(K:Nat)(v0 v3:EV)(h:Aa):R:=
 K3 (bin TT .quo 3) v3 (.int .i64 2) fun v21=>
 Al (Hn K v0 (.int .i64 (-1)) h) fun v25 h=>
 Al (Mq K v0 v25 h) fun v26 h=>
 Ar Sq (bin TT .sub 3) v3 v26 fun v27=>
 Al (builtin TT .min #[3,3] [v21,v27] h) fun v28 h=>
 some (v28,h)
def Yr(K:Nat)(ih1_:EV->EV->EV->EV->EV->Aa->R)(v0 v3 v9 v10 v11:EV)(h:Aa):R:=
 Ar Fx (bin TT .add 3) v11 (.int .i64 1) fun v19=>
 ih1_ v0 v3 v9 v10 v19 h
def X4(K:Nat)(ih1_:EV->EV->EV->EV->EV->Aa->R)(v0 v3 v9 v10 v11:EV)(h:Aa):R:=
 Gn 1 v9 v11 fun v13=>
 Av v13 h fun v14=>
 Al (C4 K v14 h) fun v17 h=>
 Ar Fx (bin TT .add 3) v3 v17 fun v18=>
 Yr K ih1_ v0 v18 v9 v10 v11 h
def Fg(K:Nat):Nat->EV->EV->EV->EV->EV->Aa->R
 | 0=>fun _ _ _ _ _ _=>none
 | m+1=>fun v0 v3 v9 v10 v11 h=>
  Ar Gc (bin TT .lss 3) v11 v10 fun v12=>
  Dx v12
  (X4 K (Fg K m) v0 v3 v9 v10 v11 h)
  (Qk K v0 v3 h)
def Qc(K:Nat)(v0:EV)(h:Aa):R:=
 Bj v0 fun v7=>
 Ap 6 v7 fun v8=>
 Av v8 h fun v9=>
 E9 v9 fun v10=>
 Fg K K v0 (.int .i64 0) v9 v10 (.int .i64 0) h
abbrev Ak9(K:Nat)(c:Ae):Ae:=(w2 78 (Hn K) (w2 22 (Mq K) (w1 71 (C4 K) c)))
theorem Aey(c c' r:Ae)(K:Nat)(m:Nat):Io (fun ih=>Hy TT (Ak9 K c) c' r K (nOf TT 29) (F7 TT 29) (Q2 TT 29 [true,true,false,true,false]) [(0,fun ρ h=>Qk K (ρ 0) (ρ 3) h)] ih) m=fun ρ h=>Fg K m (ρ 0) (ρ 3) (ρ 9) (ρ 10) (ρ 11) h:=
 C6 (E:=fun m ρ h=>Fg K m (ρ 0) (ρ 3) (ρ 9) (ρ 10) (ρ 11) h) rfl (fun m=>Qz fun ρ h=>by
  show _=Fg K (m+1) (ρ 0) (ρ 3) (ρ 9) (ρ 10) (ρ 11) h
  rw[Fg];kernel_rfl) m
theorem Agy(H:Aq disp)(hd:3<=d)(v0:EV)(h:Aa):Ad TT disp K d false 29 [v0] h=Qc K v0 h:=
 Cm (H.bare (by kernel_rfl)) hd (by kernel_rfl) (fun d hd=>(W2 (S7 H (lq hd rfl)) (W2 (Agv H (lq hd rfl)) (W1 (I7 H (lq hd rfl)) rfl)))) (fun d c r=>(cut [true,true,false,true,false] (Aey (Ad TT disp K d false) c r K K) (by kernel_rfl) (by kernel_rfl) rfl)) (fun d c r=>by kernel_rfl)
def Ae3(K:Nat)(v8:EV)(h:Aa):R:=
 some (.tuple [v8,(.int .i64 0)],h)
def Anf(K:Nat)(ih1_:EV->EV->EV->EV->Aa->R)(v1 v8 v23 v24:EV)(h:Aa):R:=
 Ar Fx (bin TT .add 3) v24 (.int .i64 1) fun v44=>
 ih1_ v1 v8 v23 v44 h
def Ano(K:Nat)(ih1_:EV->EV->EV->EV->Aa->R)(v1 v8 v9 v23 v24:EV)(h:Aa):R:=
 Bj v8 fun v36=>
 Ap 0 v36 fun v37=>
 Av v37 h fun v38=>
 Al (B5 [.Bi] 180 1 1 [(0,v9)] h) fun v40 h=>
 Al (Dy 180 1 v38 v40 h) fun v41 h=>
 Bj v8 fun v42=>
 Ap 0 v42 fun v43=>
 Dw 1 v43 v41 h fun h=>
 Anf K ih1_ v1 v8 v23 v24 h
def Ams(K:Nat)(ih1_:EV->EV->EV->EV->Aa->R)(v1 v8 v23 v24:EV)(h:Aa):R:=
 Al (H5 K v1 h) fun v28 h=>
 B3 0 v28 fun v29=>
 B3 1 v28 fun v30=>
 Ar E5 (bin TT .neq 28) v30 (.int .i64 0) fun v32=>
 Dx v32
 (some (.tuple [.Bi,v30],h))
 (Ano K ih1_ v1 v8 v29 v23 v24 h)
def Lw(K:Nat):Nat->EV->EV->EV->EV->Aa->R
 | 0=>fun _ _ _ _ _=>none
 | m+1=>fun v1 v8 v23 v24 h=>
  Ar Gc (bin TT .lss 3) v24 v23 fun v25=>
  Dx v25
  (Ams K (Lw K m) v1 v8 v23 v24 h)
  (Ae3 K v8 h)
def Anb(K:Nat)(v0 v1 v2:EV)(h:Aa):R:=
 B7 (Dj [(0,1),(1,1),(2,1),(3,1),(4,1)]) [.Af,(.int .i64 0),(.int .i64 0),(.int .i64 0),(.bool false)] [(1,v1),(2,v2)] fun v21=>
 D8 183 v21 h fun v22 h=>
 Lw K K v1 v22 v0 (.int .i64 0) h
def Aeo(K:Nat)(v0 v1 v2 v14 v17:EV)(h:Aa):R:=
 Br v14 (.bool true) v17 fun v18=>
 Dx v18
 (some (.tuple [.Bi,(.int .i64 13)],h))
 (Anb K v0 v1 v2 h)
def Ajr(K:Nat)(v0 v1 v2:EV)(h:Aa):R:=
 Al (Qu K v0 (.int .i64 512) h) fun v12 h=>
 Pw v12 fun v13=>
 Ay (Ah v13 false)
 (Al (Qu K v2 (.int .i64 64) h) fun v16 h=>
 Pw v16 fun v17=>
 Aeo K v0 v1 v2 v13 v17 h)
 (Aeo K v0 v1 v2 v13 (.tuple []) h)
abbrev Azn(K:Nat)(c:Ae):Ae:=(w2 124 (Qu K) (w1 125 (H5 K) c))
theorem Arr(c c' r:Ae)(K:Nat)(m:Nat):Io (fun ih=>Hy TT (Azn K c) c' r K (nOf TT 72) (F7 TT 72) (Q2 TT 72 [true,true,true,false,true,false]) [(0,fun ρ h=>Ae3 K (ρ 8) h)] ih) m=fun ρ h=>Lw K m (ρ 1) (ρ 8) (ρ 23) (ρ 24) h:=
 C6 (E:=fun m ρ h=>Lw K m (ρ 1) (ρ 8) (ρ 23) (ρ 24) h) rfl (fun m=>Qz fun ρ h=>by
  show _=Lw K (m+1) (ρ 1) (ρ 8) (ρ 23) (ρ 24) h
  rw[Lw];kernel_rfl) m
theorem At5(H:Aq disp)(hd:2<=d)(v0 v1 v2:EV)(h:Aa):Ad TT disp K d false 72 [v0,v1,v2] h=Ajr K v0 v1 v2 h:=
 Cm (H.bare (by kernel_rfl)) hd (by kernel_rfl) (fun d hd=>(W2 (Anp H (lq hd rfl)) (W1 (Y1 H (lq hd rfl)) rfl))) (fun d c r=>(cut [true,true,true,false,true,false] (Arr (Ad TT disp K d false) c r K K) (by kernel_rfl) (by kernel_rfl) rfl)) (fun d c r=>by kernel_rfl)
def Gy(K:Nat)(v1 v5:EV)(h:Aa):R:=
 E4 h fun base s=>
 Cs 1 1 s h (fun h=>(Ld K v5 h)) fun v40 h s=>
 Ar Sq (bin TT .sub 3) v40 (.int .i64 1) fun v41=>
 Ap 0 v1 fun v42=>
 Bc 4 8 base v42 s fun s=>Av v42 h fun v43=>
 Ap 4 v1 fun v44=>
 Bc 6 32 base v44 s fun s=>Av v44 h fun v45=>
 Ar Vm (bin TT .mul 3) v43 v45 fun v46=>
 Ar Sq (bin TT .sub 3) v41 v46 fun v47=>
 some (v47,h)
def H2(K:Nat)(v0:EV)(h:Aa):R:=
 D8 37 v0 h fun v1 h=>
 Ap 1 v1 fun v7=>
 Av v7 h fun v8=>
 Ap 4 v1 fun v9=>
 Av v9 h fun v10=>
 Ar Sq (bin TT .sub 3) v8 v10 fun v11=>
 Ar Sq (bin TT .sub 3) v11 (.int .i64 2) fun v12=>
 Ap 0 v1 fun v13=>
 Av v13 h fun v14=>
 Ap 4 v1 fun v15=>
 Av v15 h fun v16=>
 Ar Vm (bin TT .mul 3) v14 v16 fun v17=>
 Ar Fx (bin TT .add 3) v17 (.int .i64 4) fun v18=>
 Ap 0 v1 fun v19=>
 Av v19 h fun v20=>
 Ar Sq (bin TT .sub 3) v20 (.int .i64 1) fun v21=>
 Ar Vm (bin TT .mul 3) v21 v12 fun v23=>
 Ar Sq (bin TT .sub 3) v23 v18 fun v25=>
 Ar Fx (bin TT .add 3) v25 (.int .i64 1) fun v26=>
 Ap 0 v1 fun v27=>
 Av v27 h fun v28=>
 Ar Vm (bin TT .mul 3) v28 v12 fun v30=>
 Ar Vm (bin TT .mul 3) (.int .i64 2) v18 fun v32=>
 Ar Sq (bin TT .sub 3) v30 v32 fun v33=>
 Ar Fx (bin TT .add 3) v33 (.int .i64 1) fun v34=>
 Ar Gc (bin TT .lss 3) v34 v26 fun v37=>
 Dx v37
 (Gy K v1 v34 h)
 (Gy K v1 v26 h)
theorem Uh(H:Aq disp)(hd:2<=d)(v0:EV)(h:Aa):Ad TT disp K d false 77 [v0] h=H2 K v0 h:=
 Cm (H.bare (by kernel_rfl)) hd (by kernel_rfl) (fun d hd=>(W1 (Abt H (lq hd rfl)) rfl)) (fun d c r=>rfl) (fun d c r=>by kernel_rfl)
def Fu(K:Nat)(v26 v29:EV)(h:Aa):R:=
 Br v26 v29 (.bool false) fun v30=>
 some (v30,h)
def Fs(K:Nat)(v1 v21 v24:EV)(h:Aa):R:=
 Br v21 v24 (.bool false) fun v25=>
 Ay (Ah v25 true)
 (Ap 5 v1 fun v27=>
 Av v27 h fun v28=>
 Al (Ir K v28 (.int .i64 4) (.int .i64 64) h) fun v29 h=>
 Fu K v25 v29 h)
 (Fu K v25 (.tuple []) h)
def Fl(K:Nat)(v1 v16 v19:EV)(h:Aa):R:=
 Br v16 v19 (.bool false) fun v20=>
 Ay (Ah v20 true)
 (Ap 4 v1 fun v22=>
 Av v22 h fun v23=>
 Al (Ir K v23 (.int .i64 0) (.int .i64 4) h) fun v24 h=>
 Fs K v1 v20 v24 h)
 (Fs K v1 v20 (.tuple []) h)
def Fk(K:Nat)(v1 v11 v14:EV)(h:Aa):R:=
 Br v11 v14 (.bool false) fun v15=>
 Ay (Ah v15 true)
 (Ap 3 v1 fun v17=>
 Av v17 h fun v18=>
 Al (Ir K v18 (.int .i64 1) (.int .i64 256) h) fun v19 h=>
 Fl K v1 v15 v19 h)
 (Fl K v1 v15 (.tuple []) h)
def Fq(K:Nat)(v1 v6 v9:EV)(h:Aa):R:=
 Br v6 v9 (.bool false) fun v10=>
 Ay (Ah v10 true)
 (Ap 2 v1 fun v12=>
 Av v12 h fun v13=>
 Al (Ir K v13 (.int .i64 4) (.int .i64 64) h) fun v14 h=>
 Fk K v1 v10 v14 h)
 (Fk K v1 v10 (.tuple []) h)
def P8(K:Nat)(v0:EV)(h:Aa):R:=
 D8 23 v0 h fun v1 h=>
 Ap 0 v1 fun v3=>
 Av v3 h fun v4=>
 Al (Ir K v4 (.int .i64 3) (.int .i64 8) h) fun v5 h=>
 Ay (Ah v5 true)
 (Ap 1 v1 fun v7=>
 Av v7 h fun v8=>
 Al (Ir K v8 (.int .i64 1) (.int .i64 64) h) fun v9 h=>
 Fq K v1 v5 v9 h)
 (Fq K v1 v5 (.tuple []) h)
theorem Agz(H:Aq disp)(hd:2<=d)(v0:EV)(h:Aa):Ad TT disp K d false 111 [v0] h=P8 K v0 h:=
 Cm (H.bare (by kernel_rfl)) hd (by kernel_rfl) (fun d hd=>(W3 (Adk H (lq hd rfl)) rfl)) (fun d c r=>rfl) (fun d c r=>by kernel_rfl)
def Mb(K:Nat)(v0:EV)(h:Aa):R:=
 D8 23 v0 h fun v1 h=>
 E4 h fun base s=>
 Ap 1 v1 fun v6=>
 Bc 1 1 base v6 s fun s=>Av v6 h fun v7=>
 Ap 4 v1 fun v8=>
 Bc 3 4 base v8 s fun s=>Av v8 h fun v9=>
 Ar Sq (bin TT .sub 3) v7 v9 fun v10=>
 Ar Sq (bin TT .sub 3) v10 (.int .i64 2) fun v11=>
 Bc 6 0 base v1 s fun s=>B4 6 v1 h fun v12=>
 Cs 7 64 s h (fun h=>(Np K v12 h)) fun v13 h s=>
 Ap 0 v1 fun v14=>
 Av v14 h fun v15=>
 Ar Sq (bin TT .sub 3) v15 (.int .i64 1) fun v16=>
 Ar Vm (bin TT .mul 3) v16 v11 fun v18=>
 Ar Sq (bin TT .sub 3) v18 v13 fun v20=>
 Ar Fx (bin TT .add 3) v20 (.int .i64 1) fun v21=>
 Ap 0 v1 fun v22=>
 Av v22 h fun v23=>
 Ar Vm (bin TT .mul 3) v23 v11 fun v25=>
 Ar Vm (bin TT .mul 3) (.int .i64 2) v13 fun v27=>
 Ar Sq (bin TT .sub 3) v25 v27 fun v28=>
 Ar Fx (bin TT .add 3) v28 (.int .i64 1) fun v29=>
 Al (builtin TT .min #[3,3] [v21,v29] h) fun v30 h=>
 K3 (bin TT .shr 3) v30 (.int .u64 1) fun v32=>
 Ar Sq (bin TT .sub 3) v32 (.int .i64 1) fun v33=>
 Ap 0 v1 fun v34=>
 Av v34 h fun v35=>
 Ap 4 v1 fun v36=>
 Av v36 h fun v37=>
 Ar Vm (bin TT .mul 3) v35 v37 fun v38=>
 Ar Sq (bin TT .sub 3) v33 v38 fun v39=>
 some (v39,h)
theorem Ac4(H:Aq disp)(hd:2<=d)(v0:EV)(h:Aa):Ad TT disp K d false 113 [v0] h=Mb K v0 h:=
 Cm (H.bare (by kernel_rfl)) hd (by kernel_rfl) (fun d hd=>(W1 (Ad9 H (lq hd rfl)) rfl)) (fun d c r=>rfl) (fun d c r=>by kernel_rfl)
def Am4(K:Nat)(v8:EV)(h:Aa):R:=
 Al (Akx h) fun v21 h=>
 B7 (Dj [(0,1),(1,1),(2,1),(3,1)]) [.Bi,.Af,.Af,.Ab4] [(0,v8),(3,v21)] fun v22=>
 D8 166 v22 h fun v23 h=>
 some (.tuple [v23,(.int .i64 0)],h)
def Ajf(K:Nat)(v0 v1 v2:EV)(h:Aa):R:=
 Al (Ajr K v0 v1 v2 h) fun v14 h=>
 B3 0 v14 fun v15=>
 B3 1 v14 fun v16=>
 Ar E5 (bin TT .neq 28) v16 (.int .i64 0) fun v18=>
 Dx v18
 (some (.tuple [.Bi,v16],h))
 (Am4 K v15 h)
theorem Avu(H:Aq disp)(hd:3<=d)(v0 v1 v2:EV)(h:Aa):Ad TT disp K d false 24 [v0,v1,v2] h=Ajf K v0 v1 v2 h:=
 Cm (H.bare (by kernel_rfl)) hd (by kernel_rfl) (fun d hd=>(W3 (At5 H (lq hd rfl)) rfl)) (fun d c r=>rfl) (fun d c r=>by kernel_rfl)
def Hz(K:Nat)(base:Nat)(s:DX)(v66 v75:EV)(h:Aa):R:=
 Br v66 v75 (.bool false) fun v76=>
 some (v76,h)
def Pc(K:Nat)(v1:EV)(h:Aa):R:=
 E4 h fun base s=>
 Bc 0 0 base v1 s fun s=>B4 6 v1 h fun v61=>
 Cs 1 1 s h (fun h=>(Ja K v61 h)) fun v62 h s=>
 Ap 2 v1 fun v63=>
 Bc 3 4 base v63 s fun s=>Av v63 h fun v64=>
 Ar Afk (bin TT .leq 3) v62 v64 fun v65=>
 Ay (Ah v65 true)
 (Ap 3 v1 fun v67=>
 Bc 7 127 base v67 s fun s=>Av v67 h fun v68=>
 Ar Vm (bin TT .mul 3) (.int .i64 2) v68 fun v69=>
 Ap 2 v1 fun v70=>
 Bc 10 575 base v70 s fun s=>Av v70 h fun v71=>
 Bc 11 63 base v1 s fun s=>B4 6 v1 h fun v72=>
 Cs 12 2111 s h (fun h=>(H2 K v72 h)) fun v73 h s=>
 Ar Vm (bin TT .mul 3) v71 v73 fun v74=>
 Ar Afk (bin TT .leq 3) v69 v74 fun v75=>
 Hz K base s v65 v75 h)
 (Hz K base s v65 (.tuple []) h)
def Bk(K:Nat)(v1 v56 v59:EV)(h:Aa):R:=
 Br v56 (.bool true) v59 fun v60=>
 Dx v60
 (some ((.bool false),h))
 (Pc K v1 h)
def Bp(K:Nat)(v1 v51 v54:EV)(h:Aa):R:=
 Br v51 (.bool true) v54 fun v55=>
 Ay (Ah v55 false)
 (Ap 5 v1 fun v57=>
 Av v57 h fun v58=>
 Ar Sc (bin TT .gtr 3) v58 (.int .i64 64) fun v59=>
 Bk K v1 v55 v59 h)
 (Bk K v1 v55 (.tuple []) h)
def Bw(K:Nat)(v1 v46 v49:EV)(h:Aa):R:=
 Br v46 (.bool true) v49 fun v50=>
 Ay (Ah v50 false)
 (Ap 5 v1 fun v52=>
 Av v52 h fun v53=>
 Ar Gc (bin TT .lss 3) v53 (.int .i64 4) fun v54=>
 Bp K v1 v50 v54 h)
 (Bp K v1 v50 (.tuple []) h)
def B2(K:Nat)(v1 v41 v44:EV)(h:Aa):R:=
 Br v41 (.bool true) v44 fun v45=>
 Ay (Ah v45 false)
 (Ap 4 v1 fun v47=>
 Av v47 h fun v48=>
 Ar Sc (bin TT .gtr 3) v48 (.int .i64 4) fun v49=>
 Bw K v1 v45 v49 h)
 (Bw K v1 v45 (.tuple []) h)
def Ca(K:Nat)(v1 v36 v39:EV)(h:Aa):R:=
 Br v36 (.bool true) v39 fun v40=>
 Ay (Ah v40 false)
 (Ap 4 v1 fun v42=>
 Av v42 h fun v43=>
 Ar Gc (bin TT .lss 3) v43 (.int .i64 0) fun v44=>
 B2 K v1 v40 v44 h)
 (B2 K v1 v40 (.tuple []) h)
def Cf(K:Nat)(v1 v31 v34:EV)(h:Aa):R:=
 Br v31 (.bool true) v34 fun v35=>
 Ay (Ah v35 false)
 (Ap 3 v1 fun v37=>
 Av v37 h fun v38=>
 Ar Sc (bin TT .gtr 3) v38 (.int .i64 256) fun v39=>
 Ca K v1 v35 v39 h)
 (Ca K v1 v35 (.tuple []) h)
def Cq(K:Nat)(v1 v26 v29:EV)(h:Aa):R:=
 Br v26 (.bool true) v29 fun v30=>
 Ay (Ah v30 false)
 (Ap 3 v1 fun v32=>
 Av v32 h fun v33=>
 Ar Gc (bin TT .lss 3) v33 (.int .i64 1) fun v34=>
 Cf K v1 v30 v34 h)
 (Cf K v1 v30 (.tuple []) h)
def Dn(K:Nat)(v1 v21 v24:EV)(h:Aa):R:=
 Br v21 (.bool true) v24 fun v25=>
 Ay (Ah v25 false)
 (Ap 2 v1 fun v27=>
 Av v27 h fun v28=>
 Ar Sc (bin TT .gtr 3) v28 (.int .i64 64) fun v29=>
 Cq K v1 v25 v29 h)
 (Cq K v1 v25 (.tuple []) h)
def D5(K:Nat)(v1 v16 v19:EV)(h:Aa):R:=
 Br v16 (.bool true) v19 fun v20=>
 Ay (Ah v20 false)
 (Ap 2 v1 fun v22=>
 Av v22 h fun v23=>
 Ar Gc (bin TT .lss 3) v23 (.int .i64 4) fun v24=>
 Dn K v1 v20 v24 h)
 (Dn K v1 v20 (.tuple []) h)
def Fh(K:Nat)(v1 v11 v14:EV)(h:Aa):R:=
 Br v11 (.bool true) v14 fun v15=>
 Ay (Ah v15 false)
 (Ap 1 v1 fun v17=>
 Av v17 h fun v18=>
 Ar Sc (bin TT .gtr 3) v18 (.int .i64 64) fun v19=>
 D5 K v1 v15 v19 h)
 (D5 K v1 v15 (.tuple []) h)
def Hu(K:Nat)(v1 v6 v9:EV)(h:Aa):R:=
 Br v6 (.bool true) v9 fun v10=>
 Ay (Ah v10 false)
 (Ap 1 v1 fun v12=>
 Av v12 h fun v13=>
 Ar Gc (bin TT .lss 3) v13 (.int .i64 1) fun v14=>
 Fh K v1 v10 v14 h)
 (Fh K v1 v10 (.tuple []) h)
def Jb(K:Nat)(v0:EV)(h:Aa):R:=
 D8 37 v0 h fun v1 h=>
 Ap 0 v1 fun v3=>
 Av v3 h fun v4=>
 Ar Gc (bin TT .lss 3) v4 (.int .i64 3) fun v5=>
 Ay (Ah v5 false)
 (Ap 0 v1 fun v7=>
 Av v7 h fun v8=>
 Ar Sc (bin TT .gtr 3) v8 (.int .i64 8) fun v9=>
 Hu K v1 v5 v9 h)
 (Hu K v1 v5 (.tuple []) h)
theorem X9(H:Aq disp)(hd:3<=d)(v0:EV)(h:Aa):Ad TT disp K d false 27 [v0] h=Jb K v0 h:=
 Cm (H.bare (by kernel_rfl)) hd (by kernel_rfl) (fun d hd=>(W1 (Yj H (lq hd rfl)) (W1 (Uh H (lq hd rfl)) rfl))) (fun d c r=>rfl) (fun d c r=>by kernel_rfl)
def Jt(K:Nat)(base:Nat)(s:DX)(v12 v21:EV)(h:Aa):R:=
 Br v12 v21 (.bool false) fun v22=>
 some (v22,h)
def Md(K:Nat)(base:Nat)(s:DX)(v1 v5 v10:EV)(h:Aa):R:=
 Br v5 v10 (.bool false) fun v11=>
 Ay (Ah v11 true)
 (Ap 3 v1 fun v13=>
 Bc 11 2047 base v13 s fun s=>Av v13 h fun v14=>
 Ar Vm (bin TT .mul 3) (.int .i64 2) v14 fun v15=>
 Ap 2 v1 fun v16=>
 Bc 14 9215 base v16 s fun s=>Av v16 h fun v17=>
 Bc 15 1023 base v1 s fun s=>B4 6 v1 h fun v18=>
 Cs 16 33791 s h (fun h=>(Mb K v18 h)) fun v19 h s=>
 Ar Vm (bin TT .mul 3) v17 v19 fun v20=>
 Ar Afk (bin TT .leq 3) v15 v20 fun v21=>
 Jt K base s v11 v21 h)
 (Jt K base s v11 (.tuple []) h)
def I4(K:Nat)(v0:EV)(h:Aa):R:=
 D8 23 v0 h fun v1 h=>
 E4 h fun base s=>
 Bc 0 0 base v1 s fun s=>B4 6 v1 h fun v3=>
 Cs 1 1 s h (fun h=>(P8 K v3 h)) fun v4 h s=>
 Ay (Ah v4 true)
 (Bc 3 7 base v1 s fun s=>B4 6 v1 h fun v6=>
 Cs 4 15 s h (fun h=>(I3 K v6 h)) fun v7 h s=>
 Ap 2 v1 fun v8=>
 Bc 6 39 base v8 s fun s=>Av v8 h fun v9=>
 Ar Afk (bin TT .leq 3) v7 v9 fun v10=>
 Md K base s v1 v4 v10 h)
 (Md K base s v1 v4 (.tuple []) h)
theorem Pq(H:Aq disp)(hd:3<=d)(v0:EV)(h:Aa):Ad TT disp K d false 62 [v0] h=I4 K v0 h:=
 Cm (H.bare (by kernel_rfl)) hd (by kernel_rfl) (fun d hd=>(W1 (Agz H (lq hd rfl)) (W1 (Vx H (lq hd rfl)) (W1 (Ac4 H (lq hd rfl)) rfl)))) (fun d c r=>rfl) (fun d c r=>by kernel_rfl)
def Aet(K:Nat)(v4:EV)(h:Aa):R:=
 some (.tuple [v4,(.int .i64 0)],h)
def Am2(K:Nat)(ih1_:EV->EV->EV->EV->Aa->R)(v1 v4 v14 v15:EV)(h:Aa):R:=
 Ar Fx (bin TT .add 3) v15 (.int .i64 1) fun v36=>
 ih1_ v1 v4 v14 v36 h
def Anj(K:Nat)(ih1_:EV->EV->EV->EV->Aa->R)(v1 v4 v5 v14 v15:EV)(h:Aa):R:=
 Bj v4 fun v28=>
 Ap 6 v28 fun v29=>
 Av v29 h fun v30=>
 Al (B5 [.Bi] 153 1 1 [(0,v5)] h) fun v32 h=>
 Al (Dy 153 1 v30 v32 h) fun v33 h=>
 Bj v4 fun v34=>
 Ap 6 v34 fun v35=>
 Dw 1 v35 v33 h fun h=>
 Am2 K ih1_ v1 v4 v14 v15 h
def Am7(K:Nat)(ih1_:EV->EV->EV->EV->Aa->R)(v1 v4 v14 v15:EV)(h:Aa):R:=
 Ap 1 v1 fun v18=>
 Av v18 h fun v19=>
 Al (Aa8 K v19 h) fun v20 h=>
 B3 0 v20 fun v21=>
 B3 1 v20 fun v22=>
 Ar E5 (bin TT .neq 28) v22 (.int .i64 0) fun v24=>
 Dx v24
 (some (.tuple [.Bi,v22],h))
 (Anj K ih1_ v1 v4 v21 v14 v15 h)
def Lu(K:Nat):Nat->EV->EV->EV->EV->Aa->R
 | 0=>fun _ _ _ _ _=>none
 | m+1=>fun v1 v4 v14 v15 h=>
  Ar Gc (bin TT .lss 3) v15 v14 fun v16=>
  Dx v16
  (Am7 K (Lu K m) v1 v4 v14 v15 h)
  (Aet K v4 h)
def Amy(K:Nat)(v1:EV)(h:Aa):R:=
 B4 6 v1 h fun v10=>
 B7 (Dj [(0,6),(6,1)]) [(.int .i64 0),(.int .i64 0),(.int .i64 0),(.int .i64 0),(.int .i64 0),(.int .i64 0),.Af] [(0,v10)] fun v11=>
 D8 152 v11 h fun v12 h=>
 Ap 0 v1 fun v13=>
 Av v13 h fun v14=>
 Lu K K v1 v12 v14 (.int .i64 0) h
def Abm(K:Nat)(v0:EV)(h:Aa):R:=
 D8 23 v0 h fun v1 h=>
 B4 6 v1 h fun v7=>
 Al (I4 K v7 h) fun v8 h=>
 Pw v8 fun v9=>
 Dx v9
 (some (.tuple [.Bi,(.int .i64 20)],h))
 (Amy K v1 h)
abbrev Azz(K:Nat)(c:Ae):Ae:=(w1 62 (I4 K) (w1 126 (Aa8 K) c))
theorem Arw(c c' r:Ae)(K:Nat)(m:Nat):Io (fun ih=>Hy TT (Azz K c) c' r K (nOf TT 73) (F7 TT 73) (Q2 TT 73 [true,true,true,false,true,false]) [(0,fun ρ h=>Aet K (ρ 4) h)] ih) m=fun ρ h=>Lu K m (ρ 1) (ρ 4) (ρ 14) (ρ 15) h:=
 C6 (E:=fun m ρ h=>Lu K m (ρ 1) (ρ 4) (ρ 14) (ρ 15) h) rfl (fun m=>Qz fun ρ h=>by
  show _=Lu K (m+1) (ρ 1) (ρ 4) (ρ 14) (ρ 15) h
  rw[Lu];kernel_rfl) m
theorem Aua(H:Aq disp)(hd:4<=d)(v0:EV)(h:Aa):Ad TT disp K d false 73 [v0] h=Abm K v0 h:=
 Cm (H.bare (by kernel_rfl)) hd (by kernel_rfl) (fun d hd=>(W1 (Pq H (lq hd rfl)) (W1 (Art H (lq hd rfl)) rfl))) (fun d c r=>(cut [true,true,true,false,true,false] (Arw (Ad TT disp K d false) c r K K) (by kernel_rfl) (by kernel_rfl) rfl)) (fun d c r=>by kernel_rfl)
def Ag8(K:Nat)(v0 v4 v5 v8:EV)(h:Aa):R:=
 E4 h fun base s=>
 Bc 1 0 base v4 s fun s=>B4 6 v4 h fun v34=>
 Bc 2 0 base v5 s fun s=>B4 256 v5 h fun v35=>
 Bc 4 0 base v4 s fun s=>B4 6 v4 h fun v37=>
 Cs 5 16 s h (fun h=>(Hj K v37 h)) fun v38 h s=>
 Yz 6 h s fun s=>Al (Ts [(.int .i64 0)] 3 v38 v38 h) fun v39 h=>
 B7 (Dj [(0,1),(1,6),(7,256),(263,1),(264,1),(265,1),(266,1),(267,1)]) ([.Bi]++List.replicate 6 (.int .i64 0)++List.replicate 256 (.int .u32 0)++[.Bi]++[.Af]++List.replicate 3 (.int .i64 0)) [(0,v0),(1,v34),(2,v35),(3,v8),(4,v39),(5,(.int .i64 (-1))),(6,(.int .i64 (-1)))] fun v40=>
 Yz 8 h s fun s=>D8 149 v40 h fun v41 h=>
 some (.tuple [v41,(.int .i64 0)],h)
def M6(K:Nat)(base:Nat)(s:DX)(v0 v4 v5 v8 v25 v31:EV)(h:Aa):R:=
 Br v25 (.bool true) v31 fun v32=>
 Dx v32
 (some (.tuple [.Bi,(.int .i64 20)],h))
 (Ag8 K v0 v4 v5 v8 h)
def T1(K:Nat)(base:Nat)(s:DX)(v0 v4 v5 v8 v17 v23:EV)(h:Aa):R:=
 Br v17 (.bool true) v23 fun v24=>
 Ay (Ah v24 false)
 (Cs 12 4095 s h (fun h=>(C2 K v0 h)) fun v27 h s=>
 Cs 13 8191 s h (fun h=>(Jn K v27 h)) fun v28 h s=>
 Ap 2 v4 fun v29=>
 Bc 15 18431 base v29 s fun s=>Av v29 h fun v30=>
 Ar E5 (bin TT .neq 3) v28 v30 fun v31=>
 M6 K base s v0 v4 v5 v8 v24 v31 h)
 (M6 K base s v0 v4 v5 v8 v24 (.tuple []) h)
def Ab0(K:Nat)(v0 v1 v2:EV)(h:Aa):R:=
 D8 23 v1 h fun v4 h=>
 D8 72 v2 h fun v5 h=>
 B4 6 v4 h fun v11=>
 Al (Abm K v11 h) fun v12 h=>
 B3 0 v12 fun v13=>
 B3 1 v12 fun v14=>
 E4 h fun base s=>
 Ar E5 (bin TT .neq 28) v14 (.int .i64 0) fun v16=>
 Ay (Ah v16 false)
 (Cs 4 15 s h (fun h=>(C2 K v0 h)) fun v19 h s=>
 Cs 5 31 s h (fun h=>(Kt K v19 h)) fun v20 h s=>
 Bc 6 7 base v4 s fun s=>B4 6 v4 h fun v21=>
 Cs 7 127 s h (fun h=>(Hj K v21 h)) fun v22 h s=>
 Ar E5 (bin TT .neq 3) v20 v22 fun v23=>
 T1 K base s v0 v4 v5 v13 v16 v23 h)
 (T1 K base s v0 v4 v5 v13 v16 (.tuple []) h)
theorem Aq0(H:Aq disp)(hd:5<=d)(v0 v1 v2:EV)(h:Aa):Ad TT disp K d false 25 [v0,v1,v2] h=Ab0 K v0 v1 v2 h:=
 Cm (H.bare (by kernel_rfl)) hd (by kernel_rfl) (fun d hd=>(W1 (Aua H (lq hd rfl)) (W1 (Sy H (lq hd rfl)) (W1 (Sw H (lq hd rfl)) (W1 (Kn H (lq hd rfl)) (W1 (Uq H (lq hd rfl)) rfl)))))) (fun d c r=>rfl) (fun d c r=>by kernel_rfl)
end
end Go.Ev
