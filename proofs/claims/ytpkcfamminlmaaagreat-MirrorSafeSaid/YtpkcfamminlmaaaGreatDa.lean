import Derived.Test.YtpkcfamminlmaaaGreatFun
set_option linter.unusedVariables false
set_option linter.unusedSimpArgs false
set_option linter.unusedSectionVars false
namespace Go.Ev
open Go.Proofs
set_option maxRecDepth 100000
set_option maxHeartbeats 4000000
noncomputable section
variable {disp:Nat->Option FT}{K d:Nat}
def Hz(K:Nat)(v0:EV)(h:Aa):R:=
 A7 v0 fun v4=>
 Am 263 v4 fun v5=>
 Al v5 h fun v6=>
 some (v6,h)
theorem Acj(H:Aw disp)(hd:1<=d)(v0:EV)(h:Aa):Ae TT disp K d false 14 [v0] h=Hz K v0 h:=
 Cj (H.bare (by kernel_rfl)) hd (by kernel_rfl) (fun d hd=>rfl) (fun d c r=>rfl) (fun d c r=>by kernel_rfl)
def Hx(K:Nat)(v0:EV)(h:Aa):R:=
 A7 v0 fun v6=>
 Am 265 v6 fun v7=>
 Al v7 h fun v8=>
 A7 v0 fun v10=>
 Am 266 v10 fun v11=>
 Al v11 h fun v12=>
 A7 v0 fun v14=>
 Am 267 v14 fun v15=>
 Al v15 h fun v16=>
 Cx TT [.v v8,.v v12,.v v16] h
theorem Ace(H:Aw disp)(hd:1<=d)(v0:EV)(h:Aa):Ae TT disp K d false 28 [v0] h=Hx K v0 h:=
 Cj (H.bare (by kernel_rfl)) hd (by kernel_rfl) (fun d hd=>rfl) (fun d c r=>rfl) (fun d c r=>by kernel_rfl)
def Ef(K:Nat)(v0:EV)(h:Aa):R:=
 A7 v0 fun v4=>
 Am 0 v4 fun v5=>
 Al v5 h fun v6=>
 some (v6,h)
theorem Aaq(H:Aw disp)(hd:1<=d)(v0:EV)(h:Aa):Ae TT disp K d false 31 [v0] h=Ef K v0 h:=
 Cj (H.bare (by kernel_rfl)) hd (by kernel_rfl) (fun d hd=>rfl) (fun d c r=>rfl) (fun d c r=>by kernel_rfl)
def Di(K:Nat)(v0:EV)(h:Aa):R:=
 A7 v0 fun v4=>
 Am 0 v4 fun v5=>
 Al v5 h fun v6=>
 some (v6,h)
theorem Su(H:Aw disp)(hd:1<=d)(v0:EV)(h:Aa):Ae TT disp K d false 36 [v0] h=Di K v0 h:=
 Cj (H.bare (by kernel_rfl)) hd (by kernel_rfl) (fun d hd=>rfl) (fun d c r=>rfl) (fun d c r=>by kernel_rfl)
def K2(K:Nat)(v0:EV)(h:Aa):R:=
 Ea 23 v0 h fun v1 h=>
 Am 0 v1 fun v3=>
 Al v3 h fun v4=>
 Am 1 v1 fun v5=>
 Al v5 h fun v6=>
 An X4 (bin TT .mul 3) v4 v6 fun v7=>
 some (v7,h)
theorem Q6(H:Aw disp)(hd:1<=d)(v0:EV)(h:Aa):Ae TT disp K d false 63 [v0] h=K2 K v0 h:=
 Cj (H.bare (by kernel_rfl)) hd (by kernel_rfl) (fun d hd=>rfl) (fun d c r=>rfl) (fun d c r=>by kernel_rfl)
def Cp(K:Nat)(v0:EV)(h:Aa):R:=
 A7 v0 fun v4=>
 Am 0 v4 fun v5=>
 Al v5 h fun v6=>
 Aj (Ar0 v6 h) fun v7 h=>
 some (v7,h)
theorem Iz(H:Aw disp)(hd:1<=d)(v0:EV)(h:Aa):Ae TT disp K d false 71 [v0] h=Cp K v0 h:=
 Cj (H.bare (by kernel_rfl)) hd (by kernel_rfl) (fun d hd=>rfl) (fun d c r=>rfl) (fun d c r=>by kernel_rfl)
def Hf(K:Nat)(v0:EV)(h:Aa):R:=
 A7 v0 fun v4=>
 Am 0 v4 fun v5=>
 Al v5 h fun v6=>
 Hg v6 fun v7=>
 some (v7,h)
theorem Nv(H:Aw disp)(hd:1<=d)(v0:EV)(h:Aa):Ae TT disp K d false 74 [v0] h=Hf K v0 h:=
 Cj (H.bare (by kernel_rfl)) hd (by kernel_rfl) (fun d hd=>rfl) (fun d c r=>rfl) (fun d c r=>by kernel_rfl)
def Jp(K:Nat)(v0:EV)(h:Aa):R:=
 A7 v0 fun v4=>
 Am 1 v4 fun v5=>
 Al v5 h fun v6=>
 some (v6,h)
theorem T5(H:Aw disp)(hd:1<=d)(v0:EV)(h:Aa):Ae TT disp K d false 75 [v0] h=Jp K v0 h:=
 Cj (H.bare (by kernel_rfl)) hd (by kernel_rfl) (fun d hd=>rfl) (fun d c r=>rfl) (fun d c r=>by kernel_rfl)
def J8(K:Nat)(v3:EV)(h:Aa):R:=
 some (v3,h)
def Pf(K:Nat)(ih1_:EV->EV->EV->Aa->R)(v1 v3 v4:EV)(h:Aa):R:=
 An Hw (bin TT .add 3) v4 (.int .i64 2) fun v10=>
 ih1_ v1 v3 v10 h
def Pc(K:Nat)(ih1_:EV->EV->EV->Aa->R)(v1 v3 v4:EV)(h:Aa):R:=
 An Hw (bin TT .add 3) v3 (.int .i64 1) fun v12=>
 Pf K ih1_ v1 v12 v4 h
def Cg(K:Nat):Nat->EV->EV->EV->Aa->R
 | 0=>fun _ _ _ _=>none
 | m+1=>fun v1 v3 v4 h=>
  Am 3 v1 fun v6=>
  Al v6 h fun v7=>
  An Hl (bin TT .lss 3) v4 v7 fun v8=>
  De v8
  (Pc K (Cg K m) v1 v3 v4 h)
  (J8 K v3 h)
def Jc(K:Nat)(v0:EV)(h:Aa):R:=
 Ea 37 v0 h fun v1 h=>
 Cg K K v1 (.int .i64 1) (.int .i64 0) h
abbrev Zl(K:Nat)(c:Ad):Ad:=c
theorem Wa(c c' r:Ad)(K:Nat)(m:Nat):I0 (fun ih=>H6 TT (Zl K c) c' r K (nOf TT 76) (F2 TT 76) (Sb TT 76 [true,true,false,true,false]) [(0,fun ρ h=>J8 K (ρ 3) h)] ih) m=fun ρ h=>Cg K m (ρ 1) (ρ 3) (ρ 4) h:=
 C3 (E:=fun m ρ h=>Cg K m (ρ 1) (ρ 3) (ρ 4) h) rfl (fun m=>Se fun ρ h=>by
  show _=Cg K (m+1) (ρ 1) (ρ 3) (ρ 4) h
  rw[Cg];kernel_rfl) m
theorem Wz(H:Aw disp)(hd:1<=d)(v0:EV)(h:Aa):Ae TT disp K d false 76 [v0] h=Jc K v0 h:=
 Cj (H.bare (by kernel_rfl)) hd (by kernel_rfl) (fun d hd=>rfl) (fun d c r=>(cut [true,true,false,true,false] (Wa (Ae TT disp K d false) c r K K) (by kernel_rfl) (by kernel_rfl) rfl)) (fun d c r=>by kernel_rfl)
def Oh(K:Nat)(v5:EV)(h:Aa):R:=
 some (v5,h)
def Kj(K:Nat)(ih1_:EV->EV->EV->EV->EV->EV->Aa->R)(v0 v1 v5 v11 v12 v13:EV)(h:Aa):R:=
 An Hw (bin TT .add 3) v13 (.int .i64 1) fun v39=>
 ih1_ v0 v1 v5 v11 v12 v39 h
def Gf(K:Nat)(ih1_:EV->EV->EV->EV->EV->EV->Aa->R)(base:Nat)(s:DX)(v0 v1 v5 v6 v11 v12 v13 v21 v36:EV)(h:Aa):R:=
 Bk v21 v36 (.bool false) fun v37=>
 De v37
 (Kj K ih1_ v0 v1 v6 v11 v12 v13 h)
 (Kj K ih1_ v0 v1 v5 v11 v12 v13 h)
def Gi(K:Nat)(ih1_:EV->EV->EV->EV->EV->EV->Aa->R)(base:Nat)(s:DX)(v0 v1 v5 v6 v11 v12 v13 v21 v24 v35:EV)(h:Aa):R:=
 As (Ay v21 true)
 (Bk v24 (.bool true) v35 fun v36=>
 Gf K ih1_ base s v0 v1 v5 v6 v11 v12 v13 v21 v36 h)
 (Gf K ih1_ base s v0 v1 v5 v6 v11 v12 v13 v21 (.tuple []) h)
def Ko(K:Nat)(ih1_:EV->EV->EV->EV->EV->EV->Aa->R)(base:Nat)(s:DX)(v0 v1 v5 v6 v7 v11 v12 v13 v21 v24:EV)(h:Aa):R:=
 As (Ay v24 false)
 (Ci 8 255 s h (fun h=>(Cp K v7 h)) fun v26 h s=>
 A7 v0 fun v28=>
 Am 6 v28 fun v29=>
 Bd 12 3711 base v29 s fun s=>Al v29 h fun v30=>
 It 1 v30 v5 fun v32=>
 Bd 15 32383 base v32 s fun s=>Al v32 h fun v33=>
 Ci 16 65535 s h (fun h=>(Cp K v33 h)) fun v34 h s=>
 An Ww (bin TT .gtr 3) v26 v34 fun v35=>
 Gi K ih1_ base s v0 v1 v5 v6 v11 v12 v13 v21 v24 v35 h)
 (Gi K ih1_ base s v0 v1 v5 v6 v11 v12 v13 v21 v24 (.tuple []) h)
def Tx(K:Nat)(ih1_:EV->EV->EV->EV->EV->EV->Aa->R)(v0 v1 v5 v11 v12 v13:EV)(h:Aa):R:=
 It 1 v11 v13 fun v16=>
 Al v16 h fun v17=>
 Fz h fun base s=>
 An Gv (bin TT .neq 3) v13 v1 fun v20=>
 As (Ay v20 true)
 (An Hl (bin TT .lss 3) v5 (.int .i64 0) fun v23=>
 Ko K ih1_ base s v0 v1 v5 v13 v17 v11 v12 v13 v20 v23 h)
 (Ko K ih1_ base s v0 v1 v5 v13 v17 v11 v12 v13 v20 (.tuple []) h)
def C2(K:Nat):Nat->EV->EV->EV->EV->EV->EV->Aa->R
 | 0=>fun _ _ _ _ _ _ _=>none
 | m+1=>fun v0 v1 v5 v11 v12 v13 h=>
  An Hl (bin TT .lss 3) v13 v12 fun v14=>
  De v14
  (Tx K (C2 K m) v0 v1 v5 v11 v12 v13 h)
  (Oh K v5 h)
def Hc(K:Nat)(v0 v1:EV)(h:Aa):R:=
 A7 v0 fun v9=>
 Am 6 v9 fun v10=>
 Al v10 h fun v11=>
 Hg v11 fun v12=>
 C2 K K v0 v1 (.int .i64 (-1)) v11 v12 (.int .i64 0) h
abbrev Af1(K:Nat)(c:Ad):Ad:=(w1 71 (Cp K) c)
theorem Abp(c c' r:Ad)(K:Nat)(m:Nat):I0 (fun ih=>H6 TT (Af1 K c) c' r K (nOf TT 78) (F2 TT 78) (Sb TT 78 [true,true,false,true,false]) [(0,fun ρ h=>Oh K (ρ 5) h)] ih) m=fun ρ h=>C2 K m (ρ 0) (ρ 1) (ρ 5) (ρ 11) (ρ 12) (ρ 13) h:=
 C3 (E:=fun m ρ h=>C2 K m (ρ 0) (ρ 1) (ρ 5) (ρ 11) (ρ 12) (ρ 13) h) rfl (fun m=>Se fun ρ h=>by
  show _=C2 K (m+1) (ρ 0) (ρ 1) (ρ 5) (ρ 11) (ρ 12) (ρ 13) h
  rw[C2];kernel_rfl) m
theorem Sh(H:Aw disp)(hd:2<=d)(v0 v1:EV)(h:Aa):Ae TT disp K d false 78 [v0,v1] h=Hc K v0 v1 h:=
 Cj (H.bare (by kernel_rfl)) hd (by kernel_rfl) (fun d hd=>(W1 (Iz H (lq hd rfl)) rfl)) (fun d c r=>(cut [true,true,false,true,false] (Abp (Ae TT disp K d false) c r K K) (by kernel_rfl) (by kernel_rfl) rfl)) (fun d c r=>by kernel_rfl)
def Qf(K:Nat)(v0:EV)(h:Aa):R:=
 Ea 23 v0 h fun v1 h=>
 Am 3 v1 fun v3=>
 Al v3 h fun v4=>
 An Hw (bin TT .add 3) v4 (.int .i64 2) fun v5=>
 An R8 (bin TT .sub 3) v5 (.int .i64 1) fun v6=>
 Lt (bin TT .quo 3) v6 (.int .i64 2) fun v7=>
 An Hw (bin TT .add 3) (.int .i64 1) v7 fun v8=>
 some (v8,h)
theorem Af4(H:Aw disp)(hd:1<=d)(v0:EV)(h:Aa):Ae TT disp K d false 112 [v0] h=Qf K v0 h:=
 Cj (H.bare (by kernel_rfl)) hd (by kernel_rfl) (fun d hd=>rfl) (fun d c r=>rfl) (fun d c r=>by kernel_rfl)
def Rv(K:Nat)(v7 v10:EV)(h:Aa):R:=
 Bk v7 v10 (.bool false) fun v11=>
 some (v11,h)
def Qs(K:Nat)(v0 v1:EV)(h:Aa):R:=
 An Zu (bin TT .geq 3) v0 (.int .i64 1) fun v6=>
 As (Ay v6 true)
 (An Aei (bin TT .leq 3) v0 v1 fun v10=>
 Rv K v6 v10 h)
 (Rv K v6 (.tuple []) h)
theorem Amc(H:Aw disp)(hd:1<=d)(v0 v1:EV)(h:Aa):Ae TT disp K d false 124 [v0,v1] h=Qs K v0 v1 h:=
 Cj (H.bare (by kernel_rfl)) hd (by kernel_rfl) (fun d hd=>rfl) (fun d c r=>rfl) (fun d c r=>by kernel_rfl)
def P6(K:Nat)(v0:EV)(h:Aa):R:=
 Bu (D3 [(0,1),(1,1),(2,1),(3,1),(4,1)]) [.Ag,(.int .i64 0),(.int .i64 0),(.int .i64 0),(.bool false)] [(1,v0)] fun v11=>
 Ea 240 v11 h fun v12 h=>
 some (.tuple [v12,(.int .i64 0)],h)
def K4(K:Nat)(v0 v6 v8:EV)(h:Aa):R:=
 Bk v6 (.bool true) v8 fun v9=>
 De v9
 (some (.tuple [.Ej,(.int .i64 13)],h))
 (P6 K v0 h)
def Hv(K:Nat)(v0:EV)(h:Aa):R:=
 An Hl (bin TT .lss 3) v0 (.int .i64 1) fun v5=>
 As (Ay v5 false)
 (An Ww (bin TT .gtr 3) v0 (.int .i64 64) fun v8=>
 K4 K v0 v5 v8 h)
 (K4 K v0 v5 (.tuple []) h)
theorem X5(H:Aw disp)(hd:1<=d)(v0:EV)(h:Aa):Ae TT disp K d false 125 [v0] h=Hv K v0 h:=
 Cj (H.bare (by kernel_rfl)) hd (by kernel_rfl) (fun d hd=>rfl) (fun d c r=>rfl) (fun d c r=>by kernel_rfl)
def Ajq(K:Nat)(v0:EV)(h:Aa):R:=
 Aj (Afw v0 h) fun v11 h=>
 Bu (D3 [(0,1)]) [.V7] [(0,v11)] fun v12=>
 Ea 218 v12 h fun v13 h=>
 some (.tuple [v13,(.int .i64 0)],h)
def Abo(K:Nat)(v0 v6 v8:EV)(h:Aa):R:=
 Bk v6 (.bool true) v8 fun v9=>
 De v9
 (some (.tuple [.Ej,(.int .i64 13)],h))
 (Ajq K v0 h)
def Aar(K:Nat)(v0:EV)(h:Aa):R:=
 An Hl (bin TT .lss 3) v0 (.int .i64 1) fun v5=>
 As (Ay v5 false)
 (An Ww (bin TT .gtr 3) v0 (.int .i64 4096) fun v8=>
 Abo K v0 v5 v8 h)
 (Abo K v0 v5 (.tuple []) h)
theorem Aqh(H:Aw disp)(hd:1<=d)(v0:EV)(h:Aa):Ae TT disp K d false 126 [v0] h=Aar K v0 h:=
 Cj (H.bare (by kernel_rfl)) hd (by kernel_rfl) (fun d hd=>rfl) (fun d c r=>rfl) (fun d c r=>by kernel_rfl)
def Q4(K:Nat)(v0:EV)(h:Aa):R:=
 Lt (bin TT .quo 3) v0 (.int .i64 2) fun v10=>
 some (v10,h)
def Ld(K:Nat)(v0:EV)(h:Aa):R:=
 An Hl (bin TT .lss 3) v0 (.int .i64 0) fun v4=>
 De v4
 (An R8 (bin TT .sub 3) (.int .i64 1) v0 fun v6=>
 Lt (bin TT .quo 3) v6 (.int .i64 2) fun v7=>
 Asq v7 fun v8=>
 some (v8,h))
 (Q4 K v0 h)
theorem Aah(H:Aw disp)(hd:1<=d)(v0:EV)(h:Aa):Ae TT disp K d false 127 [v0] h=Ld K v0 h:=
 Cj (H.bare (by kernel_rfl)) hd (by kernel_rfl) (fun d hd=>rfl) (fun d c r=>rfl) (fun d c r=>by kernel_rfl)
def Wy(K:Nat)(v10 v13:EV)(h:Aa):R:=
 Bk v10 v13 (.bool false) fun v14=>
 some (v14,h)
def Ib(K:Nat)(v0 v1 v2:EV)(h:Aa):R:=
 An Zu (bin TT .geq 3) v0 v1 fun v9=>
 As (Ay v9 true)
 (An Aei (bin TT .leq 3) v0 v2 fun v13=>
 Wy K v9 v13 h)
 (Wy K v9 (.tuple []) h)
theorem Ac2(H:Aw disp)(hd:1<=d)(v0 v1 v2:EV)(h:Aa):Ae TT disp K d false 140 [v0,v1,v2] h=Ib K v0 v1 v2 h:=
 Cj (H.bare (by kernel_rfl)) hd (by kernel_rfl) (fun d hd=>rfl) (fun d c r=>rfl) (fun d c r=>by kernel_rfl)
def N4(K:Nat)(v0:EV)(h:Aa):R:=
 Ea 23 v0 h fun v1 h=>
 Am 0 v1 fun v3=>
 Al v3 h fun v4=>
 Am 4 v1 fun v5=>
 Al v5 h fun v6=>
 An X4 (bin TT .mul 3) v4 v6 fun v7=>
 An Hw (bin TT .add 3) v7 (.int .i64 4) fun v8=>
 some (v8,h)
theorem Adc(H:Aw disp)(hd:1<=d)(v0:EV)(h:Aa):Ae TT disp K d false 159 [v0] h=N4 K v0 h:=
 Cj (H.bare (by kernel_rfl)) hd (by kernel_rfl) (fun d hd=>rfl) (fun d c r=>rfl) (fun d c r=>by kernel_rfl)
def Xl(K:Nat)(v0 v1:EV)(h:Aa):R:=
 A7 v0 fun v17=>
 Am 6 v17 fun v18=>
 Al v18 h fun v19=>
 It 1 v19 v1 fun v21=>
 Al v21 h fun v22=>
 Aj (Cp K v22 h) fun v23 h=>
 some (v23,h)
def Mp(K:Nat)(v0 v1 v7 v14:EV)(h:Aa):R:=
 Bk v7 (.bool true) v14 fun v15=>
 De v15
 (some ((.int .i64 0),h))
 (Xl K v0 v1 h)
def Nb(K:Nat)(v0 v1:EV)(h:Aa):R:=
 An Hl (bin TT .lss 3) v1 (.int .i64 0) fun v6=>
 As (Ay v6 false)
 (A7 v0 fun v10=>
 Am 6 v10 fun v11=>
 Al v11 h fun v12=>
 Hg v12 fun v13=>
 An Zu (bin TT .geq 3) v1 v13 fun v14=>
 Mp K v0 v1 v6 v14 h)
 (Mp K v0 v1 v6 (.tuple []) h)
theorem Afy(H:Aw disp)(hd:2<=d)(v0 v1:EV)(h:Aa):Ae TT disp K d false 22 [v0,v1] h=Nb K v0 v1 h:=
 Cj (H.bare (by kernel_rfl)) hd (by kernel_rfl) (fun d hd=>(W1 (Iz H (lq hd rfl)) rfl)) (fun d c r=>rfl) (fun d c r=>by kernel_rfl)
def Qk(K:Nat)(v0 v3:EV)(h:Aa):R:=
 Lt (bin TT .quo 3) v3 (.int .i64 2) fun v21=>
 Aj (Hc K v0 (.int .i64 (-1)) h) fun v25 h=>
 Aj (Nb K v0 v25 h) fun v26 h=>
 An R8 (bin TT .sub 3) v3 v26 fun v27=>
 Aj (builtin TT .min #[3,3] [v21,v27] h) fun v28 h=>
 some (v28,h)
def W7(K:Nat)(ih1_:EV->EV->EV->EV->EV->Aa->R)(v0 v3 v9 v10 v11:EV)(h:Aa):R:=
 An Hw (bin TT .add 3) v11 (.int .i64 1) fun v19=>
 ih1_ v0 v3 v9 v10 v19 h
def W8(K:Nat)(ih1_:EV->EV->EV->EV->EV->Aa->R)(v0 v3 v9 v10 v11:EV)(h:Aa):R:=
 It 1 v9 v11 fun v13=>
 Al v13 h fun v14=>
 Aj (Cp K v14 h) fun v17 h=>
 An Hw (bin TT .add 3) v3 v17 fun v18=>
 W7 K ih1_ v0 v18 v9 v10 v11 h
def E1(K:Nat):Nat->EV->EV->EV->EV->EV->Aa->R
 | 0=>fun _ _ _ _ _ _=>none
 | m+1=>fun v0 v3 v9 v10 v11 h=>
  An Hl (bin TT .lss 3) v11 v10 fun v12=>
  De v12
  (W8 K (E1 K m) v0 v3 v9 v10 v11 h)
  (Qk K v0 v3 h)
def Qg(K:Nat)(v0:EV)(h:Aa):R:=
 A7 v0 fun v7=>
 Am 6 v7 fun v8=>
 Al v8 h fun v9=>
 Hg v9 fun v10=>
 E1 K K v0 (.int .i64 0) v9 v10 (.int .i64 0) h
abbrev Aiv(K:Nat)(c:Ad):Ad:=(w2 78 (Hc K) (w2 22 (Nb K) (w1 71 (Cp K) c)))
theorem Ae4(c c' r:Ad)(K:Nat)(m:Nat):I0 (fun ih=>H6 TT (Aiv K c) c' r K (nOf TT 29) (F2 TT 29) (Sb TT 29 [true,true,false,true,false]) [(0,fun ρ h=>Qk K (ρ 0) (ρ 3) h)] ih) m=fun ρ h=>E1 K m (ρ 0) (ρ 3) (ρ 9) (ρ 10) (ρ 11) h:=
 C3 (E:=fun m ρ h=>E1 K m (ρ 0) (ρ 3) (ρ 9) (ρ 10) (ρ 11) h) rfl (fun m=>Se fun ρ h=>by
  show _=E1 K (m+1) (ρ 0) (ρ 3) (ρ 9) (ρ 10) (ρ 11) h
  rw[E1];kernel_rfl) m
theorem Af2(H:Aw disp)(hd:3<=d)(v0:EV)(h:Aa):Ae TT disp K d false 29 [v0] h=Qg K v0 h:=
 Cj (H.bare (by kernel_rfl)) hd (by kernel_rfl) (fun d hd=>(W2 (Sh H (lq hd rfl)) (W2 (Afy H (lq hd rfl)) (W1 (Iz H (lq hd rfl)) rfl)))) (fun d c r=>(cut [true,true,false,true,false] (Ae4 (Ae TT disp K d false) c r K K) (by kernel_rfl) (by kernel_rfl) rfl)) (fun d c r=>by kernel_rfl)
def Aeh(K:Nat)(v8:EV)(h:Aa):R:=
 some (.tuple [v8,(.int .i64 0)],h)
def Ak3(K:Nat)(ih1_:EV->EV->EV->EV->Aa->R)(v1 v8 v23 v24:EV)(h:Aa):R:=
 An Hw (bin TT .add 3) v24 (.int .i64 1) fun v44=>
 ih1_ v1 v8 v23 v44 h
def Al1(K:Nat)(ih1_:EV->EV->EV->EV->Aa->R)(v1 v8 v9 v23 v24:EV)(h:Aa):R:=
 A7 v8 fun v36=>
 Am 0 v36 fun v37=>
 Al v37 h fun v38=>
 Aj (B1 [.Ej] 180 1 1 [(0,v9)] h) fun v40 h=>
 Aj (Dt 180 1 v38 v40 h) fun v41 h=>
 A7 v8 fun v42=>
 Am 0 v42 fun v43=>
 D5 1 v43 v41 h fun h=>
 Ak3 K ih1_ v1 v8 v23 v24 h
def Alx(K:Nat)(ih1_:EV->EV->EV->EV->Aa->R)(v1 v8 v23 v24:EV)(h:Aa):R:=
 Aj (Hv K v1 h) fun v28 h=>
 Bv 0 v28 fun v29=>
 Bv 1 v28 fun v30=>
 An Gv (bin TT .neq 28) v30 (.int .i64 0) fun v32=>
 De v32
 (some (.tuple [.Ej,v30],h))
 (Al1 K ih1_ v1 v8 v29 v23 v24 h)
def L6(K:Nat):Nat->EV->EV->EV->EV->Aa->R
 | 0=>fun _ _ _ _ _=>none
 | m+1=>fun v1 v8 v23 v24 h=>
  An Hl (bin TT .lss 3) v24 v23 fun v25=>
  De v25
  (Alx K (L6 K m) v1 v8 v23 v24 h)
  (Aeh K v8 h)
def Alm(K:Nat)(v0 v1 v2:EV)(h:Aa):R:=
 Bu (D3 [(0,1),(1,1),(2,1),(3,1),(4,1)]) [.Ag,(.int .i64 0),(.int .i64 0),(.int .i64 0),(.bool false)] [(1,v1),(2,v2)] fun v21=>
 Ea 183 v21 h fun v22 h=>
 L6 K K v1 v22 v0 (.int .i64 0) h
def Afm(K:Nat)(v0 v1 v2 v14 v17:EV)(h:Aa):R:=
 Bk v14 (.bool true) v17 fun v18=>
 De v18
 (some (.tuple [.Ej,(.int .i64 13)],h))
 (Alm K v0 v1 v2 h)
def Ah9(K:Nat)(v0 v1 v2:EV)(h:Aa):R:=
 Aj (Qs K v0 (.int .i64 512) h) fun v12 h=>
 Q1 v12 fun v13=>
 As (Ay v13 false)
 (Aj (Qs K v2 (.int .i64 64) h) fun v16 h=>
 Q1 v16 fun v17=>
 Afm K v0 v1 v2 v13 v17 h)
 (Afm K v0 v1 v2 v13 (.tuple []) h)
abbrev Awt(K:Nat)(c:Ad):Ad:=(w2 124 (Qs K) (w1 125 (Hv K) c))
theorem Aqm(c c' r:Ad)(K:Nat)(m:Nat):I0 (fun ih=>H6 TT (Awt K c) c' r K (nOf TT 72) (F2 TT 72) (Sb TT 72 [true,true,true,false,true,false]) [(0,fun ρ h=>Aeh K (ρ 8) h)] ih) m=fun ρ h=>L6 K m (ρ 1) (ρ 8) (ρ 23) (ρ 24) h:=
 C3 (E:=fun m ρ h=>L6 K m (ρ 1) (ρ 8) (ρ 23) (ρ 24) h) rfl (fun m=>Se fun ρ h=>by
  show _=L6 K (m+1) (ρ 1) (ρ 8) (ρ 23) (ρ 24) h
  rw[L6];kernel_rfl) m
theorem As3(H:Aw disp)(hd:2<=d)(v0 v1 v2:EV)(h:Aa):Ae TT disp K d false 72 [v0,v1,v2] h=Ah9 K v0 v1 v2 h:=
 Cj (H.bare (by kernel_rfl)) hd (by kernel_rfl) (fun d hd=>(W2 (Amc H (lq hd rfl)) (W1 (X5 H (lq hd rfl)) rfl))) (fun d c r=>(cut [true,true,true,false,true,false] (Aqm (Ae TT disp K d false) c r K K) (by kernel_rfl) (by kernel_rfl) rfl)) (fun d c r=>by kernel_rfl)
def F7(K:Nat)(v1 v5:EV)(h:Aa):R:=
 Fz h fun base s=>
 Ci 1 1 s h (fun h=>(Ld K v5 h)) fun v40 h s=>
 An R8 (bin TT .sub 3) v40 (.int .i64 1) fun v41=>
 Am 0 v1 fun v42=>
 Bd 4 8 base v42 s fun s=>Al v42 h fun v43=>
 Am 4 v1 fun v44=>
 Bd 6 32 base v44 s fun s=>Al v44 h fun v45=>
 An X4 (bin TT .mul 3) v43 v45 fun v46=>
 An R8 (bin TT .sub 3) v41 v46 fun v47=>
 some (v47,h)
def Ho(K:Nat)(v0:EV)(h:Aa):R:=
 Ea 37 v0 h fun v1 h=>
 Am 1 v1 fun v7=>
 Al v7 h fun v8=>
 Am 4 v1 fun v9=>
 Al v9 h fun v10=>
 An R8 (bin TT .sub 3) v8 v10 fun v11=>
 An R8 (bin TT .sub 3) v11 (.int .i64 2) fun v12=>
 Am 0 v1 fun v13=>
 Al v13 h fun v14=>
 Am 4 v1 fun v15=>
 Al v15 h fun v16=>
 An X4 (bin TT .mul 3) v14 v16 fun v17=>
 An Hw (bin TT .add 3) v17 (.int .i64 4) fun v18=>
 Am 0 v1 fun v19=>
 Al v19 h fun v20=>
 An R8 (bin TT .sub 3) v20 (.int .i64 1) fun v21=>
 An X4 (bin TT .mul 3) v21 v12 fun v23=>
 An R8 (bin TT .sub 3) v23 v18 fun v25=>
 An Hw (bin TT .add 3) v25 (.int .i64 1) fun v26=>
 Am 0 v1 fun v27=>
 Al v27 h fun v28=>
 An X4 (bin TT .mul 3) v28 v12 fun v30=>
 An X4 (bin TT .mul 3) (.int .i64 2) v18 fun v32=>
 An R8 (bin TT .sub 3) v30 v32 fun v33=>
 An Hw (bin TT .add 3) v33 (.int .i64 1) fun v34=>
 An Hl (bin TT .lss 3) v34 v26 fun v37=>
 De v37
 (F7 K v1 v34 h)
 (F7 K v1 v26 h)
theorem Uk(H:Aw disp)(hd:2<=d)(v0:EV)(h:Aa):Ae TT disp K d false 77 [v0] h=Ho K v0 h:=
 Cj (H.bare (by kernel_rfl)) hd (by kernel_rfl) (fun d hd=>(W1 (Aah H (lq hd rfl)) rfl)) (fun d c r=>rfl) (fun d c r=>by kernel_rfl)
def Ez(K:Nat)(v26 v29:EV)(h:Aa):R:=
 Bk v26 v29 (.bool false) fun v30=>
 some (v30,h)
def E6(K:Nat)(v1 v21 v24:EV)(h:Aa):R:=
 Bk v21 v24 (.bool false) fun v25=>
 As (Ay v25 true)
 (Am 5 v1 fun v27=>
 Al v27 h fun v28=>
 Aj (Ib K v28 (.int .i64 4) (.int .i64 64) h) fun v29 h=>
 Ez K v25 v29 h)
 (Ez K v25 (.tuple []) h)
def E2(K:Nat)(v1 v16 v19:EV)(h:Aa):R:=
 Bk v16 v19 (.bool false) fun v20=>
 As (Ay v20 true)
 (Am 4 v1 fun v22=>
 Al v22 h fun v23=>
 Aj (Ib K v23 (.int .i64 0) (.int .i64 4) h) fun v24 h=>
 E6 K v1 v20 v24 h)
 (E6 K v1 v20 (.tuple []) h)
def E5(K:Nat)(v1 v11 v14:EV)(h:Aa):R:=
 Bk v11 v14 (.bool false) fun v15=>
 As (Ay v15 true)
 (Am 3 v1 fun v17=>
 Al v17 h fun v18=>
 Aj (Ib K v18 (.int .i64 1) (.int .i64 256) h) fun v19 h=>
 E2 K v1 v15 v19 h)
 (E2 K v1 v15 (.tuple []) h)
def E4(K:Nat)(v1 v6 v9:EV)(h:Aa):R:=
 Bk v6 v9 (.bool false) fun v10=>
 As (Ay v10 true)
 (Am 2 v1 fun v12=>
 Al v12 h fun v13=>
 Aj (Ib K v13 (.int .i64 4) (.int .i64 64) h) fun v14 h=>
 E5 K v1 v10 v14 h)
 (E5 K v1 v10 (.tuple []) h)
def Qh(K:Nat)(v0:EV)(h:Aa):R:=
 Ea 23 v0 h fun v1 h=>
 Am 0 v1 fun v3=>
 Al v3 h fun v4=>
 Aj (Ib K v4 (.int .i64 3) (.int .i64 8) h) fun v5 h=>
 As (Ay v5 true)
 (Am 1 v1 fun v7=>
 Al v7 h fun v8=>
 Aj (Ib K v8 (.int .i64 1) (.int .i64 64) h) fun v9 h=>
 E4 K v1 v5 v9 h)
 (E4 K v1 v5 (.tuple []) h)
theorem Agh(H:Aw disp)(hd:2<=d)(v0:EV)(h:Aa):Ae TT disp K d false 111 [v0] h=Qh K v0 h:=
 Cj (H.bare (by kernel_rfl)) hd (by kernel_rfl) (fun d hd=>(W3 (Ac2 H (lq hd rfl)) rfl)) (fun d c r=>rfl) (fun d c r=>by kernel_rfl)
def Mo(K:Nat)(v0:EV)(h:Aa):R:=
 Ea 23 v0 h fun v1 h=>
 Fz h fun base s=>
 Am 1 v1 fun v6=>
 Bd 1 1 base v6 s fun s=>Al v6 h fun v7=>
 Am 4 v1 fun v8=>
 Bd 3 4 base v8 s fun s=>Al v8 h fun v9=>
 An R8 (bin TT .sub 3) v7 v9 fun v10=>
 An R8 (bin TT .sub 3) v10 (.int .i64 2) fun v11=>
 Bd 6 0 base v1 s fun s=>Ca 6 v1 h fun v12=>
 Ci 7 64 s h (fun h=>(N4 K v12 h)) fun v13 h s=>
 Am 0 v1 fun v14=>
 Al v14 h fun v15=>
 An R8 (bin TT .sub 3) v15 (.int .i64 1) fun v16=>
 An X4 (bin TT .mul 3) v16 v11 fun v18=>
 An R8 (bin TT .sub 3) v18 v13 fun v20=>
 An Hw (bin TT .add 3) v20 (.int .i64 1) fun v21=>
 Am 0 v1 fun v22=>
 Al v22 h fun v23=>
 An X4 (bin TT .mul 3) v23 v11 fun v25=>
 An X4 (bin TT .mul 3) (.int .i64 2) v13 fun v27=>
 An R8 (bin TT .sub 3) v25 v27 fun v28=>
 An Hw (bin TT .add 3) v28 (.int .i64 1) fun v29=>
 Aj (builtin TT .min #[3,3] [v21,v29] h) fun v30 h=>
 Lt (bin TT .shr 3) v30 (.int .u64 1) fun v32=>
 An R8 (bin TT .sub 3) v32 (.int .i64 1) fun v33=>
 Am 0 v1 fun v34=>
 Al v34 h fun v35=>
 Am 4 v1 fun v36=>
 Al v36 h fun v37=>
 An X4 (bin TT .mul 3) v35 v37 fun v38=>
 An R8 (bin TT .sub 3) v33 v38 fun v39=>
 some (v39,h)
theorem Abr(H:Aw disp)(hd:2<=d)(v0:EV)(h:Aa):Ae TT disp K d false 113 [v0] h=Mo K v0 h:=
 Cj (H.bare (by kernel_rfl)) hd (by kernel_rfl) (fun d hd=>(W1 (Adc H (lq hd rfl)) rfl)) (fun d c r=>rfl) (fun d c r=>by kernel_rfl)
def Alg(K:Nat)(v8:EV)(h:Aa):R:=
 Aj (Ai6 h) fun v21 h=>
 Bu (D3 [(0,1),(1,1),(2,1),(3,1)]) [.Ej,.Ag,.Ag,.Aa7] [(0,v8),(3,v21)] fun v22=>
 Ea 166 v22 h fun v23 h=>
 some (.tuple [v23,(.int .i64 0)],h)
def Ai0(K:Nat)(v0 v1 v2:EV)(h:Aa):R:=
 Aj (Ah9 K v0 v1 v2 h) fun v14 h=>
 Bv 0 v14 fun v15=>
 Bv 1 v14 fun v16=>
 An Gv (bin TT .neq 28) v16 (.int .i64 0) fun v18=>
 De v18
 (some (.tuple [.Ej,v16],h))
 (Alg K v15 h)
theorem Atf(H:Aw disp)(hd:3<=d)(v0 v1 v2:EV)(h:Aa):Ae TT disp K d false 24 [v0,v1,v2] h=Ai0 K v0 v1 v2 h:=
 Cj (H.bare (by kernel_rfl)) hd (by kernel_rfl) (fun d hd=>(W3 (As3 H (lq hd rfl)) rfl)) (fun d c r=>rfl) (fun d c r=>by kernel_rfl)
def Hp(K:Nat)(base:Nat)(s:DX)(v66 v75:EV)(h:Aa):R:=
 Bk v66 v75 (.bool false) fun v76=>
 some (v76,h)
def Pm(K:Nat)(v1:EV)(h:Aa):R:=
 Fz h fun base s=>
 Bd 0 0 base v1 s fun s=>Ca 6 v1 h fun v61=>
 Ci 1 1 s h (fun h=>(Jc K v61 h)) fun v62 h s=>
 Am 2 v1 fun v63=>
 Bd 3 4 base v63 s fun s=>Al v63 h fun v64=>
 An Aei (bin TT .leq 3) v62 v64 fun v65=>
 As (Ay v65 true)
 (Am 3 v1 fun v67=>
 Bd 7 127 base v67 s fun s=>Al v67 h fun v68=>
 An X4 (bin TT .mul 3) (.int .i64 2) v68 fun v69=>
 Am 2 v1 fun v70=>
 Bd 10 575 base v70 s fun s=>Al v70 h fun v71=>
 Bd 11 63 base v1 s fun s=>Ca 6 v1 h fun v72=>
 Ci 12 2111 s h (fun h=>(Ho K v72 h)) fun v73 h s=>
 An X4 (bin TT .mul 3) v71 v73 fun v74=>
 An Aei (bin TT .leq 3) v69 v74 fun v75=>
 Hp K base s v65 v75 h)
 (Hp K base s v65 (.tuple []) h)
def Ba(K:Nat)(v1 v56 v59:EV)(h:Aa):R:=
 Bk v56 (.bool true) v59 fun v60=>
 De v60
 (some ((.bool false),h))
 (Pm K v1 h)
def Bh(K:Nat)(v1 v51 v54:EV)(h:Aa):R:=
 Bk v51 (.bool true) v54 fun v55=>
 As (Ay v55 false)
 (Am 5 v1 fun v57=>
 Al v57 h fun v58=>
 An Ww (bin TT .gtr 3) v58 (.int .i64 64) fun v59=>
 Ba K v1 v55 v59 h)
 (Ba K v1 v55 (.tuple []) h)
def Bl(K:Nat)(v1 v46 v49:EV)(h:Aa):R:=
 Bk v46 (.bool true) v49 fun v50=>
 As (Ay v50 false)
 (Am 5 v1 fun v52=>
 Al v52 h fun v53=>
 An Hl (bin TT .lss 3) v53 (.int .i64 4) fun v54=>
 Bh K v1 v50 v54 h)
 (Bh K v1 v50 (.tuple []) h)
def Br(K:Nat)(v1 v41 v44:EV)(h:Aa):R:=
 Bk v41 (.bool true) v44 fun v45=>
 As (Ay v45 false)
 (Am 4 v1 fun v47=>
 Al v47 h fun v48=>
 An Ww (bin TT .gtr 3) v48 (.int .i64 4) fun v49=>
 Bl K v1 v45 v49 h)
 (Bl K v1 v45 (.tuple []) h)
def B0(K:Nat)(v1 v36 v39:EV)(h:Aa):R:=
 Bk v36 (.bool true) v39 fun v40=>
 As (Ay v40 false)
 (Am 4 v1 fun v42=>
 Al v42 h fun v43=>
 An Hl (bin TT .lss 3) v43 (.int .i64 0) fun v44=>
 Br K v1 v40 v44 h)
 (Br K v1 v40 (.tuple []) h)
def Cc(K:Nat)(v1 v31 v34:EV)(h:Aa):R:=
 Bk v31 (.bool true) v34 fun v35=>
 As (Ay v35 false)
 (Am 3 v1 fun v37=>
 Al v37 h fun v38=>
 An Ww (bin TT .gtr 3) v38 (.int .i64 256) fun v39=>
 B0 K v1 v35 v39 h)
 (B0 K v1 v35 (.tuple []) h)
def Cf(K:Nat)(v1 v26 v29:EV)(h:Aa):R:=
 Bk v26 (.bool true) v29 fun v30=>
 As (Ay v30 false)
 (Am 3 v1 fun v32=>
 Al v32 h fun v33=>
 An Hl (bin TT .lss 3) v33 (.int .i64 1) fun v34=>
 Cc K v1 v30 v34 h)
 (Cc K v1 v30 (.tuple []) h)
def Cz(K:Nat)(v1 v21 v24:EV)(h:Aa):R:=
 Bk v21 (.bool true) v24 fun v25=>
 As (Ay v25 false)
 (Am 2 v1 fun v27=>
 Al v27 h fun v28=>
 An Ww (bin TT .gtr 3) v28 (.int .i64 64) fun v29=>
 Cf K v1 v25 v29 h)
 (Cf K v1 v25 (.tuple []) h)
def Dd(K:Nat)(v1 v16 v19:EV)(h:Aa):R:=
 Bk v16 (.bool true) v19 fun v20=>
 As (Ay v20 false)
 (Am 2 v1 fun v22=>
 Al v22 h fun v23=>
 An Hl (bin TT .lss 3) v23 (.int .i64 4) fun v24=>
 Cz K v1 v20 v24 h)
 (Cz K v1 v20 (.tuple []) h)
def Ey(K:Nat)(v1 v11 v14:EV)(h:Aa):R:=
 Bk v11 (.bool true) v14 fun v15=>
 As (Ay v15 false)
 (Am 1 v1 fun v17=>
 Al v17 h fun v18=>
 An Ww (bin TT .gtr 3) v18 (.int .i64 64) fun v19=>
 Dd K v1 v15 v19 h)
 (Dd K v1 v15 (.tuple []) h)
def Ha(K:Nat)(v1 v6 v9:EV)(h:Aa):R:=
 Bk v6 (.bool true) v9 fun v10=>
 As (Ay v10 false)
 (Am 1 v1 fun v12=>
 Al v12 h fun v13=>
 An Hl (bin TT .lss 3) v13 (.int .i64 1) fun v14=>
 Ey K v1 v10 v14 h)
 (Ey K v1 v10 (.tuple []) h)
def Ja(K:Nat)(v0:EV)(h:Aa):R:=
 Ea 37 v0 h fun v1 h=>
 Am 0 v1 fun v3=>
 Al v3 h fun v4=>
 An Hl (bin TT .lss 3) v4 (.int .i64 3) fun v5=>
 As (Ay v5 false)
 (Am 0 v1 fun v7=>
 Al v7 h fun v8=>
 An Ww (bin TT .gtr 3) v8 (.int .i64 8) fun v9=>
 Ha K v1 v5 v9 h)
 (Ha K v1 v5 (.tuple []) h)
theorem Xz(H:Aw disp)(hd:3<=d)(v0:EV)(h:Aa):Ae TT disp K d false 27 [v0] h=Ja K v0 h:=
 Cj (H.bare (by kernel_rfl)) hd (by kernel_rfl) (fun d hd=>(W1 (Wz H (lq hd rfl)) (W1 (Uk H (lq hd rfl)) rfl))) (fun d c r=>rfl) (fun d c r=>by kernel_rfl)
def Jx(K:Nat)(base:Nat)(s:DX)(v12 v21:EV)(h:Aa):R:=
 Bk v12 v21 (.bool false) fun v22=>
 some (v22,h)
def Mb(K:Nat)(base:Nat)(s:DX)(v1 v5 v10:EV)(h:Aa):R:=
 Bk v5 v10 (.bool false) fun v11=>
 As (Ay v11 true)
 (Am 3 v1 fun v13=>
 Bd 11 2047 base v13 s fun s=>Al v13 h fun v14=>
 An X4 (bin TT .mul 3) (.int .i64 2) v14 fun v15=>
 Am 2 v1 fun v16=>
 Bd 14 9215 base v16 s fun s=>Al v16 h fun v17=>
 Bd 15 1023 base v1 s fun s=>Ca 6 v1 h fun v18=>
 Ci 16 33791 s h (fun h=>(Mo K v18 h)) fun v19 h s=>
 An X4 (bin TT .mul 3) v17 v19 fun v20=>
 An Aei (bin TT .leq 3) v15 v20 fun v21=>
 Jx K base s v11 v21 h)
 (Jx K base s v11 (.tuple []) h)
def Kc(K:Nat)(v0:EV)(h:Aa):R:=
 Ea 23 v0 h fun v1 h=>
 Fz h fun base s=>
 Bd 0 0 base v1 s fun s=>Ca 6 v1 h fun v3=>
 Ci 1 1 s h (fun h=>(Qh K v3 h)) fun v4 h s=>
 As (Ay v4 true)
 (Bd 3 7 base v1 s fun s=>Ca 6 v1 h fun v6=>
 Ci 4 15 s h (fun h=>(Qf K v6 h)) fun v7 h s=>
 Am 2 v1 fun v8=>
 Bd 6 39 base v8 s fun s=>Al v8 h fun v9=>
 An Aei (bin TT .leq 3) v7 v9 fun v10=>
 Mb K base s v1 v4 v10 h)
 (Mb K base s v1 v4 (.tuple []) h)
theorem Vl(H:Aw disp)(hd:3<=d)(v0:EV)(h:Aa):Ae TT disp K d false 62 [v0] h=Kc K v0 h:=
 Cj (H.bare (by kernel_rfl)) hd (by kernel_rfl) (fun d hd=>(W1 (Agh H (lq hd rfl)) (W1 (Af4 H (lq hd rfl)) (W1 (Abr H (lq hd rfl)) rfl)))) (fun d c r=>rfl) (fun d c r=>by kernel_rfl)
def Ady(K:Nat)(v4:EV)(h:Aa):R:=
 some (.tuple [v4,(.int .i64 0)],h)
def Al0(K:Nat)(ih1_:EV->EV->EV->EV->Aa->R)(v1 v4 v14 v15:EV)(h:Aa):R:=
 An Hw (bin TT .add 3) v15 (.int .i64 1) fun v36=>
 ih1_ v1 v4 v14 v36 h
def Alu(K:Nat)(ih1_:EV->EV->EV->EV->Aa->R)(v1 v4 v5 v14 v15:EV)(h:Aa):R:=
 A7 v4 fun v28=>
 Am 6 v28 fun v29=>
 Al v29 h fun v30=>
 Aj (B1 [.Ej] 153 1 1 [(0,v5)] h) fun v32 h=>
 Aj (Dt 153 1 v30 v32 h) fun v33 h=>
 A7 v4 fun v34=>
 Am 6 v34 fun v35=>
 D5 1 v35 v33 h fun h=>
 Al0 K ih1_ v1 v4 v14 v15 h
def Ale(K:Nat)(ih1_:EV->EV->EV->EV->Aa->R)(v1 v4 v14 v15:EV)(h:Aa):R:=
 Am 1 v1 fun v18=>
 Al v18 h fun v19=>
 Aj (Aar K v19 h) fun v20 h=>
 Bv 0 v20 fun v21=>
 Bv 1 v20 fun v22=>
 An Gv (bin TT .neq 28) v22 (.int .i64 0) fun v24=>
 De v24
 (some (.tuple [.Ej,v22],h))
 (Alu K ih1_ v1 v4 v21 v14 v15 h)
def Lw(K:Nat):Nat->EV->EV->EV->EV->Aa->R
 | 0=>fun _ _ _ _ _=>none
 | m+1=>fun v1 v4 v14 v15 h=>
  An Hl (bin TT .lss 3) v15 v14 fun v16=>
  De v16
  (Ale K (Lw K m) v1 v4 v14 v15 h)
  (Ady K v4 h)
def Ak4(K:Nat)(v1:EV)(h:Aa):R:=
 Ca 6 v1 h fun v10=>
 Bu (D3 [(0,6),(6,1)]) [(.int .i64 0),(.int .i64 0),(.int .i64 0),(.int .i64 0),(.int .i64 0),(.int .i64 0),.Ag] [(0,v10)] fun v11=>
 Ea 152 v11 h fun v12 h=>
 Am 0 v1 fun v13=>
 Al v13 h fun v14=>
 Lw K K v1 v12 v14 (.int .i64 0) h
def Aam(K:Nat)(v0:EV)(h:Aa):R:=
 Ea 23 v0 h fun v1 h=>
 Ca 6 v1 h fun v7=>
 Aj (Kc K v7 h) fun v8 h=>
 Q1 v8 fun v9=>
 De v9
 (some (.tuple [.Ej,(.int .i64 20)],h))
 (Ak4 K v1 h)
abbrev Ayg(K:Nat)(c:Ad):Ad:=(w1 62 (Kc K) (w1 126 (Aar K) c))
theorem Aqj(c c' r:Ad)(K:Nat)(m:Nat):I0 (fun ih=>H6 TT (Ayg K c) c' r K (nOf TT 73) (F2 TT 73) (Sb TT 73 [true,true,true,false,true,false]) [(0,fun ρ h=>Ady K (ρ 4) h)] ih) m=fun ρ h=>Lw K m (ρ 1) (ρ 4) (ρ 14) (ρ 15) h:=
 C3 (E:=fun m ρ h=>Lw K m (ρ 1) (ρ 4) (ρ 14) (ρ 15) h) rfl (fun m=>Se fun ρ h=>by
  show _=Lw K (m+1) (ρ 1) (ρ 4) (ρ 14) (ρ 15) h
  rw[Lw];kernel_rfl) m
theorem As6(H:Aw disp)(hd:4<=d)(v0:EV)(h:Aa):Ae TT disp K d false 73 [v0] h=Aam K v0 h:=
 Cj (H.bare (by kernel_rfl)) hd (by kernel_rfl) (fun d hd=>(W1 (Vl H (lq hd rfl)) (W1 (Aqh H (lq hd rfl)) rfl))) (fun d c r=>(cut [true,true,true,false,true,false] (Aqj (Ae TT disp K d false) c r K K) (by kernel_rfl) (by kernel_rfl) rfl)) (fun d c r=>by kernel_rfl)
def Agy(K:Nat)(v0 v4 v5 v8:EV)(h:Aa):R:=
 Fz h fun base s=>
 Bd 1 0 base v4 s fun s=>Ca 6 v4 h fun v34=>
 Bd 2 0 base v5 s fun s=>Ca 256 v5 h fun v35=>
 Bd 4 0 base v4 s fun s=>Ca 6 v4 h fun v37=>
 Ci 5 16 s h (fun h=>(K2 K v37 h)) fun v38 h s=>
 Af0 6 h s fun s=>Aj (Abv [(.int .i64 0)] 3 v38 v38 h) fun v39 h=>
 Bu (D3 [(0,1),(1,6),(7,256),(263,1),(264,1),(265,1),(266,1),(267,1)]) ([.Ej]++List.replicate 6 (.int .i64 0)++List.replicate 256 (.int .u32 0)++[.Ej]++[.Ag]++List.replicate 3 (.int .i64 0)) [(0,v0),(1,v34),(2,v35),(3,v8),(4,v39),(5,(.int .i64 (-1))),(6,(.int .i64 (-1)))] fun v40=>
 Af0 8 h s fun s=>Ea 149 v40 h fun v41 h=>
 some (.tuple [v41,(.int .i64 0)],h)
def Nn(K:Nat)(base:Nat)(s:DX)(v0 v4 v5 v8 v25 v31:EV)(h:Aa):R:=
 Bk v25 (.bool true) v31 fun v32=>
 De v32
 (some (.tuple [.Ej,(.int .i64 20)],h))
 (Agy K v0 v4 v5 v8 h)
def To(K:Nat)(base:Nat)(s:DX)(v0 v4 v5 v8 v17 v23:EV)(h:Aa):R:=
 Bk v17 (.bool true) v23 fun v24=>
 As (Ay v24 false)
 (Ci 12 4095 s h (fun h=>(Di K v0 h)) fun v27 h s=>
 Ci 13 8191 s h (fun h=>(Jp K v27 h)) fun v28 h s=>
 Am 2 v4 fun v29=>
 Bd 15 18431 base v29 s fun s=>Al v29 h fun v30=>
 An Gv (bin TT .neq 3) v28 v30 fun v31=>
 Nn K base s v0 v4 v5 v8 v24 v31 h)
 (Nn K base s v0 v4 v5 v8 v24 (.tuple []) h)
def Ab1(K:Nat)(v0 v1 v2:EV)(h:Aa):R:=
 Ea 23 v1 h fun v4 h=>
 Ea 72 v2 h fun v5 h=>
 Ca 6 v4 h fun v11=>
 Aj (Aam K v11 h) fun v12 h=>
 Bv 0 v12 fun v13=>
 Bv 1 v12 fun v14=>
 Fz h fun base s=>
 An Gv (bin TT .neq 28) v14 (.int .i64 0) fun v16=>
 As (Ay v16 false)
 (Ci 4 15 s h (fun h=>(Di K v0 h)) fun v19 h s=>
 Ci 5 31 s h (fun h=>(Hf K v19 h)) fun v20 h s=>
 Bd 6 7 base v4 s fun s=>Ca 6 v4 h fun v21=>
 Ci 7 127 s h (fun h=>(K2 K v21 h)) fun v22 h s=>
 An Gv (bin TT .neq 3) v20 v22 fun v23=>
 To K base s v0 v4 v5 v13 v16 v23 h)
 (To K base s v0 v4 v5 v13 v16 (.tuple []) h)
theorem Aoq(H:Aw disp)(hd:5<=d)(v0 v1 v2:EV)(h:Aa):Ae TT disp K d false 25 [v0,v1,v2] h=Ab1 K v0 v1 v2 h:=
 Cj (H.bare (by kernel_rfl)) hd (by kernel_rfl) (fun d hd=>(W1 (As6 H (lq hd rfl)) (W1 (Su H (lq hd rfl)) (W1 (Nv H (lq hd rfl)) (W1 (Q6 H (lq hd rfl)) (W1 (T5 H (lq hd rfl)) rfl)))))) (fun d c r=>rfl) (fun d c r=>by kernel_rfl)
end
end Go.Ev
