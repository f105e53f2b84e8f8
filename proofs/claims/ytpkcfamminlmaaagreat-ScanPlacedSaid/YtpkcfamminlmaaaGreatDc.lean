import Derived.Test.YtpkcfamminlmaaaGreatDb
set_option linter.unusedVariables false
set_option linter.unusedSimpArgs false
set_option linter.unusedSectionVars false
namespace Go.Ev
open Go.Proofs
set_option maxRecDepth 100000
set_option maxHeartbeats 4000000
noncomputable section
variable {disp:Nat->Option FT}{K d:Nat}
def Nu(K:Nat)(v0:EV)(h:Aa):R:=
 Bj v0 fun v3=>
 Ap 4 v3 fun v4=>
 Dw 1 v4 (.bool true) h fun h=>
 some (.tuple [],h)
theorem Adz(H:Aq disp)(hd:1<=d)(v0:EV)(h:Aa):Ad TT disp K d false 39 [v0] h=Nu K v0 h:=
 Cm (H.bare (by kernel_rfl)) hd (by kernel_rfl) (fun d hd=>rfl) (fun d c r=>rfl) (fun d c r=>by kernel_rfl)
def Mf(K:Nat)(v0 v1:EV)(h:Aa):R:=
 D8 36 v0 h fun v2 h=>
 D8 37 v1 h fun v3 h=>
 Fw (.cells ([.Af]++List.replicate 3 (.int .i64 0)++[(.bool false)]++List.replicate 2 .Af++List.replicate 8 (.int .i64 0)++List.replicate 2 .Af++List.replicate 3 (.int .i64 0)) 42) h fun v4 h=>
 B4 7 v2 h fun v5=>
 B4 6 v3 h fun v6=>
 Ap 0 v3 fun v7=>
 Av v7 h fun v8=>
 Ap 1 v3 fun v9=>
 Av v9 h fun v10=>
 B7 (Dj [(0,1),(1,1),(2,1)]) [(.int .i64 0),(.int .i64 0),.Af] [(0,v8),(1,v10)] fun v11=>
 B7 (Dj [(0,7),(7,6),(13,3),(16,1),(17,1),(18,1),(19,1)]) ([.Af]++List.replicate 3 (.int .i64 0)++[(.bool false)]++List.replicate 2 .Af++List.replicate 8 (.int .i64 0)++List.replicate 2 .Af++List.replicate 3 (.int .i64 0)) [(0,v5),(1,v6),(2,v11),(4,(.int .i64 (-1))),(5,(.int .i64 (-1)))] fun v12=>
 Dw 20 v4 v12 h fun h=>
 Ct TT [.c v4 42] h
theorem Ace(H:Aq disp)(hd:1<=d)(v0 v1:EV)(h:Aa):Ad TT disp K d false 54 [v0,v1] h=Mf K v0 v1 h:=
 Cm (H.bare (by kernel_rfl)) hd (by kernel_rfl) (fun d hd=>rfl) (fun d c r=>rfl) (fun d c r=>by kernel_rfl)
def Nj(K:Nat)(v6 v7:EV)(h:Aa):R:=
 B4 5 v7 h fun v23=>
 Dw 5 v6 v23 h fun h=>
 Ct TT [.c v6 33] h
def S4(K:Nat)(ih1_:EV->EV->EV->EV->Aa->R)(v0 v6 v7 v8:EV)(h:Aa):R:=
 Ar Fx (bin TT .add 3) v8 (.int .i64 1) fun v16=>
 ih1_ v0 v6 v7 v16 h
def S2(K:Nat)(ih1_:EV->EV->EV->EV->Aa->R)(v0 v6 v7 v8:EV)(h:Aa):R:=
 Ap 0 v7 fun v17=>
 Av v17 h fun v18=>
 B7 (Dj [(0,1),(1,1),(2,1),(3,1)]) [.Af,(.int .i64 0),(.int .i64 0),(.bool false)] [] fun v19=>
 Al (B5 [.Af,(.int .i64 0),(.int .i64 0),(.bool false)] 215 4 1 [(0,v19)] h) fun v20 h=>
 Al (Dy 215 4 v18 v20 h) fun v21 h=>
 Ap 0 v7 fun v22=>
 Dw 1 v22 v21 h fun h=>
 S4 K ih1_ v0 v6 v7 v8 h
def D2(K:Nat):Nat->EV->EV->EV->EV->Aa->R
 | 0=>fun _ _ _ _ _=>none
 | m+1=>fun v0 v6 v7 v8 h=>
  Ar Gc (bin TT .lss 3) v8 v0 fun v14=>
  Dx v14
  (S2 K (D2 K m) v0 v6 v7 v8 h)
  (Nj K v6 v7 h)
def Ma(K:Nat)(v0 v1 v2:EV)(h:Aa):R:=
 Fw (.cells [.Af,(.int .i64 0),(.int .i64 0),(.int .i64 0),(.bool false)] 33) h fun v6 h=>
 B7 (Dj [(0,1),(1,1),(2,1),(3,1),(4,1)]) [.Af,(.int .i64 0),(.int .i64 0),(.int .i64 0),(.bool false)] [(1,v1),(2,v2)] fun v11=>
 Fw (.cells [.Af,(.int .i64 0),(.int .i64 0),(.int .i64 0),(.bool false)] 33) h fun v7 h=>
 Dw 5 v7 v11 h fun h=>
 D2 K K v0 v6 v7 (.int .i64 0) h
abbrev Aeu(K:Nat)(c:Ae):Ae:=c
theorem Abh(c c' r:Ae)(K:Nat)(m:Nat):Io (fun ih=>Hy TT (Aeu K c) c' r K (nOf TT 55) (F7 TT 55) (Q2 TT 55 [true,true,false,true,false]) [(0,fun ρ h=>Nj K (ρ 6) (ρ 7) h)] ih) m=fun ρ h=>D2 K m (ρ 0) (ρ 6) (ρ 7) (ρ 8) h:=
 C6 (E:=fun m ρ h=>D2 K m (ρ 0) (ρ 6) (ρ 7) (ρ 8) h) rfl (fun m=>Qz fun ρ h=>by
  show _=D2 K (m+1) (ρ 0) (ρ 6) (ρ 7) (ρ 8) h
  rw[D2];kernel_rfl) m
theorem Acq(H:Aq disp)(hd:1<=d)(v0 v1 v2:EV)(h:Aa):Ad TT disp K d false 55 [v0,v1,v2] h=Ma K v0 v1 v2 h:=
 Cm (H.bare (by kernel_rfl)) hd (by kernel_rfl) (fun d hd=>rfl) (fun d c r=>(cut [true,true,false,true,false] (Abh (Ad TT disp K d false) c r K K) (by kernel_rfl) (by kernel_rfl) rfl)) (fun d c r=>by kernel_rfl)
def Jc(c r:Ae)(K:Nat)(v6:EV)(h:Aa):R:=
 some (v6,h)
def V8(c r:Ae)(K:Nat)(v0:EV)(h:Aa):R:=
 Bj v0 fun v9=>
 Ap 265 v9 fun v10=>
 Av v10 h fun v11=>
 Bj v0 fun v13=>
 Ap 266 v13 fun v14=>
 Av v14 h fun v15=>
 Bj v0 fun v17=>
 Ap 267 v17 fun v18=>
 Av v18 h fun v19=>
 Bj v0 fun v23=>
 Ap 265 v23 fun v24=>
 Dw 1 v24 (.int .i64 (-1)) h fun h=>
 Bj v0 fun v25=>
 Ap 266 v25 fun v26=>
 Dw 1 v26 (.int .i64 (-1)) h fun h=>
 Bj v0 fun v27=>
 Ap 267 v27 fun v28=>
 Dw 1 v28 (.int .i64 0) h fun h=>
 Al (c 123 [v0,v11,v19] h) fun v32 h=>
 Al (c 123 [v0,v15,v19] h) fun v36 h=>
 Ar G1 (bin TT .eql 28) v32 (.int .i64 0) fun v38=>
 Dx v38
 (Jc c r K v36 h)
 (Jc c r K v32 h)
theorem Aa2(H:Aq disp)(hd:0<=d)(v0:EV)(h:Aa):Ad TT disp K (d+1) false 70 [v0] h=V8 (Ad TT disp K d false) (Ad TT disp K d true) K v0 h:=
 Q5 (H.bare (by kernel_rfl)) (by kernel_rfl) rfl rfl (by kernel_rfl)
def Sx(c r:Ae)(K:Nat)(v0 v2 v3 v5 v10 v11:EV)(h:Aa):R:=
 B4 38 v5 h fun v34=>
 Al (c 131 [v0,v34,v11,v10,v2,v3] h) fun v39 h=>
 some (.tuple [v11,v39],h)
def Ym(c r:Ae)(K:Nat)(v0 v1 v2 v3:EV)(h:Aa):R:=
 D8 89 v1 h fun v5 h=>
 Bj v0 fun v14=>
 Ap 265 v14 fun v15=>
 Av v15 h fun v16=>
 Bj v0 fun v18=>
 Ap 266 v18 fun v19=>
 Av v19 h fun v20=>
 B4 38 v5 h fun v22=>
 Al (c 131 [v0,v22,v16,v20,v2,v3] h) fun v27 h=>
 Ar E5 (bin TT .neq 28) v27 (.int .i64 0) fun v29=>
 Dx v29
 (some (.tuple [v16,v27],h))
 (Sx c r K v0 v2 v3 v5 v16 v20 h)
theorem Ac7(H:Aq disp)(hd:0<=d)(v0 v1 v2 v3:EV)(h:Aa):Ad TT disp K (d+1) false 81 [v0,v1,v2,v3] h=Ym (Ad TT disp K d false) (Ad TT disp K d true) K v0 v1 v2 v3 h:=
 Q5 (H.bare (by kernel_rfl)) (by kernel_rfl) rfl rfl (by kernel_rfl)
def Mc(K:Nat)(v7 v14:EV)(h:Aa):R:=
 Br v7 v14 (.bool false) fun v15=>
 some (v15,h)
def Gx(K:Nat)(v0 v1:EV)(h:Aa):R:=
 Ar Y0 (bin TT .geq 3) v1 (.int .i64 0) fun v6=>
 Ay (Ah v6 true)
 (Bj v0 fun v10=>
 Ap 0 v10 fun v11=>
 Av v11 h fun v12=>
 E9 v12 fun v13=>
 Ar Gc (bin TT .lss 3) v1 v13 fun v14=>
 Mc K v6 v14 h)
 (Mc K v6 (.tuple []) h)
theorem La(H:Aq disp)(hd:1<=d)(v0 v1:EV)(h:Aa):Ad TT disp K d false 85 [v0,v1] h=Gx K v0 v1 h:=
 Cm (H.bare (by kernel_rfl)) hd (by kernel_rfl) (fun d hd=>rfl) (fun d c r=>rfl) (fun d c r=>by kernel_rfl)
def Cn(K:Nat)(v0:EV)(h:Aa):R:=
 Bj v0 fun v4=>
 Ap 3 v4 fun v5=>
 Av v5 h fun v6=>
 some (v6,h)
theorem Kb(H:Aq disp)(hd:1<=d)(v0:EV)(h:Aa):Ad TT disp K d false 86 [v0] h=Cn K v0 h:=
 Cm (H.bare (by kernel_rfl)) hd (by kernel_rfl) (fun d hd=>rfl) (fun d c r=>rfl) (fun d c r=>by kernel_rfl)
def Us(K:Nat)(ih0_:EV->EV->EV->Aa->R)(v0 v1 v6:EV)(h:Aa):R:=
 Ar Fx (bin TT .add 3) v6 (.int .i64 1) fun v16=>
 ih0_ v0 v1 v16 h
def Vc(K:Nat)(ih0_:EV->EV->EV->Aa->R)(v0 v1 v6:EV)(h:Aa):R:=
 Bj v0 fun v18=>
 Ap 3 v18 fun v19=>
 Av v19 h fun v20=>
 B7 (Dj [(0,1),(1,1)]) [(.int .i64 0),(.int .i64 0)] [(0,v1),(1,v6)] fun v23=>
 Al (builtin TT .delete #[164,243] [v20,v23] h) fun _ h=>
 Us K ih0_ v0 v1 v6 h
def Ee(K:Nat):Nat->EV->EV->EV->Aa->R
 | 0=>fun _ _ _ _=>none
 | m+1=>fun v0 v1 v6 h=>
  Bj v0 fun v10=>
  Ap 0 v10 fun v11=>
  Av v11 h fun v12=>
  Al (Jn K v12 h) fun v13 h=>
  Ar Gc (bin TT .lss 3) v6 v13 fun v14=>
  Dx v14
  (Vc K (Ee K m) v0 v1 v6 h)
  (some (.tuple [],h))
def Q6(K:Nat)(v0 v1 v2:EV)(h:Aa):R:=
 Ee K K v0 v1 v2 h
abbrev Ag2(K:Nat)(c:Ae):Ae:=(w1 75 (Jn K) c)
theorem Ab8(c c' r:Ae)(K:Nat)(m:Nat):Io (fun ih=>Hy TT (Ag2 K c) c' r K (nOf TT 88) (F7 TT 88) (Q2 TT 88 [true,false]) [(0,F7 TT 88)] ih) m=fun ρ h=>Ee K m (ρ 0) (ρ 1) (ρ 6) h:=
 C6 (E:=fun m ρ h=>Ee K m (ρ 0) (ρ 1) (ρ 6) h) rfl (fun m=>Qz fun ρ h=>by
  show _=Ee K (m+1) (ρ 0) (ρ 1) (ρ 6) h
  rw[Ee];kernel_rfl) m
theorem Aeh(H:Aq disp)(hd:2<=d)(v0 v1 v2:EV)(h:Aa):Ad TT disp K d false 88 [v0,v1,v2] h=Q6 K v0 v1 v2 h:=
 Cm (H.bare (by kernel_rfl)) hd (by kernel_rfl) (fun d hd=>(W1 (Uq H (lq hd rfl)) rfl)) (fun d c r=>(cut [true,false] (Ab8 (Ad TT disp K d false) c r K K) (by kernel_rfl) (by kernel_rfl) rfl)) (fun d c r=>by kernel_rfl)
def Hp(K:Nat)(v0:EV)(h:Aa):R:=
 Bj v0 fun v4=>
 Ap 0 v4 fun v5=>
 Av v5 h fun v6=>
 E9 v6 fun v7=>
 some (v7,h)
theorem Tq(H:Aq disp)(hd:1<=d)(v0:EV)(h:Aa):Ad TT disp K d false 137 [v0] h=Hp K v0 h:=
 Cm (H.bare (by kernel_rfl)) hd (by kernel_rfl) (fun d hd=>rfl) (fun d c r=>rfl) (fun d c r=>by kernel_rfl)
def Lh(K:Nat)(v0:EV)(h:Aa):R:=
 Bj v0 fun v4=>
 Ap 4 v4 fun v5=>
 Av v5 h fun v6=>
 some (v6,h)
theorem Ae4(H:Aq disp)(hd:1<=d)(v0:EV)(h:Aa):Ad TT disp K d false 166 [v0] h=Lh K v0 h:=
 Cm (H.bare (by kernel_rfl)) hd (by kernel_rfl) (fun d hd=>rfl) (fun d c r=>rfl) (fun d c r=>by kernel_rfl)
def J8(K:Nat)(v0:EV)(h:Aa):R:=
 Bj v0 fun v4=>
 Ap 3 v4 fun v5=>
 Av v5 h fun v6=>
 some (v6,h)
theorem Ad2(H:Aq disp)(hd:1<=d)(v0:EV)(h:Aa):Ad TT disp K d false 167 [v0] h=J8 K v0 h:=
 Cm (H.bare (by kernel_rfl)) hd (by kernel_rfl) (fun d hd=>rfl) (fun d c r=>rfl) (fun d c r=>by kernel_rfl)
def Fm(K:Nat)(v0:EV)(h:Aa):R:=
 Al (B5 (List.replicate 4 (.int .i64 0)++List.replicate 64 (.int .u8 0)) 105 68 0 [] h) fun v5 h=>
 Al (Dy 105 68 v5 v0 h) fun v7 h=>
 some (v7,h)
def Cd(K:Nat)(v0:EV)(h:Aa):R:=
 Ar G1 (bin TT .eql 101) v0 .Af fun v4=>
 Dx v4
 (some (.Af,h))
 (Fm K v0 h)
theorem N1(H:Aq disp)(hd:1<=d)(v0:EV)(h:Aa):Ad TT disp K d false 168 [v0] h=Cd K v0 h:=
 Cm (H.bare (by kernel_rfl)) hd (by kernel_rfl) (fun d hd=>rfl) (fun d c r=>rfl) (fun d c r=>by kernel_rfl)
def Em(K:Nat)(v0:EV)(h:Aa):R:=
 Bj v0 fun v4=>
 Ap 0 v4 fun v5=>
 Av v5 h fun v6=>
 E9 v6 fun v7=>
 Bj v0 fun v8=>
 Ap 2 v8 fun v9=>
 Dw 1 v9 v7 h fun h=>
 some (.tuple [],h)
theorem Rk(H:Aq disp)(hd:1<=d)(v0:EV)(h:Aa):Ad TT disp K d false 170 [v0] h=Em K v0 h:=
 Cm (H.bare (by kernel_rfl)) hd (by kernel_rfl) (fun d hd=>rfl) (fun d c r=>rfl) (fun d c r=>by kernel_rfl)
def Mu(K:Nat)(v0 v1:EV)(h:Aa):R:=
 Bj v0 fun v6=>
 Ap 0 v6 fun v7=>
 Av v7 h fun v8=>
 Al (Dy 5 1 v8 v1 h) fun v10 h=>
 Bj v0 fun v11=>
 Ap 0 v11 fun v12=>
 Dw 1 v12 v10 h fun h=>
 some (.tuple [],h)
theorem V4(H:Aq disp)(hd:1<=d)(v0 v1:EV)(h:Aa):Ad TT disp K d false 174 [v0,v1] h=Mu K v0 v1 h:=
 Cm (H.bare (by kernel_rfl)) hd (by kernel_rfl) (fun d hd=>rfl) (fun d c r=>rfl) (fun d c r=>by kernel_rfl)
def Abp(K:Nat)(v0:EV)(h:Aa):R:=
 Al (B5 [(.int .u8 0)] 5 1 0 [] h) fun v8 h=>
 Bj v0 fun v10=>
 Ap 0 v10 fun v11=>
 Av v11 h fun v12=>
 Al (Dy 5 1 v8 v12 h) fun v13 h=>
 some (.tuple [v13,(.int .i64 0)],h)
def My(K:Nat)(v0:EV)(h:Aa):R:=
 Bj v0 fun v5=>
 Ap 1 v5 fun v6=>
 Av v6 h fun v7=>
 Dx v7
 (some (.tuple [.Af,(.int .i64 13)],h))
 (Abp K v0 h)
theorem Z9(H:Aq disp)(hd:1<=d)(v0:EV)(h:Aa):Ad TT disp K d false 175 [v0] h=My K v0 h:=
 Cm (H.bare (by kernel_rfl)) hd (by kernel_rfl) (fun d hd=>rfl) (fun d c r=>rfl) (fun d c r=>by kernel_rfl)
def Qb(K:Nat)(v10 v13:EV)(h:Aa):R:=
 Br v10 v13 (.bool false) fun v14=>
 some (v14,h)
def Ke(K:Nat)(v0 v1 v2:EV)(h:Aa):R:=
 Ar Y0 (bin TT .geq 3) v0 v1 fun v9=>
 Ay (Ah v9 true)
 (Ar Afk (bin TT .leq 3) v0 v2 fun v13=>
 Qb K v9 v13 h)
 (Qb K v9 (.tuple []) h)
theorem Amc(H:Aq disp)(hd:1<=d)(v0 v1 v2:EV)(h:Aa):Ad TT disp K d false 176 [v0,v1,v2] h=Ke K v0 v1 v2 h:=
 Cm (H.bare (by kernel_rfl)) hd (by kernel_rfl) (fun d hd=>rfl) (fun d c r=>rfl) (fun d c r=>by kernel_rfl)
def Oo(K:Nat)(v0 v1 v2:EV)(h:Aa):R:=
 D8 72 v0 h fun v3 h=>
 K3 (bin TT .shr 70) v1 (.int .u64 8) fun v8=>
 Pk .u8 v1 fun v10=>
 K3 (bin TT .xor 5) v10 v2 fun v12=>
 Aqu 256 1 v3 v12 fun v13=>
 Av v13 h fun v14=>
 K3 (bin TT .xor 70) v8 v14 fun v15=>
 some (v15,h)
theorem Aie(H:Aq disp)(hd:1<=d)(v0 v1 v2:EV)(h:Aa):Ad TT disp K d false 178 [v0,v1,v2] h=Oo K v0 v1 v2 h:=
 Cm (H.bare (by kernel_rfl)) hd (by kernel_rfl) (fun d hd=>rfl) (fun d c r=>rfl) (fun d c r=>by kernel_rfl)
def K6(c r:Ae)(K:Nat)(v0 v6 v13:EV)(h:Aa):R:=
 Br v6 v13 (.bool false) fun v14=>
 Dx v14
 (Al (c 118 [v0] h) fun v16 h=>
 some (.tuple [],h))
 (some (.tuple [],h))
def Abn(c r:Ae)(K:Nat)(v0 v1:EV)(h:Aa):R:=
 Ar Y0 (bin TT .geq 3) v1 (.int .i64 0) fun v5=>
 Ay (Ah v5 true)
 (Bj v0 fun v9=>
 Ap 0 v9 fun v10=>
 Av v10 h fun v11=>
 Al (Kt K v11 h) fun v12 h=>
 Ar Gc (bin TT .lss 3) v1 v12 fun v13=>
 K6 c r K v0 v5 v13 h)
 (K6 c r K v0 v5 (.tuple []) h)
theorem Ae8(H:Aq disp)(hd:1<=d)(v0 v1:EV)(h:Aa):Ad TT disp K (d+1) false 179 [v0,v1] h=Abn (Ad TT disp K d false) (Ad TT disp K d true) K v0 v1 h:=
 Q5 (H.bare (by kernel_rfl)) (by kernel_rfl) (W1 (Sw H (lq hd rfl)) rfl) rfl (by kernel_rfl)
def Tf(K:Nat)(v0:EV)(h:Aa):R:=
 Al (B5 [(.int .u8 0)] 5 1 0 [] h) fun v3 h=>
 Al (Dy 5 1 v3 v0 h) fun v5 h=>
 B7 (Dj [(0,1),(1,1)]) [.Af,(.bool false)] [(0,v5)] fun v6=>
 D8 316 v6 h fun v7 h=>
 some (v7,h)
theorem Aai(H:Aq disp)(hd:1<=d)(v0:EV)(h:Aa):Ad TT disp K d false 194 [v0] h=Tf K v0 h:=
 Cm (H.bare (by kernel_rfl)) hd (by kernel_rfl) (fun d hd=>rfl) (fun d c r=>rfl) (fun d c r=>by kernel_rfl)
def Ae1(K:Nat)(h:Aa):R:=
 some ((.int .i64 0),h)
def Ub(K:Nat)(v7 v13:EV)(h:Aa):R:=
 Br v7 (.bool true) v13 fun v14=>
 Dx v14
 (some ((.int .i64 14),h))
 (Ae1 K h)
def Nr(K:Nat)(v0:EV)(h:Aa):R:=
 Bj v0 fun v4=>
 Ap 1 v4 fun v5=>
 Av v5 h fun v6=>
 Ay (Ah v6 false)
 (Bj v0 fun v9=>
 Ap 0 v9 fun v10=>
 Av v10 h fun v11=>
 E9 v11 fun v12=>
 Ar Sc (bin TT .gtr 3) v12 (.int .i64 0) fun v13=>
 Ub K v6 v13 h)
 (Ub K v6 (.tuple []) h)
theorem Ad6(H:Aq disp)(hd:1<=d)(v0:EV)(h:Aa):Ad TT disp K d false 197 [v0] h=Nr K v0 h:=
 Cm (H.bare (by kernel_rfl)) hd (by kernel_rfl) (fun d hd=>rfl) (fun d c r=>rfl) (fun d c r=>by kernel_rfl)
def P6(K:Nat)(v10 v13:EV)(h:Aa):R:=
 Br v10 v13 (.bool false) fun v14=>
 some (v14,h)
def Km(K:Nat)(v0 v1 v2:EV)(h:Aa):R:=
 Ar Y0 (bin TT .geq 3) v0 v1 fun v9=>
 Ay (Ah v9 true)
 (Ar Afk (bin TT .leq 3) v0 v2 fun v13=>
 P6 K v9 v13 h)
 (P6 K v9 (.tuple []) h)
theorem Aa9(H:Aq disp)(hd:1<=d)(v0 v1 v2:EV)(h:Aa):Ad TT disp K d false 207 [v0,v1,v2] h=Km K v0 v1 v2 h:=
 Cm (H.bare (by kernel_rfl)) hd (by kernel_rfl) (fun d hd=>rfl) (fun d c r=>rfl) (fun d c r=>by kernel_rfl)
def S3(K:Nat)(h:Aa):R:=
 some ((.bool false),h)
def Jz(K:Nat)(v10 v13:EV)(h:Aa):R:=
 Br v10 v13 (.bool false) fun v14=>
 some (v14,h)
def H7(K:Nat)(v28 v32:EV)(h:Aa):R:=
 Br v28 v32 (.bool false) fun v33=>
 some (v33,h)
def Jv(K:Nat)(v1 v20 v26:EV)(h:Aa):R:=
 Br v20 v26 (.bool false) fun v27=>
 Ay (Ah v27 true)
 (Ap 6 v1 fun v29=>
 B4 32 v29 h fun v30=>
 B7 (Akv 1) (List.replicate 32 (.int .u8 0)) [] fun v31=>
 Ar G1 (bin TT .eql 87) v30 v31 fun v32=>
 H7 K v27 v32 h)
 (H7 K v27 (.tuple []) h)
def J1(K:Nat)(v39 v42:EV)(h:Aa):R:=
 Br v39 v42 (.bool false) fun v43=>
 some (v43,h)
def L8(K:Nat)(v0:EV)(h:Aa):R:=
 D8 89 v0 h fun v1 h=>
 Ap 0 v1 fun v3=>
 Av v3 h fun v4=>
 Ar G1 (bin TT .eql 3) v4 (.int .i64 1) fun v6=>
 Dx v6
 (Ap 2 v1 fun v7=>
 Av v7 h fun v8=>
 Al (Km K v8 (.int .i64 1) (.int .i64 4) h) fun v9 h=>
 Ay (Ah v9 true)
 (Ap 4 v1 fun v11=>
 Av v11 h fun v12=>
 Ar G1 (bin TT .eql 3) v12 (.int .i64 0) fun v13=>
 Jz K v9 v13 h)
 (Jz K v9 (.tuple []) h))
 (Ar G1 (bin TT .eql 3) v4 (.int .i64 2) fun v16=>
 Dx v16
 (Ap 2 v1 fun v17=>
 Av v17 h fun v18=>
 Ar G1 (bin TT .eql 3) v18 (.int .i64 1) fun v19=>
 Ay (Ah v19 true)
 (Ap 4 v1 fun v21=>
 Av v21 h fun v22=>
 Ap 3 v1 fun v23=>
 Av v23 h fun v24=>
 Ar Sq (bin TT .sub 3) (.int .i64 256) v24 fun v25=>
 Al (Km K v22 (.int .i64 1) v25 h) fun v26 h=>
 Jv K v1 v19 v26 h)
 (Jv K v1 v19 (.tuple []) h))
 (Ar G1 (bin TT .eql 3) v4 (.int .i64 3) fun v35=>
 Dx v35
 (Ap 2 v1 fun v36=>
 Av v36 h fun v37=>
 Ar G1 (bin TT .eql 3) v37 (.int .i64 1) fun v38=>
 Ay (Ah v38 true)
 (Ap 4 v1 fun v40=>
 Av v40 h fun v41=>
 Ar G1 (bin TT .eql 3) v41 (.int .i64 0) fun v42=>
 J1 K v38 v42 h)
 (J1 K v38 (.tuple []) h))
 (S3 K h)))
theorem Ac1(H:Aq disp)(hd:2<=d)(v0:EV)(h:Aa):Ad TT disp K d false 208 [v0] h=L8 K v0 h:=
 Cm (H.bare (by kernel_rfl)) hd (by kernel_rfl) (fun d hd=>(W3 (Aa9 H (lq hd rfl)) rfl)) (fun d c r=>rfl) (fun d c r=>by kernel_rfl)
def Qa(K:Nat)(v5 v7:EV)(h:Aa):R:=
 Br v5 v7 (.bool false) fun v8=>
 some (v8,h)
def Mm(K:Nat)(v0:EV)(h:Aa):R:=
 Ar Y0 (bin TT .geq 3) v0 (.int .i64 1) fun v4=>
 Ay (Ah v4 true)
 (Ar Afk (bin TT .leq 3) v0 (.int .i64 7) fun v7=>
 Qa K v4 v7 h)
 (Qa K v4 (.tuple []) h)
theorem Aav(H:Aq disp)(hd:1<=d)(v0:EV)(h:Aa):Ad TT disp K d false 209 [v0] h=Mm K v0 h:=
 Cm (H.bare (by kernel_rfl)) hd (by kernel_rfl) (fun d hd=>rfl) (fun d c r=>rfl) (fun d c r=>by kernel_rfl)
def Aga(K:Nat)(v3:EV)(h:Aa):R:=
 some (v3,h)
def Oe(K:Nat)(v3 v13 v15:EV)(h:Aa):R:=
 Br v13 (.bool true) v15 fun v16=>
 Dx v16
 (some ((.int .i64 8),h))
 (Aga K v3 h)
def Oa(K:Nat)(v0 v3:EV)(h:Aa):R:=
 Ar Gc (bin TT .lss 3) v0 (.int .i64 0) fun v12=>
 Ay (Ah v12 false)
 (Ar Sc (bin TT .gtr 3) v3 (.int .i64 7) fun v15=>
 Oe K v3 v12 v15 h)
 (Oe K v3 v12 (.tuple []) h)
def Af1(K:Nat)(ih3_:EV->EV->Aa->R)(v0 v3:EV)(h:Aa):R:=
 K3 (bin TT .shr 3) v0 (.int .u64 8) fun v8=>
 Ar Fx (bin TT .add 3) v3 (.int .i64 1) fun v10=>
 ih3_ v8 v10 h
def Gs(K:Nat):Nat->EV->EV->Aa->R
 | 0=>fun _ _ _=>none
 | m+1=>fun v0 v3 h=>
  K3 (bin TT .shr 3) v0 (.int .u64 8) fun v5=>
  Ar Sc (bin TT .gtr 3) v5 (.int .i64 0) fun v6=>
  Dx v6
  (Af1 K (Gs K m) v0 v3 h)
  (Oa K v0 v3 h)
def Og(K:Nat)(v0:EV)(h:Aa):R:=
 Gs K K v0 (.int .i64 1) h
abbrev Asn(K:Nat)(c:Ae):Ae:=c
theorem Al2(c c' r:Ae)(K:Nat)(m:Nat):Io (fun ih=>Hy TT (Asn K c) c' r K (nOf TT 210) (F7 TT 210) (Q2 TT 210 [true,true,false,false]) [(0,fun ρ h=>Oa K (ρ 0) (ρ 3) h)] ih) m=fun ρ h=>Gs K m (ρ 0) (ρ 3) h:=
 C6 (E:=fun m ρ h=>Gs K m (ρ 0) (ρ 3) h) rfl (fun m=>Qz fun ρ h=>by
  show _=Gs K (m+1) (ρ 0) (ρ 3) h
  rw[Gs];kernel_rfl) m
theorem An5(H:Aq disp)(hd:1<=d)(v0:EV)(h:Aa):Ad TT disp K d false 210 [v0] h=Og K v0 h:=
 Cm (H.bare (by kernel_rfl)) hd (by kernel_rfl) (fun d hd=>rfl) (fun d c r=>(cut [true,true,false,false] (Al2 (Ad TT disp K d false) c r K K) (by kernel_rfl) (by kernel_rfl) rfl)) (fun d c r=>by kernel_rfl)
def Uf(K:Nat)(v0:EV)(h:Aa):R:=
 Bj v0 fun v16=>
 Ap 3 v16 fun v17=>
 Av v17 h fun v18=>
 Ar Fx (bin TT .add 3) v18 (.int .i64 1) fun v19=>
 Bj v0 fun v20=>
 Ap 3 v20 fun v21=>
 Dw 1 v21 v19 h fun h=>
 some ((.int .i64 0),h)
def Hl(K:Nat)(v0 v1:EV)(h:Aa):R:=
 Bj v0 fun v7=>
 Ap 4 v7 fun v8=>
 Av v8 h fun v9=>
 Dx v9
 (some ((.int .i64 34),h))
 (Al (Gx K v0 v1 h) fun v13 h=>
 Pw v13 fun v14=>
 Dx v14
 (some ((.int .i64 13),h))
 (Uf K v0 h))
theorem Jx(H:Aq disp)(hd:2<=d)(v0 v1:EV)(h:Aa):Ad TT disp K d false 212 [v0,v1] h=Hl K v0 v1 h:=
 Cm (H.bare (by kernel_rfl)) hd (by kernel_rfl) (fun d hd=>(W2 (La H (lq hd rfl)) rfl)) (fun d c r=>rfl) (fun d c r=>by kernel_rfl)
def Lr(K:Nat)(v0 v1 v4:EV)(h:Aa):R:=
 Bj v0 fun v28=>
 Ap 0 v28 fun v29=>
 Av v29 h fun v30=>
 Gn 64 v30 v1 fun v32=>
 B4 64 v32 h fun v33=>
 Dw 64 v4 v33 h fun h=>
 Ct TT [.c v4 103,.v (.int .i64 0)] h
def F1(K:Nat)(v0 v1 v4 v6 v17 v24:EV)(h:Aa):R:=
 Br v17 (.bool true) v24 fun v25=>
 Dx v25
 (B4 64 v6 h fun v26=>
 Dw 64 v4 v26 h fun h=>
 Ct TT [.c v4 103,.v (.int .i64 31)] h)
 (Lr K v0 v1 v4 h)
def Hf(K:Nat)(v0 v1:EV)(h:Aa):R:=
 Fw (.cells (List.replicate 64 (.int .u8 0)) 103) h fun v4 h=>
 Fw (.cells (List.replicate 64 (.int .u8 0)) 103) h fun v6 h=>
 Bj v0 fun v9=>
 Ap 3 v9 fun v10=>
 Av v10 h fun v11=>
 Ar G1 (bin TT .eql 3) v11 (.int .i64 4) fun v12=>
 Dx v12
 (B4 64 v6 h fun v13=>
 Dw 64 v4 v13 h fun h=>
 Ct TT [.c v4 103,.v (.int .i64 32)] h)
 (Ar Gc (bin TT .lss 3) v1 (.int .i64 0) fun v16=>
 Ay (Ah v16 false)
 (Bj v0 fun v20=>
 Ap 0 v20 fun v21=>
 Av v21 h fun v22=>
 E9 v22 fun v23=>
 Ar Y0 (bin TT .geq 3) v1 v23 fun v24=>
 F1 K v0 v1 v4 v6 v16 v24 h)
 (F1 K v0 v1 v4 v6 v16 (.tuple []) h))
theorem Sj(H:Aq disp)(hd:1<=d)(v0 v1:EV)(h:Aa):Ad TT disp K d false 213 [v0,v1] h=Hf K v0 v1 h:=
 Cm (H.bare (by kernel_rfl)) hd (by kernel_rfl) (fun d hd=>rfl) (fun d c r=>rfl) (fun d c r=>by kernel_rfl)
def U6(K:Nat)(v0 v1:EV)(h:Aa):R:=
 Bj v0 fun v30=>
 Ap 0 v30 fun v31=>
 Av v31 h fun v32=>
 Wz 1 v32 none (some v1) (some v1) fun v35=>
 Bj v0 fun v38=>
 Ap 0 v38 fun v39=>
 Av v39 h fun v40=>
 Wz 1 v40 (some v1) none none fun v42=>
 Bj v0 fun v43=>
 Ap 0 v43 fun v44=>
 Dw 1 v44 v42 h fun h=>
 some (v35,h)
def Ot(K:Nat)(v0 v1 v14 v21:EV)(h:Aa):R:=
 Br v14 (.bool true) v21 fun v22=>
 Dx v22
 (Bj v0 fun v25=>
 Ap 0 v25 fun v26=>
 Dw 1 v26 .Af h fun h=>
 Bj v0 fun v27=>
 Ap 1 v27 fun v28=>
 Dw 1 v28 (.bool true) h fun h=>
 some (.Af,h))
 (U6 K v0 v1 h)
def N3(K:Nat)(v0 v1 v10 v12:EV)(h:Aa):R:=
 Br v10 (.bool true) v12 fun v13=>
 Ay (Ah v13 false)
 (Bj v0 fun v17=>
 Ap 0 v17 fun v18=>
 Av v18 h fun v19=>
 E9 v19 fun v20=>
 Ar Sc (bin TT .gtr 3) v1 v20 fun v21=>
 Ot K v0 v1 v13 v21 h)
 (Ot K v0 v1 v13 (.tuple []) h)
def Hr(K:Nat)(v0 v1:EV)(h:Aa):R:=
 Bj v0 fun v7=>
 Ap 1 v7 fun v8=>
 Av v8 h fun v9=>
 Ay (Ah v9 false)
 (Ar Gc (bin TT .lss 3) v1 (.int .i64 0) fun v12=>
 N3 K v0 v1 v9 v12 h)
 (N3 K v0 v1 v9 (.tuple []) h)
theorem S9(H:Aq disp)(hd:1<=d)(v0 v1:EV)(h:Aa):Ad TT disp K d false 220 [v0,v1] h=Hr K v0 v1 h:=
 Cm (H.bare (by kernel_rfl)) hd (by kernel_rfl) (fun d hd=>rfl) (fun d c r=>rfl) (fun d c r=>by kernel_rfl)
def Nh(K:Nat)(v3:EV)(h:Aa):R:=
 some (v3,h)
def Jw(K:Nat)(ih1_:EV->EV->EV->EV->Aa->R)(v3 v9 v10 v11:EV)(h:Aa):R:=
 Ar Fx (bin TT .add 3) v11 (.int .i64 1) fun v20=>
 ih1_ v3 v9 v10 v20 h
def Ss(K:Nat)(ih1_:EV->EV->EV->EV->Aa->R)(v3 v9 v10 v11:EV)(h:Aa):R:=
 Gn 1 v9 v11 fun v13=>
 Av v13 h fun v14=>
 Al (Cn K v14 h) fun v16 h=>
 Ar G1 (bin TT .eql 3) v16 (.int .i64 1) fun v17=>
 Dx v17
 (Ar Fx (bin TT .add 3) v3 (.int .i64 1) fun v19=>
 Jw K ih1_ v19 v9 v10 v11 h)
 (Jw K ih1_ v3 v9 v10 v11 h)
def D1(K:Nat):Nat->EV->EV->EV->EV->Aa->R
 | 0=>fun _ _ _ _ _=>none
 | m+1=>fun v3 v9 v10 v11 h=>
  Ar Gc (bin TT .lss 3) v11 v10 fun v12=>
  Dx v12
  (Ss K (D1 K m) v3 v9 v10 v11 h)
  (Nh K v3 h)
def Mg(K:Nat)(v0:EV)(h:Aa):R:=
 Bj v0 fun v7=>
 Ap 0 v7 fun v8=>
 Av v8 h fun v9=>
 E9 v9 fun v10=>
 D1 K K (.int .i64 0) v9 v10 (.int .i64 0) h
abbrev Aes(K:Nat)(c:Ae):Ae:=(w1 86 (Cn K) c)
theorem Abb(c c' r:Ae)(K:Nat)(m:Nat):Io (fun ih=>Hy TT (Aes K c) c' r K (nOf TT 222) (F7 TT 222) (Q2 TT 222 [true,true,false,true,false]) [(0,fun ρ h=>Nh K (ρ 3) h)] ih) m=fun ρ h=>D1 K m (ρ 3) (ρ 9) (ρ 10) (ρ 11) h:=
 C6 (E:=fun m ρ h=>D1 K m (ρ 3) (ρ 9) (ρ 10) (ρ 11) h) rfl (fun m=>Qz fun ρ h=>by
  show _=D1 K (m+1) (ρ 3) (ρ 9) (ρ 10) (ρ 11) h
  rw[D1];kernel_rfl) m
theorem Acm(H:Aq disp)(hd:2<=d)(v0:EV)(h:Aa):Ad TT disp K d false 222 [v0] h=Mg K v0 h:=
 Cm (H.bare (by kernel_rfl)) hd (by kernel_rfl) (fun d hd=>(W1 (Kb H (lq hd rfl)) rfl)) (fun d c r=>(cut [true,true,false,true,false] (Abb (Ad TT disp K d false) c r K K) (by kernel_rfl) (by kernel_rfl) rfl)) (fun d c r=>by kernel_rfl)
def Uk(c r:Ae)(K:Nat)(v0 v1 v2 v7:EV)(h:Aa):R:=
 Bj v0 fun v14=>
 Ap 0 v14 fun v15=>
 Av v15 h fun v16=>
 Gn 1 v16 v1 fun v18=>
 Av v18 h fun v19=>
 Al (c 238 [v19,v2,(.func 239 [] [v7])] h) fun v22 h=>
 some (v22,h)
def Z7(c r:Ae)(K:Nat)(v0 v1 v2 v3:EV)(h:Aa):R:=
 D8 103 v3 h fun v7 h=>
 Al (Gx K v0 v1 h) fun v11 h=>
 Pw v11 fun v12=>
 Dx v12
 (some ((.int .i64 13),h))
 (Uk c r K v0 v1 v2 v7 h)
theorem Ad4(H:Aq disp)(hd:1<=d)(v0 v1 v2 v3:EV)(h:Aa):Ad TT disp K (d+1) false 225 [v0,v1,v2,v3] h=Z7 (Ad TT disp K d false) (Ad TT disp K d true) K v0 v1 v2 v3 h:=
 Q5 (H.bare (by kernel_rfl)) (by kernel_rfl) (W2 (La H (lq hd rfl)) rfl) rfl (by kernel_rfl)
def Pt(K:Nat)(v2 v4:EV)(h:Aa):R:=
 B4 64 v2 h fun v18=>
 Dw 64 v4 v18 h fun h=>
 Ct TT [.c v4 103] h
def V0(K:Nat)(ih1_:EV->EV->EV->EV->Aa->R)(v2 v3 v4 v6:EV)(h:Aa):R:=
 Ar Fx (bin TT .add 3) v6 (.int .i64 1) fun v17=>
 ih1_ v2 v3 v4 v17 h
def Wj(K:Nat)(ih1_:EV->EV->EV->EV->Aa->R)(v2 v3 v4 v6:EV)(h:Aa):R:=
 E4 h fun base s=>
 Aqu 64 1 v2 v6 fun v10=>
 Bc 2 3 base v10 s fun s=>Av v10 h fun v11=>
 Aqu 64 1 v3 v6 fun v13=>
 Bc 5 24 base v13 s fun s=>Av v13 h fun v14=>
 K3 (bin TT .xor 5) v11 v14 fun v15=>
 Aqu 64 1 v2 v6 fun v16=>
 Xi 8 255 v16 s fun s=>Dw 1 v16 v15 h fun h=>
 V0 K ih1_ v2 v3 v4 v6 h
def Ez(K:Nat):Nat->EV->EV->EV->EV->Aa->R
 | 0=>fun _ _ _ _ _=>none
 | m+1=>fun v2 v3 v4 v6 h=>
  Ar Gc (bin TT .lss 3) v6 (.int .i64 64) fun v7=>
  Dx v7
  (Wj K (Ez K m) v2 v3 v4 v6 h)
  (Pt K v2 v4 h)
def Lp(K:Nat)(v0 v1:EV)(h:Aa):R:=
 D8 103 v0 h fun v2 h=>
 D8 103 v1 h fun v3 h=>
 Fw (.cells (List.replicate 64 (.int .u8 0)) 103) h fun v4 h=>
 Ez K K v2 v3 v4 (.int .i64 0) h
abbrev Aii(K:Nat)(c:Ae):Ae:=c
theorem Ad3(c c' r:Ae)(K:Nat)(m:Nat):Io (fun ih=>Hy TT (Aii K c) c' r K (nOf TT 226) (F7 TT 226) (Q2 TT 226 [true,false,true,false]) [(0,fun ρ h=>Pt K (ρ 2) (ρ 4) h)] ih) m=fun ρ h=>Ez K m (ρ 2) (ρ 3) (ρ 4) (ρ 6) h:=
 C6 (E:=fun m ρ h=>Ez K m (ρ 2) (ρ 3) (ρ 4) (ρ 6) h) rfl (fun m=>Qz fun ρ h=>by
  show _=Ez K (m+1) (ρ 2) (ρ 3) (ρ 4) (ρ 6) h
  rw[Ez];kernel_rfl) m
theorem Um(H:Aq disp)(hd:1<=d)(v0 v1:EV)(h:Aa):Ad TT disp K d false 226 [v0,v1] h=Lp K v0 v1 h:=
 Cm (H.bare (by kernel_rfl)) hd (by kernel_rfl) (fun d hd=>rfl) (fun d c r=>(cut [true,false,true,false] (Ad3 (Ad TT disp K d false) c r K K) (by kernel_rfl) (by kernel_rfl) rfl)) (fun d c r=>by kernel_rfl)
def Cz(K:Nat)(v0 v1 v6 v15:EV)(h:Aa):R:=
 Br v6 (.bool true) v15 fun v16=>
 Dx v16
 (Bj v0 fun v19=>
 Ap 3 v19 fun v20=>
 Dw 1 v20 v1 h fun h=>
 some (.tuple [],h))
 (some (.tuple [],h))
def C0(K:Nat)(v0 v1 v6 v9 v14:EV)(h:Aa):R:=
 Ay (Ah v6 false)
 (Br v9 v14 (.bool false) fun v15=>
 Cz K v0 v1 v6 v15 h)
 (Cz K v0 v1 v6 (.tuple []) h)
def D7(K:Nat)(v0 v1 v6 v9:EV)(h:Aa):R:=
 Ay (Ah v9 true)
 (Bj v0 fun v11=>
 Ap 3 v11 fun v12=>
 Av v12 h fun v13=>
 Ar E5 (bin TT .neq 3) v13 (.int .i64 4) fun v14=>
 C0 K v0 v1 v6 v9 v14 h)
 (C0 K v0 v1 v6 v9 (.tuple []) h)
def Hd(K:Nat)(v0 v1:EV)(h:Aa):R:=
 Ar G1 (bin TT .eql 3) v1 (.int .i64 4) fun v5=>
 Ay (Ah v5 false)
 (Ar G1 (bin TT .eql 3) v1 (.int .i64 3) fun v8=>
 D7 K v0 v1 v5 v8 h)
 (D7 K v0 v1 v5 (.tuple []) h)
theorem Sn(H:Aq disp)(hd:1<=d)(v0 v1:EV)(h:Aa):Ad TT disp K d false 227 [v0,v1] h=Hd K v0 v1 h:=
 Cm (H.bare (by kernel_rfl)) hd (by kernel_rfl) (fun d hd=>rfl) (fun d c r=>rfl) (fun d c r=>by kernel_rfl)
def Ku(K:Nat)(h:Aa):R:=
 some ((.int .i64 0),h)
def Dd(K:Nat)(v0:EV)(h:Aa):R:=
 Bj v0 fun v4=>
 Ap 3 v4 fun v5=>
 Av v5 h fun v6=>
 Ar G1 (bin TT .eql 3) v6 (.int .i64 4) fun v8=>
 Dx v8
 (some ((.int .i64 32),h))
 (Ar G1 (bin TT .eql 3) v6 (.int .i64 3) fun v10=>
 Dx v10
 (some ((.int .i64 30),h))
 (Ku K h))
theorem Hg(H:Aq disp)(hd:1<=d)(v0:EV)(h:Aa):Ad TT disp K d false 237 [v0] h=Dd K v0 h:=
 Cm (H.bare (by kernel_rfl)) hd (by kernel_rfl) (fun d hd=>rfl) (fun d c r=>rfl) (fun d c r=>by kernel_rfl)
def Kg(c r:Ae)(K:Nat)(v0 v1 v2:EV)(h:Aa):R:=
 E4 h fun base s=>
 Bj v0 fun v19=>
 Ap 0 v19 fun v20=>
 Bc 3 7 base v20 s fun s=>Av v20 h fun v21=>
 Bj v0 fun v25=>
 Ap 0 v25 fun v26=>
 Bc 9 448 base v26 s fun s=>Av v26 h fun v27=>
 Gn 64 v27 v1 fun v29=>
 Bc 12 4032 base v29 s fun s=>B4 64 v29 h fun v30=>
 Cs 13 8160 s h (fun h=>(U3 c r v2 [v30] h)) fun v31 h s=>
 Gn 64 v21 v1 fun v32=>
 Xi 15 32767 v32 s fun s=>Dw 64 v32 v31 h fun h=>
 some ((.int .i64 0),h)
def Dt(c r:Ae)(K:Nat)(v0 v1 v2 v9 v16:EV)(h:Aa):R:=
 Br v9 (.bool true) v16 fun v17=>
 Dx v17
 (some ((.int .i64 31),h))
 (Kg c r K v0 v1 v2 h)
def Ik(c r:Ae)(K:Nat)(v0 v1 v2:EV)(h:Aa):R:=
 Ar Gc (bin TT .lss 3) v1 (.int .i64 0) fun v8=>
 Ay (Ah v8 false)
 (Bj v0 fun v12=>
 Ap 0 v12 fun v13=>
 Av v13 h fun v14=>
 E9 v14 fun v15=>
 Ar Y0 (bin TT .geq 3) v1 v15 fun v16=>
 Dt c r K v0 v1 v2 v8 v16 h)
 (Dt c r K v0 v1 v2 v8 (.tuple []) h)
theorem Q0(H:Aq disp)(hd:0<=d)(v0 v1 v2:EV)(h:Aa):Ad TT disp K (d+1) false 238 [v0,v1,v2] h=Ik (Ad TT disp K d false) (Ad TT disp K d true) K v0 v1 v2 h:=
 Q5 (H.bare (by kernel_rfl)) (by kernel_rfl) rfl rfl (by kernel_rfl)
def Wn(K:Nat)(v0 v1:EV)(h:Aa):R:=
 D8 103 v0 h fun v2 h=>
 Fw (.cells (List.replicate 64 (.int .u8 0)) 103) h fun v3 h=>
 B4 64 v2 h fun v4=>
 B4 64 v1 h fun v5=>
 Al (Lp K v4 v5 h) fun v6 h=>
 Dw 64 v3 v6 h fun h=>
 Ct TT [.c v3 103] h
theorem Abd(H:Aq disp)(hd:2<=d)(v0 v1:EV)(h:Aa):Ad TT disp K d false 239 [v0,v1] h=Wn K v0 v1 h:=
 Cm (H.bare (by kernel_rfl)) hd (by kernel_rfl) (fun d hd=>(W2 (Um H (lq hd rfl)) rfl)) (fun d c r=>rfl) (fun d c r=>by kernel_rfl)
def Uw(K:Nat)(v0 v1:EV)(h:Aa):R:=
 Bj v0 fun v10=>
 Ap 0 v10 fun v11=>
 Av v11 h fun v12=>
 Gn 1 v12 v1 fun v14=>
 Av v14 h fun v15=>
 Al (Cn K v15 h) fun v16 h=>
 some (v16,h)
def R5(K:Nat)(v0 v1:EV)(h:Aa):R:=
 Al (Gx K v0 v1 h) fun v7 h=>
 Pw v7 fun v8=>
 Dx v8
 (some ((.int .i64 4),h))
 (Uw K v0 v1 h)
def Xw(K:Nat)(v0 v1:EV)(h:Aa):R:=
 Bj v0 fun v10=>
 Ap 0 v10 fun v11=>
 Av v11 h fun v12=>
 Gn 1 v12 v1 fun v14=>
 Av v14 h fun v15=>
 Al (Hp K v15 h) fun v16 h=>
 some (v16,h)
def J3(K:Nat)(v0 v1:EV)(h:Aa):R:=
 Al (Gx K v0 v1 h) fun v7 h=>
 Pw v7 fun v8=>
 Dx v8
 (some ((.int .i64 0),h))
 (Xw K v0 v1 h)
theorem Ag6(H:Aq disp)(hd:2<=d)(v0 v1:EV)(h:Aa):Ad TT disp K d false 89 [v0,v1] h=J3 K v0 v1 h:=
 Cm (H.bare (by kernel_rfl)) hd (by kernel_rfl) (fun d hd=>(W2 (La H (lq hd rfl)) (W1 (Tq H (lq hd rfl)) rfl))) (fun d c r=>rfl) (fun d c r=>by kernel_rfl)
def Z0(c r:Ae)(K:Nat)(ih0_:EV->Aa->R)(v0:EV)(h:Aa):R:=
 Bj v0 fun v33=>
 Ap 1 v33 fun v34=>
 Av v34 h fun v35=>
 Gn 68 v35 (.int .i64 0) fun v36=>
 B4 68 v36 h fun v37=>
 Fw (.cells (List.replicate 4 (.int .i64 0)++List.replicate 64 (.int .u8 0)) 105) h fun v2 h=>
 Dw 68 v2 v37 h fun h=>
 Bj v0 fun v40=>
 Ap 1 v40 fun v41=>
 Av v41 h fun v42=>
 Wz 68 v42 (some (.int .i64 1)) none none fun v43=>
 Al (Cd K v43 h) fun v44 h=>
 Bj v0 fun v45=>
 Ap 1 v45 fun v46=>
 Dw 1 v46 v44 h fun h=>
 B4 68 v2 h fun v48=>
 Al (c 169 [v0,v48] h) fun v49 h=>
 ih0_ v0 h
def Iy(c r:Ae)(K:Nat)(ih0_:EV->Aa->R)(base:Nat)(s:DX)(v0 v17 v30:EV)(h:Aa):R:=
 Br v17 v30 (.bool false) fun v31=>
 Dx v31
 (Z0 c r K ih0_ v0 h)
 (some (.tuple [],h))
def Kr(c r:Ae)(K:Nat)(ih0_:EV->Aa->R)(base:Nat)(s:DX)(v0 v9 v15:EV)(h:Aa):R:=
 Br v9 v15 (.bool false) fun v16=>
 Ay (Ah v16 true)
 (Bj v0 fun v19=>
 Ap 1 v19 fun v20=>
 Bc 18 262143 base v20 s fun s=>Av v20 h fun v21=>
 Gn 68 v21 (.int .i64 0) fun v22=>
 Ap 0 v22 fun v23=>
 Bc 21 2097151 base v23 s fun s=>Av v23 h fun v24=>
 Bj v0 fun v26=>
 Ap 0 v26 fun v27=>
 Bc 25 29392895 base v27 s fun s=>Av v27 h fun v28=>
 Cs 26 62947327 s h (fun h=>(J8 K v28 h)) fun v29 h s=>
 Ar Afk (bin TT .leq 3) v24 v29 fun v30=>
 Iy c r K ih0_ base s v0 v16 v30 h)
 (Iy c r K ih0_ base s v0 v16 (.tuple []) h)
def E3(c r:Ae)(K:Nat):Nat->EV->Aa->R
 | 0=>fun _ _=>none
 | m+1=>fun v0 h=>
  E4 h fun base s=>
  Bj v0 fun v4=>
  Ap 0 v4 fun v5=>
  Bc 3 7 base v5 s fun s=>Av v5 h fun v6=>
  Cs 4 15 s h (fun h=>(Lh K v6 h)) fun v7 h s=>
  Pw v7 fun v8=>
  Ay (Ah v8 true)
  (Bj v0 fun v11=>
  Ap 1 v11 fun v12=>
  Bc 10 1023 base v12 s fun s=>Av v12 h fun v13=>
  E9 v13 fun v14=>
  Ar Sc (bin TT .gtr 3) v14 (.int .i64 0) fun v15=>
  Kr c r K (E3 c r K m) base s v0 v8 v15 h)
  (Kr c r K (E3 c r K m) base s v0 v8 (.tuple []) h)
def Apx(c r:Ae)(K:Nat)(v0:EV)(h:Aa):R:=
 E3 c r K K v0 h
abbrev Alv(K:Nat)(c:Ae):Ae:=(w1 168 (Cd K) (w1 167 (J8 K) (w1 166 (Lh K) c)))
theorem Agp(c r:Ae)(K:Nat)(m:Nat):Io (fun ih=>Hy TT (Alv K c) c r K (nOf TT 118) (F7 TT 118) (Q2 TT 118 [false]) [(0,F7 TT 118)] ih) m=fun ρ h=>E3 c r K m (ρ 0) h:=
 C6 (E:=fun m ρ h=>E3 c r K m (ρ 0) h) rfl (fun m=>Qz fun ρ h=>by
  show _=E3 c r K (m+1) (ρ 0) h
  rw[E3];kernel_rfl) m
theorem Air(H:Aq disp)(hd:1<=d)(v0:EV)(h:Aa):Ad TT disp K (d+1) false 118 [v0] h=Apx (Ad TT disp K d false) (Ad TT disp K d true) K v0 h:=
 Q5 (H.bare (by kernel_rfl)) (by kernel_rfl) (W1 (N1 H (lq hd rfl)) (W1 (Ad2 H (lq hd rfl)) (W1 (Ae4 H (lq hd rfl)) rfl))) (cut [false] (Agp (Ad TT disp K d false) (Ad TT disp K d true) K K) (by kernel_rfl) (by kernel_rfl) rfl) (by kernel_rfl)
def N8(K:Nat)(h:Aa):R:=
 some ((.int .i64 0),h)
def Uv(K:Nat)(ih1_:EV->EV->EV->Aa->R)(v19 v20 v21:EV)(h:Aa):R:=
 Ar Fx (bin TT .add 3) v21 (.int .i64 1) fun v27=>
 ih1_ v19 v20 v27 h
def Ul(K:Nat)(ih1_:EV->EV->EV->Aa->R)(v19 v20 v21:EV)(h:Aa):R:=
 Gn 1 v19 v21 fun v23=>
 Av v23 h fun v24=>
 Al (Em K v24 h) fun v26 h=>
 Uv K ih1_ v19 v20 v21 h
def Eb(K:Nat):Nat->EV->EV->EV->Aa->R
 | 0=>fun _ _ _ _=>none
 | m+1=>fun v19 v20 v21 h=>
  Ar Gc (bin TT .lss 3) v21 v20 fun v22=>
  Dx v22
  (Ul K (Eb K m) v19 v20 v21 h)
  (N8 K h)
def Vh(K:Nat)(v0:EV)(h:Aa):R:=
 Bj v0 fun v10=>
 Ap 3 v10 fun v11=>
 Av v11 h fun v12=>
 Ar Fx (bin TT .add 3) v12 (.int .i64 1) fun v13=>
 Bj v0 fun v14=>
 Ap 3 v14 fun v15=>
 Dw 1 v15 v13 h fun h=>
 Bj v0 fun v17=>
 Ap 0 v17 fun v18=>
 Av v18 h fun v19=>
 E9 v19 fun v20=>
 Eb K K v19 v20 (.int .i64 0) h
def Nq(K:Nat)(v0:EV)(h:Aa):R:=
 Bj v0 fun v6=>
 Ap 4 v6 fun v7=>
 Av v7 h fun v8=>
 Dx v8
 (some ((.int .i64 34),h))
 (Vh K v0 h)
abbrev Ag7(K:Nat)(c:Ae):Ae:=(w1 170 (Em K) c)
theorem Ab3(c c' r:Ae)(K:Nat)(m:Nat):Io (fun ih=>Hy TT (Ag7 K c) c' r K (nOf TT 119) (F7 TT 119) (Q2 TT 119 [true,true,true,false,true,false]) [(0,fun ρ h=>N8 K h)] ih) m=fun ρ h=>Eb K m (ρ 19) (ρ 20) (ρ 21) h:=
 C6 (E:=fun m ρ h=>Eb K m (ρ 19) (ρ 20) (ρ 21) h) rfl (fun m=>Qz fun ρ h=>by
  show _=Eb K (m+1) (ρ 19) (ρ 20) (ρ 21) h
  rw[Eb];kernel_rfl) m
theorem Ad8(H:Aq disp)(hd:2<=d)(v0:EV)(h:Aa):Ad TT disp K d false 119 [v0] h=Nq K v0 h:=
 Cm (H.bare (by kernel_rfl)) hd (by kernel_rfl) (fun d hd=>(W1 (Rk H (lq hd rfl)) rfl)) (fun d c r=>(cut [true,true,true,false,true,false] (Ab3 (Ad TT disp K d false) c r K K) (by kernel_rfl) (by kernel_rfl) rfl)) (fun d c r=>by kernel_rfl)
def Fo(K:Nat)(v21 v24:EV)(h:Aa):R:=
 Br v21 v24 (.bool false) fun v25=>
 some (v25,h)
def G6(K:Nat)(v1 v16 v19:EV)(h:Aa):R:=
 Br v16 v19 (.bool false) fun v20=>
 Ay (Ah v20 true)
 (Ap 4 v1 fun v22=>
 Av v22 h fun v23=>
 Al (Ke K v23 (.int .i64 0) (.int .i64 281474976710655) h) fun v24 h=>
 Fo K v20 v24 h)
 (Fo K v20 (.tuple []) h)
def Il(K:Nat)(v1 v11 v14:EV)(h:Aa):R:=
 Br v11 v14 (.bool false) fun v15=>
 Ay (Ah v15 true)
 (Ap 3 v1 fun v17=>
 Av v17 h fun v18=>
 Al (Ke K v18 (.int .i64 1) (.int .i64 4294967295) h) fun v19 h=>
 G6 K v1 v15 v19 h)
 (G6 K v1 v15 (.tuple []) h)
def J9(K:Nat)(v1 v6 v9:EV)(h:Aa):R:=
 Br v6 v9 (.bool false) fun v10=>
 Ay (Ah v10 true)
 (Ap 2 v1 fun v12=>
 Av v12 h fun v13=>
 Al (Ke K v13 (.int .i64 0) (.int .i64 65535) h) fun v14 h=>
 Il K v1 v10 v14 h)
 (Il K v1 v10 (.tuple []) h)
def I2(K:Nat)(v0:EV)(h:Aa):R:=
 D8 120 v0 h fun v1 h=>
 Ap 0 v1 fun v3=>
 Av v3 h fun v4=>
 Al (Ke K v4 (.int .i64 1) (.int .i64 5) h) fun v5 h=>
 Ay (Ah v5 true)
 (Ap 1 v1 fun v7=>
 Av v7 h fun v8=>
 Al (Ke K v8 (.int .i64 0) (.int .i64 65535) h) fun v9 h=>
 J9 K v1 v5 v9 h)
 (J9 K v1 v5 (.tuple []) h)
theorem Nl(H:Aq disp)(hd:2<=d)(v0:EV)(h:Aa):Ad TT disp K d false 129 [v0] h=I2 K v0 h:=
 Cm (H.bare (by kernel_rfl)) hd (by kernel_rfl) (fun d hd=>(W3 (Amc H (lq hd rfl)) rfl)) (fun d c r=>rfl) (fun d c r=>by kernel_rfl)
def Rh(K:Nat)(v1:EV)(h:Aa):R:=
 some (v1,h)
def Zb(K:Nat)(ih1_:EV->EV->EV->EV->EV->Aa->R)(v0 v1 v9 v10 v11:EV)(h:Aa):R:=
 Ar Fx (bin TT .add 3) v11 (.int .i64 1) fun v21=>
 ih1_ v0 v1 v9 v10 v21 h
def Zm(K:Nat)(ih1_:EV->EV->EV->EV->EV->Aa->R)(v0 v1 v9 v10 v11:EV)(h:Aa):R:=
 Gn 1 v9 v11 fun v13=>
 Av v13 h fun v14=>
 Bj v0 fun v16=>
 B4 256 v16 h fun v17=>
 Al (Oo K v17 v1 v14 h) fun v20 h=>
 Zb K ih1_ v0 v20 v9 v10 v11 h
def Gk(K:Nat):Nat->EV->EV->EV->EV->EV->Aa->R
 | 0=>fun _ _ _ _ _ _=>none
 | m+1=>fun v0 v1 v9 v10 v11 h=>
  Ar Gc (bin TT .lss 3) v11 v10 fun v12=>
  Dx v12
  (Zm K (Gk K m) v0 v1 v9 v10 v11 h)
  (Rh K v1 h)
def Yi(K:Nat)(v0 v1 v2:EV)(h:Aa):R:=
 E9 v2 fun v10=>
 Gk K K v0 v1 v2 v10 (.int .i64 0) h
abbrev Alx(K:Nat)(c:Ae):Ae:=(w3 178 (Oo K) c)
theorem Ag4(c c' r:Ae)(K:Nat)(m:Nat):Io (fun ih=>Hy TT (Alx K c) c' r K (nOf TT 132) (F7 TT 132) (Q2 TT 132 [true,false,true,false]) [(0,fun ρ h=>Rh K (ρ 1) h)] ih) m=fun ρ h=>Gk K m (ρ 0) (ρ 1) (ρ 9) (ρ 10) (ρ 11) h:=
 C6 (E:=fun m ρ h=>Gk K m (ρ 0) (ρ 1) (ρ 9) (ρ 10) (ρ 11) h) rfl (fun m=>Qz fun ρ h=>by
  show _=Gk K (m+1) (ρ 0) (ρ 1) (ρ 9) (ρ 10) (ρ 11) h
  rw[Gk];kernel_rfl) m
theorem Ah6(H:Aq disp)(hd:2<=d)(v0 v1 v2:EV)(h:Aa):Ad TT disp K d false 132 [v0,v1,v2] h=Yi K v0 v1 v2 h:=
 Cm (H.bare (by kernel_rfl)) hd (by kernel_rfl) (fun d hd=>(W3 (Aie H (lq hd rfl)) rfl)) (fun d c r=>(cut [true,false,true,false] (Ag4 (Ad TT disp K d false) c r K K) (by kernel_rfl) (by kernel_rfl) rfl)) (fun d c r=>by kernel_rfl)
def G9(K:Nat)(v16 v18:EV)(h:Aa):R:=
 Br v16 v18 (.bool false) fun v19=>
 some (v19,h)
def Im(K:Nat)(v1 v11 v14:EV)(h:Aa):R:=
 Br v11 v14 (.bool false) fun v15=>
 Ay (Ah v15 true)
 (B4 38 v1 h fun v17=>
 Al (L8 K v17 h) fun v18 h=>
 G9 K v15 v18 h)
 (G9 K v15 (.tuple []) h)
def J6(K:Nat)(v1 v6 v9:EV)(h:Aa):R:=
 Br v6 v9 (.bool false) fun v10=>
 Ay (Ah v10 true)
 (Ap 5 v1 fun v12=>
 Av v12 h fun v13=>
 Al (Km K v13 (.int .i64 0) (.int .i64 65535) h) fun v14 h=>
 Im K v1 v10 v14 h)
 (Im K v1 v10 (.tuple []) h)
def Nn(K:Nat)(v0:EV)(h:Aa):R:=
 D8 89 v0 h fun v1 h=>
 Ap 1 v1 fun v3=>
 Av v3 h fun v4=>
 Al (Km K v4 (.int .i64 0) (.int .i64 281474976710655) h) fun v5 h=>
 Ay (Ah v5 true)
 (Ap 3 v1 fun v7=>
 Av v7 h fun v8=>
 Al (Km K v8 (.int .i64 0) (.int .i64 255) h) fun v9 h=>
 J6 K v1 v5 v9 h)
 (J6 K v1 v5 (.tuple []) h)
theorem Aee(H:Aq disp)(hd:3<=d)(v0:EV)(h:Aa):Ad TT disp K d false 172 [v0] h=Nn K v0 h:=
 Cm (H.bare (by kernel_rfl)) hd (by kernel_rfl) (fun d hd=>(W3 (Aa9 H (lq hd rfl)) (W1 (Ac1 H (lq hd rfl)) rfl))) (fun d c r=>rfl) (fun d c r=>by kernel_rfl)
def Aay(K:Nat)(ih0_:EV->EV->EV->EV->Aa->R)(v0 v2 v18 v19:EV)(h:Aa):R:=
 Ar Fx (bin TT .add 3) v19 (.int .i64 1) fun v34=>
 ih0_ v0 v2 v18 v34 h
def Abi(K:Nat)(ih0_:EV->EV->EV->EV->Aa->R)(v0 v2 v18 v19:EV)(h:Aa):R:=
 Bj v0 fun v23=>
 Ap 0 v23 fun v24=>
 Av v24 h fun v25=>
 Pk .u8 v2 fun v27=>
 Al (B5 [(.int .u8 0)] 5 1 1 [(0,v27)] h) fun v28 h=>
 Al (Dy 5 1 v25 v28 h) fun v29 h=>
 Bj v0 fun v30=>
 Ap 0 v30 fun v31=>
 Dw 1 v31 v29 h fun h=>
 K3 (bin TT .shr 3) v2 (.int .u64 8) fun v33=>
 Aay K ih0_ v0 v33 v18 v19 h
def Ha(K:Nat):Nat->EV->EV->EV->EV->Aa->R
 | 0=>fun _ _ _ _ _=>none
 | m+1=>fun v0 v2 v18 v19 h=>
  Ar Gc (bin TT .lss 3) v19 v18 fun v20=>
  Dx v20
  (Abi K (Ha K m) v0 v2 v18 v19 h)
  (some (.tuple [],h))
def Aa5(K:Nat)(v0 v1 v2:EV)(h:Aa):R:=
 Ha K K v0 v2 v1 (.int .i64 0) h
def Lq(K:Nat)(v0 v1 v2 v9 v13:EV)(h:Aa):R:=
 Br v9 (.bool true) v13 fun v14=>
 Dx v14
 (Bj v0 fun v16=>
 Ap 1 v16 fun v17=>
 Dw 1 v17 (.bool true) h fun h=>
 some (.tuple [],h))
 (Aa5 K v0 v1 v2 h)
def Ea(K:Nat)(v0 v1 v2:EV)(h:Aa):R:=
 Al (Mm K v1 h) fun v7 h=>
 Pw v7 fun v8=>
 Ay (Ah v8 false)
 (Al (Og K v2 h) fun v11 h=>
 Ar Sc (bin TT .gtr 3) v11 v1 fun v13=>
 Lq K v0 v1 v2 v8 v13 h)
 (Lq K v0 v1 v2 v8 (.tuple []) h)
abbrev An1(K:Nat)(c:Ae):Ae:=(w1 209 (Mm K) (w1 210 (Og K) c))
theorem Ahx(c c' r:Ae)(K:Nat)(m:Nat):Io (fun ih=>Hy TT (An1 K c) c' r K (nOf TT 173) (F7 TT 173) (Q2 TT 173 [true,true,false]) [(0,F7 TT 173)] ih) m=fun ρ h=>Ha K m (ρ 0) (ρ 2) (ρ 18) (ρ 19) h:=
 C6 (E:=fun m ρ h=>Ha K m (ρ 0) (ρ 2) (ρ 18) (ρ 19) h) rfl (fun m=>Qz fun ρ h=>by
  show _=Ha K (m+1) (ρ 0) (ρ 2) (ρ 18) (ρ 19) h
  rw[Ha];kernel_rfl) m
theorem Zf(H:Aq disp)(hd:2<=d)(v0 v1 v2:EV)(h:Aa):Ad TT disp K d false 173 [v0,v1,v2] h=Ea K v0 v1 v2 h:=
 Cm (H.bare (by kernel_rfl)) hd (by kernel_rfl) (fun d hd=>(W1 (Aav H (lq hd rfl)) (W1 (An5 H (lq hd rfl)) rfl))) (fun d c r=>(cut [true,true,false] (Ahx (Ad TT disp K d false) c r K K) (by kernel_rfl) (by kernel_rfl) rfl)) (fun d c r=>by kernel_rfl)
def Wd(K:Nat)(v0 v1 v2 v6:EV)(h:Aa):R:=
 Bj v0 fun v17=>
 Ap 0 v17 fun v18=>
 Av v18 h fun v19=>
 Gn 1 v19 v1 fun v21=>
 Av v21 h fun v22=>
 Al (Hf K v22 v2 h) fun v24 h=>
 B3 0 v24 fun v25=>
 B3 1 v24 fun v26=>
 Dw 64 v6 v25 h fun h=>
 Ct TT [.c v6 103,.v v26] h
def O1(K:Nat)(v0 v1 v2:EV)(h:Aa):R:=
 Fw (.cells (List.replicate 64 (.int .u8 0)) 103) h fun v6 h=>
 Al (Hl K v0 v1 h) fun v11 h=>
 Ar E5 (bin TT .neq 28) v11 (.int .i64 0) fun v13=>
 Dx v13
 (B7 (Akv 1) (List.replicate 64 (.int .u8 0)) [] fun v14=>
 Dw 64 v6 v14 h fun h=>
 Ct TT [.c v6 103,.v v11] h)
 (Wd K v0 v1 v2 v6 h)
theorem Aft(H:Aq disp)(hd:3<=d)(v0 v1 v2:EV)(h:Aa):Ad TT disp K d false 180 [v0,v1,v2] h=O1 K v0 v1 v2 h:=
 Cm (H.bare (by kernel_rfl)) hd (by kernel_rfl) (fun d hd=>(W2 (Jx H (lq hd rfl)) (W2 (Sj H (lq hd rfl)) rfl))) (fun d c r=>rfl) (fun d c r=>by kernel_rfl)
def Pn(K:Nat)(v5:EV)(h:Aa):R:=
 some (v5,h)
def V9(K:Nat)(ih1_:EV->EV->EV->EV->Aa->R)(v5 v15 v16 v17:EV)(h:Aa):R:=
 Ar Fx (bin TT .add 3) v17 (.int .i64 1) fun v30=>
 ih1_ v5 v15 v16 v30 h
def Vy(K:Nat)(ih1_:EV->EV->EV->EV->Aa->R)(v5 v15 v16 v17:EV)(h:Aa):R:=
 Gn 1 v15 v17 fun v20=>
 Av v20 h fun v21=>
 Pk .i64 v21 fun v24=>
 Ar Vm (bin TT .mul 3) (.int .i64 8) v17 fun v26=>
 Pk .u64 v26 fun v27=>
 K3 (bin TT .shl 3) v24 v27 fun v28=>
 K3 (bin TT .or 3) v5 v28 fun v29=>
 V9 K ih1_ v29 v15 v16 v17 h
def Ew(K:Nat):Nat->EV->EV->EV->EV->Aa->R
 | 0=>fun _ _ _ _ _=>none
 | m+1=>fun v5 v15 v16 v17 h=>
  Ar Gc (bin TT .lss 3) v17 v16 fun v18=>
  Dx v18
  (Vy K (Ew K m) v5 v15 v16 v17 h)
  (Pn K v5 h)
def Wl(K:Nat)(v0 v1:EV)(h:Aa):R:=
 Al (Hr K v0 v1 h) fun v15 h=>
 E9 v15 fun v16=>
 Ew K K (.int .i64 0) v15 v16 (.int .i64 0) h
def Bo(K:Nat)(v0 v1:EV)(h:Aa):R:=
 Al (Mm K v1 h) fun v9 h=>
 Pw v9 fun v10=>
 Dx v10
 (Al (Hr K v0 (.int .i64 (-1)) h) fun v12 h=>
 some ((.int .i64 0),h))
 (Wl K v0 v1 h)
abbrev Ai2(K:Nat)(c:Ae):Ae:=(w1 209 (Mm K) (w2 220 (Hr K) c))
theorem Adx(c c' r:Ae)(K:Nat)(m:Nat):Io (fun ih=>Hy TT (Ai2 K c) c' r K (nOf TT 195) (F7 TT 195) (Q2 TT 195 [true,true,true,false,true,false]) [(0,fun ρ h=>Pn K (ρ 5) h)] ih) m=fun ρ h=>Ew K m (ρ 5) (ρ 15) (ρ 16) (ρ 17) h:=
 C6 (E:=fun m ρ h=>Ew K m (ρ 5) (ρ 15) (ρ 16) (ρ 17) h) rfl (fun m=>Qz fun ρ h=>by
  show _=Ew K (m+1) (ρ 5) (ρ 15) (ρ 16) (ρ 17) h
  rw[Ew];kernel_rfl) m
theorem On(H:Aq disp)(hd:2<=d)(v0 v1:EV)(h:Aa):Ad TT disp K d false 195 [v0,v1] h=Bo K v0 v1 h:=
 Cm (H.bare (by kernel_rfl)) hd (by kernel_rfl) (fun d hd=>(W1 (Aav H (lq hd rfl)) (W2 (S9 H (lq hd rfl)) rfl))) (fun d c r=>(cut [true,true,true,false,true,false] (Adx (Ad TT disp K d false) c r K K) (by kernel_rfl) (by kernel_rfl) rfl)) (fun d c r=>by kernel_rfl)
def Mk(K:Nat)(v0 v1:EV)(h:Aa):R:=
 Al (Hr K v0 v1 h) fun v7 h=>
 some (v7,h)
theorem Ac5(H:Aq disp)(hd:2<=d)(v0 v1:EV)(h:Aa):Ad TT disp K d false 196 [v0,v1] h=Mk K v0 v1 h:=
 Cm (H.bare (by kernel_rfl)) hd (by kernel_rfl) (fun d hd=>(W2 (S9 H (lq hd rfl)) rfl)) (fun d c r=>rfl) (fun d c r=>by kernel_rfl)
def Wr(c r:Ae)(K:Nat)(v0 v3:EV)(h:Aa):R:=
 Ap 2 v3 fun v18=>
 Av v18 h fun v19=>
 Ap 3 v3 fun v20=>
 Av v20 h fun v21=>
 B7 (Dj [(0,1),(1,1)]) [(.int .i64 0),(.int .i64 0)] [(0,v19),(1,v21)] fun v22=>
 Fw (.cells [(.int .i64 0),(.int .i64 0)] 243) h fun v4 h=>
 Dw 2 v4 v22 h fun h=>
 E4 h fun base s=>
 Bj v0 fun v24=>
 Ap 3 v24 fun v25=>
 Bc 3 7 base v25 s fun s=>Av v25 h fun v26=>
 Bc 4 0 base v4 s fun s=>B4 2 v4 h fun v27=>
 Cs 5 31 s h (fun h=>(Ako TT 243 320 false v26 v27 h)) fun v28 h s=>
 Yz 6 h s fun s=>Fw (.cells (List.replicate 64 (.int .u8 0)++[(.int .i64 0)]) 320) h fun v5 h=>
 Xi 7 127 v5 s fun s=>Dw 65 v5 v28 h fun h=>
 E4 h fun base s=>
 Bj v0 fun v30=>
 Ap 3 v30 fun v31=>
 Bc 3 7 base v31 s fun s=>Av v31 h fun v32=>
 Bc 4 0 base v4 s fun s=>B4 2 v4 h fun v33=>
 Ap 0 v5 fun v34=>
 Bc 6 32 base v34 s fun s=>B4 64 v34 h fun v35=>
 Ap 4 v3 fun v36=>
 Bc 8 128 base v36 s fun s=>B4 64 v36 h fun v37=>
 Cs 9 480 s h (fun h=>(Lp K v35 v37 h)) fun v38 h s=>
 Ap 64 v5 fun v39=>
 Bc 11 1024 base v39 s fun s=>Av v39 h fun v40=>
 Ar Fx (bin TT .add 3) v40 (.int .i64 1) fun v41=>
 B7 (Dj [(0,64),(64,1)]) (List.replicate 64 (.int .u8 0)++[(.int .i64 0)]) [(0,v38),(1,v41)] fun v42=>
 Cs 14 16383 s h (fun h=>(Yw TT 243 v32 v33 v42 h)) fun _ h s=>
 some (.tuple [],h)
def Aax(c r:Ae)(K:Nat)(v0 v1:EV)(h:Aa):R:=
 D8 105 v1 h fun v3 h=>
 E4 h fun base s=>
 Bj v0 fun v7=>
 Ap 0 v7 fun v8=>
 Bc 3 7 base v8 s fun s=>Av v8 h fun v9=>
 Ap 2 v3 fun v10=>
 Bc 5 16 base v10 s fun s=>Av v10 h fun v11=>
 Ap 3 v3 fun v12=>
 Bc 7 64 base v12 s fun s=>Av v12 h fun v13=>
 Ap 4 v3 fun v14=>
 Bc 9 256 base v14 s fun s=>B4 64 v14 h fun v15=>
 Cs 10 1023 s h (fun h=>(c 225 [v9,v11,v13,v15] h)) fun v16 h s=>
 Ar E5 (bin TT .neq 28) v16 (.int .i64 0) fun v17=>
 Dx v17
 (some (.tuple [],h))
 (Wr c r K v0 v3 h)
theorem Agb(H:Aq disp)(hd:1<=d)(v0 v1:EV)(h:Aa):Ad TT disp K (d+1) false 205 [v0,v1] h=Aax (Ad TT disp K d false) (Ad TT disp K d true) K v0 v1 h:=
 Q5 (H.bare (by kernel_rfl)) (by kernel_rfl) (W2 (Um H (lq hd rfl)) rfl) rfl (by kernel_rfl)
def Wq(K:Nat)(v0 v1 v2:EV)(h:Aa):R:=
 Bj v0 fun v12=>
 Ap 0 v12 fun v13=>
 Av v13 h fun v14=>
 Gn 1 v14 v1 fun v16=>
 Av v16 h fun v17=>
 Al (Hd K v17 v2 h) fun v19 h=>
 some ((.int .i64 0),h)
def Jo(K:Nat)(v0 v1 v2:EV)(h:Aa):R:=
 Al (Gx K v0 v1 h) fun v9 h=>
 Pw v9 fun v10=>
 Dx v10
 (some ((.int .i64 13),h))
 (Wq K v0 v1 v2 h)
theorem Afi(H:Aq disp)(hd:2<=d)(v0 v1 v2:EV)(h:Aa):Ad TT disp K d false 206 [v0,v1,v2] h=Jo K v0 v1 v2 h:=
 Cm (H.bare (by kernel_rfl)) hd (by kernel_rfl) (fun d hd=>(W2 (La H (lq hd rfl)) (W2 (Sn H (lq hd rfl)) rfl))) (fun d c r=>rfl) (fun d c r=>by kernel_rfl)
def E2(K:Nat)(v0:EV)(h:Aa):R:=
 Bj v0 fun v44=>
 Ap 0 v44 fun v45=>
 Av v45 h fun v46=>
 E9 v46 fun v47=>
 Ar Sq (bin TT .sub 3) v47 (.int .i64 1) fun v48=>
 some (.tuple [v48,(.int .i64 0)],h)
def Ko(K:Nat)(v0 v3:EV)(h:Aa):R:=
 E4 h fun base s=>
 Bj v0 fun v19=>
 Ap 0 v19 fun v20=>
 Bc 4 14 base v20 s fun s=>Av v20 h fun v21=>
 Bc 5 0 base v3 s fun s=>B4 64 v3 h fun v22=>
 Yz 6 h s fun s=>Al (B5 (List.replicate 64 (.int .u8 0)) 103 64 1 [(0,v22)] h) fun v23 h=>
 Cs 7 126 s h (fun h=>(Dy 103 64 v21 v23 h)) fun v24 h s=>
 Bj v0 fun v25=>
 Ap 0 v25 fun v26=>
 Xi 10 1023 v26 s fun s=>Dw 1 v26 v24 h fun h=>
 Bj v0 fun v28=>
 Ap 3 v28 fun v29=>
 Dw 1 v29 (.int .i64 1) h fun h=>
 Bj v0 fun v31=>
 Ap 0 v31 fun v32=>
 Av v32 h fun v33=>
 E9 v33 fun v34=>
 Bj v0 fun v36=>
 Ap 1 v36 fun v37=>
 Av v37 h fun v38=>
 Ar G1 (bin TT .eql 3) v34 v38 fun v39=>
 Dx v39
 (Bj v0 fun v41=>
 Ap 3 v41 fun v42=>
 Dw 1 v42 (.int .i64 2) h fun h=>
 E2 K v0 h)
 (E2 K v0 h)
def Ho(K:Nat)(v0 v3:EV)(h:Aa):R:=
 Bj v0 fun v13=>
 Ap 3 v13 fun v14=>
 Av v14 h fun v15=>
 Ar G1 (bin TT .eql 3) v15 (.int .i64 2) fun v16=>
 Dx v16
 (some (.tuple [(.int .i64 0),(.int .i64 17)],h))
 (Ko K v0 v3 h)
def Df(K:Nat)(v0 v1:EV)(h:Aa):R:=
 D8 103 v1 h fun v3 h=>
 Al (Dd K v0 h) fun v8 h=>
 Ar E5 (bin TT .neq 28) v8 (.int .i64 0) fun v10=>
 Dx v10
 (some (.tuple [(.int .i64 0),v8],h))
 (Ho K v0 v3 h)
theorem Qw(H:Aq disp)(hd:2<=d)(v0 v1:EV)(h:Aa):Ad TT disp K d false 223 [v0,v1] h=Df K v0 v1 h:=
 Cm (H.bare (by kernel_rfl)) hd (by kernel_rfl) (fun d hd=>(W1 (Hg H (lq hd rfl)) rfl)) (fun d c r=>rfl) (fun d c r=>by kernel_rfl)
def J5(K:Nat)(v0:EV)(h:Aa):R:=
 Bj v0 fun v11=>
 Ap 3 v11 fun v12=>
 Dw 1 v12 (.int .i64 2) h fun h=>
 Bj v0 fun v13=>
 Ap 4 v13 fun v14=>
 Dw 1 v14 (.bool true) h fun h=>
 some ((.int .i64 0),h)
def Gi(K:Nat)(v0:EV)(h:Aa):R:=
 Al (Dd K v0 h) fun v5 h=>
 Ar E5 (bin TT .neq 28) v5 (.int .i64 0) fun v7=>
 Dx v7
 (some (v5,h))
 (J5 K v0 h)
theorem Qy(H:Aq disp)(hd:2<=d)(v0:EV)(h:Aa):Ad TT disp K d false 224 [v0] h=Gi K v0 h:=
 Cm (H.bare (by kernel_rfl)) hd (by kernel_rfl) (fun d hd=>(W1 (Hg H (lq hd rfl)) rfl)) (fun d c r=>rfl) (fun d c r=>by kernel_rfl)
def Kv(K:Nat)(v12 v20:EV)(h:Aa):R:=
 Br v12 v20 (.bool false) fun v21=>
 some (v21,h)
def Ka(K:Nat)(v0 v1:EV)(h:Aa):R:=
 Bj v0 fun v6=>
 Ap 1 v6 fun v7=>
 B4 6 v7 h fun v8=>
 Al (F2 K v8 v1 h) fun v10 h=>
 Ar Y0 (bin TT .geq 3) v10 (.int .i64 0) fun v11=>
 Ay (Ah v11 true)
 (Bj v0 fun v14=>
 Ap 264 v14 fun v15=>
 Av v15 h fun v16=>
 Gn 1 v16 v1 fun v18=>
 Av v18 h fun v19=>
 Ar G1 (bin TT .eql 3) v19 (.int .i64 1) fun v20=>
 Kv K v11 v20 h)
 (Kv K v11 (.tuple []) h)
theorem S8(H:Aq disp)(hd:3<=d)(v0 v1:EV)(h:Aa):Ad TT disp K d false 21 [v0,v1] h=Ka K v0 v1 h:=
 Cm (H.bare (by kernel_rfl)) hd (by kernel_rfl) (fun d hd=>(W2 (Iu H (lq hd rfl)) rfl)) (fun d c r=>rfl) (fun d c r=>by kernel_rfl)
def Aa6(c r:Ae)(K:Nat)(v0:EV)(h:Aa):R:=
 Al (c 118 [v0] h) fun v4 h=>
 Bj v0 fun v6=>
 Ap 0 v6 fun v7=>
 Av v7 h fun v8=>
 Al (Nq K v8 h) fun v9 h=>
 some (v9,h)
theorem Agd(H:Aq disp)(hd:2<=d)(v0:EV)(h:Aa):Ad TT disp K (d+1) false 67 [v0] h=Aa6 (Ad TT disp K d false) (Ad TT disp K d true) K v0 h:=
 Q5 (H.bare (by kernel_rfl)) (by kernel_rfl) (W1 (Ad8 H (lq hd rfl)) rfl) rfl (by kernel_rfl)
def Jk(K:Nat)(v0 v1:EV)(h:Aa):R:=
 D8 72 v0 h fun v2 h=>
 Al (Yi K v2 (.int .u32 4294967295) v1 h) fun v6 h=>
 K3 (bin TT .xor 70) v6 (.int .u32 4294967295) fun v7=>
 some (v7,h)
theorem Rz(H:Aq disp)(hd:3<=d)(v0 v1:EV)(h:Aa):Ad TT disp K d false 82 [v0,v1] h=Jk K v0 v1 h:=
 Cm (H.bare (by kernel_rfl)) hd (by kernel_rfl) (fun d hd=>(W3 (Ah6 H (lq hd rfl)) rfl)) (fun d c r=>rfl) (fun d c r=>by kernel_rfl)
def Yl(K:Nat)(v16 v21:EV)(h:Aa):R:=
 Br v16 v21 (.bool false) fun v22=>
 some (v22,h)
def Xu(K:Nat)(v2 v3 v9 v14:EV)(h:Aa):R:=
 Br v9 v14 (.bool false) fun v15=>
 Ay (Ah v15 true)
 (Ap 2 v3 fun v18=>
 Av v18 h fun v19=>
 Ar Sq (bin TT .sub 3) v19 (.int .i64 1) fun v20=>
 Al (Ir K v2 (.int .i64 0) v20 h) fun v21 h=>
 Yl K v15 v21 h)
 (Yl K v15 (.tuple []) h)
def Vu(K:Nat)(v0 v1 v2:EV)(h:Aa):R:=
 D8 23 v0 h fun v3 h=>
 B4 6 v3 h fun v7=>
 Al (I4 K v7 h) fun v8 h=>
 Ay (Ah v8 true)
 (B4 6 v3 h fun v11=>
 Al (Hj K v11 h) fun v12 h=>
 Ar Sq (bin TT .sub 3) v12 (.int .i64 1) fun v13=>
 Al (Ir K v1 (.int .i64 0) v13 h) fun v14 h=>
 Xu K v2 v3 v8 v14 h)
 (Xu K v2 v3 v8 (.tuple []) h)
theorem Ags(H:Aq disp)(hd:4<=d)(v0 v1 v2:EV)(h:Aa):Ad TT disp K d false 92 [v0,v1,v2] h=Vu K v0 v1 v2 h:=
 Cm (H.bare (by kernel_rfl)) hd (by kernel_rfl) (fun d hd=>(W1 (Pq H (lq hd rfl)) (W1 (Kn H (lq hd rfl)) (W3 (Adk H (lq hd rfl)) rfl)))) (fun d c r=>rfl) (fun d c r=>by kernel_rfl)
def Ru(c r:Ae)(K:Nat)(v0 v1:EV)(h:Aa):R:=
 Bj v0 fun v34=>
 Ap 0 v34 fun v35=>
 Av v35 h fun v36=>
 Al (c 165 [v36,v1] h) fun v38 h=>
 some (v38,h)
def Fz(c r:Ae)(K:Nat)(v0 v1 v2 v15 v22:EV)(h:Aa):R:=
 Br v15 (.bool true) v22 fun v23=>
 Dx v23
 (some ((.int .i64 0),h))
 (Ar G1 (bin TT .eql 3) v2 (.int .i64 0) fun v26=>
 Dx v26
 (Bj v0 fun v28=>
 Ap 263 v28 fun v29=>
 Av v29 h fun v30=>
 Al (c 15 [v30,v1] h) fun v32 h=>
 some (v32,h))
 (Ru c r K v0 v1 h))
def Hm(c r:Ae)(K:Nat)(v0 v1 v2 v10 v13:EV)(h:Aa):R:=
 Br v10 (.bool true) v13 fun v14=>
 Ay (Ah v14 false)
 (Bj v0 fun v18=>
 Ap 1 v18 fun v19=>
 Ap 2 v19 fun v20=>
 Av v20 h fun v21=>
 Ar G1 (bin TT .eql 3) v2 v21 fun v22=>
 Fz c r K v0 v1 v2 v14 v22 h)
 (Fz c r K v0 v1 v2 v14 (.tuple []) h)
def Vv(c r:Ae)(K:Nat)(v0 v1 v2:EV)(h:Aa):R:=
 Ar G1 (bin TT .eql 3) v1 (.int .i64 (-1)) fun v9=>
 Ay (Ah v9 false)
 (Al (Ka K v0 v1 h) fun v13 h=>
 Hm c r K v0 v1 v2 v9 v13 h)
 (Hm c r K v0 v1 v2 v9 (.tuple []) h)
theorem Aa7(H:Aq disp)(hd:3<=d)(v0 v1 v2:EV)(h:Aa):Ad TT disp K (d+1) false 123 [v0,v1,v2] h=Vv (Ad TT disp K d false) (Ad TT disp K d true) K v0 v1 v2 h:=
 Q5 (H.bare (by kernel_rfl)) (by kernel_rfl) (W2 (S8 H (lq hd rfl)) rfl) rfl (by kernel_rfl)
def V2(K:Nat)(v1 v2 v4:EV)(h:Aa):R:=
 Fw (.cells [.Af,(.bool false)] 278) h fun v5 h=>
 Ap 1 v1 fun v12=>
 Av v12 h fun v13=>
 Al (Ea K v5 (.int .i64 6) v13 h) fun v14 h=>
 Ap 2 v1 fun v15=>
 Av v15 h fun v16=>
 Al (Ea K v5 (.int .i64 1) v16 h) fun v17 h=>
 Ap 3 v1 fun v18=>
 Av v18 h fun v19=>
 Al (Ea K v5 (.int .i64 1) v19 h) fun v20 h=>
 Ap 4 v1 fun v21=>
 Av v21 h fun v22=>
 Al (Ea K v5 (.int .i64 2) v22 h) fun v23 h=>
 Ap 5 v1 fun v24=>
 Av v24 h fun v25=>
 Al (Ea K v5 (.int .i64 2) v25 h) fun v26 h=>
 Ap 6 v1 fun v27=>
 Pe 32 1 v27 none none none fun v28=>
 Al (Mu K v5 v28 h) fun v29 h=>
 Al (My K v5 h) fun v31 h=>
 B3 0 v31 fun v32=>
 B3 1 v31 fun v33=>
 Pe 44 1 v4 none none none fun v34=>
 Al (builtin TT .copy #[174,174] [v34,v32] h) fun v36 h=>
 B4 44 v4 h fun v37=>
 Dw 44 v2 v37 h fun h=>
 Ct TT [.c v2 118,.v v33] h
def Oy(K:Nat)(v0:EV)(h:Aa):R:=
 D8 89 v0 h fun v1 h=>
 Fw (.cells (List.replicate 44 (.int .u8 0)) 118) h fun v2 h=>
 Fw (.cells (List.replicate 44 (.int .u8 0)) 118) h fun v4 h=>
 B4 38 v1 h fun v8=>
 Al (Nn K v8 h) fun v9 h=>
 Pw v9 fun v10=>
 Dx v10
 (B4 44 v4 h fun v11=>
 Dw 44 v2 v11 h fun h=>
 Ct TT [.c v2 118,.v (.int .i64 10)] h)
 (V2 K v1 v2 v4 h)
theorem Aff(H:Aq disp)(hd:4<=d)(v0:EV)(h:Aa):Ad TT disp K d false 128 [v0] h=Oy K v0 h:=
 Cm (H.bare (by kernel_rfl)) hd (by kernel_rfl) (fun d hd=>(W1 (Aee H (lq hd rfl)) (W3 (Zf H (lq hd rfl)) (W2 (V4 H (lq hd rfl)) (W1 (Z9 H (lq hd rfl)) rfl))))) (fun d c r=>rfl) (fun d c r=>by kernel_rfl)
def Ado(c r:Ae)(K:Nat)(v0 v1 v2:EV)(h:Aa):R:=
 Fw (.cells (List.replicate 64 (.int .u8 0)) 103) h fun v6 h=>
 Al (c 179 [v0,v1] h) fun v10 h=>
 Bj v0 fun v12=>
 Ap 0 v12 fun v13=>
 Av v13 h fun v14=>
 Al (O1 K v14 v1 v2 h) fun v17 h=>
 B3 0 v17 fun v18=>
 B3 1 v17 fun v19=>
 Dw 64 v6 v18 h fun h=>
 Ct TT [.c v6 103,.v v19] h
theorem Ag1(H:Aq disp)(hd:3<=d)(v0 v1 v2:EV)(h:Aa):Ad TT disp K (d+1) false 133 [v0,v1,v2] h=Ado (Ad TT disp K d false) (Ad TT disp K d true) K v0 v1 v2 h:=
 Q5 (H.bare (by kernel_rfl)) (by kernel_rfl) (W3 (Aft H (lq hd rfl)) rfl) rfl (by kernel_rfl)
def Zq(c r:Ae)(K:Nat)(v0 v1:EV)(h:Aa):R:=
 D8 105 v1 h fun v3 h=>
 E4 h fun base s=>
 Bj v0 fun v6=>
 Ap 2 v6 fun v7=>
 Bc 4 14 base v7 s fun s=>Av v7 h fun v8=>
 Bc 5 0 base v3 s fun s=>B4 68 v3 h fun v9=>
 Yz 6 h s fun s=>Al (B5 (List.replicate 4 (.int .i64 0)++List.replicate 64 (.int .u8 0)) 105 68 1 [(0,v9)] h) fun v10 h=>
 Cs 7 126 s h (fun h=>(Dy 105 68 v8 v10 h)) fun v11 h s=>
 Bj v0 fun v12=>
 Ap 2 v12 fun v13=>
 Xi 10 1023 v13 s fun s=>Dw 1 v13 v11 h fun h=>
 Ap 1 v3 fun v14=>
 Av v14 h fun v15=>
 Ar G1 (bin TT .eql 3) v15 (.int .i64 1) fun v17=>
 Dx v17
 (B4 68 v3 h fun v19=>
 Al (c 205 [v0,v19] h) fun v20 h=>
 some (.tuple [],h))
 (Ar G1 (bin TT .eql 3) v15 (.int .i64 2) fun v22=>
 Dx v22
 (E4 h fun base s=>
 Bj v0 fun v24=>
 Ap 0 v24 fun v25=>
 Bc 3 7 base v25 s fun s=>Av v25 h fun v26=>
 Ap 2 v3 fun v27=>
 Bc 5 16 base v27 s fun s=>Av v27 h fun v28=>
 Cs 6 63 s h (fun h=>(Jo K v26 v28 (.int .i64 3) h)) fun v29 h s=>
 some (.tuple [],h))
 (Ar G1 (bin TT .eql 3) v15 (.int .i64 3) fun v31=>
 Dx v31
 (E4 h fun base s=>
 Bj v0 fun v33=>
 Ap 0 v33 fun v34=>
 Bc 3 7 base v34 s fun s=>Av v34 h fun v35=>
 Ap 2 v3 fun v36=>
 Bc 5 16 base v36 s fun s=>Av v36 h fun v37=>
 Cs 6 63 s h (fun h=>(Jo K v35 v37 (.int .i64 4) h)) fun v38 h s=>
 some (.tuple [],h))
 (Ar G1 (bin TT .eql 3) v15 (.int .i64 4) fun v40=>
 Dx v40
 (Bj v0 fun v42=>
 Ap 0 v42 fun v43=>
 Av v43 h fun v44=>
 Al (Nu K v44 h) fun v45 h=>
 some (.tuple [],h))
 (some (.tuple [],h)))))
theorem Aea(H:Aq disp)(hd:2<=d)(v0 v1:EV)(h:Aa):Ad TT disp K (d+1) false 169 [v0,v1] h=Zq (Ad TT disp K d false) (Ad TT disp K d true) K v0 v1 h:=
 Q5 (H.bare (by kernel_rfl)) (by kernel_rfl) (W3 (Afi H (lq hd rfl)) (W1 (Adz H (lq hd rfl)) rfl)) rfl (by kernel_rfl)
def Ra(K:Nat)(v1 v6:EV)(h:Aa):R:=
 Al (B5 [(.int .u8 0)] 5 1 0 [] h) fun v35 h=>
 Wz 1 v1 none (some v6) none fun v38=>
 Al (Dy 5 1 v35 v38 h) fun v39 h=>
 some (.tuple [v39,(.int .i64 0)],h)
def Zt(K:Nat)(ih1_:EV->EV->EV->EV->EV->EV->Aa->R)(v1 v6 v7 v22 v23 v24:EV)(h:Aa):R:=
 Ar Fx (bin TT .add 3) v24 (.int .i64 1) fun v34=>
 ih1_ v1 v6 v7 v22 v23 v34 h
def Y6(K:Nat)(ih1_:EV->EV->EV->EV->EV->EV->Aa->R)(v1 v6 v7 v22 v23 v24:EV)(h:Aa):R:=
 K3 (bin TT .shr 70) v7 (.int .u64 8) fun v33=>
 Zt K ih1_ v1 v6 v33 v22 v23 v24 h
def Zc(K:Nat)(ih1_:EV->EV->EV->EV->EV->EV->Aa->R)(v1 v6 v7 v22 v23 v24:EV)(h:Aa):R:=
 Gn 1 v22 v24 fun v26=>
 Av v26 h fun v27=>
 Pk .u8 v7 fun v30=>
 Ar E5 (bin TT .neq 5) v27 v30 fun v31=>
 Dx v31
 (some (.tuple [.Af,(.int .i64 11)],h))
 (Y6 K ih1_ v1 v6 v7 v22 v23 v24 h)
def Gf(K:Nat):Nat->EV->EV->EV->EV->EV->EV->Aa->R
 | 0=>fun _ _ _ _ _ _ _=>none
 | m+1=>fun v1 v6 v7 v22 v23 v24 h=>
  Ar Gc (bin TT .lss 3) v24 v23 fun v25=>
  Dx v25
  (Zc K (Gf K m) v1 v6 v7 v22 v23 v24 h)
  (Ra K v1 v6 h)
def Z2(K:Nat)(v1 v2 v6:EV)(h:Aa):R:=
 E4 h fun base s=>
 Bc 0 0 base v2 s fun s=>B4 256 v2 h fun v15=>
 Wz 1 v1 none (some v6) none fun v18=>
 Cs 4 15 s h (fun h=>(Jk K v15 v18 h)) fun v19 h s=>
 Wz 1 v1 (some v6) none none fun v22=>
 E9 v22 fun v23=>
 Gf K K v1 v6 v19 v22 v23 (.int .i64 0) h
def Rc(K:Nat)(v0 v1:EV)(h:Aa):R:=
 D8 72 v0 h fun v2 h=>
 E9 v1 fun v11=>
 Ar Sq (bin TT .sub 3) v11 (.int .i64 4) fun v12=>
 Ar Gc (bin TT .lss 3) v12 (.int .i64 0) fun v14=>
 Dx v14
 (some (.tuple [.Af,(.int .i64 14)],h))
 (Z2 K v1 v2 v12 h)
abbrev All(K:Nat)(c:Ae):Ae:=(w2 82 (Jk K) c)
theorem Ag0(c c' r:Ae)(K:Nat)(m:Nat):Io (fun ih=>Hy TT (All K c) c' r K (nOf TT 193) (F7 TT 193) (Q2 TT 193 [true,true,true,true,false,true,false]) [(0,fun ρ h=>Ra K (ρ 1) (ρ 6) h)] ih) m=fun ρ h=>Gf K m (ρ 1) (ρ 6) (ρ 7) (ρ 22) (ρ 23) (ρ 24) h:=
 C6 (E:=fun m ρ h=>Gf K m (ρ 1) (ρ 6) (ρ 7) (ρ 22) (ρ 23) (ρ 24) h) rfl (fun m=>Qz fun ρ h=>by
  show _=Gf K (m+1) (ρ 1) (ρ 6) (ρ 7) (ρ 22) (ρ 23) (ρ 24) h
  rw[Gf];kernel_rfl) m
theorem Ahv(H:Aq disp)(hd:4<=d)(v0 v1:EV)(h:Aa):Ad TT disp K d false 193 [v0,v1] h=Rc K v0 v1 h:=
 Cm (H.bare (by kernel_rfl)) hd (by kernel_rfl) (fun d hd=>(W2 (Rz H (lq hd rfl)) rfl)) (fun d c r=>(cut [true,true,true,true,false,true,false] (Ag0 (Ad TT disp K d false) c r K K) (by kernel_rfl) (by kernel_rfl) rfl)) (fun d c r=>by kernel_rfl)
def Nm(K:Nat)(v0 v1 v5:EV)(h:Aa):R:=
 E4 h fun base s=>
 Bj v0 fun v34=>
 Ap 0 v34 fun v35=>
 Bc 3 7 base v35 s fun s=>Av v35 h fun v36=>
 Gn 1 v36 v1 fun v38=>
 Bc 6 63 base v38 s fun s=>Av v38 h fun v39=>
 Bc 7 0 base v5 s fun s=>B4 64 v5 h fun v40=>
 Cs 8 255 s h (fun h=>(Df K v39 v40 h)) fun v41 h s=>
 B3 0 v41 fun v42=>
 B3 1 v41 fun v43=>
 some (.tuple [v42,v43],h)
def J0(K:Nat)(base:Nat)(s:DX)(v0 v1 v5 v24 v31:EV)(h:Aa):R:=
 Br v24 v31 (.bool false) fun v32=>
 Dx v32
 (some (.tuple [(.int .i64 0),(.int .i64 33)],h))
 (Nm K v0 v1 v5 h)
def Su(K:Nat)(v0 v1 v5:EV)(h:Aa):R:=
 E4 h fun base s=>
 Bj v0 fun v16=>
 Ap 0 v16 fun v17=>
 Bc 3 7 base v17 s fun s=>Av v17 h fun v18=>
 Gn 1 v18 v1 fun v20=>
 Bc 6 63 base v20 s fun s=>Av v20 h fun v21=>
 Cs 7 127 s h (fun h=>(Cn K v21 h)) fun v22 h s=>
 Ar G1 (bin TT .eql 3) v22 (.int .i64 0) fun v23=>
 Ay (Ah v23 true)
 (Cs 11 2047 s h (fun h=>(Mg K v0 h)) fun v26 h s=>
 Bj v0 fun v28=>
 Ap 2 v28 fun v29=>
 Bc 15 29695 base v29 s fun s=>Av v29 h fun v30=>
 Ar Y0 (bin TT .geq 3) v26 v30 fun v31=>
 J0 K base s v0 v1 v5 v23 v31 h)
 (J0 K base s v0 v1 v5 v23 (.tuple []) h)
def Mh(K:Nat)(v0 v1 v2:EV)(h:Aa):R:=
 D8 103 v2 h fun v5 h=>
 Al (Hl K v0 v1 h) fun v11 h=>
 Ar E5 (bin TT .neq 28) v11 (.int .i64 0) fun v13=>
 Dx v13
 (some (.tuple [(.int .i64 0),v11],h))
 (Su K v0 v1 v5 h)
theorem Acu(H:Aq disp)(hd:3<=d)(v0 v1 v2:EV)(h:Aa):Ad TT disp K d false 203 [v0,v1,v2] h=Mh K v0 v1 v2 h:=
 Cm (H.bare (by kernel_rfl)) hd (by kernel_rfl) (fun d hd=>(W2 (Jx H (lq hd rfl)) (W2 (Qw H (lq hd rfl)) (W1 (Kb H (lq hd rfl)) (W1 (Acm H (lq hd rfl)) rfl))))) (fun d c r=>rfl) (fun d c r=>by kernel_rfl)
def S0(K:Nat)(v0 v1:EV)(h:Aa):R:=
 Bj v0 fun v13=>
 Ap 0 v13 fun v14=>
 Av v14 h fun v15=>
 Gn 1 v15 v1 fun v17=>
 Av v17 h fun v18=>
 Al (Gi K v18 h) fun v19 h=>
 some (v19,h)
def L6(K:Nat)(v0 v1:EV)(h:Aa):R:=
 Al (Hl K v0 v1 h) fun v8 h=>
 Ar E5 (bin TT .neq 28) v8 (.int .i64 0) fun v10=>
 Dx v10
 (some (v8,h))
 (S0 K v0 v1 h)
theorem Adb(H:Aq disp)(hd:3<=d)(v0 v1:EV)(h:Aa):Ad TT disp K d false 204 [v0,v1] h=L6 K v0 v1 h:=
 Cm (H.bare (by kernel_rfl)) hd (by kernel_rfl) (fun d hd=>(W2 (Jx H (lq hd rfl)) (W1 (Qy H (lq hd rfl)) rfl))) (fun d c r=>rfl) (fun d c r=>by kernel_rfl)
def Rp(K:Nat)(v0 v1:EV)(h:Aa):R:=
 D8 72 v0 h fun v2 h=>
 B4 256 v2 h fun v6=>
 Al (Jk K v6 v1 h) fun v8 h=>
 Al (B5 [(.int .u8 0)] 5 1 0 [] h) fun v9 h=>
 Al (Dy 5 1 v9 v1 h) fun v11 h=>
 Pk .u8 v8 fun v13=>
 K3 (bin TT .shr 70) v8 (.int .u64 8) fun v15=>
 Pk .u8 v15 fun v16=>
 K3 (bin TT .shr 70) v8 (.int .u64 16) fun v18=>
 Pk .u8 v18 fun v19=>
 K3 (bin TT .shr 70) v8 (.int .u64 24) fun v21=>
 Pk .u8 v21 fun v22=>
 Al (B5 [(.int .u8 0)] 5 1 4 [(0,v13),(1,v16),(2,v19),(3,v22)] h) fun v23 h=>
 Al (Dy 5 1 v11 v23 h) fun v24 h=>
 some (v24,h)
theorem Ahz(H:Aq disp)(hd:4<=d)(v0 v1:EV)(h:Aa):Ad TT disp K d false 211 [v0,v1] h=Rp K v0 v1 h:=
 Cm (H.bare (by kernel_rfl)) hd (by kernel_rfl) (fun d hd=>(W2 (Rz H (lq hd rfl)) rfl)) (fun d c r=>rfl) (fun d c r=>by kernel_rfl)
def Nv(c r:Ae)(K:Nat)(h:Aa):R:=
 some ((.int .i64 0),h)
def Je(c r:Ae)(K:Nat)(v0:EV)(h:Aa):R:=
 Al (c 70 [v0] h) fun v44 h=>
 Ar G1 (bin TT .eql 28) v44 (.int .i64 34) fun v45=>
 Dx v45
 (some ((.int .i64 34),h))
 (Nv c r K h)
def He(c r:Ae)(K:Nat)(v0 v35 v41:EV)(h:Aa):R:=
 Br v35 v41 (.bool false) fun v42=>
 Dx v42
 (some ((.int .i64 0),h))
 (Je c r K v0 h)
def N0(c r:Ae)(K:Nat)(v0 v1:EV)(h:Aa):R:=
 Bj v0 fun v18=>
 Ap 264 v18 fun v19=>
 Av v19 h fun v20=>
 Gn 1 v20 v1 fun v22=>
 Dw 1 v22 (.int .i64 1) h fun h=>
 Bj v0 fun v24=>
 Ap 263 v24 fun v25=>
 Av v25 h fun v26=>
 Al (c 69 [v26,v1] h) fun v28 h=>
 Bj v0 fun v31=>
 Ap 265 v31 fun v32=>
 Av v32 h fun v33=>
 Ar E5 (bin TT .neq 3) v1 v33 fun v34=>
 Ay (Ah v34 true)
 (Bj v0 fun v38=>
 Ap 266 v38 fun v39=>
 Av v39 h fun v40=>
 Ar E5 (bin TT .neq 3) v1 v40 fun v41=>
 He c r K v0 v34 v41 h)
 (He c r K v0 v34 (.tuple []) h)
def Py(c r:Ae)(K:Nat)(v0 v1:EV)(h:Aa):R:=
 Bj v0 fun v7=>
 Ap 1 v7 fun v8=>
 B4 6 v8 h fun v9=>
 Al (F2 K v9 v1 h) fun v11 h=>
 Ar Gc (bin TT .lss 3) v11 (.int .i64 0) fun v12=>
 Dx v12
 (some ((.int .i64 13),h))
 (Al (Ka K v0 v1 h) fun v16 h=>
 Dx v16
 (some ((.int .i64 16),h))
 (N0 c r K v0 v1 h))
theorem Vn(H:Aq disp)(hd:3<=d)(v0 v1:EV)(h:Aa):Ad TT disp K (d+1) false 20 [v0,v1] h=Py (Ad TT disp K d false) (Ad TT disp K d true) K v0 v1 h:=
 Q5 (H.bare (by kernel_rfl)) (by kernel_rfl) (W2 (Iu H (lq hd rfl)) (W2 (S8 H (lq hd rfl)) rfl)) rfl (by kernel_rfl)
def Agt(K:Nat)(h:Aa):R:=
 some ((.bool false),h)
def Wk(K:Nat)(base:Nat)(s:DX)(v57 v60:EV)(h:Aa):R:=
 Br v57 v60 (.bool false) fun v61=>
 some (v61,h)
def Vz(K:Nat)(base:Nat)(s:DX)(v2 v52 v55:EV)(h:Aa):R:=
 Br v52 v55 (.bool false) fun v56=>
 Ay (Ah v56 true)
 (Ap 5 v2 fun v58=>
 Bc 42 4398046511103 base v58 s fun s=>Av v58 h fun v59=>
 Ar Afk (bin TT .leq 3) v59 (.int .i64 4294967295) fun v60=>
 Wk K base s v56 v60 h)
 (Wk K base s v56 (.tuple []) h)
def Wg(K:Nat)(base:Nat)(s:DX)(v2 v47 v50:EV)(h:Aa):R:=
 Br v47 v50 (.bool false) fun v51=>
 Ay (Ah v51 true)
 (Ap 5 v2 fun v53=>
 Bc 37 137438953471 base v53 s fun s=>Av v53 h fun v54=>
 Ar Y0 (bin TT .geq 3) v54 (.int .i64 0) fun v55=>
 Vz K base s v2 v51 v55 h)
 (Vz K base s v2 v51 (.tuple []) h)
def Ws(K:Nat)(base:Nat)(s:DX)(v2 v42 v45:EV)(h:Aa):R:=
 Br v42 v45 (.bool false) fun v46=>
 Ay (Ah v46 true)
 (Ap 4 v2 fun v48=>
 Bc 32 4294967295 base v48 s fun s=>Av v48 h fun v49=>
 Ar Afk (bin TT .leq 3) v49 (.int .i64 281474976710655) fun v50=>
 Wg K base s v2 v46 v50 h)
 (Wg K base s v2 v46 (.tuple []) h)
def Wb(K:Nat)(base:Nat)(s:DX)(v2 v31 v40:EV)(h:Aa):R:=
 Br v31 v40 (.bool false) fun v41=>
 Ay (Ah v41 true)
 (Ap 4 v2 fun v43=>
 Bc 27 134217727 base v43 s fun s=>Av v43 h fun v44=>
 Ar Y0 (bin TT .geq 3) v44 (.int .i64 1) fun v45=>
 Ws K base s v2 v41 v45 h)
 (Ws K base s v2 v41 (.tuple []) h)
def V5(K:Nat)(base:Nat)(s:DX)(v2 v3 v23 v29:EV)(h:Aa):R:=
 Br v23 v29 (.bool false) fun v30=>
 Ay (Ah v30 true)
 (Bc 15 32767 base v3 s fun s=>B4 6 v3 h fun v32=>
 Ap 1 v2 fun v33=>
 Bc 17 98303 base v33 s fun s=>Av v33 h fun v34=>
 Cs 18 262143 s h (fun h=>(F2 K v32 v34 h)) fun v35 h s=>
 Bc 19 32767 base v3 s fun s=>B4 6 v3 h fun v36=>
 Ap 2 v2 fun v37=>
 Bc 21 1081343 base v37 s fun s=>Av v37 h fun v38=>
 Cs 22 4194303 s h (fun h=>(F2 K v36 v38 h)) fun v39 h s=>
 Ar E5 (bin TT .neq 3) v35 v39 fun v40=>
 Wb K base s v2 v30 v40 h)
 (Wb K base s v2 v30 (.tuple []) h)
def Wu(K:Nat)(v2 v3 v6 v7:EV)(h:Aa):R:=
 Dx v7
 (B4 6 v2 h fun v10=>
 Ap 0 v2 fun v11=>
 Av v11 h fun v12=>
 B7 (Dj [(0,1),(1,1),(2,1),(3,1),(4,1),(5,1)]) [(.int .i64 0),(.int .i64 0),(.int .i64 0),(.int .i64 0),(.int .i64 0),(.int .i64 0)] [(0,v12)] fun v13=>
 Ar G1 (bin TT .eql 83) v10 v13 fun v14=>
 some (v14,h))
 (Ar G1 (bin TT .eql 3) v6 (.int .i64 1) fun v16=>
 Dx v16
 (E4 h fun base s=>
 Bc 0 0 base v3 s fun s=>B4 6 v3 h fun v17=>
 Ap 1 v2 fun v18=>
 Bc 2 2 base v18 s fun s=>Av v18 h fun v19=>
 Ap 3 v2 fun v20=>
 Bc 4 8 base v20 s fun s=>Av v20 h fun v21=>
 Cs 5 31 s h (fun h=>(Vu K v17 v19 v21 h)) fun v22 h s=>
 Ay (Ah v22 true)
 (Bc 7 127 base v3 s fun s=>B4 6 v3 h fun v24=>
 Ap 2 v2 fun v25=>
 Bc 9 383 base v25 s fun s=>Av v25 h fun v26=>
 Ap 3 v2 fun v27=>
 Bc 11 1151 base v27 s fun s=>Av v27 h fun v28=>
 Cs 12 4095 s h (fun h=>(Vu K v24 v26 v28 h)) fun v29 h s=>
 V5 K base s v2 v3 v22 v29 h)
 (V5 K base s v2 v3 v22 (.tuple []) h))
 (Agt K h))
def Abg(K:Nat)(v0 v1:EV)(h:Aa):R:=
 D8 83 v0 h fun v2 h=>
 D8 23 v1 h fun v3 h=>
 Ap 0 v2 fun v5=>
 Av v5 h fun v6=>
 Ar G1 (bin TT .eql 3) v6 (.int .i64 0) fun v8=>
 Dx v8
 (Wu K v2 v3 v6 v8 h)
 (Ar G1 (bin TT .eql 3) v6 (.int .i64 2) fun v9=>
 Wu K v2 v3 v6 v9 h)
theorem Afs(H:Aq disp)(hd:5<=d)(v0 v1:EV)(h:Aa):Ad TT disp K d false 43 [v0,v1] h=Abg K v0 v1 h:=
 Cm (H.bare (by kernel_rfl)) hd (by kernel_rfl) (fun d hd=>(W2 (Iu H (lq hd rfl)) (W3 (Ags H (lq hd rfl)) rfl))) (fun d c r=>rfl) (fun d c r=>by kernel_rfl)
def Ug(K:Nat)(v10 v14:EV)(h:Aa):R:=
 B4 49 v14 h fun v51=>
 Dw 49 v10 v51 h fun h=>
 Ct TT [.c v10 120,.v (.int .i64 0)] h
def Ft(K:Nat)(v10 v14 v41 v48:EV)(h:Aa):R:=
 Br v41 (.bool true) v48 fun v49=>
 Dx v49
 (B7 (Dj [(0,1),(1,1),(2,1),(3,1),(4,1),(5,44)]) (List.replicate 5 (.int .i64 0)++List.replicate 44 (.int .u8 0)) [] fun v50=>
 Dw 49 v10 v50 h fun h=>
 Ct TT [.c v10 120,.v (.int .i64 10)] h)
 (Ug K v10 v14 h)
def G4(K:Nat)(v4 v5 v10 v14 v35 v39:EV)(h:Aa):R:=
 Br v35 (.bool true) v39 fun v40=>
 Ay (Ah v40 false)
 (Ap 1 v5 fun v42=>
 Av v42 h fun v43=>
 Ap 2 v5 fun v45=>
 Av v45 h fun v46=>
 Ar Sq (bin TT .sub 3) v4 v46 fun v47=>
 Ar Afk (bin TT .leq 3) v43 v47 fun v48=>
 Ft K v10 v14 v40 v48 h)
 (Ft K v10 v14 v40 (.tuple []) h)
def Iq(K:Nat)(v4 v5 v10 v14 v30 v33:EV)(h:Aa):R:=
 Br v30 (.bool true) v33 fun v34=>
 Ay (Ah v34 false)
 (Ap 1 v5 fun v36=>
 Av v36 h fun v37=>
 Ar Sc (bin TT .gtr 3) v37 v4 fun v39=>
 G4 K v4 v5 v10 v14 v34 v39 h)
 (G4 K v4 v5 v10 v14 v34 (.tuple []) h)
def Ix(K:Nat)(v0 v1 v2 v3 v4:EV)(h:Aa):R:=
 D8 89 v0 h fun v5 h=>
 Fw (.cells (List.replicate 5 (.int .i64 0)++List.replicate 44 (.int .u8 0)) 120) h fun v10 h=>
 B4 38 v5 h fun v16=>
 Al (Oy K v16 h) fun v17 h=>
 B3 0 v17 fun v18=>
 B3 1 v17 fun v19=>
 Fw (.cells (List.replicate 44 (.int .u8 0)) 118) h fun v12 h=>
 Dw 44 v12 v18 h fun h=>
 Ap 0 v5 fun v20=>
 Av v20 h fun v21=>
 B4 44 v12 h fun v26=>
 B7 (Dj [(0,1),(1,1),(2,1),(3,1),(4,1),(5,44)]) (List.replicate 5 (.int .i64 0)++List.replicate 44 (.int .u8 0)) [(0,v21),(1,v1),(2,v2),(3,v3),(4,v4),(5,v26)] fun v27=>
 Fw (.cells (List.replicate 5 (.int .i64 0)++List.replicate 44 (.int .u8 0)) 120) h fun v14 h=>
 Dw 49 v14 v27 h fun h=>
 Ar E5 (bin TT .neq 28) v19 (.int .i64 0) fun v29=>
 Ay (Ah v29 false)
 (B4 49 v14 h fun v31=>
 Al (I2 K v31 h) fun v32 h=>
 Pw v32 fun v33=>
 Iq K v4 v5 v10 v14 v29 v33 h)
 (Iq K v4 v5 v10 v14 v29 (.tuple []) h)
theorem S6(H:Aq disp)(hd:5<=d)(v0 v1 v2 v3 v4:EV)(h:Aa):Ad TT disp K d false 79 [v0,v1,v2,v3,v4] h=Ix K v0 v1 v2 v3 v4 h:=
 Cm (H.bare (by kernel_rfl)) hd (by kernel_rfl) (fun d hd=>(W1 (Aff H (lq hd rfl)) (W1 (Nl H (lq hd rfl)) rfl))) (fun d c r=>rfl) (fun d c r=>by kernel_rfl)
def Q4(c r:Ae)(K:Nat)(v0 v4 v5:EV)(h:Aa):R:=
 Bj v0 fun v48=>
 Ap 265 v48 fun v49=>
 Dw 1 v49 v4 h fun h=>
 Bj v0 fun v50=>
 Ap 266 v50 fun v51=>
 Dw 1 v51 v5 h fun h=>
 Bj v0 fun v52=>
 Ap 267 v52 fun v53=>
 Dw 1 v53 (.int .i64 0) h fun h=>
 some ((.int .i64 0),h)
def Rs(c r:Ae)(K:Nat)(v0:EV)(h:Aa):R:=
 Bj v0 fun v34=>
 Ap 263 v34 fun v35=>
 Av v35 h fun v36=>
 Al (R6 K v36 h) fun v37 h=>
 B3 0 v37 fun v38=>
 B3 1 v37 fun v39=>
 B3 2 v37 fun v40=>
 Ar E5 (bin TT .neq 28) v40 (.int .i64 0) fun v42=>
 Dx v42
 (some ((.int .i64 40),h))
 (Q4 c r K v0 v38 v39 h)
def Mj(c r:Ae)(K:Nat)(v0:EV)(h:Aa):R:=
 Bj v0 fun v25=>
 Ap 0 v25 fun v26=>
 Av v26 h fun v27=>
 Al (c 67 [v27] h) fun v28 h=>
 Ar E5 (bin TT .neq 28) v28 (.int .i64 0) fun v30=>
 Dx v30
 (some (v28,h))
 (Rs c r K v0 h)
def Hq(c r:Ae)(K:Nat)(v0 v12 v22:EV)(h:Aa):R:=
 Br v12 v22 (.bool false) fun v23=>
 Dx v23
 (some ((.int .i64 0),h))
 (Mj c r K v0 h)
def V6(c r:Ae)(K:Nat)(v0:EV)(h:Aa):R:=
 Bj v0 fun v8=>
 Ap 265 v8 fun v9=>
 Av v9 h fun v10=>
 Ar E5 (bin TT .neq 3) v10 (.int .i64 (-1)) fun v11=>
 Ay (Ah v11 true)
 (Bj v0 fun v14=>
 Ap 267 v14 fun v15=>
 Av v15 h fun v16=>
 Bj v0 fun v18=>
 Ap 1 v18 fun v19=>
 Ap 2 v19 fun v20=>
 Av v20 h fun v21=>
 Ar Gc (bin TT .lss 3) v16 v21 fun v22=>
 Hq c r K v0 v11 v22 h)
 (Hq c r K v0 v11 (.tuple []) h)
theorem Abk(H:Aq disp)(hd:4<=d)(v0:EV)(h:Aa):Ad TT disp K (d+1) false 80 [v0] h=V6 (Ad TT disp K d false) (Ad TT disp K d true) K v0 h:=
 Q5 (H.bare (by kernel_rfl)) (by kernel_rfl) (W1 (Aiq H (lq hd rfl)) rfl) rfl (by kernel_rfl)
def Adp(K:Nat)(v4 v9:EV)(h:Aa):R:=
 B4 49 v9 h fun v58=>
 Dw 49 v4 v58 h fun h=>
 Ct TT [.c v4 120,.v (.int .i64 0)] h
def Mn(K:Nat)(v4 v9 v52 v55:EV)(h:Aa):R:=
 Br v52 (.bool true) v55 fun v56=>
 Dx v56
 (B7 (Dj [(0,1),(1,1),(2,1),(3,1),(4,1),(5,44)]) (List.replicate 5 (.int .i64 0)++List.replicate 44 (.int .u8 0)) [] fun v57=>
 Dw 49 v4 v57 h fun h=>
 Ct TT [.c v4 120,.v (.int .i64 10)] h)
 (Adp K v4 v9 h)
def Mv(K:Nat)(v4 v8 v9 v47 v50:EV)(h:Aa):R:=
 Br v47 (.bool true) v50 fun v51=>
 Ay (Ah v51 false)
 (Al (Nr K v8 h) fun v54 h=>
 Ar E5 (bin TT .neq 28) v54 (.int .i64 0) fun v55=>
 Mn K v4 v9 v51 v55 h)
 (Mn K v4 v9 v51 (.tuple []) h)
def Adf(K:Nat)(v4 v6:EV)(h:Aa):R:=
 Al (Tf K v6 h) fun v22 h=>
 Al (Bo K v22 (.int .i64 1) h) fun v24 h=>
 B7 (Dj [(0,1),(1,1),(2,1),(3,1),(4,1),(5,44)]) (List.replicate 5 (.int .i64 0)++List.replicate 44 (.int .u8 0)) [(0,v24)] fun v25=>
 Fw (.cells (List.replicate 5 (.int .i64 0)++List.replicate 44 (.int .u8 0)) 120) h fun v9 h=>
 Dw 49 v9 v25 h fun h=>
 Al (Bo K v22 (.int .i64 1) h) fun v27 h=>
 Al (Bo K v22 (.int .i64 2) h) fun v29 h=>
 Al (Bo K v22 (.int .i64 2) h) fun v31 h=>
 Al (Bo K v22 (.int .i64 4) h) fun v33 h=>
 Al (Bo K v22 (.int .i64 6) h) fun v35 h=>
 Ap 1 v9 fun v36=>
 Dw 1 v36 v29 h fun h=>
 Ap 2 v9 fun v37=>
 Dw 1 v37 v31 h fun h=>
 Ap 3 v9 fun v38=>
 Dw 1 v38 v33 h fun h=>
 Ap 4 v9 fun v39=>
 Dw 1 v39 v35 h fun h=>
 E4 h fun base s=>
 Ap 5 v9 fun v40=>
 Pe 44 1 v40 none none none fun v41=>
 Cs 3 4 s h (fun h=>(Mk K v22 (.int .i64 44) h)) fun v43 h s=>
 Cs 4 15 s h (fun h=>(builtin TT .copy #[174,174] [v41,v43] h)) fun v44 h s=>
 Ar E5 (bin TT .neq 3) v27 (.int .i64 1) fun v46=>
 Ay (Ah v46 false)
 (B4 49 v9 h fun v48=>
 Al (I2 K v48 h) fun v49 h=>
 Pw v49 fun v50=>
 Mv K v4 v22 v9 v46 v50 h)
 (Mv K v4 v22 v9 v46 (.tuple []) h)
def Xc(K:Nat)(v0 v1:EV)(h:Aa):R:=
 D8 72 v0 h fun v2 h=>
 D8 103 v1 h fun v3 h=>
 Fw (.cells (List.replicate 5 (.int .i64 0)++List.replicate 44 (.int .u8 0)) 120) h fun v4 h=>
 E4 h fun base s=>
 Bc 0 0 base v2 s fun s=>B4 256 v2 h fun v12=>
 Pe 64 1 v3 none none none fun v13=>
 Cs 2 3 s h (fun h=>(Rc K v12 v13 h)) fun v14 h s=>
 B3 0 v14 fun v15=>
 B3 1 v14 fun v16=>
 Ar E5 (bin TT .neq 28) v16 (.int .i64 0) fun v18=>
 Dx v18
 (B7 (Dj [(0,1),(1,1),(2,1),(3,1),(4,1),(5,44)]) (List.replicate 5 (.int .i64 0)++List.replicate 44 (.int .u8 0)) [] fun v19=>
 Dw 49 v4 v19 h fun h=>
 Ct TT [.c v4 120,.v v16] h)
 (Adf K v4 v15 h)
theorem Alh(H:Aq disp)(hd:5<=d)(v0 v1:EV)(h:Aa):Ad TT disp K d false 154 [v0,v1] h=Xc K v0 v1 h:=
 Cm (H.bare (by kernel_rfl)) hd (by kernel_rfl) (fun d hd=>(W2 (Ahv H (lq hd rfl)) (W1 (Ad6 H (lq hd rfl)) (W1 (Aai H (lq hd rfl)) (W2 (On H (lq hd rfl)) (W2 (Ac5 H (lq hd rfl)) (W1 (Nl H (lq hd rfl)) rfl))))))) (fun d c r=>rfl) (fun d c r=>by kernel_rfl)
def Ki(c r:Ae)(K:Nat)(v8 v9:EV)(h:Aa):R:=
 some (.tuple [v8,v9],h)
def Zh(c r:Ae)(K:Nat)(v0 v1 v2:EV)(h:Aa):R:=
 D8 103 v2 h fun v5 h=>
 Al (c 179 [v0,v1] h) fun v12 h=>
 E4 h fun base s=>
 Bj v0 fun v15=>
 Ap 0 v15 fun v16=>
 Bc 3 7 base v16 s fun s=>Av v16 h fun v17=>
 Bc 5 0 base v5 s fun s=>B4 64 v5 h fun v19=>
 Cs 6 63 s h (fun h=>(Mh K v17 v1 v19 h)) fun v20 h s=>
 B3 0 v20 fun v21=>
 B3 1 v20 fun v22=>
 Ar G1 (bin TT .eql 28) v22 (.int .i64 0) fun v24=>
 Dx v24
 (Bj v0 fun v26=>
 Ap 3 v26 fun v27=>
 Av v27 h fun v28=>
 B7 (Dj [(0,1),(1,1)]) [(.int .i64 0),(.int .i64 0)] [(0,v1),(1,v21)] fun v31=>
 Al (builtin TT .delete #[164,243] [v28,v31] h) fun _ h=>
 Ki c r K v21 v22 h)
 (Ki c r K v21 v22 h)
theorem Ady(H:Aq disp)(hd:3<=d)(v0 v1 v2:EV)(h:Aa):Ad TT disp K (d+1) false 164 [v0,v1,v2] h=Zh (Ad TT disp K d false) (Ad TT disp K d true) K v0 v1 v2 h:=
 Q5 (H.bare (by kernel_rfl)) (by kernel_rfl) (W3 (Acu H (lq hd rfl)) rfl) rfl (by kernel_rfl)
def Zw(c r:Ae)(K:Nat)(v0 v1:EV)(h:Aa):R:=
 Al (c 179 [v0,v1] h) fun v7 h=>
 Bj v0 fun v9=>
 Ap 0 v9 fun v10=>
 Av v10 h fun v11=>
 Al (L6 K v11 v1 h) fun v13 h=>
 some (v13,h)
theorem Aeg(H:Aq disp)(hd:3<=d)(v0 v1:EV)(h:Aa):Ad TT disp K (d+1) false 165 [v0,v1] h=Zw (Ad TT disp K d false) (Ad TT disp K d true) K v0 v1 h:=
 Q5 (H.bare (by kernel_rfl)) (by kernel_rfl) (W2 (Adb H (lq hd rfl)) rfl) rfl (by kernel_rfl)
def Adj(K:Nat)(v2 v4 v7:EV)(h:Aa):R:=
 B4 256 v2 h fun v40=>
 Al (Rp K v40 v7 h) fun v42 h=>
 Aj3 64 v42 fun v43=>
 B4 64 v43 h fun v44=>
 Dw 64 v4 v44 h fun h=>
 Ct TT [.c v4 103,.v (.int .i64 0)] h
def Adi(K:Nat)(v2 v3 v4:EV)(h:Aa):R:=
 Fw (.cells [.Af,(.bool false)] 278) h fun v6 h=>
 Ap 0 v3 fun v13=>
 Av v13 h fun v14=>
 Al (Ea K v6 (.int .i64 1) v14 h) fun v15 h=>
 Al (Ea K v6 (.int .i64 1) (.int .i64 1) h) fun v16 h=>
 Ap 1 v3 fun v17=>
 Av v17 h fun v18=>
 Al (Ea K v6 (.int .i64 2) v18 h) fun v19 h=>
 Ap 2 v3 fun v20=>
 Av v20 h fun v21=>
 Al (Ea K v6 (.int .i64 2) v21 h) fun v22 h=>
 Ap 3 v3 fun v23=>
 Av v23 h fun v24=>
 Al (Ea K v6 (.int .i64 4) v24 h) fun v25 h=>
 Ap 4 v3 fun v26=>
 Av v26 h fun v27=>
 Al (Ea K v6 (.int .i64 6) v27 h) fun v28 h=>
 Ap 5 v3 fun v29=>
 Pe 44 1 v29 none none none fun v30=>
 Al (Mu K v6 v30 h) fun v31 h=>
 Al (My K v6 h) fun v33 h=>
 B3 0 v33 fun v34=>
 B3 1 v33 fun v35=>
 Ar E5 (bin TT .neq 28) v35 (.int .i64 0) fun v37=>
 Dx v37
 (B7 (Akv 1) (List.replicate 64 (.int .u8 0)) [] fun v38=>
 Dw 64 v4 v38 h fun h=>
 Ct TT [.c v4 103,.v v35] h)
 (Adj K v2 v4 v34 h)
def Xh(K:Nat)(v0 v1:EV)(h:Aa):R:=
 D8 72 v0 h fun v2 h=>
 D8 120 v1 h fun v3 h=>
 Fw (.cells (List.replicate 64 (.int .u8 0)) 103) h fun v4 h=>
 B4 49 v3 h fun v9=>
 Al (I2 K v9 h) fun v10 h=>
 Pw v10 fun v11=>
 Dx v11
 (B7 (Akv 1) (List.replicate 64 (.int .u8 0)) [] fun v12=>
 Dw 64 v4 v12 h fun h=>
 Ct TT [.c v4 103,.v (.int .i64 10)] h)
 (Adi K v2 v3 v4 h)
theorem Alw(H:Aq disp)(hd:5<=d)(v0 v1:EV)(h:Aa):Ad TT disp K d false 177 [v0,v1] h=Xh K v0 v1 h:=
 Cm (H.bare (by kernel_rfl)) hd (by kernel_rfl) (fun d hd=>(W1 (Nl H (lq hd rfl)) (W2 (Ahz H (lq hd rfl)) (W3 (Zf H (lq hd rfl)) (W2 (V4 H (lq hd rfl)) (W1 (Z9 H (lq hd rfl)) rfl)))))) (fun d c r=>rfl) (fun d c r=>by kernel_rfl)
def Jd(c r:Ae)(K:Nat)(ih0_:EV->EV->EV->EV->EV->Aa->R)(v0 v2 v3 v5 v8 v13:EV)(h:Aa):R:=
 Al (c 20 [v0,v13] h) fun v93 h=>
 Ar G1 (bin TT .eql 28) v93 (.int .i64 34) fun v94=>
 Dx v94
 (B7 (Dj [(0,1),(1,1),(2,1),(3,1),(4,1),(5,1)]) [(.int .i64 0),(.int .i64 0),(.int .i64 0),(.int .i64 0),(.int .i64 0),(.int .i64 0)] [] fun v95=>
 Dw 6 v8 v95 h fun h=>
 Ct TT [.c v8 83,.v (.int .i64 34)] h)
 (ih0_ v0 v2 v3 v5 v8 h)
def Q7(c r:Ae)(K:Nat)(ih0_:EV->EV->EV->EV->EV->Aa->R)(v0 v2 v3 v5 v8 v13:EV)(h:Aa):R:=
 Bj v0 fun v80=>
 Ap 266 v80 fun v81=>
 Av v81 h fun v82=>
 Ar G1 (bin TT .eql 3) v13 v82 fun v83=>
 Dx v83
 (Bj v0 fun v85=>
 Ap 267 v85 fun v86=>
 Av v86 h fun v87=>
 Ar Fx (bin TT .add 3) v87 (.int .i64 1) fun v88=>
 Bj v0 fun v89=>
 Ap 267 v89 fun v90=>
 Dw 1 v90 v88 h fun h=>
 Jd c r K ih0_ v0 v2 v3 v5 v8 v13 h)
 (Jd c r K ih0_ v0 v2 v3 v5 v8 v13 h)
def R0(c r:Ae)(K:Nat)(ih0_:EV->EV->EV->EV->EV->Aa->R)(v0 v2 v3 v5 v8:EV)(h:Aa):R:=
 B4 38 v5 h fun v35=>
 Al (c 81 [v0,v35,v2,v3] h) fun v38 h=>
 B3 0 v38 fun v39=>
 B3 1 v38 fun v40=>
 Ar G1 (bin TT .eql 28) v40 (.int .i64 0) fun v43=>
 Dx v43
 (E4 h fun base s=>
 Bj v0 fun v45=>
 Ap 265 v45 fun v46=>
 Bc 3 7 base v46 s fun s=>Av v46 h fun v47=>
 Bj v0 fun v49=>
 Ap 266 v49 fun v50=>
 Bc 7 112 base v50 s fun s=>Av v50 h fun v51=>
 Bj v0 fun v53=>
 Ap 267 v53 fun v54=>
 Bc 11 1792 base v54 s fun s=>Av v54 h fun v55=>
 Bj v0 fun v58=>
 Ap 7 v58 fun v59=>
 Bc 16 57344 base v59 s fun s=>B4 256 v59 h fun v60=>
 Ap 6 v5 fun v61=>
 Pe 32 1 v61 none none none fun v62=>
 Cs 19 516096 s h (fun h=>(Jk K v60 v62 h)) fun v63 h s=>
 Pk .i64 v63 fun v64=>
 B7 (Dj [(0,1),(1,1),(2,1),(3,1),(4,1),(5,1)]) [(.int .i64 0),(.int .i64 0),(.int .i64 0),(.int .i64 0),(.int .i64 0),(.int .i64 0)] [(0,(.int .i64 1)),(1,v47),(2,v51),(3,v55),(4,v3),(5,v64)] fun v65=>
 Yz 22 h s fun s=>Fw (.cells [(.int .i64 0),(.int .i64 0),(.int .i64 0),(.int .i64 0),(.int .i64 0),(.int .i64 0)] 83) h fun v15 h=>
 Xi 23 8388607 v15 s fun s=>Dw 6 v15 v65 h fun h=>
 Bj v0 fun v67=>
 Ap 267 v67 fun v68=>
 Av v68 h fun v69=>
 Ar Fx (bin TT .add 3) v69 (.int .i64 1) fun v70=>
 Bj v0 fun v71=>
 Ap 267 v71 fun v72=>
 Dw 1 v72 v70 h fun h=>
 B4 6 v15 h fun v73=>
 Dw 6 v8 v73 h fun h=>
 Ct TT [.c v8 83,.v (.int .i64 0)] h)
 (Ar G1 (bin TT .eql 28) v40 (.int .i64 34) fun v75=>
 Dx v75
 (B7 (Dj [(0,1),(1,1),(2,1),(3,1),(4,1),(5,1)]) [(.int .i64 0),(.int .i64 0),(.int .i64 0),(.int .i64 0),(.int .i64 0),(.int .i64 0)] [] fun v76=>
 Dw 6 v8 v76 h fun h=>
 Ct TT [.c v8 83,.v v40] h)
 (Q7 c r K ih0_ v0 v2 v3 v5 v8 v39 h))
def Cv(c r:Ae)(K:Nat):Nat->EV->EV->EV->EV->EV->Aa->R
 | 0=>fun _ _ _ _ _ _=>none
 | m+1=>fun v0 v2 v3 v5 v8 h=>
  Al (c 80 [v0] h) fun v28 h=>
  Ar E5 (bin TT .neq 28) v28 (.int .i64 0) fun v30=>
  Dx v30
  (B7 (Dj [(0,1),(1,1),(2,1),(3,1),(4,1),(5,1)]) [(.int .i64 0),(.int .i64 0),(.int .i64 0),(.int .i64 0),(.int .i64 0),(.int .i64 0)] [] fun v31=>
  Dw 6 v8 v31 h fun h=>
  Ct TT [.c v8 83,.v v28] h)
  (R0 c r K (Cv c r K m) v0 v2 v3 v5 v8 h)
def Rx(c r:Ae)(K:Nat)(v0 v2 v3 v5 v8:EV)(h:Aa):R:=
 Cv c r K K v0 v2 v3 v5 v8 h
def Wh(c r:Ae)(K:Nat)(v0 v1 v2 v3:EV)(h:Aa):R:=
 D8 89 v1 h fun v5 h=>
 Fw (.cells [(.int .i64 0),(.int .i64 0),(.int .i64 0),(.int .i64 0),(.int .i64 0),(.int .i64 0)] 83) h fun v8 h=>
 B4 38 v5 h fun v17=>
 Al (Ix K v17 (.int .i64 0) (.int .i64 0) v2 v3 h) fun v20 h=>
 B3 0 v20 fun v21=>
 B3 1 v20 fun v22=>
 Fw (.cells (List.replicate 5 (.int .i64 0)++List.replicate 44 (.int .u8 0)) 120) h fun v10 h=>
 Dw 49 v10 v21 h fun h=>
 Ar E5 (bin TT .neq 28) v22 (.int .i64 0) fun v24=>
 Dx v24
 (B7 (Dj [(0,1),(1,1),(2,1),(3,1),(4,1),(5,1)]) [(.int .i64 0),(.int .i64 0),(.int .i64 0),(.int .i64 0),(.int .i64 0),(.int .i64 0)] [] fun v25=>
 Dw 6 v8 v25 h fun h=>
 Ct TT [.c v8 83,.v v22] h)
 (Rx c r K v0 v2 v3 v5 v8 h)
abbrev Aej(K:Nat)(c:Ae):Ae:=(w5 79 (Ix K) (w2 82 (Jk K) c))
theorem Aat(c r:Ae)(K:Nat)(m:Nat):Io (fun ih=>Hy TT (Aej K c) c r K (nOf TT 34) (F7 TT 34) (Q2 TT 34 [true,true,false]) [(0,F7 TT 34)] ih) m=fun ρ h=>Cv c r K m (ρ 0) (ρ 2) (ρ 3) (ρ 5) (ρ 8) h:=
 C6 (E:=fun m ρ h=>Cv c r K m (ρ 0) (ρ 2) (ρ 3) (ρ 5) (ρ 8) h) rfl (fun m=>Qz fun ρ h=>by
  show _=Cv c r K (m+1) (ρ 0) (ρ 2) (ρ 3) (ρ 5) (ρ 8) h
  rw[Cv];kernel_rfl) m
theorem Aaz(H:Aq disp)(hd:5<=d)(v0 v1 v2 v3:EV)(h:Aa):Ad TT disp K (d+1) false 34 [v0,v1,v2,v3] h=Wh (Ad TT disp K d false) (Ad TT disp K d true) K v0 v1 v2 v3 h:=
 Q5 (H.bare (by kernel_rfl)) (by kernel_rfl) (W5 (S6 H (lq hd rfl)) (W2 (Rz H (lq hd rfl)) rfl)) (cut [true,true,false] (Aat (Ad TT disp K d false) (Ad TT disp K d true) K K) (by kernel_rfl) (by kernel_rfl) rfl) (by kernel_rfl)
def Amx(K:Nat)(v8 v10:EV)(h:Aa):R:=
 B4 49 v10 h fun v33=>
 Dw 49 v8 v33 h fun h=>
 Ct TT [.c v8 120,.v (.int .i64 0)] h
def Un(K:Nat)(v8 v10 v26 v30:EV)(h:Aa):R:=
 Br v26 (.bool true) v30 fun v31=>
 Dx v31
 (B7 (Dj [(0,1),(1,1),(2,1),(3,1),(4,1),(5,44)]) (List.replicate 5 (.int .i64 0)++List.replicate 44 (.int .u8 0)) [] fun v32=>
 Dw 49 v8 v32 h fun h=>
 Ct TT [.c v8 120,.v (.int .i64 12)] h)
 (Amx K v8 v10 h)
def Ana(K:Nat)(v2 v3 v8 v10:EV)(h:Aa):R:=
 Ap 1 v10 fun v22=>
 Av v22 h fun v23=>
 Ar E5 (bin TT .neq 3) v23 v2 fun v25=>
 Ay (Ah v25 false)
 (Ap 2 v10 fun v27=>
 Av v27 h fun v28=>
 Ar E5 (bin TT .neq 3) v28 v3 fun v30=>
 Un K v8 v10 v25 v30 h)
 (Un K v8 v10 v25 (.tuple []) h)
def Yk(K:Nat)(v0 v1 v2 v3:EV)(h:Aa):R:=
 D8 72 v0 h fun v4 h=>
 D8 103 v1 h fun v5 h=>
 Fw (.cells (List.replicate 5 (.int .i64 0)++List.replicate 44 (.int .u8 0)) 120) h fun v8 h=>
 B4 256 v4 h fun v13=>
 B4 64 v5 h fun v14=>
 Al (Xc K v13 v14 h) fun v15 h=>
 B3 0 v15 fun v16=>
 B3 1 v15 fun v17=>
 Fw (.cells (List.replicate 5 (.int .i64 0)++List.replicate 44 (.int .u8 0)) 120) h fun v10 h=>
 Dw 49 v10 v16 h fun h=>
 Ar E5 (bin TT .neq 28) v17 (.int .i64 0) fun v19=>
 Dx v19
 (B7 (Dj [(0,1),(1,1),(2,1),(3,1),(4,1),(5,44)]) (List.replicate 5 (.int .i64 0)++List.replicate 44 (.int .u8 0)) [] fun v20=>
 Dw 49 v8 v20 h fun h=>
 Ct TT [.c v8 120,.v v17] h)
 (Ana K v2 v3 v8 v10 h)
theorem Aki(H:Aq disp)(hd:6<=d)(v0 v1 v2 v3:EV)(h:Aa):Ad TT disp K d false 108 [v0,v1,v2,v3] h=Yk K v0 v1 v2 v3 h:=
 Cm (H.bare (by kernel_rfl)) hd (by kernel_rfl) (fun d hd=>(W2 (Alh H (lq hd rfl)) rfl)) (fun d c r=>rfl) (fun d c r=>by kernel_rfl)
def Ks(c r:Ae)(K:Nat)(v14:EV)(h:Aa):R:=
 some (v14,h)
def Is(c r:Ae)(K:Nat)(v14 v58 v64:EV)(h:Aa):R:=
 Br v58 v64 (.bool false) fun v65=>
 Dx v65
 (some ((.int .i64 30),h))
 (Ks c r K v14 h)
def U5(c r:Ae)(K:Nat)(v0 v2 v15:EV)(h:Aa):R:=
 E4 h fun base s=>
 Bj v0 fun v48=>
 Ap 0 v48 fun v49=>
 Bc 3 7 base v49 s fun s=>Av v49 h fun v50=>
 Bc 5 0 base v15 s fun s=>B4 64 v15 h fun v52=>
 Cs 6 63 s h (fun h=>(c 164 [v50,v2,v52] h)) fun v53 h s=>
 B3 0 v53 fun v54=>
 B3 1 v53 fun v55=>
 Ar G1 (bin TT .eql 28) v55 (.int .i64 0) fun v57=>
 Ay (Ah v57 true)
 (Bj v0 fun v61=>
 Ap 267 v61 fun v62=>
 Av v62 h fun v63=>
 Ar E5 (bin TT .neq 3) v54 v63 fun v64=>
 Is c r K v55 v57 v64 h)
 (Is c r K v55 v57 (.tuple []) h)
def Va(c r:Ae)(K:Nat)(v0 v2 v13:EV)(h:Aa):R:=
 E4 h fun base s=>
 Bj v0 fun v36=>
 Ap 7 v36 fun v37=>
 Bc 3 7 base v37 s fun s=>B4 256 v37 h fun v38=>
 Bc 4 0 base v13 s fun s=>B4 49 v13 h fun v39=>
 Cs 5 31 s h (fun h=>(Xh K v38 v39 h)) fun v40 h s=>
 B3 0 v40 fun v41=>
 B3 1 v40 fun v42=>
 Yz 9 h s fun s=>Fw (.cells (List.replicate 64 (.int .u8 0)) 103) h fun v15 h=>
 Xi 10 767 v15 s fun s=>Dw 64 v15 v41 h fun h=>
 Ar E5 (bin TT .neq 28) v42 (.int .i64 0) fun v44=>
 Dx v44
 (some (v42,h))
 (U5 c r K v0 v2 v15 h)
def Za(c r:Ae)(K:Nat)(v0 v1 v2 v3 v4 v5:EV)(h:Aa):R:=
 D8 89 v1 h fun v7 h=>
 Ap 5 v7 fun v18=>
 Dw 1 v18 v3 h fun h=>
 E4 h fun base s=>
 Bc 0 0 base v7 s fun s=>B4 38 v7 h fun v20=>
 Bj v0 fun v23=>
 Ap 267 v23 fun v24=>
 Bc 5 28 base v24 s fun s=>Av v24 h fun v25=>
 Cs 8 255 s h (fun h=>(Ix K v20 v2 v25 v4 v5 h)) fun v28 h s=>
 B3 0 v28 fun v29=>
 B3 1 v28 fun v30=>
 Yz 12 h s fun s=>Fw (.cells (List.replicate 5 (.int .i64 0)++List.replicate 44 (.int .u8 0)) 120) h fun v13 h=>
 Xi 13 6143 v13 s fun s=>Dw 49 v13 v29 h fun h=>
 Ar E5 (bin TT .neq 28) v30 (.int .i64 0) fun v32=>
 Dx v32
 (some (v30,h))
 (Va c r K v0 v2 v13 h)
theorem Aeb(H:Aq disp)(hd:5<=d)(v0 v1 v2 v3 v4 v5:EV)(h:Aa):Ad TT disp K (d+1) false 131 [v0,v1,v2,v3,v4,v5] h=Za (Ad TT disp K d false) (Ad TT disp K d true) K v0 v1 v2 v3 v4 v5 h:=
 Q5 (H.bare (by kernel_rfl)) (by kernel_rfl) (W5 (S6 H (lq hd rfl)) (W2 (Alw H (lq hd rfl)) rfl)) rfl (by kernel_rfl)
end
end Go.Ev
