import Derived.Test.YtpkcfamminlmaaaGreatDb
set_option linter.unusedVariables false
set_option linter.unusedSimpArgs false
set_option linter.unusedSectionVars false
namespace Go.Ev
open Go.Proofs
set_option maxRecDepth 100000
set_option maxHeartbeats 4000000
noncomputable section
variable {disp:Nat->Option FT}{K d:Nat}
def L8(K:Nat)(v0:EV)(h:Aa):R:=
 Bg v0 fun v3=>
 Ap 4 v3 fun v4=>
 I9 1 v4 (.bool true) h fun h=>
 some (.tuple [],h)
theorem Abc(H:An disp)(hd:1<=d)(v0:EV)(h:Aa):Ad TT disp K d false 39 [v0] h=L8 K v0 h:=
 Cp (H.bare (by kernel_rfl)) hd (by kernel_rfl) (fun d hd=>rfl) (fun d c r=>rfl) (fun d c r=>by kernel_rfl)
def Kx(K:Nat)(v0 v1:EV)(h:Aa):R:=
 Dn 36 v0 h fun v2 h=>
 Dn 37 v1 h fun v3 h=>
 Kn (.cells ([.Af]++List.replicate 3 (.int .i64 0)++[(.bool false)]++List.replicate 2 .Af++List.replicate 8 (.int .i64 0)++List.replicate 2 .Af++List.replicate 3 (.int .i64 0)) 42) h fun v4 h=>
 Ck 7 v2 h fun v5=>
 Ck 6 v3 h fun v6=>
 Ap 0 v3 fun v7=>
 Ao v7 h fun v8=>
 Ap 1 v3 fun v9=>
 Ao v9 h fun v10=>
 C1 (G3 [(0,1),(1,1),(2,1)]) [(.int .i64 0),(.int .i64 0),.Af] [(0,v8),(1,v10)] fun v11=>
 C1 (G3 [(0,7),(7,6),(13,3),(16,1),(17,1),(18,1),(19,1)]) ([.Af]++List.replicate 3 (.int .i64 0)++[(.bool false)]++List.replicate 2 .Af++List.replicate 8 (.int .i64 0)++List.replicate 2 .Af++List.replicate 3 (.int .i64 0)) [(0,v5),(1,v6),(2,v11),(4,(.int .i64 (-1))),(5,(.int .i64 (-1)))] fun v12=>
 I9 20 v4 v12 h fun h=>
 Iz TT [.c v4 42] h
theorem Zj(H:An disp)(hd:1<=d)(v0 v1:EV)(h:Aa):Ad TT disp K d false 54 [v0,v1] h=Kx K v0 v1 h:=
 Cp (H.bare (by kernel_rfl)) hd (by kernel_rfl) (fun d hd=>rfl) (fun d c r=>rfl) (fun d c r=>by kernel_rfl)
def Lv(K:Nat)(v6 v7:EV)(h:Aa):R:=
 Ck 5 v7 h fun v23=>
 I9 5 v6 v23 h fun h=>
 Iz TT [.c v6 33] h
def Q4(K:Nat)(ih1_:EV->EV->EV->EV->Aa->R)(v0 v6 v7 v8:EV)(h:Aa):R:=
 Aq Hj (bin TT .add 3) v8 (.int .i64 1) fun v16=>
 ih1_ v0 v6 v7 v16 h
def Qw(K:Nat)(ih1_:EV->EV->EV->EV->Aa->R)(v0 v6 v7 v8:EV)(h:Aa):R:=
 Ap 0 v7 fun v17=>
 Ao v17 h fun v18=>
 C1 (G3 [(0,1),(1,1),(2,1),(3,1)]) [.Af,(.int .i64 0),(.int .i64 0),(.bool false)] [] fun v19=>
 Aj (B3 [.Af,(.int .i64 0),(.int .i64 0),(.bool false)] 215 4 1 [(0,v19)] h) fun v20 h=>
 Aj (Da 215 4 v18 v20 h) fun v21 h=>
 Ap 0 v7 fun v22=>
 I9 1 v22 v21 h fun h=>
 Q4 K ih1_ v0 v6 v7 v8 h
def C2(K:Nat):Nat->EV->EV->EV->EV->Aa->R
 | 0=>fun _ _ _ _ _=>none
 | m+1=>fun v0 v6 v7 v8 h=>
  Aq Gr (bin TT .lss 3) v8 v0 fun v14=>
  D8 v14
  (Qw K (C2 K m) v0 v6 v7 v8 h)
  (Lv K v6 v7 h)
def Ku(K:Nat)(v0 v1 v2:EV)(h:Aa):R:=
 Kn (.cells [.Af,(.int .i64 0),(.int .i64 0),(.int .i64 0),(.bool false)] 33) h fun v6 h=>
 C1 (G3 [(0,1),(1,1),(2,1),(3,1),(4,1)]) [.Af,(.int .i64 0),(.int .i64 0),(.int .i64 0),(.bool false)] [(1,v1),(2,v2)] fun v11=>
 Kn (.cells [.Af,(.int .i64 0),(.int .i64 0),(.int .i64 0),(.bool false)] 33) h fun v7 h=>
 I9 5 v7 v11 h fun h=>
 C2 K K v0 v6 v7 (.int .i64 0) h
abbrev Adv(K:Nat)(c:Ac):Ac:=c
theorem X6(c c' r:Ac)(K:Nat)(m:Nat):G2 (fun ih=>Fq TT (Adv K c) c' r K (nOf TT 55) (Eg TT 55) (Ph TT 55 [true,true,false,true,false]) [(0,fun ρ h=>Lv K (ρ 6) (ρ 7) h)] ih) m=fun ρ h=>C2 K m (ρ 0) (ρ 6) (ρ 7) (ρ 8) h:=
 Cj (E:=fun m ρ h=>C2 K m (ρ 0) (ρ 6) (ρ 7) (ρ 8) h) rfl (fun m=>Pm fun ρ h=>by
  show _=C2 K (m+1) (ρ 0) (ρ 6) (ρ 7) (ρ 8) h
  rw[C2];kernel_rfl) m
theorem Z6(H:An disp)(hd:1<=d)(v0 v1 v2:EV)(h:Aa):Ad TT disp K d false 55 [v0,v1,v2] h=Ku K v0 v1 v2 h:=
 Cp (H.bare (by kernel_rfl)) hd (by kernel_rfl) (fun d hd=>rfl) (fun d c r=>(cut [true,true,false,true,false] (X6 (Ad TT disp K d false) c r K K) (by kernel_rfl) (by kernel_rfl) rfl)) (fun d c r=>by kernel_rfl)
def H3(c r:Ac)(K:Nat)(v6:EV)(h:Aa):R:=
 some (v6,h)
def Ti(c r:Ac)(K:Nat)(v0:EV)(h:Aa):R:=
 Bg v0 fun v9=>
 Ap 265 v9 fun v10=>
 Ao v10 h fun v11=>
 Bg v0 fun v13=>
 Ap 266 v13 fun v14=>
 Ao v14 h fun v15=>
 Bg v0 fun v17=>
 Ap 267 v17 fun v18=>
 Ao v18 h fun v19=>
 Bg v0 fun v23=>
 Ap 265 v23 fun v24=>
 I9 1 v24 (.int .i64 (-1)) h fun h=>
 Bg v0 fun v25=>
 Ap 266 v25 fun v26=>
 I9 1 v26 (.int .i64 (-1)) h fun h=>
 Bg v0 fun v27=>
 Ap 267 v27 fun v28=>
 I9 1 v28 (.int .i64 0) h fun h=>
 Aj (c 123 [v0,v11,v19] h) fun v32 h=>
 Aj (c 123 [v0,v15,v19] h) fun v36 h=>
 Aq G7 (bin TT .eql 28) v32 (.int .i64 0) fun v38=>
 D8 v38
 (H3 c r K v36 h)
 (H3 c r K v32 h)
theorem Yb(H:An disp)(hd:0<=d)(v0:EV)(h:Aa):Ad TT disp K (d+1) false 70 [v0] h=Ti (Ad TT disp K d false) (Ad TT disp K d true) K v0 h:=
 Rc (H.bare (by kernel_rfl)) (by kernel_rfl) rfl rfl (by kernel_rfl)
def Ky(K:Nat)(v7 v14:EV)(h:Aa):R:=
 Bu v7 v14 (.bool false) fun v15=>
 some (v15,h)
def Gd(K:Nat)(v0 v1:EV)(h:Aa):R:=
 Aq V5 (bin TT .geq 3) v1 (.int .i64 0) fun v6=>
 Ar (Au v6 true)
 (Bg v0 fun v10=>
 Ap 0 v10 fun v11=>
 Ao v11 h fun v12=>
 H8 v12 fun v13=>
 Aq Gr (bin TT .lss 3) v1 v13 fun v14=>
 Ky K v6 v14 h)
 (Ky K v6 (.tuple []) h)
theorem J7(H:An disp)(hd:1<=d)(v0 v1:EV)(h:Aa):Ad TT disp K d false 85 [v0,v1] h=Gd K v0 v1 h:=
 Cp (H.bare (by kernel_rfl)) hd (by kernel_rfl) (fun d hd=>rfl) (fun d c r=>rfl) (fun d c r=>by kernel_rfl)
def Cb(K:Nat)(v0:EV)(h:Aa):R:=
 Bg v0 fun v4=>
 Ap 3 v4 fun v5=>
 Ao v5 h fun v6=>
 some (v6,h)
theorem Ft(H:An disp)(hd:1<=d)(v0:EV)(h:Aa):Ad TT disp K d false 86 [v0] h=Cb K v0 h:=
 Cp (H.bare (by kernel_rfl)) hd (by kernel_rfl) (fun d hd=>rfl) (fun d c r=>rfl) (fun d c r=>by kernel_rfl)
def R0(K:Nat)(ih0_:EV->EV->EV->Aa->R)(v0 v1 v6:EV)(h:Aa):R:=
 Aq Hj (bin TT .add 3) v6 (.int .i64 1) fun v16=>
 ih0_ v0 v1 v16 h
def Rx(K:Nat)(ih0_:EV->EV->EV->Aa->R)(v0 v1 v6:EV)(h:Aa):R:=
 Bg v0 fun v18=>
 Ap 3 v18 fun v19=>
 Ao v19 h fun v20=>
 C1 (G3 [(0,1),(1,1)]) [(.int .i64 0),(.int .i64 0)] [(0,v1),(1,v6)] fun v23=>
 Aj (builtin TT .delete #[164,243] [v20,v23] h) fun _ h=>
 R0 K ih0_ v0 v1 v6 h
def Dh(K:Nat):Nat->EV->EV->EV->Aa->R
 | 0=>fun _ _ _ _=>none
 | m+1=>fun v0 v1 v6 h=>
  Bg v0 fun v10=>
  Ap 0 v10 fun v11=>
  Ao v11 h fun v12=>
  Aj (Ig K v12 h) fun v13 h=>
  Aq Gr (bin TT .lss 3) v6 v13 fun v14=>
  D8 v14
  (Rx K (Dh K m) v0 v1 v6 h)
  (some (.tuple [],h))
def Qf(K:Nat)(v0 v1 v2:EV)(h:Aa):R:=
 Dh K K v0 v1 v2 h
abbrev Aej(K:Nat)(c:Ac):Ac:=(w1 75 (Ig K) c)
theorem Ze(c c' r:Ac)(K:Nat)(m:Nat):G2 (fun ih=>Fq TT (Aej K c) c' r K (nOf TT 88) (Eg TT 88) (Ph TT 88 [true,false]) [(0,Eg TT 88)] ih) m=fun ρ h=>Dh K m (ρ 0) (ρ 1) (ρ 6) h:=
 Cj (E:=fun m ρ h=>Dh K m (ρ 0) (ρ 1) (ρ 6) h) rfl (fun m=>Pm fun ρ h=>by
  show _=Dh K (m+1) (ρ 0) (ρ 1) (ρ 6) h
  rw[Dh];kernel_rfl) m
theorem Abi(H:An disp)(hd:2<=d)(v0 v1 v2:EV)(h:Aa):Ad TT disp K d false 88 [v0,v1,v2] h=Qf K v0 v1 v2 h:=
 Cp (H.bare (by kernel_rfl)) hd (by kernel_rfl) (fun d hd=>(W1 (Sb H (lq hd rfl)) rfl)) (fun d c r=>(cut [true,false] (Ze (Ad TT disp K d false) c r K K) (by kernel_rfl) (by kernel_rfl) rfl)) (fun d c r=>by kernel_rfl)
def J9(K:Nat)(v0:EV)(h:Aa):R:=
 Bg v0 fun v4=>
 Ap 4 v4 fun v5=>
 Ao v5 h fun v6=>
 some (v6,h)
theorem Ada(H:An disp)(hd:1<=d)(v0:EV)(h:Aa):Ad TT disp K d false 166 [v0] h=J9 K v0 h:=
 Cp (H.bare (by kernel_rfl)) hd (by kernel_rfl) (fun d hd=>rfl) (fun d c r=>rfl) (fun d c r=>by kernel_rfl)
def Jg(K:Nat)(v0:EV)(h:Aa):R:=
 Bg v0 fun v4=>
 Ap 3 v4 fun v5=>
 Ao v5 h fun v6=>
 some (v6,h)
theorem Aa8(H:An disp)(hd:1<=d)(v0:EV)(h:Aa):Ad TT disp K d false 167 [v0] h=Jg K v0 h:=
 Cp (H.bare (by kernel_rfl)) hd (by kernel_rfl) (fun d hd=>rfl) (fun d c r=>rfl) (fun d c r=>by kernel_rfl)
def Ea(K:Nat)(v0:EV)(h:Aa):R:=
 Aj (B3 (List.replicate 4 (.int .i64 0)++List.replicate 64 (.int .u8 0)) 105 68 0 [] h) fun v5 h=>
 Aj (Da 105 68 v5 v0 h) fun v7 h=>
 some (v7,h)
def B0(K:Nat)(v0:EV)(h:Aa):R:=
 Aq G7 (bin TT .eql 101) v0 .Af fun v4=>
 D8 v4
 (some (.Af,h))
 (Ea K v0 h)
theorem Mk(H:An disp)(hd:1<=d)(v0:EV)(h:Aa):Ad TT disp K d false 168 [v0] h=B0 K v0 h:=
 Cp (H.bare (by kernel_rfl)) hd (by kernel_rfl) (fun d hd=>rfl) (fun d c r=>rfl) (fun d c r=>by kernel_rfl)
def Dl(K:Nat)(v0:EV)(h:Aa):R:=
 Bg v0 fun v4=>
 Ap 0 v4 fun v5=>
 Ao v5 h fun v6=>
 H8 v6 fun v7=>
 Bg v0 fun v8=>
 Ap 2 v8 fun v9=>
 I9 1 v9 v7 h fun h=>
 some (.tuple [],h)
theorem P8(H:An disp)(hd:1<=d)(v0:EV)(h:Aa):Ad TT disp K d false 170 [v0] h=Dl K v0 h:=
 Cp (H.bare (by kernel_rfl)) hd (by kernel_rfl) (fun d hd=>rfl) (fun d c r=>rfl) (fun d c r=>by kernel_rfl)
def Ou(K:Nat)(v0 v1:EV)(h:Aa):R:=
 Bg v0 fun v6=>
 Ap 0 v6 fun v7=>
 Ao v7 h fun v8=>
 Aj (Da 5 1 v8 v1 h) fun v10 h=>
 Bg v0 fun v11=>
 Ap 0 v11 fun v12=>
 I9 1 v12 v10 h fun h=>
 some (.tuple [],h)
theorem Aep(H:An disp)(hd:1<=d)(v0 v1:EV)(h:Aa):Ad TT disp K d false 174 [v0,v1] h=Ou K v0 v1 h:=
 Cp (H.bare (by kernel_rfl)) hd (by kernel_rfl) (fun d hd=>rfl) (fun d c r=>rfl) (fun d c r=>by kernel_rfl)
def Yf(K:Nat)(v0:EV)(h:Aa):R:=
 Aj (B3 [(.int .u8 0)] 5 1 0 [] h) fun v8 h=>
 Bg v0 fun v10=>
 Ap 0 v10 fun v11=>
 Ao v11 h fun v12=>
 Aj (Da 5 1 v8 v12 h) fun v13 h=>
 some (.tuple [v13,(.int .i64 0)],h)
def Lr(K:Nat)(v0:EV)(h:Aa):R:=
 Bg v0 fun v5=>
 Ap 1 v5 fun v6=>
 Ao v6 h fun v7=>
 D8 v7
 (some (.tuple [.Af,(.int .i64 13)],h))
 (Yf K v0 h)
theorem Wq(H:An disp)(hd:1<=d)(v0:EV)(h:Aa):Ad TT disp K d false 175 [v0] h=Lr K v0 h:=
 Cp (H.bare (by kernel_rfl)) hd (by kernel_rfl) (fun d hd=>rfl) (fun d c r=>rfl) (fun d c r=>by kernel_rfl)
def Ov(K:Nat)(v10 v13:EV)(h:Aa):R:=
 Bu v10 v13 (.bool false) fun v14=>
 some (v14,h)
def Jp(K:Nat)(v0 v1 v2:EV)(h:Aa):R:=
 Aq V5 (bin TT .geq 3) v0 v1 fun v9=>
 Ar (Au v9 true)
 (Aq Ahs (bin TT .leq 3) v0 v2 fun v13=>
 Ov K v9 v13 h)
 (Ov K v9 (.tuple []) h)
theorem Ai4(H:An disp)(hd:1<=d)(v0 v1 v2:EV)(h:Aa):Ad TT disp K d false 176 [v0,v1,v2] h=Jp K v0 v1 v2 h:=
 Cp (H.bare (by kernel_rfl)) hd (by kernel_rfl) (fun d hd=>rfl) (fun d c r=>rfl) (fun d c r=>by kernel_rfl)
def Mr(K:Nat)(v0 v1 v2:EV)(h:Aa):R:=
 Dn 72 v0 h fun v3 h=>
 Oc (bin TT .shr 70) v1 (.int .u64 8) fun v8=>
 Qx .u8 v1 fun v10=>
 Oc (bin TT .xor 5) v10 v2 fun v12=>
 Aa7 256 1 v3 v12 fun v13=>
 Ao v13 h fun v14=>
 Oc (bin TT .xor 70) v8 v14 fun v15=>
 some (v15,h)
theorem Afk(H:An disp)(hd:1<=d)(v0 v1 v2:EV)(h:Aa):Ad TT disp K d false 178 [v0,v1,v2] h=Mr K v0 v1 v2 h:=
 Cp (H.bare (by kernel_rfl)) hd (by kernel_rfl) (fun d hd=>rfl) (fun d c r=>rfl) (fun d c r=>by kernel_rfl)
def J2(c r:Ac)(K:Nat)(v0 v6 v13:EV)(h:Aa):R:=
 Bu v6 v13 (.bool false) fun v14=>
 D8 v14
 (Aj (c 118 [v0] h) fun v16 h=>
 some (.tuple [],h))
 (some (.tuple [],h))
def Yd(c r:Ac)(K:Nat)(v0 v1:EV)(h:Aa):R:=
 Aq V5 (bin TT .geq 3) v1 (.int .i64 0) fun v5=>
 Ar (Au v5 true)
 (Bg v0 fun v9=>
 Ap 0 v9 fun v10=>
 Ao v10 h fun v11=>
 Aj (Jc K v11 h) fun v12 h=>
 Aq Gr (bin TT .lss 3) v1 v12 fun v13=>
 J2 c r K v0 v5 v13 h)
 (J2 c r K v0 v5 (.tuple []) h)
theorem Abs(H:An disp)(hd:1<=d)(v0 v1:EV)(h:Aa):Ad TT disp K (d+1) false 179 [v0,v1] h=Yd (Ad TT disp K d false) (Ad TT disp K d true) K v0 v1 h:=
 Rc (H.bare (by kernel_rfl)) (by kernel_rfl) (W1 (Qz H (lq hd rfl)) rfl) rfl (by kernel_rfl)
def Ot(K:Nat)(v5 v7:EV)(h:Aa):R:=
 Bu v5 v7 (.bool false) fun v8=>
 some (v8,h)
def Pw(K:Nat)(v0:EV)(h:Aa):R:=
 Aq V5 (bin TT .geq 3) v0 (.int .i64 1) fun v4=>
 Ar (Au v4 true)
 (Aq Ahs (bin TT .leq 3) v0 (.int .i64 7) fun v7=>
 Ot K v4 v7 h)
 (Ot K v4 (.tuple []) h)
theorem Ai1(H:An disp)(hd:1<=d)(v0:EV)(h:Aa):Ad TT disp K d false 209 [v0] h=Pw K v0 h:=
 Cp (H.bare (by kernel_rfl)) hd (by kernel_rfl) (fun d hd=>rfl) (fun d c r=>rfl) (fun d c r=>by kernel_rfl)
def Adf(K:Nat)(v3:EV)(h:Aa):R:=
 some (v3,h)
def Ng(K:Nat)(v3 v13 v15:EV)(h:Aa):R:=
 Bu v13 (.bool true) v15 fun v16=>
 D8 v16
 (some ((.int .i64 8),h))
 (Adf K v3 h)
def Nf(K:Nat)(v0 v3:EV)(h:Aa):R:=
 Aq Gr (bin TT .lss 3) v0 (.int .i64 0) fun v12=>
 Ar (Au v12 false)
 (Aq Ye (bin TT .gtr 3) v3 (.int .i64 7) fun v15=>
 Ng K v3 v12 v15 h)
 (Ng K v3 v12 (.tuple []) h)
def Adl(K:Nat)(ih3_:EV->EV->Aa->R)(v0 v3:EV)(h:Aa):R:=
 Oc (bin TT .shr 3) v0 (.int .u64 8) fun v8=>
 Aq Hj (bin TT .add 3) v3 (.int .i64 1) fun v10=>
 ih3_ v8 v10 h
def E4(K:Nat):Nat->EV->EV->Aa->R
 | 0=>fun _ _ _=>none
 | m+1=>fun v0 v3 h=>
  Oc (bin TT .shr 3) v0 (.int .u64 8) fun v5=>
  Aq Ye (bin TT .gtr 3) v5 (.int .i64 0) fun v6=>
  D8 v6
  (Adl K (E4 K m) v0 v3 h)
  (Nf K v0 v3 h)
def Mn(K:Nat)(v0:EV)(h:Aa):R:=
 E4 K K v0 (.int .i64 1) h
abbrev Ang(K:Nat)(c:Ac):Ac:=c
theorem Ai8(c c' r:Ac)(K:Nat)(m:Nat):G2 (fun ih=>Fq TT (Ang K c) c' r K (nOf TT 210) (Eg TT 210) (Ph TT 210 [true,true,false,false]) [(0,fun ρ h=>Nf K (ρ 0) (ρ 3) h)] ih) m=fun ρ h=>E4 K m (ρ 0) (ρ 3) h:=
 Cj (E:=fun m ρ h=>E4 K m (ρ 0) (ρ 3) h) rfl (fun m=>Pm fun ρ h=>by
  show _=E4 K (m+1) (ρ 0) (ρ 3) h
  rw[E4];kernel_rfl) m
theorem Akk(H:An disp)(hd:1<=d)(v0:EV)(h:Aa):Ad TT disp K d false 210 [v0] h=Mn K v0 h:=
 Cp (H.bare (by kernel_rfl)) hd (by kernel_rfl) (fun d hd=>rfl) (fun d c r=>(cut [true,true,false,false] (Ai8 (Ad TT disp K d false) c r K K) (by kernel_rfl) (by kernel_rfl) rfl)) (fun d c r=>by kernel_rfl)
def Ry(K:Nat)(v0:EV)(h:Aa):R:=
 Bg v0 fun v16=>
 Ap 3 v16 fun v17=>
 Ao v17 h fun v18=>
 Aq Hj (bin TT .add 3) v18 (.int .i64 1) fun v19=>
 Bg v0 fun v20=>
 Ap 3 v20 fun v21=>
 I9 1 v21 v19 h fun h=>
 some ((.int .i64 0),h)
def Hl(K:Nat)(v0 v1:EV)(h:Aa):R:=
 Bg v0 fun v7=>
 Ap 4 v7 fun v8=>
 Ao v8 h fun v9=>
 D8 v9
 (some ((.int .i64 34),h))
 (Aj (Gd K v0 v1 h) fun v13 h=>
 Lf v13 fun v14=>
 D8 v14
 (some ((.int .i64 13),h))
 (Ry K v0 h))
theorem Lx(H:An disp)(hd:2<=d)(v0 v1:EV)(h:Aa):Ad TT disp K d false 212 [v0,v1] h=Hl K v0 v1 h:=
 Cp (H.bare (by kernel_rfl)) hd (by kernel_rfl) (fun d hd=>(W2 (J7 H (lq hd rfl)) rfl)) (fun d c r=>rfl) (fun d c r=>by kernel_rfl)
def Lu(K:Nat)(v3:EV)(h:Aa):R:=
 some (v3,h)
def It(K:Nat)(ih1_:EV->EV->EV->EV->Aa->R)(v3 v9 v10 v11:EV)(h:Aa):R:=
 Aq Hj (bin TT .add 3) v11 (.int .i64 1) fun v20=>
 ih1_ v3 v9 v10 v20 h
def Q1(K:Nat)(ih1_:EV->EV->EV->EV->Aa->R)(v3 v9 v10 v11:EV)(h:Aa):R:=
 Ib 1 v9 v11 fun v13=>
 Ao v13 h fun v14=>
 Aj (Cb K v14 h) fun v16 h=>
 Aq G7 (bin TT .eql 3) v16 (.int .i64 1) fun v17=>
 D8 v17
 (Aq Hj (bin TT .add 3) v3 (.int .i64 1) fun v19=>
 It K ih1_ v19 v9 v10 v11 h)
 (It K ih1_ v3 v9 v10 v11 h)
def C3(K:Nat):Nat->EV->EV->EV->EV->Aa->R
 | 0=>fun _ _ _ _ _=>none
 | m+1=>fun v3 v9 v10 v11 h=>
  Aq Gr (bin TT .lss 3) v11 v10 fun v12=>
  D8 v12
  (Q1 K (C3 K m) v3 v9 v10 v11 h)
  (Lu K v3 h)
def K7(K:Nat)(v0:EV)(h:Aa):R:=
 Bg v0 fun v7=>
 Ap 0 v7 fun v8=>
 Ao v8 h fun v9=>
 H8 v9 fun v10=>
 C3 K K (.int .i64 0) v9 v10 (.int .i64 0) h
abbrev Adn(K:Nat)(c:Ac):Ac:=(w1 86 (Cb K) c)
theorem Xs(c c' r:Ac)(K:Nat)(m:Nat):G2 (fun ih=>Fq TT (Adn K c) c' r K (nOf TT 222) (Eg TT 222) (Ph TT 222 [true,true,false,true,false]) [(0,fun ρ h=>Lu K (ρ 3) h)] ih) m=fun ρ h=>C3 K m (ρ 3) (ρ 9) (ρ 10) (ρ 11) h:=
 Cj (E:=fun m ρ h=>C3 K m (ρ 3) (ρ 9) (ρ 10) (ρ 11) h) rfl (fun m=>Pm fun ρ h=>by
  show _=C3 K (m+1) (ρ 3) (ρ 9) (ρ 10) (ρ 11) h
  rw[C3];kernel_rfl) m
theorem Aae(H:An disp)(hd:2<=d)(v0:EV)(h:Aa):Ad TT disp K d false 222 [v0] h=K7 K v0 h:=
 Cp (H.bare (by kernel_rfl)) hd (by kernel_rfl) (fun d hd=>(W1 (Ft H (lq hd rfl)) rfl)) (fun d c r=>(cut [true,true,false,true,false] (Xs (Ad TT disp K d false) c r K K) (by kernel_rfl) (by kernel_rfl) rfl)) (fun d c r=>by kernel_rfl)
def Sf(c r:Ac)(K:Nat)(v0 v1 v2 v7:EV)(h:Aa):R:=
 Bg v0 fun v14=>
 Ap 0 v14 fun v15=>
 Ao v15 h fun v16=>
 Ib 1 v16 v1 fun v18=>
 Ao v18 h fun v19=>
 Aj (c 238 [v19,v2,(.func 239 [] [v7])] h) fun v22 h=>
 some (v22,h)
def W6(c r:Ac)(K:Nat)(v0 v1 v2 v3:EV)(h:Aa):R:=
 Dn 103 v3 h fun v7 h=>
 Aj (Gd K v0 v1 h) fun v11 h=>
 Lf v11 fun v12=>
 D8 v12
 (some ((.int .i64 13),h))
 (Sf c r K v0 v1 v2 v7 h)
theorem Abh(H:An disp)(hd:1<=d)(v0 v1 v2 v3:EV)(h:Aa):Ad TT disp K (d+1) false 225 [v0,v1,v2,v3] h=W6 (Ad TT disp K d false) (Ad TT disp K d true) K v0 v1 v2 v3 h:=
 Rc (H.bare (by kernel_rfl)) (by kernel_rfl) (W2 (J7 H (lq hd rfl)) rfl) rfl (by kernel_rfl)
def N7(K:Nat)(v2 v4:EV)(h:Aa):R:=
 Ck 64 v2 h fun v18=>
 I9 64 v4 v18 h fun h=>
 Iz TT [.c v4 103] h
def Tj(K:Nat)(ih1_:EV->EV->EV->EV->Aa->R)(v2 v3 v4 v6:EV)(h:Aa):R:=
 Aq Hj (bin TT .add 3) v6 (.int .i64 1) fun v17=>
 ih1_ v2 v3 v4 v17 h
def T9(K:Nat)(ih1_:EV->EV->EV->EV->Aa->R)(v2 v3 v4 v6:EV)(h:Aa):R:=
 Gs h fun base s=>
 Aa7 64 1 v2 v6 fun v10=>
 Bn 2 3 base v10 s fun s=>Ao v10 h fun v11=>
 Aa7 64 1 v3 v6 fun v13=>
 Bn 5 24 base v13 s fun s=>Ao v13 h fun v14=>
 Oc (bin TT .xor 5) v11 v14 fun v15=>
 Aa7 64 1 v2 v6 fun v16=>
 Ahp 8 255 v16 s fun s=>I9 1 v16 v15 h fun h=>
 Tj K ih1_ v2 v3 v4 v6 h
def Du(K:Nat):Nat->EV->EV->EV->EV->Aa->R
 | 0=>fun _ _ _ _ _=>none
 | m+1=>fun v2 v3 v4 v6 h=>
  Aq Gr (bin TT .lss 3) v6 (.int .i64 64) fun v7=>
  D8 v7
  (T9 K (Du K m) v2 v3 v4 v6 h)
  (N7 K v2 v4 h)
def Kg(K:Nat)(v0 v1:EV)(h:Aa):R:=
 Dn 103 v0 h fun v2 h=>
 Dn 103 v1 h fun v3 h=>
 Kn (.cells (List.replicate 64 (.int .u8 0)) 103) h fun v4 h=>
 Du K K v2 v3 v4 (.int .i64 0) h
abbrev Afq(K:Nat)(c:Ac):Ac:=c
theorem Abl(c c' r:Ac)(K:Nat)(m:Nat):G2 (fun ih=>Fq TT (Afq K c) c' r K (nOf TT 226) (Eg TT 226) (Ph TT 226 [true,false,true,false]) [(0,fun ρ h=>N7 K (ρ 2) (ρ 4) h)] ih) m=fun ρ h=>Du K m (ρ 2) (ρ 3) (ρ 4) (ρ 6) h:=
 Cj (E:=fun m ρ h=>Du K m (ρ 2) (ρ 3) (ρ 4) (ρ 6) h) rfl (fun m=>Pm fun ρ h=>by
  show _=Du K (m+1) (ρ 2) (ρ 3) (ρ 4) (ρ 6) h
  rw[Du];kernel_rfl) m
theorem Rv(H:An disp)(hd:1<=d)(v0 v1:EV)(h:Aa):Ad TT disp K d false 226 [v0,v1] h=Kg K v0 v1 h:=
 Cp (H.bare (by kernel_rfl)) hd (by kernel_rfl) (fun d hd=>rfl) (fun d c r=>(cut [true,false,true,false] (Abl (Ad TT disp K d false) c r K K) (by kernel_rfl) (by kernel_rfl) rfl)) (fun d c r=>by kernel_rfl)
def Ch(K:Nat)(v0 v1 v6 v15:EV)(h:Aa):R:=
 Bu v6 (.bool true) v15 fun v16=>
 D8 v16
 (Bg v0 fun v19=>
 Ap 3 v19 fun v20=>
 I9 1 v20 v1 h fun h=>
 some (.tuple [],h))
 (some (.tuple [],h))
def Cg(K:Nat)(v0 v1 v6 v9 v14:EV)(h:Aa):R:=
 Ar (Au v6 false)
 (Bu v9 v14 (.bool false) fun v15=>
 Ch K v0 v1 v6 v15 h)
 (Ch K v0 v1 v6 (.tuple []) h)
def C8(K:Nat)(v0 v1 v6 v9:EV)(h:Aa):R:=
 Ar (Au v9 true)
 (Bg v0 fun v11=>
 Ap 3 v11 fun v12=>
 Ao v12 h fun v13=>
 Aq Ka (bin TT .neq 3) v13 (.int .i64 4) fun v14=>
 Cg K v0 v1 v6 v9 v14 h)
 (Cg K v0 v1 v6 v9 (.tuple []) h)
def Fi(K:Nat)(v0 v1:EV)(h:Aa):R:=
 Aq G7 (bin TT .eql 3) v1 (.int .i64 4) fun v5=>
 Ar (Au v5 false)
 (Aq G7 (bin TT .eql 3) v1 (.int .i64 3) fun v8=>
 C8 K v0 v1 v5 v8 h)
 (C8 K v0 v1 v5 (.tuple []) h)
theorem Qv(H:An disp)(hd:1<=d)(v0 v1:EV)(h:Aa):Ad TT disp K d false 227 [v0,v1] h=Fi K v0 v1 h:=
 Cp (H.bare (by kernel_rfl)) hd (by kernel_rfl) (fun d hd=>rfl) (fun d c r=>rfl) (fun d c r=>by kernel_rfl)
def Jn(K:Nat)(h:Aa):R:=
 some ((.int .i64 0),h)
def Co(K:Nat)(v0:EV)(h:Aa):R:=
 Bg v0 fun v4=>
 Ap 3 v4 fun v5=>
 Ao v5 h fun v6=>
 Aq G7 (bin TT .eql 3) v6 (.int .i64 4) fun v8=>
 D8 v8
 (some ((.int .i64 32),h))
 (Aq G7 (bin TT .eql 3) v6 (.int .i64 3) fun v10=>
 D8 v10
 (some ((.int .i64 30),h))
 (Jn K h))
theorem Fk(H:An disp)(hd:1<=d)(v0:EV)(h:Aa):Ad TT disp K d false 237 [v0] h=Co K v0 h:=
 Cp (H.bare (by kernel_rfl)) hd (by kernel_rfl) (fun d hd=>rfl) (fun d c r=>rfl) (fun d c r=>by kernel_rfl)
def Jr(c r:Ac)(K:Nat)(v0 v1 v2:EV)(h:Aa):R:=
 Gs h fun base s=>
 Bg v0 fun v19=>
 Ap 0 v19 fun v20=>
 Bn 3 7 base v20 s fun s=>Ao v20 h fun v21=>
 Bg v0 fun v25=>
 Ap 0 v25 fun v26=>
 Bn 9 448 base v26 s fun s=>Ao v26 h fun v27=>
 Ib 64 v27 v1 fun v29=>
 Bn 12 4032 base v29 s fun s=>Ck 64 v29 h fun v30=>
 Ct 13 8160 s h (fun h=>(P0 c r v2 [v30] h)) fun v31 h s=>
 Ib 64 v21 v1 fun v32=>
 Ahp 15 32767 v32 s fun s=>I9 64 v32 v31 h fun h=>
 some ((.int .i64 0),h)
def Cv(c r:Ac)(K:Nat)(v0 v1 v2 v9 v16:EV)(h:Aa):R:=
 Bu v9 (.bool true) v16 fun v17=>
 D8 v17
 (some ((.int .i64 31),h))
 (Jr c r K v0 v1 v2 h)
def Hh(c r:Ac)(K:Nat)(v0 v1 v2:EV)(h:Aa):R:=
 Aq Gr (bin TT .lss 3) v1 (.int .i64 0) fun v8=>
 Ar (Au v8 false)
 (Bg v0 fun v12=>
 Ap 0 v12 fun v13=>
 Ao v13 h fun v14=>
 H8 v14 fun v15=>
 Aq V5 (bin TT .geq 3) v1 v15 fun v16=>
 Cv c r K v0 v1 v2 v8 v16 h)
 (Cv c r K v0 v1 v2 v8 (.tuple []) h)
theorem Pj(H:An disp)(hd:0<=d)(v0 v1 v2:EV)(h:Aa):Ad TT disp K (d+1) false 238 [v0,v1,v2] h=Hh (Ad TT disp K d false) (Ad TT disp K d true) K v0 v1 v2 h:=
 Rc (H.bare (by kernel_rfl)) (by kernel_rfl) rfl rfl (by kernel_rfl)
def T7(K:Nat)(v0 v1:EV)(h:Aa):R:=
 Dn 103 v0 h fun v2 h=>
 Kn (.cells (List.replicate 64 (.int .u8 0)) 103) h fun v3 h=>
 Ck 64 v2 h fun v4=>
 Ck 64 v1 h fun v5=>
 Aj (Kg K v4 v5 h) fun v6 h=>
 I9 64 v3 v6 h fun h=>
 Iz TT [.c v3 103] h
theorem Xt(H:An disp)(hd:2<=d)(v0 v1:EV)(h:Aa):Ad TT disp K d false 239 [v0,v1] h=T7 K v0 v1 h:=
 Cp (H.bare (by kernel_rfl)) hd (by kernel_rfl) (fun d hd=>(W2 (Rv H (lq hd rfl)) rfl)) (fun d c r=>rfl) (fun d c r=>by kernel_rfl)
def Sl(K:Nat)(v0 v1:EV)(h:Aa):R:=
 Bg v0 fun v10=>
 Ap 0 v10 fun v11=>
 Ao v11 h fun v12=>
 Ib 1 v12 v1 fun v14=>
 Ao v14 h fun v15=>
 Aj (Cb K v15 h) fun v16 h=>
 some (v16,h)
def F4(K:Nat)(v0 v1:EV)(h:Aa):R:=
 Aj (Gd K v0 v1 h) fun v7 h=>
 Lf v7 fun v8=>
 D8 v8
 (some ((.int .i64 4),h))
 (Sl K v0 v1 h)
theorem Qy(H:An disp)(hd:2<=d)(v0 v1:EV)(h:Aa):Ad TT disp K d false 37 [v0,v1] h=F4 K v0 v1 h:=
 Cp (H.bare (by kernel_rfl)) hd (by kernel_rfl) (fun d hd=>(W2 (J7 H (lq hd rfl)) (W1 (Ft H (lq hd rfl)) rfl))) (fun d c r=>rfl) (fun d c r=>by kernel_rfl)
def W9(c r:Ac)(K:Nat)(ih0_:EV->Aa->R)(v0:EV)(h:Aa):R:=
 Bg v0 fun v33=>
 Ap 1 v33 fun v34=>
 Ao v34 h fun v35=>
 Ib 68 v35 (.int .i64 0) fun v36=>
 Ck 68 v36 h fun v37=>
 Kn (.cells (List.replicate 4 (.int .i64 0)++List.replicate 64 (.int .u8 0)) 105) h fun v2 h=>
 I9 68 v2 v37 h fun h=>
 Bg v0 fun v40=>
 Ap 1 v40 fun v41=>
 Ao v41 h fun v42=>
 Arj 68 v42 (some (.int .i64 1)) none none fun v43=>
 Aj (B0 K v43 h) fun v44 h=>
 Bg v0 fun v45=>
 Ap 1 v45 fun v46=>
 I9 1 v46 v44 h fun h=>
 Ck 68 v2 h fun v48=>
 Aj (c 169 [v0,v48] h) fun v49 h=>
 ih0_ v0 h
def Hp(c r:Ac)(K:Nat)(ih0_:EV->Aa->R)(base:Nat)(s:DX)(v0 v17 v30:EV)(h:Aa):R:=
 Bu v17 v30 (.bool false) fun v31=>
 D8 v31
 (W9 c r K ih0_ v0 h)
 (some (.tuple [],h))
def Jm(c r:Ac)(K:Nat)(ih0_:EV->Aa->R)(base:Nat)(s:DX)(v0 v9 v15:EV)(h:Aa):R:=
 Bu v9 v15 (.bool false) fun v16=>
 Ar (Au v16 true)
 (Bg v0 fun v19=>
 Ap 1 v19 fun v20=>
 Bn 18 262143 base v20 s fun s=>Ao v20 h fun v21=>
 Ib 68 v21 (.int .i64 0) fun v22=>
 Ap 0 v22 fun v23=>
 Bn 21 2097151 base v23 s fun s=>Ao v23 h fun v24=>
 Bg v0 fun v26=>
 Ap 0 v26 fun v27=>
 Bn 25 29392895 base v27 s fun s=>Ao v27 h fun v28=>
 Ct 26 62947327 s h (fun h=>(Jg K v28 h)) fun v29 h s=>
 Aq Ahs (bin TT .leq 3) v24 v29 fun v30=>
 Hp c r K ih0_ base s v0 v16 v30 h)
 (Hp c r K ih0_ base s v0 v16 (.tuple []) h)
def Dz(c r:Ac)(K:Nat):Nat->EV->Aa->R
 | 0=>fun _ _=>none
 | m+1=>fun v0 h=>
  Gs h fun base s=>
  Bg v0 fun v4=>
  Ap 0 v4 fun v5=>
  Bn 3 7 base v5 s fun s=>Ao v5 h fun v6=>
  Ct 4 15 s h (fun h=>(J9 K v6 h)) fun v7 h s=>
  Lf v7 fun v8=>
  Ar (Au v8 true)
  (Bg v0 fun v11=>
  Ap 1 v11 fun v12=>
  Bn 10 1023 base v12 s fun s=>Ao v12 h fun v13=>
  H8 v13 fun v14=>
  Aq Ye (bin TT .gtr 3) v14 (.int .i64 0) fun v15=>
  Jm c r K (Dz c r K m) base s v0 v8 v15 h)
  (Jm c r K (Dz c r K m) base s v0 v8 (.tuple []) h)
def Am8(c r:Ac)(K:Nat)(v0:EV)(h:Aa):R:=
 Dz c r K K v0 h
abbrev Air(K:Nat)(c:Ac):Ac:=(w1 168 (B0 K) (w1 167 (Jg K) (w1 166 (J9 K) c)))
theorem Aeg(c r:Ac)(K:Nat)(m:Nat):G2 (fun ih=>Fq TT (Air K c) c r K (nOf TT 118) (Eg TT 118) (Ph TT 118 [false]) [(0,Eg TT 118)] ih) m=fun ρ h=>Dz c r K m (ρ 0) h:=
 Cj (E:=fun m ρ h=>Dz c r K m (ρ 0) h) rfl (fun m=>Pm fun ρ h=>by
  show _=Dz c r K (m+1) (ρ 0) h
  rw[Dz];kernel_rfl) m
theorem Agk(H:An disp)(hd:1<=d)(v0:EV)(h:Aa):Ad TT disp K (d+1) false 118 [v0] h=Am8 (Ad TT disp K d false) (Ad TT disp K d true) K v0 h:=
 Rc (H.bare (by kernel_rfl)) (by kernel_rfl) (W1 (Mk H (lq hd rfl)) (W1 (Aa8 H (lq hd rfl)) (W1 (Ada H (lq hd rfl)) rfl))) (cut [false] (Aeg (Ad TT disp K d false) (Ad TT disp K d true) K K) (by kernel_rfl) (by kernel_rfl) rfl) (by kernel_rfl)
def M8(K:Nat)(h:Aa):R:=
 some ((.int .i64 0),h)
def So(K:Nat)(ih1_:EV->EV->EV->Aa->R)(v19 v20 v21:EV)(h:Aa):R:=
 Aq Hj (bin TT .add 3) v21 (.int .i64 1) fun v27=>
 ih1_ v19 v20 v27 h
def Si(K:Nat)(ih1_:EV->EV->EV->Aa->R)(v19 v20 v21:EV)(h:Aa):R:=
 Ib 1 v19 v21 fun v23=>
 Ao v23 h fun v24=>
 Aj (Dl K v24 h) fun v26 h=>
 So K ih1_ v19 v20 v21 h
def Df(K:Nat):Nat->EV->EV->EV->Aa->R
 | 0=>fun _ _ _ _=>none
 | m+1=>fun v19 v20 v21 h=>
  Aq Gr (bin TT .lss 3) v21 v20 fun v22=>
  D8 v22
  (Si K (Df K m) v19 v20 v21 h)
  (M8 K h)
def Sr(K:Nat)(v0:EV)(h:Aa):R:=
 Bg v0 fun v10=>
 Ap 3 v10 fun v11=>
 Ao v11 h fun v12=>
 Aq Hj (bin TT .add 3) v12 (.int .i64 1) fun v13=>
 Bg v0 fun v14=>
 Ap 3 v14 fun v15=>
 I9 1 v15 v13 h fun h=>
 Bg v0 fun v17=>
 Ap 0 v17 fun v18=>
 Ao v18 h fun v19=>
 H8 v19 fun v20=>
 Df K K v19 v20 (.int .i64 0) h
def Ma(K:Nat)(v0:EV)(h:Aa):R:=
 Bg v0 fun v6=>
 Ap 4 v6 fun v7=>
 Ao v7 h fun v8=>
 D8 v8
 (some ((.int .i64 34),h))
 (Sr K v0 h)
abbrev Aed(K:Nat)(c:Ac):Ac:=(w1 170 (Dl K) c)
theorem Zq(c c' r:Ac)(K:Nat)(m:Nat):G2 (fun ih=>Fq TT (Aed K c) c' r K (nOf TT 119) (Eg TT 119) (Ph TT 119 [true,true,true,false,true,false]) [(0,fun ρ h=>M8 K h)] ih) m=fun ρ h=>Df K m (ρ 19) (ρ 20) (ρ 21) h:=
 Cj (E:=fun m ρ h=>Df K m (ρ 19) (ρ 20) (ρ 21) h) rfl (fun m=>Pm fun ρ h=>by
  show _=Df K (m+1) (ρ 19) (ρ 20) (ρ 21) h
  rw[Df];kernel_rfl) m
theorem Abn(H:An disp)(hd:2<=d)(v0:EV)(h:Aa):Ad TT disp K d false 119 [v0] h=Ma K v0 h:=
 Cp (H.bare (by kernel_rfl)) hd (by kernel_rfl) (fun d hd=>(W1 (P8 H (lq hd rfl)) rfl)) (fun d c r=>(cut [true,true,true,false,true,false] (Zq (Ad TT disp K d false) c r K K) (by kernel_rfl) (by kernel_rfl) rfl)) (fun d c r=>by kernel_rfl)
def Ed(K:Nat)(v21 v24:EV)(h:Aa):R:=
 Bu v21 v24 (.bool false) fun v25=>
 some (v25,h)
def Ff(K:Nat)(v1 v16 v19:EV)(h:Aa):R:=
 Bu v16 v19 (.bool false) fun v20=>
 Ar (Au v20 true)
 (Ap 4 v1 fun v22=>
 Ao v22 h fun v23=>
 Aj (Jp K v23 (.int .i64 0) (.int .i64 281474976710655) h) fun v24 h=>
 Ed K v20 v24 h)
 (Ed K v20 (.tuple []) h)
def He(K:Nat)(v1 v11 v14:EV)(h:Aa):R:=
 Bu v11 v14 (.bool false) fun v15=>
 Ar (Au v15 true)
 (Ap 3 v1 fun v17=>
 Ao v17 h fun v18=>
 Aj (Jp K v18 (.int .i64 1) (.int .i64 4294967295) h) fun v19 h=>
 Ff K v1 v15 v19 h)
 (Ff K v1 v15 (.tuple []) h)
def Jq(K:Nat)(v1 v6 v9:EV)(h:Aa):R:=
 Bu v6 v9 (.bool false) fun v10=>
 Ar (Au v10 true)
 (Ap 2 v1 fun v12=>
 Ao v12 h fun v13=>
 Aj (Jp K v13 (.int .i64 0) (.int .i64 65535) h) fun v14 h=>
 He K v1 v10 v14 h)
 (He K v1 v10 (.tuple []) h)
def L6(K:Nat)(v0:EV)(h:Aa):R:=
 Dn 120 v0 h fun v1 h=>
 Ap 0 v1 fun v3=>
 Ao v3 h fun v4=>
 Aj (Jp K v4 (.int .i64 1) (.int .i64 5) h) fun v5 h=>
 Ar (Au v5 true)
 (Ap 1 v1 fun v7=>
 Ao v7 h fun v8=>
 Aj (Jp K v8 (.int .i64 0) (.int .i64 65535) h) fun v9 h=>
 Jq K v1 v5 v9 h)
 (Jq K v1 v5 (.tuple []) h)
theorem Abg(H:An disp)(hd:2<=d)(v0:EV)(h:Aa):Ad TT disp K d false 129 [v0] h=L6 K v0 h:=
 Cp (H.bare (by kernel_rfl)) hd (by kernel_rfl) (fun d hd=>(W3 (Ai4 H (lq hd rfl)) rfl)) (fun d c r=>rfl) (fun d c r=>by kernel_rfl)
def Qh(K:Nat)(v1:EV)(h:Aa):R:=
 some (v1,h)
def Wh(K:Nat)(ih1_:EV->EV->EV->EV->EV->Aa->R)(v0 v1 v9 v10 v11:EV)(h:Aa):R:=
 Aq Hj (bin TT .add 3) v11 (.int .i64 1) fun v21=>
 ih1_ v0 v1 v9 v10 v21 h
def Wl(K:Nat)(ih1_:EV->EV->EV->EV->EV->Aa->R)(v0 v1 v9 v10 v11:EV)(h:Aa):R:=
 Ib 1 v9 v11 fun v13=>
 Ao v13 h fun v14=>
 Bg v0 fun v16=>
 Ck 256 v16 h fun v17=>
 Aj (Mr K v17 v1 v14 h) fun v20 h=>
 Wh K ih1_ v0 v20 v9 v10 v11 h
def E0(K:Nat):Nat->EV->EV->EV->EV->EV->Aa->R
 | 0=>fun _ _ _ _ _ _=>none
 | m+1=>fun v0 v1 v9 v10 v11 h=>
  Aq Gr (bin TT .lss 3) v11 v10 fun v12=>
  D8 v12
  (Wl K (E0 K m) v0 v1 v9 v10 v11 h)
  (Qh K v1 h)
def Vz(K:Nat)(v0 v1 v2:EV)(h:Aa):R:=
 H8 v2 fun v10=>
 E0 K K v0 v1 v2 v10 (.int .i64 0) h
abbrev Aiw(K:Nat)(c:Ac):Ac:=(w3 178 (Mr K) c)
theorem Aen(c c' r:Ac)(K:Nat)(m:Nat):G2 (fun ih=>Fq TT (Aiw K c) c' r K (nOf TT 132) (Eg TT 132) (Ph TT 132 [true,false,true,false]) [(0,fun ρ h=>Qh K (ρ 1) h)] ih) m=fun ρ h=>E0 K m (ρ 0) (ρ 1) (ρ 9) (ρ 10) (ρ 11) h:=
 Cj (E:=fun m ρ h=>E0 K m (ρ 0) (ρ 1) (ρ 9) (ρ 10) (ρ 11) h) rfl (fun m=>Pm fun ρ h=>by
  show _=E0 K (m+1) (ρ 0) (ρ 1) (ρ 9) (ρ 10) (ρ 11) h
  rw[E0];kernel_rfl) m
theorem Agi(H:An disp)(hd:2<=d)(v0 v1 v2:EV)(h:Aa):Ad TT disp K d false 132 [v0,v1,v2] h=Vz K v0 v1 v2 h:=
 Cp (H.bare (by kernel_rfl)) hd (by kernel_rfl) (fun d hd=>(W3 (Afk H (lq hd rfl)) rfl)) (fun d c r=>(cut [true,false,true,false] (Aen (Ad TT disp K d false) c r K K) (by kernel_rfl) (by kernel_rfl) rfl)) (fun d c r=>by kernel_rfl)
def Q9(K:Nat)(ih0_:EV->EV->EV->EV->Aa->R)(v0 v2 v18 v19:EV)(h:Aa):R:=
 Aq Hj (bin TT .add 3) v19 (.int .i64 1) fun v34=>
 ih0_ v0 v2 v18 v34 h
def Rf(K:Nat)(ih0_:EV->EV->EV->EV->Aa->R)(v0 v2 v18 v19:EV)(h:Aa):R:=
 Bg v0 fun v23=>
 Ap 0 v23 fun v24=>
 Ao v24 h fun v25=>
 Qx .u8 v2 fun v27=>
 Aj (B3 [(.int .u8 0)] 5 1 1 [(0,v27)] h) fun v28 h=>
 Aj (Da 5 1 v25 v28 h) fun v29 h=>
 Bg v0 fun v30=>
 Ap 0 v30 fun v31=>
 I9 1 v31 v29 h fun h=>
 Oc (bin TT .shr 3) v2 (.int .u64 8) fun v33=>
 Q9 K ih0_ v0 v33 v18 v19 h
def Dp(K:Nat):Nat->EV->EV->EV->EV->Aa->R
 | 0=>fun _ _ _ _ _=>none
 | m+1=>fun v0 v2 v18 v19 h=>
  Aq Gr (bin TT .lss 3) v19 v18 fun v20=>
  D8 v20
  (Rf K (Dp K m) v0 v2 v18 v19 h)
  (some (.tuple [],h))
def Q8(K:Nat)(v0 v1 v2:EV)(h:Aa):R:=
 Dp K K v0 v2 v1 (.int .i64 0) h
def Ic(K:Nat)(v0 v1 v2 v9 v13:EV)(h:Aa):R:=
 Bu v9 (.bool true) v13 fun v14=>
 D8 v14
 (Bg v0 fun v16=>
 Ap 1 v16 fun v17=>
 I9 1 v17 (.bool true) h fun h=>
 some (.tuple [],h))
 (Q8 K v0 v1 v2 h)
def Bf(K:Nat)(v0 v1 v2:EV)(h:Aa):R:=
 Aj (Pw K v1 h) fun v7 h=>
 Lf v7 fun v8=>
 Ar (Au v8 false)
 (Aj (Mn K v2 h) fun v11 h=>
 Aq Ye (bin TT .gtr 3) v11 v1 fun v13=>
 Ic K v0 v1 v2 v8 v13 h)
 (Ic K v0 v1 v2 v8 (.tuple []) h)
abbrev Akq(K:Nat)(c:Ac):Ac:=(w1 209 (Pw K) (w1 210 (Mn K) c))
theorem Afr(c c' r:Ac)(K:Nat)(m:Nat):G2 (fun ih=>Fq TT (Akq K c) c' r K (nOf TT 173) (Eg TT 173) (Ph TT 173 [true,true,false]) [(0,Eg TT 173)] ih) m=fun ρ h=>Dp K m (ρ 0) (ρ 2) (ρ 18) (ρ 19) h:=
 Cj (E:=fun m ρ h=>Dp K m (ρ 0) (ρ 2) (ρ 18) (ρ 19) h) rfl (fun m=>Pm fun ρ h=>by
  show _=Dp K (m+1) (ρ 0) (ρ 2) (ρ 18) (ρ 19) h
  rw[Dp];kernel_rfl) m
theorem L9(H:An disp)(hd:2<=d)(v0 v1 v2:EV)(h:Aa):Ad TT disp K d false 173 [v0,v1,v2] h=Bf K v0 v1 v2 h:=
 Cp (H.bare (by kernel_rfl)) hd (by kernel_rfl) (fun d hd=>(W1 (Ai1 H (lq hd rfl)) (W1 (Akk H (lq hd rfl)) rfl))) (fun d c r=>(cut [true,true,false] (Afr (Ad TT disp K d false) c r K K) (by kernel_rfl) (by kernel_rfl) rfl)) (fun d c r=>by kernel_rfl)
def Tz(c r:Ac)(K:Nat)(v0 v3:EV)(h:Aa):R:=
 Ap 2 v3 fun v18=>
 Ao v18 h fun v19=>
 Ap 3 v3 fun v20=>
 Ao v20 h fun v21=>
 C1 (G3 [(0,1),(1,1)]) [(.int .i64 0),(.int .i64 0)] [(0,v19),(1,v21)] fun v22=>
 Kn (.cells [(.int .i64 0),(.int .i64 0)] 243) h fun v4 h=>
 I9 2 v4 v22 h fun h=>
 Gs h fun base s=>
 Bg v0 fun v24=>
 Ap 3 v24 fun v25=>
 Bn 3 7 base v25 s fun s=>Ao v25 h fun v26=>
 Bn 4 0 base v4 s fun s=>Ck 2 v4 h fun v27=>
 Ct 5 31 s h (fun h=>(Ag3 TT 243 320 false v26 v27 h)) fun v28 h s=>
 Adm 6 h s fun s=>Kn (.cells (List.replicate 64 (.int .u8 0)++[(.int .i64 0)]) 320) h fun v5 h=>
 Ahp 7 127 v5 s fun s=>I9 65 v5 v28 h fun h=>
 Gs h fun base s=>
 Bg v0 fun v30=>
 Ap 3 v30 fun v31=>
 Bn 3 7 base v31 s fun s=>Ao v31 h fun v32=>
 Bn 4 0 base v4 s fun s=>Ck 2 v4 h fun v33=>
 Ap 0 v5 fun v34=>
 Bn 6 32 base v34 s fun s=>Ck 64 v34 h fun v35=>
 Ap 4 v3 fun v36=>
 Bn 8 128 base v36 s fun s=>Ck 64 v36 h fun v37=>
 Ct 9 480 s h (fun h=>(Kg K v35 v37 h)) fun v38 h s=>
 Ap 64 v5 fun v39=>
 Bn 11 1024 base v39 s fun s=>Ao v39 h fun v40=>
 Aq Hj (bin TT .add 3) v40 (.int .i64 1) fun v41=>
 C1 (G3 [(0,64),(64,1)]) (List.replicate 64 (.int .u8 0)++[(.int .i64 0)]) [(0,v38),(1,v41)] fun v42=>
 Ct 14 16383 s h (fun h=>(V3 TT 243 v32 v33 v42 h)) fun _ h s=>
 some (.tuple [],h)
def Xz(c r:Ac)(K:Nat)(v0 v1:EV)(h:Aa):R:=
 Dn 105 v1 h fun v3 h=>
 Gs h fun base s=>
 Bg v0 fun v7=>
 Ap 0 v7 fun v8=>
 Bn 3 7 base v8 s fun s=>Ao v8 h fun v9=>
 Ap 2 v3 fun v10=>
 Bn 5 16 base v10 s fun s=>Ao v10 h fun v11=>
 Ap 3 v3 fun v12=>
 Bn 7 64 base v12 s fun s=>Ao v12 h fun v13=>
 Ap 4 v3 fun v14=>
 Bn 9 256 base v14 s fun s=>Ck 64 v14 h fun v15=>
 Ct 10 1023 s h (fun h=>(c 225 [v9,v11,v13,v15] h)) fun v16 h s=>
 Aq Ka (bin TT .neq 28) v16 (.int .i64 0) fun v17=>
 D8 v17
 (some (.tuple [],h))
 (Tz c r K v0 v3 h)
theorem Adu(H:An disp)(hd:1<=d)(v0 v1:EV)(h:Aa):Ad TT disp K (d+1) false 205 [v0,v1] h=Xz (Ad TT disp K d false) (Ad TT disp K d true) K v0 v1 h:=
 Rc (H.bare (by kernel_rfl)) (by kernel_rfl) (W2 (Rv H (lq hd rfl)) rfl) rfl (by kernel_rfl)
def T2(K:Nat)(v0 v1 v2:EV)(h:Aa):R:=
 Bg v0 fun v12=>
 Ap 0 v12 fun v13=>
 Ao v13 h fun v14=>
 Ib 1 v14 v1 fun v16=>
 Ao v16 h fun v17=>
 Aj (Fi K v17 v2 h) fun v19 h=>
 some ((.int .i64 0),h)
def Ia(K:Nat)(v0 v1 v2:EV)(h:Aa):R:=
 Aj (Gd K v0 v1 h) fun v9 h=>
 Lf v9 fun v10=>
 D8 v10
 (some ((.int .i64 13),h))
 (T2 K v0 v1 v2 h)
theorem Acf(H:An disp)(hd:2<=d)(v0 v1 v2:EV)(h:Aa):Ad TT disp K d false 206 [v0,v1,v2] h=Ia K v0 v1 v2 h:=
 Cp (H.bare (by kernel_rfl)) hd (by kernel_rfl) (fun d hd=>(W2 (J7 H (lq hd rfl)) (W2 (Qv H (lq hd rfl)) rfl))) (fun d c r=>rfl) (fun d c r=>by kernel_rfl)
def D1(K:Nat)(v0:EV)(h:Aa):R:=
 Bg v0 fun v44=>
 Ap 0 v44 fun v45=>
 Ao v45 h fun v46=>
 H8 v46 fun v47=>
 Aq Um (bin TT .sub 3) v47 (.int .i64 1) fun v48=>
 some (.tuple [v48,(.int .i64 0)],h)
def Je(K:Nat)(v0 v3:EV)(h:Aa):R:=
 Gs h fun base s=>
 Bg v0 fun v19=>
 Ap 0 v19 fun v20=>
 Bn 4 14 base v20 s fun s=>Ao v20 h fun v21=>
 Bn 5 0 base v3 s fun s=>Ck 64 v3 h fun v22=>
 Adm 6 h s fun s=>Aj (B3 (List.replicate 64 (.int .u8 0)) 103 64 1 [(0,v22)] h) fun v23 h=>
 Ct 7 126 s h (fun h=>(Da 103 64 v21 v23 h)) fun v24 h s=>
 Bg v0 fun v25=>
 Ap 0 v25 fun v26=>
 Ahp 10 1023 v26 s fun s=>I9 1 v26 v24 h fun h=>
 Bg v0 fun v28=>
 Ap 3 v28 fun v29=>
 I9 1 v29 (.int .i64 1) h fun h=>
 Bg v0 fun v31=>
 Ap 0 v31 fun v32=>
 Ao v32 h fun v33=>
 H8 v33 fun v34=>
 Bg v0 fun v36=>
 Ap 1 v36 fun v37=>
 Ao v37 h fun v38=>
 Aq G7 (bin TT .eql 3) v34 v38 fun v39=>
 D8 v39
 (Bg v0 fun v41=>
 Ap 3 v41 fun v42=>
 I9 1 v42 (.int .i64 2) h fun h=>
 D1 K v0 h)
 (D1 K v0 h)
def F3(K:Nat)(v0 v3:EV)(h:Aa):R:=
 Bg v0 fun v13=>
 Ap 3 v13 fun v14=>
 Ao v14 h fun v15=>
 Aq G7 (bin TT .eql 3) v15 (.int .i64 2) fun v16=>
 D8 v16
 (some (.tuple [(.int .i64 0),(.int .i64 17)],h))
 (Je K v0 v3 h)
def Cn(K:Nat)(v0 v1:EV)(h:Aa):R:=
 Dn 103 v1 h fun v3 h=>
 Aj (Co K v0 h) fun v8 h=>
 Aq Ka (bin TT .neq 28) v8 (.int .i64 0) fun v10=>
 D8 v10
 (some (.tuple [(.int .i64 0),v8],h))
 (F3 K v0 v3 h)
theorem Pk(H:An disp)(hd:2<=d)(v0 v1:EV)(h:Aa):Ad TT disp K d false 223 [v0,v1] h=Cn K v0 v1 h:=
 Cp (H.bare (by kernel_rfl)) hd (by kernel_rfl) (fun d hd=>(W1 (Fk H (lq hd rfl)) rfl)) (fun d c r=>rfl) (fun d c r=>by kernel_rfl)
def Ja(K:Nat)(v0:EV)(h:Aa):R:=
 Bg v0 fun v11=>
 Ap 3 v11 fun v12=>
 I9 1 v12 (.int .i64 2) h fun h=>
 Bg v0 fun v13=>
 Ap 4 v13 fun v14=>
 I9 1 v14 (.bool true) h fun h=>
 some ((.int .i64 0),h)
def E1(K:Nat)(v0:EV)(h:Aa):R:=
 Aj (Co K v0 h) fun v5 h=>
 Aq Ka (bin TT .neq 28) v5 (.int .i64 0) fun v7=>
 D8 v7
 (some (v5,h))
 (Ja K v0 h)
theorem Pn(H:An disp)(hd:2<=d)(v0:EV)(h:Aa):Ad TT disp K d false 224 [v0] h=E1 K v0 h:=
 Cp (H.bare (by kernel_rfl)) hd (by kernel_rfl) (fun d hd=>(W1 (Fk H (lq hd rfl)) rfl)) (fun d c r=>rfl) (fun d c r=>by kernel_rfl)
def Jb(K:Nat)(v12 v20:EV)(h:Aa):R:=
 Bu v12 v20 (.bool false) fun v21=>
 some (v21,h)
def E3(K:Nat)(v0 v1:EV)(h:Aa):R:=
 Bg v0 fun v6=>
 Ap 1 v6 fun v7=>
 Ck 6 v7 h fun v8=>
 Aj (Fg K v8 v1 h) fun v10 h=>
 Aq V5 (bin TT .geq 3) v10 (.int .i64 0) fun v11=>
 Ar (Au v11 true)
 (Bg v0 fun v14=>
 Ap 264 v14 fun v15=>
 Ao v15 h fun v16=>
 Ib 1 v16 v1 fun v18=>
 Ao v18 h fun v19=>
 Aq G7 (bin TT .eql 3) v19 (.int .i64 1) fun v20=>
 Jb K v11 v20 h)
 (Jb K v11 (.tuple []) h)
theorem Iu(H:An disp)(hd:3<=d)(v0 v1:EV)(h:Aa):Ad TT disp K d false 21 [v0,v1] h=E3 K v0 v1 h:=
 Cp (H.bare (by kernel_rfl)) hd (by kernel_rfl) (fun d hd=>(W2 (Hf H (lq hd rfl)) rfl)) (fun d c r=>rfl) (fun d c r=>by kernel_rfl)
def X9(c r:Ac)(K:Nat)(v0:EV)(h:Aa):R:=
 Aj (c 118 [v0] h) fun v4 h=>
 Bg v0 fun v6=>
 Ap 0 v6 fun v7=>
 Ao v7 h fun v8=>
 Aj (Ma K v8 h) fun v9 h=>
 some (v9,h)
theorem Abr(H:An disp)(hd:2<=d)(v0:EV)(h:Aa):Ad TT disp K (d+1) false 67 [v0] h=X9 (Ad TT disp K d false) (Ad TT disp K d true) K v0 h:=
 Rc (H.bare (by kernel_rfl)) (by kernel_rfl) (W1 (Abn H (lq hd rfl)) rfl) rfl (by kernel_rfl)
def Rr(K:Nat)(v0 v1:EV)(h:Aa):R:=
 Dn 72 v0 h fun v2 h=>
 Aj (Vz K v2 (.int .u32 4294967295) v1 h) fun v6 h=>
 Oc (bin TT .xor 70) v6 (.int .u32 4294967295) fun v7=>
 some (v7,h)
theorem Aif(H:An disp)(hd:3<=d)(v0 v1:EV)(h:Aa):Ad TT disp K d false 82 [v0,v1] h=Rr K v0 v1 h:=
 Cp (H.bare (by kernel_rfl)) hd (by kernel_rfl) (fun d hd=>(W3 (Agi H (lq hd rfl)) rfl)) (fun d c r=>rfl) (fun d c r=>by kernel_rfl)
def Io(K:Nat)(v16 v21:EV)(h:Aa):R:=
 Bu v16 v21 (.bool false) fun v22=>
 some (v22,h)
def Ip(K:Nat)(v2 v3 v9 v14:EV)(h:Aa):R:=
 Bu v9 v14 (.bool false) fun v15=>
 Ar (Au v15 true)
 (Ap 2 v3 fun v18=>
 Ao v18 h fun v19=>
 Aq Um (bin TT .sub 3) v19 (.int .i64 1) fun v20=>
 Aj (Hd K v2 (.int .i64 0) v20 h) fun v21 h=>
 Io K v15 v21 h)
 (Io K v15 (.tuple []) h)
def Ld(K:Nat)(v0 v1 v2:EV)(h:Aa):R:=
 Dn 23 v0 h fun v3 h=>
 Ck 6 v3 h fun v7=>
 Aj (Hr K v7 h) fun v8 h=>
 Ar (Au v8 true)
 (Ck 6 v3 h fun v11=>
 Aj (H5 K v11 h) fun v12 h=>
 Aq Um (bin TT .sub 3) v12 (.int .i64 1) fun v13=>
 Aj (Hd K v1 (.int .i64 0) v13 h) fun v14 h=>
 Ip K v2 v3 v8 v14 h)
 (Ip K v2 v3 v8 (.tuple []) h)
theorem Aea(H:An disp)(hd:4<=d)(v0 v1 v2:EV)(h:Aa):Ad TT disp K d false 92 [v0,v1,v2] h=Ld K v0 v1 v2 h:=
 Cp (H.bare (by kernel_rfl)) hd (by kernel_rfl) (fun d hd=>(W1 (Ob H (lq hd rfl)) (W1 (Mc H (lq hd rfl)) (W3 (Aai H (lq hd rfl)) rfl)))) (fun d c r=>rfl) (fun d c r=>by kernel_rfl)
def Qi(c r:Ac)(K:Nat)(v0 v1:EV)(h:Aa):R:=
 Bg v0 fun v34=>
 Ap 0 v34 fun v35=>
 Ao v35 h fun v36=>
 Aj (c 165 [v36,v1] h) fun v38 h=>
 some (v38,h)
def Ep(c r:Ac)(K:Nat)(v0 v1 v2 v15 v22:EV)(h:Aa):R:=
 Bu v15 (.bool true) v22 fun v23=>
 D8 v23
 (some ((.int .i64 0),h))
 (Aq G7 (bin TT .eql 3) v2 (.int .i64 0) fun v26=>
 D8 v26
 (Bg v0 fun v28=>
 Ap 263 v28 fun v29=>
 Ao v29 h fun v30=>
 Aj (c 15 [v30,v1] h) fun v32 h=>
 some (v32,h))
 (Qi c r K v0 v1 h))
def Fx(c r:Ac)(K:Nat)(v0 v1 v2 v10 v13:EV)(h:Aa):R:=
 Bu v10 (.bool true) v13 fun v14=>
 Ar (Au v14 false)
 (Bg v0 fun v18=>
 Ap 1 v18 fun v19=>
 Ap 2 v19 fun v20=>
 Ao v20 h fun v21=>
 Aq G7 (bin TT .eql 3) v2 v21 fun v22=>
 Ep c r K v0 v1 v2 v14 v22 h)
 (Ep c r K v0 v1 v2 v14 (.tuple []) h)
def Tt(c r:Ac)(K:Nat)(v0 v1 v2:EV)(h:Aa):R:=
 Aq G7 (bin TT .eql 3) v1 (.int .i64 (-1)) fun v9=>
 Ar (Au v9 false)
 (Aj (E3 K v0 v1 h) fun v13 h=>
 Fx c r K v0 v1 v2 v9 v13 h)
 (Fx c r K v0 v1 v2 v9 (.tuple []) h)
theorem X4(H:An disp)(hd:3<=d)(v0 v1 v2:EV)(h:Aa):Ad TT disp K (d+1) false 123 [v0,v1,v2] h=Tt (Ad TT disp K d false) (Ad TT disp K d true) K v0 v1 v2 h:=
 Rc (H.bare (by kernel_rfl)) (by kernel_rfl) (W2 (Iu H (lq hd rfl)) rfl) rfl (by kernel_rfl)
def Wa(c r:Ac)(K:Nat)(v0 v1:EV)(h:Aa):R:=
 Dn 105 v1 h fun v3 h=>
 Gs h fun base s=>
 Bg v0 fun v6=>
 Ap 2 v6 fun v7=>
 Bn 4 14 base v7 s fun s=>Ao v7 h fun v8=>
 Bn 5 0 base v3 s fun s=>Ck 68 v3 h fun v9=>
 Adm 6 h s fun s=>Aj (B3 (List.replicate 4 (.int .i64 0)++List.replicate 64 (.int .u8 0)) 105 68 1 [(0,v9)] h) fun v10 h=>
 Ct 7 126 s h (fun h=>(Da 105 68 v8 v10 h)) fun v11 h s=>
 Bg v0 fun v12=>
 Ap 2 v12 fun v13=>
 Ahp 10 1023 v13 s fun s=>I9 1 v13 v11 h fun h=>
 Ap 1 v3 fun v14=>
 Ao v14 h fun v15=>
 Aq G7 (bin TT .eql 3) v15 (.int .i64 1) fun v17=>
 D8 v17
 (Ck 68 v3 h fun v19=>
 Aj (c 205 [v0,v19] h) fun v20 h=>
 some (.tuple [],h))
 (Aq G7 (bin TT .eql 3) v15 (.int .i64 2) fun v22=>
 D8 v22
 (Gs h fun base s=>
 Bg v0 fun v24=>
 Ap 0 v24 fun v25=>
 Bn 3 7 base v25 s fun s=>Ao v25 h fun v26=>
 Ap 2 v3 fun v27=>
 Bn 5 16 base v27 s fun s=>Ao v27 h fun v28=>
 Ct 6 63 s h (fun h=>(Ia K v26 v28 (.int .i64 3) h)) fun v29 h s=>
 some (.tuple [],h))
 (Aq G7 (bin TT .eql 3) v15 (.int .i64 3) fun v31=>
 D8 v31
 (Gs h fun base s=>
 Bg v0 fun v33=>
 Ap 0 v33 fun v34=>
 Bn 3 7 base v34 s fun s=>Ao v34 h fun v35=>
 Ap 2 v3 fun v36=>
 Bn 5 16 base v36 s fun s=>Ao v36 h fun v37=>
 Ct 6 63 s h (fun h=>(Ia K v35 v37 (.int .i64 4) h)) fun v38 h s=>
 some (.tuple [],h))
 (Aq G7 (bin TT .eql 3) v15 (.int .i64 4) fun v40=>
 D8 v40
 (Bg v0 fun v42=>
 Ap 0 v42 fun v43=>
 Ao v43 h fun v44=>
 Aj (L8 K v44 h) fun v45 h=>
 some (.tuple [],h))
 (some (.tuple [],h)))))
theorem Aaw(H:An disp)(hd:2<=d)(v0 v1:EV)(h:Aa):Ad TT disp K (d+1) false 169 [v0,v1] h=Wa (Ad TT disp K d false) (Ad TT disp K d true) K v0 v1 h:=
 Rc (H.bare (by kernel_rfl)) (by kernel_rfl) (W3 (Acf H (lq hd rfl)) (W1 (Abc H (lq hd rfl)) rfl)) rfl (by kernel_rfl)
def Lz(K:Nat)(v0 v1 v5:EV)(h:Aa):R:=
 Gs h fun base s=>
 Bg v0 fun v34=>
 Ap 0 v34 fun v35=>
 Bn 3 7 base v35 s fun s=>Ao v35 h fun v36=>
 Ib 1 v36 v1 fun v38=>
 Bn 6 63 base v38 s fun s=>Ao v38 h fun v39=>
 Bn 7 0 base v5 s fun s=>Ck 64 v5 h fun v40=>
 Ct 8 255 s h (fun h=>(Cn K v39 v40 h)) fun v41 h s=>
 C9 0 v41 fun v42=>
 C9 1 v41 fun v43=>
 some (.tuple [v42,v43],h)
def Is(K:Nat)(base:Nat)(s:DX)(v0 v1 v5 v24 v31:EV)(h:Aa):R:=
 Bu v24 v31 (.bool false) fun v32=>
 D8 v32
 (some (.tuple [(.int .i64 0),(.int .i64 33)],h))
 (Lz K v0 v1 v5 h)
def Q6(K:Nat)(v0 v1 v5:EV)(h:Aa):R:=
 Gs h fun base s=>
 Bg v0 fun v16=>
 Ap 0 v16 fun v17=>
 Bn 3 7 base v17 s fun s=>Ao v17 h fun v18=>
 Ib 1 v18 v1 fun v20=>
 Bn 6 63 base v20 s fun s=>Ao v20 h fun v21=>
 Ct 7 127 s h (fun h=>(Cb K v21 h)) fun v22 h s=>
 Aq G7 (bin TT .eql 3) v22 (.int .i64 0) fun v23=>
 Ar (Au v23 true)
 (Ct 11 2047 s h (fun h=>(K7 K v0 h)) fun v26 h s=>
 Bg v0 fun v28=>
 Ap 2 v28 fun v29=>
 Bn 15 29695 base v29 s fun s=>Ao v29 h fun v30=>
 Aq V5 (bin TT .geq 3) v26 v30 fun v31=>
 Is K base s v0 v1 v5 v23 v31 h)
 (Is K base s v0 v1 v5 v23 (.tuple []) h)
def K0(K:Nat)(v0 v1 v2:EV)(h:Aa):R:=
 Dn 103 v2 h fun v5 h=>
 Aj (Hl K v0 v1 h) fun v11 h=>
 Aq Ka (bin TT .neq 28) v11 (.int .i64 0) fun v13=>
 D8 v13
 (some (.tuple [(.int .i64 0),v11],h))
 (Q6 K v0 v1 v5 h)
theorem Yx(H:An disp)(hd:3<=d)(v0 v1 v2:EV)(h:Aa):Ad TT disp K d false 203 [v0,v1,v2] h=K0 K v0 v1 v2 h:=
 Cp (H.bare (by kernel_rfl)) hd (by kernel_rfl) (fun d hd=>(W2 (Lx H (lq hd rfl)) (W2 (Pk H (lq hd rfl)) (W1 (Ft H (lq hd rfl)) (W1 (Aae H (lq hd rfl)) rfl))))) (fun d c r=>rfl) (fun d c r=>by kernel_rfl)
def Q3(K:Nat)(v0 v1:EV)(h:Aa):R:=
 Bg v0 fun v13=>
 Ap 0 v13 fun v14=>
 Ao v14 h fun v15=>
 Ib 1 v15 v1 fun v17=>
 Ao v17 h fun v18=>
 Aj (E1 K v18 h) fun v19 h=>
 some (v19,h)
def K8(K:Nat)(v0 v1:EV)(h:Aa):R:=
 Aj (Hl K v0 v1 h) fun v8 h=>
 Aq Ka (bin TT .neq 28) v8 (.int .i64 0) fun v10=>
 D8 v10
 (some (v8,h))
 (Q3 K v0 v1 h)
theorem Zp(H:An disp)(hd:3<=d)(v0 v1:EV)(h:Aa):Ad TT disp K d false 204 [v0,v1] h=K8 K v0 v1 h:=
 Cp (H.bare (by kernel_rfl)) hd (by kernel_rfl) (fun d hd=>(W2 (Lx H (lq hd rfl)) (W1 (Pn H (lq hd rfl)) rfl))) (fun d c r=>rfl) (fun d c r=>by kernel_rfl)
def Qr(K:Nat)(v0 v1:EV)(h:Aa):R:=
 Dn 72 v0 h fun v2 h=>
 Ck 256 v2 h fun v6=>
 Aj (Rr K v6 v1 h) fun v8 h=>
 Aj (B3 [(.int .u8 0)] 5 1 0 [] h) fun v9 h=>
 Aj (Da 5 1 v9 v1 h) fun v11 h=>
 Qx .u8 v8 fun v13=>
 Oc (bin TT .shr 70) v8 (.int .u64 8) fun v15=>
 Qx .u8 v15 fun v16=>
 Oc (bin TT .shr 70) v8 (.int .u64 16) fun v18=>
 Qx .u8 v18 fun v19=>
 Oc (bin TT .shr 70) v8 (.int .u64 24) fun v21=>
 Qx .u8 v21 fun v22=>
 Aj (B3 [(.int .u8 0)] 5 1 4 [(0,v13),(1,v16),(2,v19),(3,v22)] h) fun v23 h=>
 Aj (Da 5 1 v11 v23 h) fun v24 h=>
 some (v24,h)
theorem Afi(H:An disp)(hd:4<=d)(v0 v1:EV)(h:Aa):Ad TT disp K d false 211 [v0,v1] h=Qr K v0 v1 h:=
 Cp (H.bare (by kernel_rfl)) hd (by kernel_rfl) (fun d hd=>(W2 (Aif H (lq hd rfl)) rfl)) (fun d c r=>rfl) (fun d c r=>by kernel_rfl)
def Mb(c r:Ac)(K:Nat)(h:Aa):R:=
 some ((.int .i64 0),h)
def Hw(c r:Ac)(K:Nat)(v0:EV)(h:Aa):R:=
 Aj (c 70 [v0] h) fun v44 h=>
 Aq G7 (bin TT .eql 28) v44 (.int .i64 34) fun v45=>
 D8 v45
 (some ((.int .i64 34),h))
 (Mb c r K h)
def Fj(c r:Ac)(K:Nat)(v0 v35 v41:EV)(h:Aa):R:=
 Bu v35 v41 (.bool false) fun v42=>
 D8 v42
 (some ((.int .i64 0),h))
 (Hw c r K v0 h)
def L5(c r:Ac)(K:Nat)(v0 v1:EV)(h:Aa):R:=
 Bg v0 fun v18=>
 Ap 264 v18 fun v19=>
 Ao v19 h fun v20=>
 Ib 1 v20 v1 fun v22=>
 I9 1 v22 (.int .i64 1) h fun h=>
 Bg v0 fun v24=>
 Ap 263 v24 fun v25=>
 Ao v25 h fun v26=>
 Aj (c 69 [v26,v1] h) fun v28 h=>
 Bg v0 fun v31=>
 Ap 265 v31 fun v32=>
 Ao v32 h fun v33=>
 Aq Ka (bin TT .neq 3) v1 v33 fun v34=>
 Ar (Au v34 true)
 (Bg v0 fun v38=>
 Ap 266 v38 fun v39=>
 Ao v39 h fun v40=>
 Aq Ka (bin TT .neq 3) v1 v40 fun v41=>
 Fj c r K v0 v34 v41 h)
 (Fj c r K v0 v34 (.tuple []) h)
def Om(c r:Ac)(K:Nat)(v0 v1:EV)(h:Aa):R:=
 Bg v0 fun v7=>
 Ap 1 v7 fun v8=>
 Ck 6 v8 h fun v9=>
 Aj (Fg K v9 v1 h) fun v11 h=>
 Aq Gr (bin TT .lss 3) v11 (.int .i64 0) fun v12=>
 D8 v12
 (some ((.int .i64 13),h))
 (Aj (E3 K v0 v1 h) fun v16 h=>
 D8 v16
 (some ((.int .i64 16),h))
 (L5 c r K v0 v1 h))
theorem S8(H:An disp)(hd:3<=d)(v0 v1:EV)(h:Aa):Ad TT disp K (d+1) false 20 [v0,v1] h=Om (Ad TT disp K d false) (Ad TT disp K d true) K v0 v1 h:=
 Rc (H.bare (by kernel_rfl)) (by kernel_rfl) (W2 (Hf H (lq hd rfl)) (W2 (Iu H (lq hd rfl)) rfl)) rfl (by kernel_rfl)
def Js(c r:Ac)(K:Nat)(v8 v9:EV)(h:Aa):R:=
 some (.tuple [v8,v9],h)
def Wv(c r:Ac)(K:Nat)(v0 v1 v2:EV)(h:Aa):R:=
 Dn 103 v2 h fun v5 h=>
 Aj (c 179 [v0,v1] h) fun v12 h=>
 Gs h fun base s=>
 Bg v0 fun v15=>
 Ap 0 v15 fun v16=>
 Bn 3 7 base v16 s fun s=>Ao v16 h fun v17=>
 Bn 5 0 base v5 s fun s=>Ck 64 v5 h fun v19=>
 Ct 6 63 s h (fun h=>(K0 K v17 v1 v19 h)) fun v20 h s=>
 C9 0 v20 fun v21=>
 C9 1 v20 fun v22=>
 Aq G7 (bin TT .eql 28) v22 (.int .i64 0) fun v24=>
 D8 v24
 (Bg v0 fun v26=>
 Ap 3 v26 fun v27=>
 Ao v27 h fun v28=>
 C1 (G3 [(0,1),(1,1)]) [(.int .i64 0),(.int .i64 0)] [(0,v1),(1,v21)] fun v31=>
 Aj (builtin TT .delete #[164,243] [v28,v31] h) fun _ h=>
 Js c r K v21 v22 h)
 (Js c r K v21 v22 h)
theorem Abm(H:An disp)(hd:3<=d)(v0 v1 v2:EV)(h:Aa):Ad TT disp K (d+1) false 164 [v0,v1,v2] h=Wv (Ad TT disp K d false) (Ad TT disp K d true) K v0 v1 v2 h:=
 Rc (H.bare (by kernel_rfl)) (by kernel_rfl) (W3 (Yx H (lq hd rfl)) rfl) rfl (by kernel_rfl)
def Wy(c r:Ac)(K:Nat)(v0 v1:EV)(h:Aa):R:=
 Aj (c 179 [v0,v1] h) fun v7 h=>
 Bg v0 fun v9=>
 Ap 0 v9 fun v10=>
 Ao v10 h fun v11=>
 Aj (K8 K v11 v1 h) fun v13 h=>
 some (v13,h)
theorem Aaz(H:An disp)(hd:3<=d)(v0 v1:EV)(h:Aa):Ad TT disp K (d+1) false 165 [v0,v1] h=Wy (Ad TT disp K d false) (Ad TT disp K d true) K v0 v1 h:=
 Rc (H.bare (by kernel_rfl)) (by kernel_rfl) (W2 (Zp H (lq hd rfl)) rfl) rfl (by kernel_rfl)
def Aau(K:Nat)(v2 v4 v7:EV)(h:Aa):R:=
 Ck 256 v2 h fun v40=>
 Aj (Qr K v40 v7 h) fun v42 h=>
 Agy 64 v42 fun v43=>
 Ck 64 v43 h fun v44=>
 I9 64 v4 v44 h fun h=>
 Iz TT [.c v4 103,.v (.int .i64 0)] h
def Aas(K:Nat)(v2 v3 v4:EV)(h:Aa):R:=
 Kn (.cells [.Af,(.bool false)] 278) h fun v6 h=>
 Ap 0 v3 fun v13=>
 Ao v13 h fun v14=>
 Aj (Bf K v6 (.int .i64 1) v14 h) fun v15 h=>
 Aj (Bf K v6 (.int .i64 1) (.int .i64 1) h) fun v16 h=>
 Ap 1 v3 fun v17=>
 Ao v17 h fun v18=>
 Aj (Bf K v6 (.int .i64 2) v18 h) fun v19 h=>
 Ap 2 v3 fun v20=>
 Ao v20 h fun v21=>
 Aj (Bf K v6 (.int .i64 2) v21 h) fun v22 h=>
 Ap 3 v3 fun v23=>
 Ao v23 h fun v24=>
 Aj (Bf K v6 (.int .i64 4) v24 h) fun v25 h=>
 Ap 4 v3 fun v26=>
 Ao v26 h fun v27=>
 Aj (Bf K v6 (.int .i64 6) v27 h) fun v28 h=>
 Ap 5 v3 fun v29=>
 Acs 44 1 v29 none none none fun v30=>
 Aj (Ou K v6 v30 h) fun v31 h=>
 Aj (Lr K v6 h) fun v33 h=>
 C9 0 v33 fun v34=>
 C9 1 v33 fun v35=>
 Aq Ka (bin TT .neq 28) v35 (.int .i64 0) fun v37=>
 D8 v37
 (C1 (Aex 1) (List.replicate 64 (.int .u8 0)) [] fun v38=>
 I9 64 v4 v38 h fun h=>
 Iz TT [.c v4 103,.v v35] h)
 (Aau K v2 v4 v34 h)
def Qe(K:Nat)(v0 v1:EV)(h:Aa):R:=
 Dn 72 v0 h fun v2 h=>
 Dn 120 v1 h fun v3 h=>
 Kn (.cells (List.replicate 64 (.int .u8 0)) 103) h fun v4 h=>
 Ck 49 v3 h fun v9=>
 Aj (L6 K v9 h) fun v10 h=>
 Lf v10 fun v11=>
 D8 v11
 (C1 (Aex 1) (List.replicate 64 (.int .u8 0)) [] fun v12=>
 I9 64 v4 v12 h fun h=>
 Iz TT [.c v4 103,.v (.int .i64 10)] h)
 (Aas K v2 v3 v4 h)
theorem Aiz(H:An disp)(hd:5<=d)(v0 v1:EV)(h:Aa):Ad TT disp K d false 177 [v0,v1] h=Qe K v0 v1 h:=
 Cp (H.bare (by kernel_rfl)) hd (by kernel_rfl) (fun d hd=>(W1 (Abg H (lq hd rfl)) (W2 (Afi H (lq hd rfl)) (W3 (L9 H (lq hd rfl)) (W2 (Aep H (lq hd rfl)) (W1 (Wq H (lq hd rfl)) rfl)))))) (fun d c r=>rfl) (fun d c r=>by kernel_rfl)
end
end Go.Ev
