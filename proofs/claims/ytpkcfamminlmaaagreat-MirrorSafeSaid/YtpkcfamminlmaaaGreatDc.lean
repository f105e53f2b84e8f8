import Derived.Test.YtpkcfamminlmaaaGreatDb
set_option linter.unusedVariables false
set_option linter.unusedSimpArgs false
set_option linter.unusedSectionVars false
namespace Go.Ev
open Go.Proofs
set_option maxRecDepth 100000
set_option maxHeartbeats 4000000
noncomputable section
variable {disp:Nat->Option FT}{K d:Nat}
def Zq(K:Nat)(v2 v3:EV)(h:Aa):R:=
 Ca 32 v3 h fun v12=>
 D5 32 v2 v12 h fun h=>
 Cx TT [.c v2 87] h
def Agx(K:Nat)(ih1_:EV->EV->EV->EV->Aa->R)(v0 v2 v3 v5:EV)(h:Aa):R:=
 An Hw (bin TT .add 3) v5 (.int .i64 1) fun v11=>
 ih1_ v0 v2 v3 v11 h
def Agi(K:Nat)(ih1_:EV->EV->EV->EV->Aa->R)(v0 v2 v3 v5:EV)(h:Aa):R:=
 Adg 32 1 v3 v5 fun v10=>
 D5 1 v10 v0 h fun h=>
 Agx K ih1_ v0 v2 v3 v5 h
def Jl(K:Nat):Nat->EV->EV->EV->EV->Aa->R
 | 0=>fun _ _ _ _ _=>none
 | m+1=>fun v0 v2 v3 v5 h=>
  An Hl (bin TT .lss 3) v5 (.int .i64 32) fun v6=>
  De v6
  (Agi K (Jl K m) v0 v2 v3 v5 h)
  (Zq K v2 v3 h)
def Tb(K:Nat)(v0:EV)(h:Aa):R:=
 Hj (.cells (List.replicate 32 (.int .u8 0)) 87) h fun v2 h=>
 Hj (.cells (List.replicate 32 (.int .u8 0)) 87) h fun v3 h=>
 Jl K K v0 v2 v3 (.int .i64 0) h
abbrev Atr(K:Nat)(c:Ad):Ad:=c
theorem Al9(c c' r:Ad)(K:Nat)(m:Nat):I0 (fun ih=>H6 TT (Atr K c) c' r K (nOf TT 38) (F2 TT 38) (Sb TT 38 [true,true,false,true,false]) [(0,fun ρ h=>Zq K (ρ 2) (ρ 3) h)] ih) m=fun ρ h=>Jl K m (ρ 0) (ρ 2) (ρ 3) (ρ 5) h:=
 C3 (E:=fun m ρ h=>Jl K m (ρ 0) (ρ 2) (ρ 3) (ρ 5) h) rfl (fun m=>Se fun ρ h=>by
  show _=Jl K (m+1) (ρ 0) (ρ 2) (ρ 3) (ρ 5) h
  rw[Jl];kernel_rfl) m
theorem Ani(H:Aw disp)(hd:1<=d)(v0:EV)(h:Aa):Ae TT disp K d false 38 [v0] h=Tb K v0 h:=
 Cj (H.bare (by kernel_rfl)) hd (by kernel_rfl) (fun d hd=>rfl) (fun d c r=>(cut [true,true,false,true,false] (Al9 (Ae TT disp K d false) c r K K) (by kernel_rfl) (by kernel_rfl) rfl)) (fun d c r=>by kernel_rfl)
def G9(K:Nat)(v0:EV)(h:Aa):R:=
 A7 v0 fun v3=>
 Am 4 v3 fun v4=>
 D5 1 v4 (.bool true) h fun h=>
 some (.tuple [],h)
theorem Sr(H:Aw disp)(hd:1<=d)(v0:EV)(h:Aa):Ae TT disp K d false 39 [v0] h=G9 K v0 h:=
 Cj (H.bare (by kernel_rfl)) hd (by kernel_rfl) (fun d hd=>rfl) (fun d c r=>rfl) (fun d c r=>by kernel_rfl)
def Mq(K:Nat)(v0 v1:EV)(h:Aa):R:=
 Ea 36 v0 h fun v2 h=>
 Ea 37 v1 h fun v3 h=>
 Hj (.cells ([.Ag]++List.replicate 3 (.int .i64 0)++[(.bool false)]++List.replicate 2 .Ag++List.replicate 8 (.int .i64 0)++List.replicate 2 .Ag++List.replicate 3 (.int .i64 0)) 42) h fun v4 h=>
 Ca 7 v2 h fun v5=>
 Ca 6 v3 h fun v6=>
 Am 0 v3 fun v7=>
 Al v7 h fun v8=>
 Am 1 v3 fun v9=>
 Al v9 h fun v10=>
 Bu (D3 [(0,1),(1,1),(2,1)]) [(.int .i64 0),(.int .i64 0),.Ag] [(0,v8),(1,v10)] fun v11=>
 Bu (D3 [(0,7),(7,6),(13,3),(16,1),(17,1),(18,1),(19,1)]) ([.Ag]++List.replicate 3 (.int .i64 0)++[(.bool false)]++List.replicate 2 .Ag++List.replicate 8 (.int .i64 0)++List.replicate 2 .Ag++List.replicate 3 (.int .i64 0)) [(0,v5),(1,v6),(2,v11),(4,(.int .i64 (-1))),(5,(.int .i64 (-1)))] fun v12=>
 D5 20 v4 v12 h fun h=>
 Cx TT [.c v4 42] h
theorem Abl(H:Aw disp)(hd:1<=d)(v0 v1:EV)(h:Aa):Ae TT disp K d false 54 [v0,v1] h=Mq K v0 v1 h:=
 Cj (H.bare (by kernel_rfl)) hd (by kernel_rfl) (fun d hd=>rfl) (fun d c r=>rfl) (fun d c r=>by kernel_rfl)
def Nw(K:Nat)(v6 v7:EV)(h:Aa):R:=
 Ca 5 v7 h fun v23=>
 D5 5 v6 v23 h fun h=>
 Cx TT [.c v6 33] h
def Ss(K:Nat)(ih1_:EV->EV->EV->EV->Aa->R)(v0 v6 v7 v8:EV)(h:Aa):R:=
 An Hw (bin TT .add 3) v8 (.int .i64 1) fun v16=>
 ih1_ v0 v6 v7 v16 h
def Sl(K:Nat)(ih1_:EV->EV->EV->EV->Aa->R)(v0 v6 v7 v8:EV)(h:Aa):R:=
 Am 0 v7 fun v17=>
 Al v17 h fun v18=>
 Bu (D3 [(0,1),(1,1),(2,1),(3,1)]) [.Ag,(.int .i64 0),(.int .i64 0),(.bool false)] [] fun v19=>
 Aj (B1 [.Ag,(.int .i64 0),(.int .i64 0),(.bool false)] 215 4 1 [(0,v19)] h) fun v20 h=>
 Aj (Dt 215 4 v18 v20 h) fun v21 h=>
 Am 0 v7 fun v22=>
 D5 1 v22 v21 h fun h=>
 Ss K ih1_ v0 v6 v7 v8 h
def C9(K:Nat):Nat->EV->EV->EV->EV->Aa->R
 | 0=>fun _ _ _ _ _=>none
 | m+1=>fun v0 v6 v7 v8 h=>
  An Hl (bin TT .lss 3) v8 v0 fun v14=>
  De v14
  (Sl K (C9 K m) v0 v6 v7 v8 h)
  (Nw K v6 v7 h)
def Mr(K:Nat)(v0 v1 v2:EV)(h:Aa):R:=
 Hj (.cells [.Ag,(.int .i64 0),(.int .i64 0),(.int .i64 0),(.bool false)] 33) h fun v6 h=>
 Bu (D3 [(0,1),(1,1),(2,1),(3,1),(4,1)]) [.Ag,(.int .i64 0),(.int .i64 0),(.int .i64 0),(.bool false)] [(1,v1),(2,v2)] fun v11=>
 Hj (.cells [.Ag,(.int .i64 0),(.int .i64 0),(.int .i64 0),(.bool false)] 33) h fun v7 h=>
 D5 5 v7 v11 h fun h=>
 C9 K K v0 v6 v7 (.int .i64 0) h
abbrev Aff(K:Nat)(c:Ad):Ad:=c
theorem Z7(c c' r:Ad)(K:Nat)(m:Nat):I0 (fun ih=>H6 TT (Aff K c) c' r K (nOf TT 55) (F2 TT 55) (Sb TT 55 [true,true,false,true,false]) [(0,fun ρ h=>Nw K (ρ 6) (ρ 7) h)] ih) m=fun ρ h=>C9 K m (ρ 0) (ρ 6) (ρ 7) (ρ 8) h:=
 C3 (E:=fun m ρ h=>C9 K m (ρ 0) (ρ 6) (ρ 7) (ρ 8) h) rfl (fun m=>Se fun ρ h=>by
  show _=C9 K (m+1) (ρ 0) (ρ 6) (ρ 7) (ρ 8) h
  rw[C9];kernel_rfl) m
theorem Abj(H:Aw disp)(hd:1<=d)(v0 v1 v2:EV)(h:Aa):Ae TT disp K d false 55 [v0,v1,v2] h=Mr K v0 v1 v2 h:=
 Cj (H.bare (by kernel_rfl)) hd (by kernel_rfl) (fun d hd=>rfl) (fun d c r=>(cut [true,true,false,true,false] (Z7 (Ae TT disp K d false) c r K K) (by kernel_rfl) (by kernel_rfl) rfl)) (fun d c r=>by kernel_rfl)
def I9(c r:Ad)(K:Nat)(v6:EV)(h:Aa):R:=
 some (v6,h)
def Vx(c r:Ad)(K:Nat)(v0:EV)(h:Aa):R:=
 A7 v0 fun v9=>
 Am 265 v9 fun v10=>
 Al v10 h fun v11=>
 A7 v0 fun v13=>
 Am 266 v13 fun v14=>
 Al v14 h fun v15=>
 A7 v0 fun v17=>
 Am 267 v17 fun v18=>
 Al v18 h fun v19=>
 A7 v0 fun v23=>
 Am 265 v23 fun v24=>
 D5 1 v24 (.int .i64 (-1)) h fun h=>
 A7 v0 fun v25=>
 Am 266 v25 fun v26=>
 D5 1 v26 (.int .i64 (-1)) h fun h=>
 A7 v0 fun v27=>
 Am 267 v27 fun v28=>
 D5 1 v28 (.int .i64 0) h fun h=>
 Aj (c 123 [v0,v11,v19] h) fun v32 h=>
 Aj (c 123 [v0,v15,v19] h) fun v36 h=>
 An Fj (bin TT .eql 28) v32 (.int .i64 0) fun v38=>
 De v38
 (I9 c r K v36 h)
 (I9 c r K v32 h)
theorem Aab(H:Aw disp)(hd:0<=d)(v0:EV)(h:Aa):Ae TT disp K (d+1) false 70 [v0] h=Vx (Ae TT disp K d false) (Ae TT disp K d true) K v0 h:=
 Um (H.bare (by kernel_rfl)) (by kernel_rfl) rfl rfl (by kernel_rfl)
def Si(c r:Ad)(K:Nat)(v0 v2 v3 v5 v10 v11:EV)(h:Aa):R:=
 Ca 38 v5 h fun v34=>
 Aj (c 131 [v0,v34,v11,v10,v2,v3] h) fun v39 h=>
 some (.tuple [v11,v39],h)
def Xv(c r:Ad)(K:Nat)(v0 v1 v2 v3:EV)(h:Aa):R:=
 Ea 89 v1 h fun v5 h=>
 A7 v0 fun v14=>
 Am 265 v14 fun v15=>
 Al v15 h fun v16=>
 A7 v0 fun v18=>
 Am 266 v18 fun v19=>
 Al v19 h fun v20=>
 Ca 38 v5 h fun v22=>
 Aj (c 131 [v0,v22,v16,v20,v2,v3] h) fun v27 h=>
 An Gv (bin TT .neq 28) v27 (.int .i64 0) fun v29=>
 De v29
 (some (.tuple [v16,v27],h))
 (Si c r K v0 v2 v3 v5 v16 v20 h)
theorem Acb(H:Aw disp)(hd:0<=d)(v0 v1 v2 v3:EV)(h:Aa):Ae TT disp K (d+1) false 81 [v0,v1,v2,v3] h=Xv (Ae TT disp K d false) (Ae TT disp K d true) K v0 v1 v2 v3 h:=
 Um (H.bare (by kernel_rfl)) (by kernel_rfl) rfl rfl (by kernel_rfl)
def Mm(K:Nat)(v7 v14:EV)(h:Aa):R:=
 Bk v7 v14 (.bool false) fun v15=>
 some (v15,h)
def Hm(K:Nat)(v0 v1:EV)(h:Aa):R:=
 An Zu (bin TT .geq 3) v1 (.int .i64 0) fun v6=>
 As (Ay v6 true)
 (A7 v0 fun v10=>
 Am 0 v10 fun v11=>
 Al v11 h fun v12=>
 Hg v12 fun v13=>
 An Hl (bin TT .lss 3) v1 v13 fun v14=>
 Mm K v6 v14 h)
 (Mm K v6 (.tuple []) h)
theorem La(H:Aw disp)(hd:1<=d)(v0 v1:EV)(h:Aa):Ae TT disp K d false 85 [v0,v1] h=Hm K v0 v1 h:=
 Cj (H.bare (by kernel_rfl)) hd (by kernel_rfl) (fun d hd=>rfl) (fun d c r=>rfl) (fun d c r=>by kernel_rfl)
def C1(K:Nat)(v0:EV)(h:Aa):R:=
 A7 v0 fun v4=>
 Am 3 v4 fun v5=>
 Al v5 h fun v6=>
 some (v6,h)
theorem Kv(H:Aw disp)(hd:1<=d)(v0:EV)(h:Aa):Ae TT disp K d false 86 [v0] h=C1 K v0 h:=
 Cj (H.bare (by kernel_rfl)) hd (by kernel_rfl) (fun d hd=>rfl) (fun d c r=>rfl) (fun d c r=>by kernel_rfl)
def T1(K:Nat)(ih0_:EV->EV->EV->Aa->R)(v0 v1 v6:EV)(h:Aa):R:=
 An Hw (bin TT .add 3) v6 (.int .i64 1) fun v16=>
 ih0_ v0 v1 v16 h
def Tv(K:Nat)(ih0_:EV->EV->EV->Aa->R)(v0 v1 v6:EV)(h:Aa):R:=
 A7 v0 fun v18=>
 Am 3 v18 fun v19=>
 Al v19 h fun v20=>
 Bu (D3 [(0,1),(1,1)]) [(.int .i64 0),(.int .i64 0)] [(0,v1),(1,v6)] fun v23=>
 Aj (builtin TT .delete #[164,243] [v20,v23] h) fun _ h=>
 T1 K ih0_ v0 v1 v6 h
def Dq(K:Nat):Nat->EV->EV->EV->Aa->R
 | 0=>fun _ _ _ _=>none
 | m+1=>fun v0 v1 v6 h=>
  A7 v0 fun v10=>
  Am 0 v10 fun v11=>
  Al v11 h fun v12=>
  Aj (Jp K v12 h) fun v13 h=>
  An Hl (bin TT .lss 3) v6 v13 fun v14=>
  De v14
  (Tv K (Dq K m) v0 v1 v6 h)
  (some (.tuple [],h))
def N7(K:Nat)(v0 v1 v2:EV)(h:Aa):R:=
 Dq K K v0 v1 v2 h
abbrev Agg(K:Nat)(c:Ad):Ad:=(w1 75 (Jp K) c)
theorem Ab3(c c' r:Ad)(K:Nat)(m:Nat):I0 (fun ih=>H6 TT (Agg K c) c' r K (nOf TT 88) (F2 TT 88) (Sb TT 88 [true,false]) [(0,F2 TT 88)] ih) m=fun ρ h=>Dq K m (ρ 0) (ρ 1) (ρ 6) h:=
 C3 (E:=fun m ρ h=>Dq K m (ρ 0) (ρ 1) (ρ 6) h) rfl (fun m=>Se fun ρ h=>by
  show _=Dq K (m+1) (ρ 0) (ρ 1) (ρ 6) h
  rw[Dq];kernel_rfl) m
theorem Adj(H:Aw disp)(hd:2<=d)(v0 v1 v2:EV)(h:Aa):Ae TT disp K d false 88 [v0,v1,v2] h=N7 K v0 v1 v2 h:=
 Cj (H.bare (by kernel_rfl)) hd (by kernel_rfl) (fun d hd=>(W1 (T5 H (lq hd rfl)) rfl)) (fun d c r=>(cut [true,false] (Ab3 (Ae TT disp K d false) c r K K) (by kernel_rfl) (by kernel_rfl) rfl)) (fun d c r=>by kernel_rfl)
def Sv(c r:Ad)(K:Nat)(h:Aa):R:=
 some ((.int .i64 0),h)
def Xj(c r:Ad)(K:Nat)(v0 v1:EV)(h:Aa):R:=
 Aj (c 20 [v0,v1] h) fun v7 h=>
 An Fj (bin TT .eql 28) v7 (.int .i64 34) fun v8=>
 De v8
 (some ((.int .i64 34),h))
 (Sv c r K h)
theorem Acf(H:Aw disp)(hd:0<=d)(v0 v1:EV)(h:Aa):Ae TT disp K (d+1) false 134 [v0,v1] h=Xj (Ae TT disp K d false) (Ae TT disp K d true) K v0 v1 h:=
 Um (H.bare (by kernel_rfl)) (by kernel_rfl) rfl rfl (by kernel_rfl)
def Hd(K:Nat)(v0:EV)(h:Aa):R:=
 A7 v0 fun v4=>
 Am 0 v4 fun v5=>
 Al v5 h fun v6=>
 Hg v6 fun v7=>
 some (v7,h)
theorem Tc(H:Aw disp)(hd:1<=d)(v0:EV)(h:Aa):Ae TT disp K d false 137 [v0] h=Hd K v0 h:=
 Cj (H.bare (by kernel_rfl)) hd (by kernel_rfl) (fun d hd=>rfl) (fun d c r=>rfl) (fun d c r=>by kernel_rfl)
def Lo(K:Nat)(v0:EV)(h:Aa):R:=
 A7 v0 fun v4=>
 Am 4 v4 fun v5=>
 Al v5 h fun v6=>
 some (v6,h)
theorem Ael(H:Aw disp)(hd:1<=d)(v0:EV)(h:Aa):Ae TT disp K d false 166 [v0] h=Lo K v0 h:=
 Cj (H.bare (by kernel_rfl)) hd (by kernel_rfl) (fun d hd=>rfl) (fun d c r=>rfl) (fun d c r=>by kernel_rfl)
def Kg(K:Nat)(v0:EV)(h:Aa):R:=
 A7 v0 fun v4=>
 Am 3 v4 fun v5=>
 Al v5 h fun v6=>
 some (v6,h)
theorem Adn(H:Aw disp)(hd:1<=d)(v0:EV)(h:Aa):Ae TT disp K d false 167 [v0] h=Kg K v0 h:=
 Cj (H.bare (by kernel_rfl)) hd (by kernel_rfl) (fun d hd=>rfl) (fun d c r=>rfl) (fun d c r=>by kernel_rfl)
def E0(K:Nat)(v0:EV)(h:Aa):R:=
 Aj (B1 (List.replicate 4 (.int .i64 0)++List.replicate 64 (.int .u8 0)) 105 68 0 [] h) fun v5 h=>
 Aj (Dt 105 68 v5 v0 h) fun v7 h=>
 some (v7,h)
def Cb(K:Nat)(v0:EV)(h:Aa):R:=
 An Fj (bin TT .eql 101) v0 .Ag fun v4=>
 De v4
 (some (.Ag,h))
 (E0 K v0 h)
theorem Od(H:Aw disp)(hd:1<=d)(v0:EV)(h:Aa):Ae TT disp K d false 168 [v0] h=Cb K v0 h:=
 Cj (H.bare (by kernel_rfl)) hd (by kernel_rfl) (fun d hd=>rfl) (fun d c r=>rfl) (fun d c r=>by kernel_rfl)
def D4(K:Nat)(v0:EV)(h:Aa):R:=
 A7 v0 fun v4=>
 Am 0 v4 fun v5=>
 Al v5 h fun v6=>
 Hg v6 fun v7=>
 A7 v0 fun v8=>
 Am 2 v8 fun v9=>
 D5 1 v9 v7 h fun h=>
 some (.tuple [],h)
theorem Ry(H:Aw disp)(hd:1<=d)(v0:EV)(h:Aa):Ae TT disp K d false 170 [v0] h=D4 K v0 h:=
 Cj (H.bare (by kernel_rfl)) hd (by kernel_rfl) (fun d hd=>rfl) (fun d c r=>rfl) (fun d c r=>by kernel_rfl)
def Nc(K:Nat)(v0 v1:EV)(h:Aa):R:=
 A7 v0 fun v6=>
 Am 0 v6 fun v7=>
 Al v7 h fun v8=>
 Aj (Dt 5 1 v8 v1 h) fun v10 h=>
 A7 v0 fun v11=>
 Am 0 v11 fun v12=>
 D5 1 v12 v10 h fun h=>
 some (.tuple [],h)
theorem Vp(H:Aw disp)(hd:1<=d)(v0 v1:EV)(h:Aa):Ae TT disp K d false 174 [v0,v1] h=Nc K v0 v1 h:=
 Cj (H.bare (by kernel_rfl)) hd (by kernel_rfl) (fun d hd=>rfl) (fun d c r=>rfl) (fun d c r=>by kernel_rfl)
def Aaa(K:Nat)(v0:EV)(h:Aa):R:=
 Aj (B1 [(.int .u8 0)] 5 1 0 [] h) fun v8 h=>
 A7 v0 fun v10=>
 Am 0 v10 fun v11=>
 Al v11 h fun v12=>
 Aj (Dt 5 1 v8 v12 h) fun v13 h=>
 some (.tuple [v13,(.int .i64 0)],h)
def Jj(K:Nat)(v0:EV)(h:Aa):R:=
 A7 v0 fun v5=>
 Am 1 v5 fun v6=>
 Al v6 h fun v7=>
 De v7
 (some (.tuple [.Ag,(.int .i64 13)],h))
 (Aaa K v0 h)
theorem Yj(H:Aw disp)(hd:1<=d)(v0:EV)(h:Aa):Ae TT disp K d false 175 [v0] h=Jj K v0 h:=
 Cj (H.bare (by kernel_rfl)) hd (by kernel_rfl) (fun d hd=>rfl) (fun d c r=>rfl) (fun d c r=>by kernel_rfl)
def Qd(K:Nat)(v10 v13:EV)(h:Aa):R:=
 Bk v10 v13 (.bool false) fun v14=>
 some (v14,h)
def Ku(K:Nat)(v0 v1 v2:EV)(h:Aa):R:=
 An Zu (bin TT .geq 3) v0 v1 fun v9=>
 As (Ay v9 true)
 (An Aei (bin TT .leq 3) v0 v2 fun v13=>
 Qd K v9 v13 h)
 (Qd K v9 (.tuple []) h)
theorem Aj7(H:Aw disp)(hd:1<=d)(v0 v1 v2:EV)(h:Aa):Ae TT disp K d false 176 [v0,v1,v2] h=Ku K v0 v1 v2 h:=
 Cj (H.bare (by kernel_rfl)) hd (by kernel_rfl) (fun d hd=>rfl) (fun d c r=>rfl) (fun d c r=>by kernel_rfl)
def Ot(K:Nat)(v0 v1 v2:EV)(h:Aa):R:=
 Ea 72 v0 h fun v3 h=>
 Lt (bin TT .shr 70) v1 (.int .u64 8) fun v8=>
 My .u8 v1 fun v10=>
 Lt (bin TT .xor 5) v10 v2 fun v12=>
 Adg 256 1 v3 v12 fun v13=>
 Al v13 h fun v14=>
 Lt (bin TT .xor 70) v8 v14 fun v15=>
 some (v15,h)
theorem Ahj(H:Aw disp)(hd:1<=d)(v0 v1 v2:EV)(h:Aa):Ae TT disp K d false 178 [v0,v1,v2] h=Ot K v0 v1 v2 h:=
 Cj (H.bare (by kernel_rfl)) hd (by kernel_rfl) (fun d hd=>rfl) (fun d c r=>rfl) (fun d c r=>by kernel_rfl)
def Lf(c r:Ad)(K:Nat)(v0 v6 v13:EV)(h:Aa):R:=
 Bk v6 v13 (.bool false) fun v14=>
 De v14
 (Aj (c 118 [v0] h) fun v16 h=>
 some (.tuple [],h))
 (some (.tuple [],h))
def Aas(c r:Ad)(K:Nat)(v0 v1:EV)(h:Aa):R:=
 An Zu (bin TT .geq 3) v1 (.int .i64 0) fun v5=>
 As (Ay v5 true)
 (A7 v0 fun v9=>
 Am 0 v9 fun v10=>
 Al v10 h fun v11=>
 Aj (Hf K v11 h) fun v12 h=>
 An Hl (bin TT .lss 3) v1 v12 fun v13=>
 Lf c r K v0 v5 v13 h)
 (Lf c r K v0 v5 (.tuple []) h)
theorem Afb(H:Aw disp)(hd:1<=d)(v0 v1:EV)(h:Aa):Ae TT disp K (d+1) false 179 [v0,v1] h=Aas (Ae TT disp K d false) (Ae TT disp K d true) K v0 v1 h:=
 Um (H.bare (by kernel_rfl)) (by kernel_rfl) (W1 (Nv H (lq hd rfl)) rfl) rfl (by kernel_rfl)
def G4(K:Nat)(v0:EV)(h:Aa):R:=
 Aj (B1 (List.replicate 64 (.int .u8 0)) 103 64 0 [] h) fun v5 h=>
 Aj (Dt 103 64 v5 v0 h) fun v7 h=>
 some (v7,h)
def Bm(K:Nat)(v0:EV)(h:Aa):R:=
 An Fj (bin TT .eql 129) v0 .Ag fun v4=>
 De v4
 (some (.Ag,h))
 (G4 K v0 h)
theorem Ls(H:Aw disp)(hd:1<=d)(v0:EV)(h:Aa):Ae TT disp K d false 182 [v0] h=Bm K v0 h:=
 Cj (H.bare (by kernel_rfl)) hd (by kernel_rfl) (fun d hd=>rfl) (fun d c r=>rfl) (fun d c r=>by kernel_rfl)
def Aax(K:Nat)(v0:EV)(h:Aa):R:=
 Aj (B1 [(.int .u8 0)] 5 1 0 [] h) fun v3 h=>
 Aj (Dt 5 1 v3 v0 h) fun v5 h=>
 Bu (D3 [(0,1),(1,1)]) [.Ag,(.bool false)] [(0,v5)] fun v6=>
 Ea 316 v6 h fun v7 h=>
 some (v7,h)
theorem Agp(H:Aw disp)(hd:1<=d)(v0:EV)(h:Aa):Ae TT disp K d false 194 [v0] h=Aax K v0 h:=
 Cj (H.bare (by kernel_rfl)) hd (by kernel_rfl) (fun d hd=>rfl) (fun d c r=>rfl) (fun d c r=>by kernel_rfl)
def Aeb(K:Nat)(h:Aa):R:=
 some ((.int .i64 0),h)
def T2(K:Nat)(v7 v13:EV)(h:Aa):R:=
 Bk v7 (.bool true) v13 fun v14=>
 De v14
 (some ((.int .i64 14),h))
 (Aeb K h)
def Ob(K:Nat)(v0:EV)(h:Aa):R:=
 A7 v0 fun v4=>
 Am 1 v4 fun v5=>
 Al v5 h fun v6=>
 As (Ay v6 false)
 (A7 v0 fun v9=>
 Am 0 v9 fun v10=>
 Al v10 h fun v11=>
 Hg v11 fun v12=>
 An Ww (bin TT .gtr 3) v12 (.int .i64 0) fun v13=>
 T2 K v6 v13 h)
 (T2 K v6 (.tuple []) h)
theorem Adp(H:Aw disp)(hd:1<=d)(v0:EV)(h:Aa):Ae TT disp K d false 197 [v0] h=Ob K v0 h:=
 Cj (H.bare (by kernel_rfl)) hd (by kernel_rfl) (fun d hd=>rfl) (fun d c r=>rfl) (fun d c r=>by kernel_rfl)
def Qb(K:Nat)(v10 v13:EV)(h:Aa):R:=
 Bk v10 v13 (.bool false) fun v14=>
 some (v14,h)
def Kl(K:Nat)(v0 v1 v2:EV)(h:Aa):R:=
 An Zu (bin TT .geq 3) v0 v1 fun v9=>
 As (Ay v9 true)
 (An Aei (bin TT .leq 3) v0 v2 fun v13=>
 Qb K v9 v13 h)
 (Qb K v9 (.tuple []) h)
theorem Aat(H:Aw disp)(hd:1<=d)(v0 v1 v2:EV)(h:Aa):Ae TT disp K d false 207 [v0,v1,v2] h=Kl K v0 v1 v2 h:=
 Cj (H.bare (by kernel_rfl)) hd (by kernel_rfl) (fun d hd=>rfl) (fun d c r=>rfl) (fun d c r=>by kernel_rfl)
def Sk(K:Nat)(h:Aa):R:=
 some ((.bool false),h)
def J1(K:Nat)(v10 v13:EV)(h:Aa):R:=
 Bk v10 v13 (.bool false) fun v14=>
 some (v14,h)
def Hr(K:Nat)(v28 v32:EV)(h:Aa):R:=
 Bk v28 v32 (.bool false) fun v33=>
 some (v33,h)
def J5(K:Nat)(v1 v20 v26:EV)(h:Aa):R:=
 Bk v20 v26 (.bool false) fun v27=>
 As (Ay v27 true)
 (Am 6 v1 fun v29=>
 Ca 32 v29 h fun v30=>
 Bu (Pz 1) (List.replicate 32 (.int .u8 0)) [] fun v31=>
 An Fj (bin TT .eql 87) v30 v31 fun v32=>
 Hr K v27 v32 h)
 (Hr K v27 (.tuple []) h)
def J2(K:Nat)(v39 v42:EV)(h:Aa):R:=
 Bk v39 v42 (.bool false) fun v43=>
 some (v43,h)
def Mf(K:Nat)(v0:EV)(h:Aa):R:=
 Ea 89 v0 h fun v1 h=>
 Am 0 v1 fun v3=>
 Al v3 h fun v4=>
 An Fj (bin TT .eql 3) v4 (.int .i64 1) fun v6=>
 De v6
 (Am 2 v1 fun v7=>
 Al v7 h fun v8=>
 Aj (Kl K v8 (.int .i64 1) (.int .i64 4) h) fun v9 h=>
 As (Ay v9 true)
 (Am 4 v1 fun v11=>
 Al v11 h fun v12=>
 An Fj (bin TT .eql 3) v12 (.int .i64 0) fun v13=>
 J1 K v9 v13 h)
 (J1 K v9 (.tuple []) h))
 (An Fj (bin TT .eql 3) v4 (.int .i64 2) fun v16=>
 De v16
 (Am 2 v1 fun v17=>
 Al v17 h fun v18=>
 An Fj (bin TT .eql 3) v18 (.int .i64 1) fun v19=>
 As (Ay v19 true)
 (Am 4 v1 fun v21=>
 Al v21 h fun v22=>
 Am 3 v1 fun v23=>
 Al v23 h fun v24=>
 An R8 (bin TT .sub 3) (.int .i64 256) v24 fun v25=>
 Aj (Kl K v22 (.int .i64 1) v25 h) fun v26 h=>
 J5 K v1 v19 v26 h)
 (J5 K v1 v19 (.tuple []) h))
 (An Fj (bin TT .eql 3) v4 (.int .i64 3) fun v35=>
 De v35
 (Am 2 v1 fun v36=>
 Al v36 h fun v37=>
 An Fj (bin TT .eql 3) v37 (.int .i64 1) fun v38=>
 As (Ay v38 true)
 (Am 4 v1 fun v40=>
 Al v40 h fun v41=>
 An Fj (bin TT .eql 3) v41 (.int .i64 0) fun v42=>
 J2 K v38 v42 h)
 (J2 K v38 (.tuple []) h))
 (Sk K h)))
theorem Abm(H:Aw disp)(hd:2<=d)(v0:EV)(h:Aa):Ae TT disp K d false 208 [v0] h=Mf K v0 h:=
 Cj (H.bare (by kernel_rfl)) hd (by kernel_rfl) (fun d hd=>(W3 (Aat H (lq hd rfl)) rfl)) (fun d c r=>rfl) (fun d c r=>by kernel_rfl)
def Qc(K:Nat)(v5 v7:EV)(h:Aa):R:=
 Bk v5 v7 (.bool false) fun v8=>
 some (v8,h)
def L9(K:Nat)(v0:EV)(h:Aa):R:=
 An Zu (bin TT .geq 3) v0 (.int .i64 1) fun v4=>
 As (Ay v4 true)
 (An Aei (bin TT .leq 3) v0 (.int .i64 7) fun v7=>
 Qc K v4 v7 h)
 (Qc K v4 (.tuple []) h)
theorem Aaz(H:Aw disp)(hd:1<=d)(v0:EV)(h:Aa):Ae TT disp K d false 209 [v0] h=L9 K v0 h:=
 Cj (H.bare (by kernel_rfl)) hd (by kernel_rfl) (fun d hd=>rfl) (fun d c r=>rfl) (fun d c r=>by kernel_rfl)
def Adx(K:Nat)(v3:EV)(h:Aa):R:=
 some (v3,h)
def Oq(K:Nat)(v3 v13 v15:EV)(h:Aa):R:=
 Bk v13 (.bool true) v15 fun v16=>
 De v16
 (some ((.int .i64 8),h))
 (Adx K v3 h)
def Oi(K:Nat)(v0 v3:EV)(h:Aa):R:=
 An Hl (bin TT .lss 3) v0 (.int .i64 0) fun v12=>
 As (Ay v12 false)
 (An Ww (bin TT .gtr 3) v3 (.int .i64 7) fun v15=>
 Oq K v3 v12 v15 h)
 (Oq K v3 v12 (.tuple []) h)
def Ae9(K:Nat)(ih3_:EV->EV->Aa->R)(v0 v3:EV)(h:Aa):R:=
 Lt (bin TT .shr 3) v0 (.int .u64 8) fun v8=>
 An Hw (bin TT .add 3) v3 (.int .i64 1) fun v10=>
 ih3_ v8 v10 h
def F4(K:Nat):Nat->EV->EV->Aa->R
 | 0=>fun _ _ _=>none
 | m+1=>fun v0 v3 h=>
  Lt (bin TT .shr 3) v0 (.int .u64 8) fun v5=>
  An Ww (bin TT .gtr 3) v5 (.int .i64 0) fun v6=>
  De v6
  (Ae9 K (F4 K m) v0 v3 h)
  (Oi K v0 v3 h)
def Oj(K:Nat)(v0:EV)(h:Aa):R:=
 F4 K K v0 (.int .i64 1) h
abbrev Apn(K:Nat)(c:Ad):Ad:=c
theorem Akr(c c' r:Ad)(K:Nat)(m:Nat):I0 (fun ih=>H6 TT (Apn K c) c' r K (nOf TT 210) (F2 TT 210) (Sb TT 210 [true,true,false,false]) [(0,fun ρ h=>Oi K (ρ 0) (ρ 3) h)] ih) m=fun ρ h=>F4 K m (ρ 0) (ρ 3) h:=
 C3 (E:=fun m ρ h=>F4 K m (ρ 0) (ρ 3) h) rfl (fun m=>Se fun ρ h=>by
  show _=F4 K (m+1) (ρ 0) (ρ 3) h
  rw[F4];kernel_rfl) m
theorem Ame(H:Aw disp)(hd:1<=d)(v0:EV)(h:Aa):Ae TT disp K d false 210 [v0] h=Oj K v0 h:=
 Cj (H.bare (by kernel_rfl)) hd (by kernel_rfl) (fun d hd=>rfl) (fun d c r=>(cut [true,true,false,false] (Akr (Ae TT disp K d false) c r K K) (by kernel_rfl) (by kernel_rfl) rfl)) (fun d c r=>by kernel_rfl)
def Uy(K:Nat)(v0:EV)(h:Aa):R:=
 A7 v0 fun v16=>
 Am 3 v16 fun v17=>
 Al v17 h fun v18=>
 An Hw (bin TT .add 3) v18 (.int .i64 1) fun v19=>
 A7 v0 fun v20=>
 Am 3 v20 fun v21=>
 D5 1 v21 v19 h fun h=>
 some ((.int .i64 0),h)
def Il(K:Nat)(v0 v1:EV)(h:Aa):R:=
 A7 v0 fun v7=>
 Am 4 v7 fun v8=>
 Al v8 h fun v9=>
 De v9
 (some ((.int .i64 34),h))
 (Aj (Hm K v0 v1 h) fun v13 h=>
 Q1 v13 fun v14=>
 De v14
 (some ((.int .i64 13),h))
 (Uy K v0 h))
theorem Nu(H:Aw disp)(hd:2<=d)(v0 v1:EV)(h:Aa):Ae TT disp K d false 212 [v0,v1] h=Il K v0 v1 h:=
 Cj (H.bare (by kernel_rfl)) hd (by kernel_rfl) (fun d hd=>(W2 (La H (lq hd rfl)) rfl)) (fun d c r=>rfl) (fun d c r=>by kernel_rfl)
def Ll(K:Nat)(v0 v1 v4:EV)(h:Aa):R:=
 A7 v0 fun v28=>
 Am 0 v28 fun v29=>
 Al v29 h fun v30=>
 It 64 v30 v1 fun v32=>
 Ca 64 v32 h fun v33=>
 D5 64 v4 v33 h fun h=>
 Cx TT [.c v4 103,.v (.int .i64 0)] h
def Fc(K:Nat)(v0 v1 v4 v6 v17 v24:EV)(h:Aa):R:=
 Bk v17 (.bool true) v24 fun v25=>
 De v25
 (Ca 64 v6 h fun v26=>
 D5 64 v4 v26 h fun h=>
 Cx TT [.c v4 103,.v (.int .i64 31)] h)
 (Ll K v0 v1 v4 h)
def Gn(K:Nat)(v0 v1:EV)(h:Aa):R:=
 Hj (.cells (List.replicate 64 (.int .u8 0)) 103) h fun v4 h=>
 Hj (.cells (List.replicate 64 (.int .u8 0)) 103) h fun v6 h=>
 A7 v0 fun v9=>
 Am 3 v9 fun v10=>
 Al v10 h fun v11=>
 An Fj (bin TT .eql 3) v11 (.int .i64 4) fun v12=>
 De v12
 (Ca 64 v6 h fun v13=>
 D5 64 v4 v13 h fun h=>
 Cx TT [.c v4 103,.v (.int .i64 32)] h)
 (An Hl (bin TT .lss 3) v1 (.int .i64 0) fun v16=>
 As (Ay v16 false)
 (A7 v0 fun v20=>
 Am 0 v20 fun v21=>
 Al v21 h fun v22=>
 Hg v22 fun v23=>
 An Zu (bin TT .geq 3) v1 v23 fun v24=>
 Fc K v0 v1 v4 v6 v16 v24 h)
 (Fc K v0 v1 v4 v6 v16 (.tuple []) h))
theorem Sg(H:Aw disp)(hd:1<=d)(v0 v1:EV)(h:Aa):Ae TT disp K d false 213 [v0,v1] h=Gn K v0 v1 h:=
 Cj (H.bare (by kernel_rfl)) hd (by kernel_rfl) (fun d hd=>rfl) (fun d c r=>rfl) (fun d c r=>by kernel_rfl)
def Uq(K:Nat)(v0 v1:EV)(h:Aa):R:=
 A7 v0 fun v30=>
 Am 0 v30 fun v31=>
 Al v31 h fun v32=>
 R9 1 v32 none (some v1) (some v1) fun v35=>
 A7 v0 fun v38=>
 Am 0 v38 fun v39=>
 Al v39 h fun v40=>
 R9 1 v40 (some v1) none none fun v42=>
 A7 v0 fun v43=>
 Am 0 v43 fun v44=>
 D5 1 v44 v42 h fun h=>
 some (v35,h)
def Og(K:Nat)(v0 v1 v14 v21:EV)(h:Aa):R:=
 Bk v14 (.bool true) v21 fun v22=>
 De v22
 (A7 v0 fun v25=>
 Am 0 v25 fun v26=>
 D5 1 v26 .Ag h fun h=>
 A7 v0 fun v27=>
 Am 1 v27 fun v28=>
 D5 1 v28 (.bool true) h fun h=>
 some (.Ag,h))
 (Uq K v0 v1 h)
def Oy(K:Nat)(v0 v1 v10 v12:EV)(h:Aa):R:=
 Bk v10 (.bool true) v12 fun v13=>
 As (Ay v13 false)
 (A7 v0 fun v17=>
 Am 0 v17 fun v18=>
 Al v18 h fun v19=>
 Hg v19 fun v20=>
 An Ww (bin TT .gtr 3) v1 v20 fun v21=>
 Og K v0 v1 v13 v21 h)
 (Og K v0 v1 v13 (.tuple []) h)
def G8(K:Nat)(v0 v1:EV)(h:Aa):R:=
 A7 v0 fun v7=>
 Am 1 v7 fun v8=>
 Al v8 h fun v9=>
 As (Ay v9 false)
 (An Hl (bin TT .lss 3) v1 (.int .i64 0) fun v12=>
 Oy K v0 v1 v9 v12 h)
 (Oy K v0 v1 v9 (.tuple []) h)
theorem Sy(H:Aw disp)(hd:1<=d)(v0 v1:EV)(h:Aa):Ae TT disp K d false 220 [v0,v1] h=G8 K v0 v1 h:=
 Cj (H.bare (by kernel_rfl)) hd (by kernel_rfl) (fun d hd=>rfl) (fun d c r=>rfl) (fun d c r=>by kernel_rfl)
def N1(K:Nat)(v3:EV)(h:Aa):R:=
 some (v3,h)
def J0(K:Nat)(ih1_:EV->EV->EV->EV->Aa->R)(v3 v9 v10 v11:EV)(h:Aa):R:=
 An Hw (bin TT .add 3) v11 (.int .i64 1) fun v20=>
 ih1_ v3 v9 v10 v20 h
def Sw(K:Nat)(ih1_:EV->EV->EV->EV->Aa->R)(v3 v9 v10 v11:EV)(h:Aa):R:=
 It 1 v9 v11 fun v13=>
 Al v13 h fun v14=>
 Aj (C1 K v14 h) fun v16 h=>
 An Fj (bin TT .eql 3) v16 (.int .i64 1) fun v17=>
 De v17
 (An Hw (bin TT .add 3) v3 (.int .i64 1) fun v19=>
 J0 K ih1_ v19 v9 v10 v11 h)
 (J0 K ih1_ v3 v9 v10 v11 h)
def C7(K:Nat):Nat->EV->EV->EV->EV->Aa->R
 | 0=>fun _ _ _ _ _=>none
 | m+1=>fun v3 v9 v10 v11 h=>
  An Hl (bin TT .lss 3) v11 v10 fun v12=>
  De v12
  (Sw K (C7 K m) v3 v9 v10 v11 h)
  (N1 K v3 h)
def Mc(K:Nat)(v0:EV)(h:Aa):R:=
 A7 v0 fun v7=>
 Am 0 v7 fun v8=>
 Al v8 h fun v9=>
 Hg v9 fun v10=>
 C7 K K (.int .i64 0) v9 v10 (.int .i64 0) h
abbrev Ae7(K:Nat)(c:Ad):Ad:=(w1 86 (C1 K) c)
theorem Aaw(c c' r:Ad)(K:Nat)(m:Nat):I0 (fun ih=>H6 TT (Ae7 K c) c' r K (nOf TT 222) (F2 TT 222) (Sb TT 222 [true,true,false,true,false]) [(0,fun ρ h=>N1 K (ρ 3) h)] ih) m=fun ρ h=>C7 K m (ρ 3) (ρ 9) (ρ 10) (ρ 11) h:=
 C3 (E:=fun m ρ h=>C7 K m (ρ 3) (ρ 9) (ρ 10) (ρ 11) h) rfl (fun m=>Se fun ρ h=>by
  show _=C7 K (m+1) (ρ 3) (ρ 9) (ρ 10) (ρ 11) h
  rw[C7];kernel_rfl) m
theorem Aba(H:Aw disp)(hd:2<=d)(v0:EV)(h:Aa):Ae TT disp K d false 222 [v0] h=Mc K v0 h:=
 Cj (H.bare (by kernel_rfl)) hd (by kernel_rfl) (fun d hd=>(W1 (Kv H (lq hd rfl)) rfl)) (fun d c r=>(cut [true,true,false,true,false] (Aaw (Ae TT disp K d false) c r K K) (by kernel_rfl) (by kernel_rfl) rfl)) (fun d c r=>by kernel_rfl)
def Ug(c r:Ad)(K:Nat)(v0 v1 v2 v7:EV)(h:Aa):R:=
 A7 v0 fun v14=>
 Am 0 v14 fun v15=>
 Al v15 h fun v16=>
 It 1 v16 v1 fun v18=>
 Al v18 h fun v19=>
 Aj (c 238 [v19,v2,(.func 239 [] [v7])] h) fun v22 h=>
 some (v22,h)
def X8(c r:Ad)(K:Nat)(v0 v1 v2 v3:EV)(h:Aa):R:=
 Ea 103 v3 h fun v7 h=>
 Aj (Hm K v0 v1 h) fun v11 h=>
 Q1 v11 fun v12=>
 De v12
 (some ((.int .i64 13),h))
 (Ug c r K v0 v1 v2 v7 h)
theorem Adb(H:Aw disp)(hd:1<=d)(v0 v1 v2 v3:EV)(h:Aa):Ae TT disp K (d+1) false 225 [v0,v1,v2,v3] h=X8 (Ae TT disp K d false) (Ae TT disp K d true) K v0 v1 v2 v3 h:=
 Um (H.bare (by kernel_rfl)) (by kernel_rfl) (W2 (La H (lq hd rfl)) rfl) rfl (by kernel_rfl)
def Pv(K:Nat)(v2 v4:EV)(h:Aa):R:=
 Ca 64 v2 h fun v18=>
 D5 64 v4 v18 h fun h=>
 Cx TT [.c v4 103] h
def Vn(K:Nat)(ih1_:EV->EV->EV->EV->Aa->R)(v2 v3 v4 v6:EV)(h:Aa):R:=
 An Hw (bin TT .add 3) v6 (.int .i64 1) fun v17=>
 ih1_ v2 v3 v4 v17 h
def Vu(K:Nat)(ih1_:EV->EV->EV->EV->Aa->R)(v2 v3 v4 v6:EV)(h:Aa):R:=
 Fz h fun base s=>
 Adg 64 1 v2 v6 fun v10=>
 Bd 2 3 base v10 s fun s=>Al v10 h fun v11=>
 Adg 64 1 v3 v6 fun v13=>
 Bd 5 24 base v13 s fun s=>Al v13 h fun v14=>
 Lt (bin TT .xor 5) v11 v14 fun v15=>
 Adg 64 1 v2 v6 fun v16=>
 Ad4 8 255 v16 s fun s=>D5 1 v16 v15 h fun h=>
 Vn K ih1_ v2 v3 v4 v6 h
def Ec(K:Nat):Nat->EV->EV->EV->EV->Aa->R
 | 0=>fun _ _ _ _ _=>none
 | m+1=>fun v2 v3 v4 v6 h=>
  An Hl (bin TT .lss 3) v6 (.int .i64 64) fun v7=>
  De v7
  (Vu K (Ec K m) v2 v3 v4 v6 h)
  (Pv K v2 v4 h)
def Ln(K:Nat)(v0 v1:EV)(h:Aa):R:=
 Ea 103 v0 h fun v2 h=>
 Ea 103 v1 h fun v3 h=>
 Hj (.cells (List.replicate 64 (.int .u8 0)) 103) h fun v4 h=>
 Ec K K v2 v3 v4 (.int .i64 0) h
abbrev Ag9(K:Nat)(c:Ad):Ad:=c
theorem Ade(c c' r:Ad)(K:Nat)(m:Nat):I0 (fun ih=>H6 TT (Ag9 K c) c' r K (nOf TT 226) (F2 TT 226) (Sb TT 226 [true,false,true,false]) [(0,fun ρ h=>Pv K (ρ 2) (ρ 4) h)] ih) m=fun ρ h=>Ec K m (ρ 2) (ρ 3) (ρ 4) (ρ 6) h:=
 C3 (E:=fun m ρ h=>Ec K m (ρ 2) (ρ 3) (ρ 4) (ρ 6) h) rfl (fun m=>Se fun ρ h=>by
  show _=Ec K (m+1) (ρ 2) (ρ 3) (ρ 4) (ρ 6) h
  rw[Ec];kernel_rfl) m
theorem Ud(H:Aw disp)(hd:1<=d)(v0 v1:EV)(h:Aa):Ae TT disp K d false 226 [v0,v1] h=Ln K v0 v1 h:=
 Cj (H.bare (by kernel_rfl)) hd (by kernel_rfl) (fun d hd=>rfl) (fun d c r=>(cut [true,false,true,false] (Ade (Ae TT disp K d false) c r K K) (by kernel_rfl) (by kernel_rfl) rfl)) (fun d c r=>by kernel_rfl)
def Cm(K:Nat)(v0 v1 v6 v15:EV)(h:Aa):R:=
 Bk v6 (.bool true) v15 fun v16=>
 De v16
 (A7 v0 fun v19=>
 Am 3 v19 fun v20=>
 D5 1 v20 v1 h fun h=>
 some (.tuple [],h))
 (some (.tuple [],h))
def Cn(K:Nat)(v0 v1 v6 v9 v14:EV)(h:Aa):R:=
 As (Ay v6 false)
 (Bk v9 v14 (.bool false) fun v15=>
 Cm K v0 v1 v6 v15 h)
 (Cm K v0 v1 v6 (.tuple []) h)
def Df(K:Nat)(v0 v1 v6 v9:EV)(h:Aa):R:=
 As (Ay v9 true)
 (A7 v0 fun v11=>
 Am 3 v11 fun v12=>
 Al v12 h fun v13=>
 An Gv (bin TT .neq 3) v13 (.int .i64 4) fun v14=>
 Cn K v0 v1 v6 v9 v14 h)
 (Cn K v0 v1 v6 v9 (.tuple []) h)
def Gq(K:Nat)(v0 v1:EV)(h:Aa):R:=
 An Fj (bin TT .eql 3) v1 (.int .i64 4) fun v5=>
 As (Ay v5 false)
 (An Fj (bin TT .eql 3) v1 (.int .i64 3) fun v8=>
 Df K v0 v1 v5 v8 h)
 (Df K v0 v1 v5 (.tuple []) h)
theorem Sa(H:Aw disp)(hd:1<=d)(v0 v1:EV)(h:Aa):Ae TT disp K d false 227 [v0,v1] h=Gq K v0 v1 h:=
 Cj (H.bare (by kernel_rfl)) hd (by kernel_rfl) (fun d hd=>rfl) (fun d c r=>rfl) (fun d c r=>by kernel_rfl)
def Ke(K:Nat)(h:Aa):R:=
 some ((.int .i64 0),h)
def Dl(K:Nat)(v0:EV)(h:Aa):R:=
 A7 v0 fun v4=>
 Am 3 v4 fun v5=>
 Al v5 h fun v6=>
 An Fj (bin TT .eql 3) v6 (.int .i64 4) fun v8=>
 De v8
 (some ((.int .i64 32),h))
 (An Fj (bin TT .eql 3) v6 (.int .i64 3) fun v10=>
 De v10
 (some ((.int .i64 30),h))
 (Ke K h))
theorem J7(H:Aw disp)(hd:1<=d)(v0:EV)(h:Aa):Ae TT disp K d false 237 [v0] h=Dl K v0 h:=
 Cj (H.bare (by kernel_rfl)) hd (by kernel_rfl) (fun d hd=>rfl) (fun d c r=>rfl) (fun d c r=>by kernel_rfl)
def Km(c r:Ad)(K:Nat)(v0 v1 v2:EV)(h:Aa):R:=
 Fz h fun base s=>
 A7 v0 fun v19=>
 Am 0 v19 fun v20=>
 Bd 3 7 base v20 s fun s=>Al v20 h fun v21=>
 A7 v0 fun v25=>
 Am 0 v25 fun v26=>
 Bd 9 448 base v26 s fun s=>Al v26 h fun v27=>
 It 64 v27 v1 fun v29=>
 Bd 12 4032 base v29 s fun s=>Ca 64 v29 h fun v30=>
 Ci 13 8160 s h (fun h=>(Y6 c r v2 [v30] h)) fun v31 h s=>
 It 64 v21 v1 fun v32=>
 Ad4 15 32767 v32 s fun s=>D5 64 v32 v31 h fun h=>
 some ((.int .i64 0),h)
def C4(c r:Ad)(K:Nat)(v0 v1 v2 v9 v16:EV)(h:Aa):R:=
 Bk v9 (.bool true) v16 fun v17=>
 De v17
 (some ((.int .i64 31),h))
 (Km c r K v0 v1 v2 h)
def Ic(c r:Ad)(K:Nat)(v0 v1 v2:EV)(h:Aa):R:=
 An Hl (bin TT .lss 3) v1 (.int .i64 0) fun v8=>
 As (Ay v8 false)
 (A7 v0 fun v12=>
 Am 0 v12 fun v13=>
 Al v13 h fun v14=>
 Hg v14 fun v15=>
 An Zu (bin TT .geq 3) v1 v15 fun v16=>
 C4 c r K v0 v1 v2 v8 v16 h)
 (C4 c r K v0 v1 v2 v8 (.tuple []) h)
theorem Qz(H:Aw disp)(hd:0<=d)(v0 v1 v2:EV)(h:Aa):Ae TT disp K (d+1) false 238 [v0,v1,v2] h=Ic (Ae TT disp K d false) (Ae TT disp K d true) K v0 v1 v2 h:=
 Um (H.bare (by kernel_rfl)) (by kernel_rfl) rfl rfl (by kernel_rfl)
def Vr(K:Nat)(v0 v1:EV)(h:Aa):R:=
 Ea 103 v0 h fun v2 h=>
 Hj (.cells (List.replicate 64 (.int .u8 0)) 103) h fun v3 h=>
 Ca 64 v2 h fun v4=>
 Ca 64 v1 h fun v5=>
 Aj (Ln K v4 v5 h) fun v6 h=>
 D5 64 v3 v6 h fun h=>
 Cx TT [.c v3 103] h
theorem Aaj(H:Aw disp)(hd:2<=d)(v0 v1:EV)(h:Aa):Ae TT disp K d false 239 [v0,v1] h=Vr K v0 v1 h:=
 Cj (H.bare (by kernel_rfl)) hd (by kernel_rfl) (fun d hd=>(W2 (Ud H (lq hd rfl)) rfl)) (fun d c r=>rfl) (fun d c r=>by kernel_rfl)
def Xn(K:Nat)(v0 v1:EV)(h:Aa):R:=
 A7 v0 fun v10=>
 Am 0 v10 fun v11=>
 Al v11 h fun v12=>
 It 1 v12 v1 fun v14=>
 Al v14 h fun v15=>
 Aj (Hd K v15 h) fun v16 h=>
 some (v16,h)
def Mx(K:Nat)(v0 v1:EV)(h:Aa):R:=
 Aj (Hm K v0 v1 h) fun v7 h=>
 Q1 v7 fun v8=>
 De v8
 (some ((.int .i64 0),h))
 (Xn K v0 v1 h)
theorem Agb(H:Aw disp)(hd:2<=d)(v0 v1:EV)(h:Aa):Ae TT disp K d false 89 [v0,v1] h=Mx K v0 v1 h:=
 Cj (H.bare (by kernel_rfl)) hd (by kernel_rfl) (fun d hd=>(W2 (La H (lq hd rfl)) (W1 (Tc H (lq hd rfl)) rfl))) (fun d c r=>rfl) (fun d c r=>by kernel_rfl)
def Yz(c r:Ad)(K:Nat)(ih0_:EV->Aa->R)(v0:EV)(h:Aa):R:=
 A7 v0 fun v33=>
 Am 1 v33 fun v34=>
 Al v34 h fun v35=>
 It 68 v35 (.int .i64 0) fun v36=>
 Ca 68 v36 h fun v37=>
 Hj (.cells (List.replicate 4 (.int .i64 0)++List.replicate 64 (.int .u8 0)) 105) h fun v2 h=>
 D5 68 v2 v37 h fun h=>
 A7 v0 fun v40=>
 Am 1 v40 fun v41=>
 Al v41 h fun v42=>
 R9 68 v42 (some (.int .i64 1)) none none fun v43=>
 Aj (Cb K v43 h) fun v44 h=>
 A7 v0 fun v45=>
 Am 1 v45 fun v46=>
 D5 1 v46 v44 h fun h=>
 Ca 68 v2 h fun v48=>
 Aj (c 169 [v0,v48] h) fun v49 h=>
 ih0_ v0 h
def Io(c r:Ad)(K:Nat)(ih0_:EV->Aa->R)(base:Nat)(s:DX)(v0 v17 v30:EV)(h:Aa):R:=
 Bk v17 v30 (.bool false) fun v31=>
 De v31
 (Yz c r K ih0_ v0 h)
 (some (.tuple [],h))
def Kt(c r:Ad)(K:Nat)(ih0_:EV->Aa->R)(base:Nat)(s:DX)(v0 v9 v15:EV)(h:Aa):R:=
 Bk v9 v15 (.bool false) fun v16=>
 As (Ay v16 true)
 (A7 v0 fun v19=>
 Am 1 v19 fun v20=>
 Bd 18 262143 base v20 s fun s=>Al v20 h fun v21=>
 It 68 v21 (.int .i64 0) fun v22=>
 Am 0 v22 fun v23=>
 Bd 21 2097151 base v23 s fun s=>Al v23 h fun v24=>
 A7 v0 fun v26=>
 Am 0 v26 fun v27=>
 Bd 25 29392895 base v27 s fun s=>Al v27 h fun v28=>
 Ci 26 62947327 s h (fun h=>(Kg K v28 h)) fun v29 h s=>
 An Aei (bin TT .leq 3) v24 v29 fun v30=>
 Io c r K ih0_ base s v0 v16 v30 h)
 (Io c r K ih0_ base s v0 v16 (.tuple []) h)
def Em(c r:Ad)(K:Nat):Nat->EV->Aa->R
 | 0=>fun _ _=>none
 | m+1=>fun v0 h=>
  Fz h fun base s=>
  A7 v0 fun v4=>
  Am 0 v4 fun v5=>
  Bd 3 7 base v5 s fun s=>Al v5 h fun v6=>
  Ci 4 15 s h (fun h=>(Lo K v6 h)) fun v7 h s=>
  Q1 v7 fun v8=>
  As (Ay v8 true)
  (A7 v0 fun v11=>
  Am 1 v11 fun v12=>
  Bd 10 1023 base v12 s fun s=>Al v12 h fun v13=>
  Hg v13 fun v14=>
  An Ww (bin TT .gtr 3) v14 (.int .i64 0) fun v15=>
  Kt c r K (Em c r K m) base s v0 v8 v15 h)
  (Kt c r K (Em c r K m) base s v0 v8 (.tuple []) h)
def Anf(c r:Ad)(K:Nat)(v0:EV)(h:Aa):R:=
 Em c r K K v0 h
abbrev Aka(K:Nat)(c:Ad):Ad:=(w1 168 (Cb K) (w1 167 (Kg K) (w1 166 (Lo K) c)))
theorem Af6(c r:Ad)(K:Nat)(m:Nat):I0 (fun ih=>H6 TT (Aka K c) c r K (nOf TT 118) (F2 TT 118) (Sb TT 118 [false]) [(0,F2 TT 118)] ih) m=fun ρ h=>Em c r K m (ρ 0) h:=
 C3 (E:=fun m ρ h=>Em c r K m (ρ 0) h) rfl (fun m=>Se fun ρ h=>by
  show _=Em c r K (m+1) (ρ 0) h
  rw[Em];kernel_rfl) m
theorem Ahw(H:Aw disp)(hd:1<=d)(v0:EV)(h:Aa):Ae TT disp K (d+1) false 118 [v0] h=Anf (Ae TT disp K d false) (Ae TT disp K d true) K v0 h:=
 Um (H.bare (by kernel_rfl)) (by kernel_rfl) (W1 (Od H (lq hd rfl)) (W1 (Adn H (lq hd rfl)) (W1 (Ael H (lq hd rfl)) rfl))) (cut [false] (Af6 (Ae TT disp K d false) (Ae TT disp K d true) K K) (by kernel_rfl) (by kernel_rfl) rfl) (by kernel_rfl)
def Ox(K:Nat)(h:Aa):R:=
 some ((.int .i64 0),h)
def T6(K:Nat)(ih1_:EV->EV->EV->Aa->R)(v19 v20 v21:EV)(h:Aa):R:=
 An Hw (bin TT .add 3) v21 (.int .i64 1) fun v27=>
 ih1_ v19 v20 v27 h
def T4(K:Nat)(ih1_:EV->EV->EV->Aa->R)(v19 v20 v21:EV)(h:Aa):R:=
 It 1 v19 v21 fun v23=>
 Al v23 h fun v24=>
 Aj (D4 K v24 h) fun v26 h=>
 T6 K ih1_ v19 v20 v21 h
def Dp(K:Nat):Nat->EV->EV->EV->Aa->R
 | 0=>fun _ _ _ _=>none
 | m+1=>fun v19 v20 v21 h=>
  An Hl (bin TT .lss 3) v21 v20 fun v22=>
  De v22
  (T4 K (Dp K m) v19 v20 v21 h)
  (Ox K h)
def Uh(K:Nat)(v0:EV)(h:Aa):R:=
 A7 v0 fun v10=>
 Am 3 v10 fun v11=>
 Al v11 h fun v12=>
 An Hw (bin TT .add 3) v12 (.int .i64 1) fun v13=>
 A7 v0 fun v14=>
 Am 3 v14 fun v15=>
 D5 1 v15 v13 h fun h=>
 A7 v0 fun v17=>
 Am 0 v17 fun v18=>
 Al v18 h fun v19=>
 Hg v19 fun v20=>
 Dp K K v19 v20 (.int .i64 0) h
def N8(K:Nat)(v0:EV)(h:Aa):R:=
 A7 v0 fun v6=>
 Am 4 v6 fun v7=>
 Al v7 h fun v8=>
 De v8
 (some ((.int .i64 34),h))
 (Uh K v0 h)
abbrev Af7(K:Nat)(c:Ad):Ad:=(w1 170 (D4 K) c)
theorem Abq(c c' r:Ad)(K:Nat)(m:Nat):I0 (fun ih=>H6 TT (Af7 K c) c' r K (nOf TT 119) (F2 TT 119) (Sb TT 119 [true,true,true,false,true,false]) [(0,fun ρ h=>Ox K h)] ih) m=fun ρ h=>Dp K m (ρ 19) (ρ 20) (ρ 21) h:=
 C3 (E:=fun m ρ h=>Dp K m (ρ 19) (ρ 20) (ρ 21) h) rfl (fun m=>Se fun ρ h=>by
  show _=Dp K (m+1) (ρ 19) (ρ 20) (ρ 21) h
  rw[Dp];kernel_rfl) m
theorem Adm(H:Aw disp)(hd:2<=d)(v0:EV)(h:Aa):Ae TT disp K d false 119 [v0] h=N8 K v0 h:=
 Cj (H.bare (by kernel_rfl)) hd (by kernel_rfl) (fun d hd=>(W1 (Ry H (lq hd rfl)) rfl)) (fun d c r=>(cut [true,true,true,false,true,false] (Abq (Ae TT disp K d false) c r K K) (by kernel_rfl) (by kernel_rfl) rfl)) (fun d c r=>by kernel_rfl)
def Ex(K:Nat)(v21 v24:EV)(h:Aa):R:=
 Bk v21 v24 (.bool false) fun v25=>
 some (v25,h)
def Gh(K:Nat)(v1 v16 v19:EV)(h:Aa):R:=
 Bk v16 v19 (.bool false) fun v20=>
 As (Ay v20 true)
 (Am 4 v1 fun v22=>
 Al v22 h fun v23=>
 Aj (Ku K v23 (.int .i64 0) (.int .i64 281474976710655) h) fun v24 h=>
 Ex K v20 v24 h)
 (Ex K v20 (.tuple []) h)
def Ia(K:Nat)(v1 v11 v14:EV)(h:Aa):R:=
 Bk v11 v14 (.bool false) fun v15=>
 As (Ay v15 true)
 (Am 3 v1 fun v17=>
 Al v17 h fun v18=>
 Aj (Ku K v18 (.int .i64 1) (.int .i64 4294967295) h) fun v19 h=>
 Gh K v1 v15 v19 h)
 (Gh K v1 v15 (.tuple []) h)
def Kh(K:Nat)(v1 v6 v9:EV)(h:Aa):R:=
 Bk v6 v9 (.bool false) fun v10=>
 As (Ay v10 true)
 (Am 2 v1 fun v12=>
 Al v12 h fun v13=>
 Aj (Ku K v13 (.int .i64 0) (.int .i64 65535) h) fun v14 h=>
 Ia K v1 v10 v14 h)
 (Ia K v1 v10 (.tuple []) h)
def Ik(K:Nat)(v0:EV)(h:Aa):R:=
 Ea 120 v0 h fun v1 h=>
 Am 0 v1 fun v3=>
 Al v3 h fun v4=>
 Aj (Ku K v4 (.int .i64 1) (.int .i64 5) h) fun v5 h=>
 As (Ay v5 true)
 (Am 1 v1 fun v7=>
 Al v7 h fun v8=>
 Aj (Ku K v8 (.int .i64 0) (.int .i64 65535) h) fun v9 h=>
 Kh K v1 v5 v9 h)
 (Kh K v1 v5 (.tuple []) h)
theorem Ns(H:Aw disp)(hd:2<=d)(v0:EV)(h:Aa):Ae TT disp K d false 129 [v0] h=Ik K v0 h:=
 Cj (H.bare (by kernel_rfl)) hd (by kernel_rfl) (fun d hd=>(W3 (Aj7 H (lq hd rfl)) rfl)) (fun d c r=>rfl) (fun d c r=>by kernel_rfl)
def Ra(K:Nat)(v1:EV)(h:Aa):R:=
 some (v1,h)
def Yt(K:Nat)(ih1_:EV->EV->EV->EV->EV->Aa->R)(v0 v1 v9 v10 v11:EV)(h:Aa):R:=
 An Hw (bin TT .add 3) v11 (.int .i64 1) fun v21=>
 ih1_ v0 v1 v9 v10 v21 h
def Yg(K:Nat)(ih1_:EV->EV->EV->EV->EV->Aa->R)(v0 v1 v9 v10 v11:EV)(h:Aa):R:=
 It 1 v9 v11 fun v13=>
 Al v13 h fun v14=>
 A7 v0 fun v16=>
 Ca 256 v16 h fun v17=>
 Aj (Ot K v17 v1 v14 h) fun v20 h=>
 Yt K ih1_ v0 v20 v9 v10 v11 h
def Ft(K:Nat):Nat->EV->EV->EV->EV->EV->Aa->R
 | 0=>fun _ _ _ _ _ _=>none
 | m+1=>fun v0 v1 v9 v10 v11 h=>
  An Hl (bin TT .lss 3) v11 v10 fun v12=>
  De v12
  (Yg K (Ft K m) v0 v1 v9 v10 v11 h)
  (Ra K v1 h)
def Xq(K:Nat)(v0 v1 v2:EV)(h:Aa):R:=
 Hg v2 fun v10=>
 Ft K K v0 v1 v2 v10 (.int .i64 0) h
abbrev Aj6(K:Nat)(c:Ad):Ad:=(w3 178 (Ot K) c)
theorem Age(c c' r:Ad)(K:Nat)(m:Nat):I0 (fun ih=>H6 TT (Aj6 K c) c' r K (nOf TT 132) (F2 TT 132) (Sb TT 132 [true,false,true,false]) [(0,fun ρ h=>Ra K (ρ 1) h)] ih) m=fun ρ h=>Ft K m (ρ 0) (ρ 1) (ρ 9) (ρ 10) (ρ 11) h:=
 C3 (E:=fun m ρ h=>Ft K m (ρ 0) (ρ 1) (ρ 9) (ρ 10) (ρ 11) h) rfl (fun m=>Se fun ρ h=>by
  show _=Ft K (m+1) (ρ 0) (ρ 1) (ρ 9) (ρ 10) (ρ 11) h
  rw[Ft];kernel_rfl) m
theorem Ahq(H:Aw disp)(hd:2<=d)(v0 v1 v2:EV)(h:Aa):Ae TT disp K d false 132 [v0,v1,v2] h=Xq K v0 v1 v2 h:=
 Cj (H.bare (by kernel_rfl)) hd (by kernel_rfl) (fun d hd=>(W3 (Ahj H (lq hd rfl)) rfl)) (fun d c r=>(cut [true,false,true,false] (Age (Ae TT disp K d false) c r K K) (by kernel_rfl) (by kernel_rfl) rfl)) (fun d c r=>by kernel_rfl)
def Es(K:Nat)(v0 v4 v51 v57:EV)(h:Aa):R:=
 Bk v51 (.bool true) v57 fun v58=>
 De v58
 (A7 v0 fun v60=>
 Am 3 v60 fun v61=>
 D5 1 v61 (.int .i64 2) h fun h=>
 some (.tuple [],h))
 (An Fj (bin TT .eql 3) v4 (.int .i64 0) fun v64=>
 De v64
 (A7 v0 fun v66=>
 Am 3 v66 fun v67=>
 D5 1 v67 (.int .i64 0) h fun h=>
 some (.tuple [],h))
 (A7 v0 fun v38=>
 Am 3 v38 fun v39=>
 D5 1 v39 (.int .i64 1) h fun h=>
 some (.tuple [],h)))
def D1(K:Nat)(v0 v1:EV)(h:Aa):R:=
 A7 v0 fun v6=>
 Am 2 v6 fun v7=>
 Al v7 h fun v8=>
 Aj (builtin TT .max #[3,3] [v1,(.int .i64 0)] h) fun v10 h=>
 A7 v0 fun v12=>
 Am 0 v12 fun v13=>
 Al v13 h fun v14=>
 Hg v14 fun v15=>
 A7 v0 fun v17=>
 Am 2 v17 fun v18=>
 Al v18 h fun v19=>
 An R8 (bin TT .sub 3) v15 v19 fun v20=>
 Aj (builtin TT .min #[3,3] [v10,v20] h) fun v21 h=>
 An Hw (bin TT .add 3) v8 v21 fun v22=>
 A7 v0 fun v25=>
 Am 0 v25 fun v26=>
 Al v26 h fun v27=>
 R9 64 v27 none (some v22) none fun v29=>
 Aj (Bm K v29 h) fun v30 h=>
 A7 v0 fun v31=>
 Am 0 v31 fun v32=>
 D5 1 v32 v30 h fun h=>
 A7 v0 fun v35=>
 Am 2 v35 fun v36=>
 D5 1 v36 v22 h fun h=>
 A7 v0 fun v42=>
 Am 3 v42 fun v43=>
 Al v43 h fun v44=>
 An Zu (bin TT .geq 3) v44 (.int .i64 3) fun v45=>
 De v45
 (some (.tuple [],h))
 (A7 v0 fun v48=>
 Am 4 v48 fun v49=>
 Al v49 h fun v50=>
 As (Ay v50 false)
 (A7 v0 fun v54=>
 Am 1 v54 fun v55=>
 Al v55 h fun v56=>
 An Fj (bin TT .eql 3) v22 v56 fun v57=>
 Es K v0 v22 v50 v57 h)
 (Es K v0 v22 v50 (.tuple []) h))
theorem Rs(H:Aw disp)(hd:2<=d)(v0 v1:EV)(h:Aa):Ae TT disp K d false 136 [v0,v1] h=D1 K v0 v1 h:=
 Cj (H.bare (by kernel_rfl)) hd (by kernel_rfl) (fun d hd=>(W1 (Ls H (lq hd rfl)) rfl)) (fun d c r=>rfl) (fun d c r=>by kernel_rfl)
def Gj(K:Nat)(v16 v18:EV)(h:Aa):R:=
 Bk v16 v18 (.bool false) fun v19=>
 some (v19,h)
def Ih(K:Nat)(v1 v11 v14:EV)(h:Aa):R:=
 Bk v11 v14 (.bool false) fun v15=>
 As (Ay v15 true)
 (Ca 38 v1 h fun v17=>
 Aj (Mf K v17 h) fun v18 h=>
 Gj K v15 v18 h)
 (Gj K v15 (.tuple []) h)
def Kq(K:Nat)(v1 v6 v9:EV)(h:Aa):R:=
 Bk v6 v9 (.bool false) fun v10=>
 As (Ay v10 true)
 (Am 5 v1 fun v12=>
 Al v12 h fun v13=>
 Aj (Kl K v13 (.int .i64 0) (.int .i64 65535) h) fun v14 h=>
 Ih K v1 v10 v14 h)
 (Ih K v1 v10 (.tuple []) h)
def N2(K:Nat)(v0:EV)(h:Aa):R:=
 Ea 89 v0 h fun v1 h=>
 Am 1 v1 fun v3=>
 Al v3 h fun v4=>
 Aj (Kl K v4 (.int .i64 0) (.int .i64 281474976710655) h) fun v5 h=>
 As (Ay v5 true)
 (Am 3 v1 fun v7=>
 Al v7 h fun v8=>
 Aj (Kl K v8 (.int .i64 0) (.int .i64 255) h) fun v9 h=>
 Kq K v1 v5 v9 h)
 (Kq K v1 v5 (.tuple []) h)
theorem Ado(H:Aw disp)(hd:3<=d)(v0:EV)(h:Aa):Ae TT disp K d false 172 [v0] h=N2 K v0 h:=
 Cj (H.bare (by kernel_rfl)) hd (by kernel_rfl) (fun d hd=>(W3 (Aat H (lq hd rfl)) (W1 (Abm H (lq hd rfl)) rfl))) (fun d c r=>rfl) (fun d c r=>by kernel_rfl)
def Z8(K:Nat)(ih0_:EV->EV->EV->EV->Aa->R)(v0 v2 v18 v19:EV)(h:Aa):R:=
 An Hw (bin TT .add 3) v19 (.int .i64 1) fun v34=>
 ih0_ v0 v2 v18 v34 h
def Aap(K:Nat)(ih0_:EV->EV->EV->EV->Aa->R)(v0 v2 v18 v19:EV)(h:Aa):R:=
 A7 v0 fun v23=>
 Am 0 v23 fun v24=>
 Al v24 h fun v25=>
 My .u8 v2 fun v27=>
 Aj (B1 [(.int .u8 0)] 5 1 1 [(0,v27)] h) fun v28 h=>
 Aj (Dt 5 1 v25 v28 h) fun v29 h=>
 A7 v0 fun v30=>
 Am 0 v30 fun v31=>
 D5 1 v31 v29 h fun h=>
 Lt (bin TT .shr 3) v2 (.int .u64 8) fun v33=>
 Z8 K ih0_ v0 v33 v18 v19 h
def Gk(K:Nat):Nat->EV->EV->EV->EV->Aa->R
 | 0=>fun _ _ _ _ _=>none
 | m+1=>fun v0 v2 v18 v19 h=>
  An Hl (bin TT .lss 3) v19 v18 fun v20=>
  De v20
  (Aap K (Gk K m) v0 v2 v18 v19 h)
  (some (.tuple [],h))
def Aa0(K:Nat)(v0 v1 v2:EV)(h:Aa):R:=
 Gk K K v0 v2 v1 (.int .i64 0) h
def Lk(K:Nat)(v0 v1 v2 v9 v13:EV)(h:Aa):R:=
 Bk v9 (.bool true) v13 fun v14=>
 De v14
 (A7 v0 fun v16=>
 Am 1 v16 fun v17=>
 D5 1 v17 (.bool true) h fun h=>
 some (.tuple [],h))
 (Aa0 K v0 v1 v2 h)
def Dj(K:Nat)(v0 v1 v2:EV)(h:Aa):R:=
 Aj (L9 K v1 h) fun v7 h=>
 Q1 v7 fun v8=>
 As (Ay v8 false)
 (Aj (Oj K v2 h) fun v11 h=>
 An Ww (bin TT .gtr 3) v11 v1 fun v13=>
 Lk K v0 v1 v2 v8 v13 h)
 (Lk K v0 v1 v2 v8 (.tuple []) h)
abbrev Al4(K:Nat)(c:Ad):Ad:=(w1 209 (L9 K) (w1 210 (Oj K) c))
theorem Ahe(c c' r:Ad)(K:Nat)(m:Nat):I0 (fun ih=>H6 TT (Al4 K c) c' r K (nOf TT 173) (F2 TT 173) (Sb TT 173 [true,true,false]) [(0,F2 TT 173)] ih) m=fun ρ h=>Gk K m (ρ 0) (ρ 2) (ρ 18) (ρ 19) h:=
 C3 (E:=fun m ρ h=>Gk K m (ρ 0) (ρ 2) (ρ 18) (ρ 19) h) rfl (fun m=>Se fun ρ h=>by
  show _=Gk K (m+1) (ρ 0) (ρ 2) (ρ 18) (ρ 19) h
  rw[Gk];kernel_rfl) m
theorem Yf(H:Aw disp)(hd:2<=d)(v0 v1 v2:EV)(h:Aa):Ae TT disp K d false 173 [v0,v1,v2] h=Dj K v0 v1 v2 h:=
 Cj (H.bare (by kernel_rfl)) hd (by kernel_rfl) (fun d hd=>(W1 (Aaz H (lq hd rfl)) (W1 (Ame H (lq hd rfl)) rfl))) (fun d c r=>(cut [true,true,false] (Ahe (Ae TT disp K d false) c r K K) (by kernel_rfl) (by kernel_rfl) rfl)) (fun d c r=>by kernel_rfl)
def Vq(K:Nat)(v0 v1 v2 v6:EV)(h:Aa):R:=
 A7 v0 fun v17=>
 Am 0 v17 fun v18=>
 Al v18 h fun v19=>
 It 1 v19 v1 fun v21=>
 Al v21 h fun v22=>
 Aj (Gn K v22 v2 h) fun v24 h=>
 Bv 0 v24 fun v25=>
 Bv 1 v24 fun v26=>
 D5 64 v6 v25 h fun h=>
 Cx TT [.c v6 103,.v v26] h
def Pb(K:Nat)(v0 v1 v2:EV)(h:Aa):R:=
 Hj (.cells (List.replicate 64 (.int .u8 0)) 103) h fun v6 h=>
 Aj (Il K v0 v1 h) fun v11 h=>
 An Gv (bin TT .neq 28) v11 (.int .i64 0) fun v13=>
 De v13
 (Bu (Pz 1) (List.replicate 64 (.int .u8 0)) [] fun v14=>
 D5 64 v6 v14 h fun h=>
 Cx TT [.c v6 103,.v v11] h)
 (Vq K v0 v1 v2 v6 h)
theorem Aee(H:Aw disp)(hd:3<=d)(v0 v1 v2:EV)(h:Aa):Ae TT disp K d false 180 [v0,v1,v2] h=Pb K v0 v1 v2 h:=
 Cj (H.bare (by kernel_rfl)) hd (by kernel_rfl) (fun d hd=>(W2 (Nu H (lq hd rfl)) (W2 (Sg H (lq hd rfl)) rfl))) (fun d c r=>rfl) (fun d c r=>by kernel_rfl)
def Pw(K:Nat)(v5:EV)(h:Aa):R:=
 some (v5,h)
def Vf(K:Nat)(ih1_:EV->EV->EV->EV->Aa->R)(v5 v15 v16 v17:EV)(h:Aa):R:=
 An Hw (bin TT .add 3) v17 (.int .i64 1) fun v30=>
 ih1_ v5 v15 v16 v30 h
def Vv(K:Nat)(ih1_:EV->EV->EV->EV->Aa->R)(v5 v15 v16 v17:EV)(h:Aa):R:=
 It 1 v15 v17 fun v20=>
 Al v20 h fun v21=>
 My .i64 v21 fun v24=>
 An X4 (bin TT .mul 3) (.int .i64 8) v17 fun v26=>
 My .u64 v26 fun v27=>
 Lt (bin TT .shl 3) v24 v27 fun v28=>
 Lt (bin TT .or 3) v5 v28 fun v29=>
 Vf K ih1_ v29 v15 v16 v17 h
def Eb(K:Nat):Nat->EV->EV->EV->EV->Aa->R
 | 0=>fun _ _ _ _ _=>none
 | m+1=>fun v5 v15 v16 v17 h=>
  An Hl (bin TT .lss 3) v17 v16 fun v18=>
  De v18
  (Vv K (Eb K m) v5 v15 v16 v17 h)
  (Pw K v5 h)
def Vy(K:Nat)(v0 v1:EV)(h:Aa):R:=
 Aj (G8 K v0 v1 h) fun v15 h=>
 Hg v15 fun v16=>
 Eb K K (.int .i64 0) v15 v16 (.int .i64 0) h
def Ce(K:Nat)(v0 v1:EV)(h:Aa):R:=
 Aj (L9 K v1 h) fun v9 h=>
 Q1 v9 fun v10=>
 De v10
 (Aj (G8 K v0 (.int .i64 (-1)) h) fun v12 h=>
 some ((.int .i64 0),h))
 (Vy K v0 v1 h)
abbrev Ahf(K:Nat)(c:Ad):Ad:=(w1 209 (L9 K) (w2 220 (G8 K) c))
theorem Adk(c c' r:Ad)(K:Nat)(m:Nat):I0 (fun ih=>H6 TT (Ahf K c) c' r K (nOf TT 195) (F2 TT 195) (Sb TT 195 [true,true,true,false,true,false]) [(0,fun ρ h=>Pw K (ρ 5) h)] ih) m=fun ρ h=>Eb K m (ρ 5) (ρ 15) (ρ 16) (ρ 17) h:=
 C3 (E:=fun m ρ h=>Eb K m (ρ 5) (ρ 15) (ρ 16) (ρ 17) h) rfl (fun m=>Se fun ρ h=>by
  show _=Eb K (m+1) (ρ 5) (ρ 15) (ρ 16) (ρ 17) h
  rw[Eb];kernel_rfl) m
theorem Un(H:Aw disp)(hd:2<=d)(v0 v1:EV)(h:Aa):Ae TT disp K d false 195 [v0,v1] h=Ce K v0 v1 h:=
 Cj (H.bare (by kernel_rfl)) hd (by kernel_rfl) (fun d hd=>(W1 (Aaz H (lq hd rfl)) (W2 (Sy H (lq hd rfl)) rfl))) (fun d c r=>(cut [true,true,true,false,true,false] (Adk (Ae TT disp K d false) c r K K) (by kernel_rfl) (by kernel_rfl) rfl)) (fun d c r=>by kernel_rfl)
def Jv(K:Nat)(v0 v1:EV)(h:Aa):R:=
 Aj (G8 K v0 v1 h) fun v7 h=>
 some (v7,h)
theorem Rn(H:Aw disp)(hd:2<=d)(v0 v1:EV)(h:Aa):Ae TT disp K d false 196 [v0,v1] h=Jv K v0 v1 h:=
 Cj (H.bare (by kernel_rfl)) hd (by kernel_rfl) (fun d hd=>(W2 (Sy H (lq hd rfl)) rfl)) (fun d c r=>rfl) (fun d c r=>by kernel_rfl)
def Vz(c r:Ad)(K:Nat)(v0 v3:EV)(h:Aa):R:=
 Am 2 v3 fun v18=>
 Al v18 h fun v19=>
 Am 3 v3 fun v20=>
 Al v20 h fun v21=>
 Bu (D3 [(0,1),(1,1)]) [(.int .i64 0),(.int .i64 0)] [(0,v19),(1,v21)] fun v22=>
 Hj (.cells [(.int .i64 0),(.int .i64 0)] 243) h fun v4 h=>
 D5 2 v4 v22 h fun h=>
 Fz h fun base s=>
 A7 v0 fun v24=>
 Am 3 v24 fun v25=>
 Bd 3 7 base v25 s fun s=>Al v25 h fun v26=>
 Bd 4 0 base v4 s fun s=>Ca 2 v4 h fun v27=>
 Ci 5 31 s h (fun h=>(Ai9 TT 243 320 false v26 v27 h)) fun v28 h s=>
 Af0 6 h s fun s=>Hj (.cells (List.replicate 64 (.int .u8 0)++[(.int .i64 0)]) 320) h fun v5 h=>
 Ad4 7 127 v5 s fun s=>D5 65 v5 v28 h fun h=>
 Fz h fun base s=>
 A7 v0 fun v30=>
 Am 3 v30 fun v31=>
 Bd 3 7 base v31 s fun s=>Al v31 h fun v32=>
 Bd 4 0 base v4 s fun s=>Ca 2 v4 h fun v33=>
 Am 0 v5 fun v34=>
 Bd 6 32 base v34 s fun s=>Ca 64 v34 h fun v35=>
 Am 4 v3 fun v36=>
 Bd 8 128 base v36 s fun s=>Ca 64 v36 h fun v37=>
 Ci 9 480 s h (fun h=>(Ln K v35 v37 h)) fun v38 h s=>
 Am 64 v5 fun v39=>
 Bd 11 1024 base v39 s fun s=>Al v39 h fun v40=>
 An Hw (bin TT .add 3) v40 (.int .i64 1) fun v41=>
 Bu (D3 [(0,64),(64,1)]) (List.replicate 64 (.int .u8 0)++[(.int .i64 0)]) [(0,v38),(1,v41)] fun v42=>
 Ci 14 16383 s h (fun h=>(W6 TT 243 v32 v33 v42 h)) fun _ h s=>
 some (.tuple [],h)
def Z0(c r:Ad)(K:Nat)(v0 v1:EV)(h:Aa):R:=
 Ea 105 v1 h fun v3 h=>
 Fz h fun base s=>
 A7 v0 fun v7=>
 Am 0 v7 fun v8=>
 Bd 3 7 base v8 s fun s=>Al v8 h fun v9=>
 Am 2 v3 fun v10=>
 Bd 5 16 base v10 s fun s=>Al v10 h fun v11=>
 Am 3 v3 fun v12=>
 Bd 7 64 base v12 s fun s=>Al v12 h fun v13=>
 Am 4 v3 fun v14=>
 Bd 9 256 base v14 s fun s=>Ca 64 v14 h fun v15=>
 Ci 10 1023 s h (fun h=>(c 225 [v9,v11,v13,v15] h)) fun v16 h s=>
 An Gv (bin TT .neq 28) v16 (.int .i64 0) fun v17=>
 De v17
 (some (.tuple [],h))
 (Vz c r K v0 v3 h)
theorem Ad3(H:Aw disp)(hd:1<=d)(v0 v1:EV)(h:Aa):Ae TT disp K (d+1) false 205 [v0,v1] h=Z0 (Ae TT disp K d false) (Ae TT disp K d true) K v0 v1 h:=
 Um (H.bare (by kernel_rfl)) (by kernel_rfl) (W2 (Ud H (lq hd rfl)) rfl) rfl (by kernel_rfl)
def Vk(K:Nat)(v0 v1 v2:EV)(h:Aa):R:=
 A7 v0 fun v12=>
 Am 0 v12 fun v13=>
 Al v13 h fun v14=>
 It 1 v14 v1 fun v16=>
 Al v16 h fun v17=>
 Aj (Gq K v17 v2 h) fun v19 h=>
 some ((.int .i64 0),h)
def Jq(K:Nat)(v0 v1 v2:EV)(h:Aa):R:=
 Aj (Hm K v0 v1 h) fun v9 h=>
 Q1 v9 fun v10=>
 De v10
 (some ((.int .i64 13),h))
 (Vk K v0 v1 v2 h)
theorem Afc(H:Aw disp)(hd:2<=d)(v0 v1 v2:EV)(h:Aa):Ae TT disp K d false 206 [v0,v1,v2] h=Jq K v0 v1 v2 h:=
 Cj (H.bare (by kernel_rfl)) hd (by kernel_rfl) (fun d hd=>(W2 (La H (lq hd rfl)) (W2 (Sa H (lq hd rfl)) rfl))) (fun d c r=>rfl) (fun d c r=>by kernel_rfl)
def El(K:Nat)(v0:EV)(h:Aa):R:=
 A7 v0 fun v44=>
 Am 0 v44 fun v45=>
 Al v45 h fun v46=>
 Hg v46 fun v47=>
 An R8 (bin TT .sub 3) v47 (.int .i64 1) fun v48=>
 some (.tuple [v48,(.int .i64 0)],h)
def Kn(K:Nat)(v0 v3:EV)(h:Aa):R:=
 Fz h fun base s=>
 A7 v0 fun v19=>
 Am 0 v19 fun v20=>
 Bd 4 14 base v20 s fun s=>Al v20 h fun v21=>
 Bd 5 0 base v3 s fun s=>Ca 64 v3 h fun v22=>
 Af0 6 h s fun s=>Aj (B1 (List.replicate 64 (.int .u8 0)) 103 64 1 [(0,v22)] h) fun v23 h=>
 Ci 7 126 s h (fun h=>(Dt 103 64 v21 v23 h)) fun v24 h s=>
 A7 v0 fun v25=>
 Am 0 v25 fun v26=>
 Ad4 10 1023 v26 s fun s=>D5 1 v26 v24 h fun h=>
 A7 v0 fun v28=>
 Am 3 v28 fun v29=>
 D5 1 v29 (.int .i64 1) h fun h=>
 A7 v0 fun v31=>
 Am 0 v31 fun v32=>
 Al v32 h fun v33=>
 Hg v33 fun v34=>
 A7 v0 fun v36=>
 Am 1 v36 fun v37=>
 Al v37 h fun v38=>
 An Fj (bin TT .eql 3) v34 v38 fun v39=>
 De v39
 (A7 v0 fun v41=>
 Am 3 v41 fun v42=>
 D5 1 v42 (.int .i64 2) h fun h=>
 El K v0 h)
 (El K v0 h)
def G1(K:Nat)(v0 v3:EV)(h:Aa):R:=
 A7 v0 fun v13=>
 Am 3 v13 fun v14=>
 Al v14 h fun v15=>
 An Fj (bin TT .eql 3) v15 (.int .i64 2) fun v16=>
 De v16
 (some (.tuple [(.int .i64 0),(.int .i64 17)],h))
 (Kn K v0 v3 h)
def Cw(K:Nat)(v0 v1:EV)(h:Aa):R:=
 Ea 103 v1 h fun v3 h=>
 Aj (Dl K v0 h) fun v8 h=>
 An Gv (bin TT .neq 28) v8 (.int .i64 0) fun v10=>
 De v10
 (some (.tuple [(.int .i64 0),v8],h))
 (G1 K v0 v3 h)
theorem Q2(H:Aw disp)(hd:2<=d)(v0 v1:EV)(h:Aa):Ae TT disp K d false 223 [v0,v1] h=Cw K v0 v1 h:=
 Cj (H.bare (by kernel_rfl)) hd (by kernel_rfl) (fun d hd=>(W1 (J7 H (lq hd rfl)) rfl)) (fun d c r=>rfl) (fun d c r=>by kernel_rfl)
def K0(K:Nat)(v0:EV)(h:Aa):R:=
 A7 v0 fun v11=>
 Am 3 v11 fun v12=>
 D5 1 v12 (.int .i64 2) h fun h=>
 A7 v0 fun v13=>
 Am 4 v13 fun v14=>
 D5 1 v14 (.bool true) h fun h=>
 some ((.int .i64 0),h)
def Fu(K:Nat)(v0:EV)(h:Aa):R:=
 Aj (Dl K v0 h) fun v5 h=>
 An Gv (bin TT .neq 28) v5 (.int .i64 0) fun v7=>
 De v7
 (some (v5,h))
 (K0 K v0 h)
theorem Q0(H:Aw disp)(hd:2<=d)(v0:EV)(h:Aa):Ae TT disp K d false 224 [v0] h=Fu K v0 h:=
 Cj (H.bare (by kernel_rfl)) hd (by kernel_rfl) (fun d hd=>(W1 (J7 H (lq hd rfl)) rfl)) (fun d c r=>rfl) (fun d c r=>by kernel_rfl)
def Kw(K:Nat)(v12 v20:EV)(h:Aa):R:=
 Bk v12 v20 (.bool false) fun v21=>
 some (v21,h)
def G7(K:Nat)(v0 v1:EV)(h:Aa):R:=
 A7 v0 fun v6=>
 Am 1 v6 fun v7=>
 Ca 6 v7 h fun v8=>
 Aj (E9 K v8 v1 h) fun v10 h=>
 An Zu (bin TT .geq 3) v10 (.int .i64 0) fun v11=>
 As (Ay v11 true)
 (A7 v0 fun v14=>
 Am 264 v14 fun v15=>
 Al v15 h fun v16=>
 It 1 v16 v1 fun v18=>
 Al v18 h fun v19=>
 An Fj (bin TT .eql 3) v19 (.int .i64 1) fun v20=>
 Kw K v11 v20 h)
 (Kw K v11 (.tuple []) h)
theorem N0(H:Aw disp)(hd:3<=d)(v0 v1:EV)(h:Aa):Ae TT disp K d false 21 [v0,v1] h=G7 K v0 v1 h:=
 Cj (H.bare (by kernel_rfl)) hd (by kernel_rfl) (fun d hd=>(W2 (H9 H (lq hd rfl)) rfl)) (fun d c r=>rfl) (fun d c r=>by kernel_rfl)
def Z6(c r:Ad)(K:Nat)(v0:EV)(h:Aa):R:=
 Aj (c 118 [v0] h) fun v4 h=>
 A7 v0 fun v6=>
 Am 0 v6 fun v7=>
 Al v7 h fun v8=>
 Aj (N8 K v8 h) fun v9 h=>
 some (v9,h)
theorem Ae8(H:Aw disp)(hd:2<=d)(v0:EV)(h:Aa):Ae TT disp K (d+1) false 67 [v0] h=Z6 (Ae TT disp K d false) (Ae TT disp K d true) K v0 h:=
 Um (H.bare (by kernel_rfl)) (by kernel_rfl) (W1 (Adm H (lq hd rfl)) rfl) rfl (by kernel_rfl)
def H8(K:Nat)(v0 v1:EV)(h:Aa):R:=
 Ea 72 v0 h fun v2 h=>
 Aj (Xq K v2 (.int .u32 4294967295) v1 h) fun v6 h=>
 Lt (bin TT .xor 70) v6 (.int .u32 4294967295) fun v7=>
 some (v7,h)
theorem Oc(H:Aw disp)(hd:3<=d)(v0 v1:EV)(h:Aa):Ae TT disp K d false 82 [v0,v1] h=H8 K v0 v1 h:=
 Cj (H.bare (by kernel_rfl)) hd (by kernel_rfl) (fun d hd=>(W3 (Ahq H (lq hd rfl)) rfl)) (fun d c r=>rfl) (fun d c r=>by kernel_rfl)
def Nx(K:Nat)(v0:EV)(h:Aa):R:=
 A7 v0 fun v35=>
 Am 4 v35 fun v36=>
 D5 1 v36 (.bool false) h fun h=>
 some (.tuple [],h)
def Sq(K:Nat)(ih1_:EV->EV->EV->EV->EV->Aa->R)(v0 v1 v15 v16 v17:EV)(h:Aa):R:=
 An Hw (bin TT .add 3) v17 (.int .i64 1) fun v33=>
 ih1_ v0 v1 v15 v16 v33 h
def J4(K:Nat)(ih1_:EV->EV->EV->EV->EV->Aa->R)(v0 v1 v5 v6 v15 v16 v17:EV)(h:Aa):R:=
 Aj (D1 K v5 v6 h) fun v32 h=>
 Sq K ih1_ v0 v1 v15 v16 v17 h
def St(K:Nat)(ih1_:EV->EV->EV->EV->EV->Aa->R)(v0 v1 v15 v16 v17:EV)(h:Aa):R:=
 It 1 v15 v17 fun v20=>
 Al v20 h fun v21=>
 Hg v1 fun v24=>
 An Hl (bin TT .lss 3) v17 v24 fun v25=>
 De v25
 (It 1 v1 v17 fun v28=>
 Al v28 h fun v29=>
 J4 K ih1_ v0 v1 v21 v29 v15 v16 v17 h)
 (J4 K ih1_ v0 v1 v21 (.int .i64 0) v15 v16 v17 h)
def Ct(K:Nat):Nat->EV->EV->EV->EV->EV->Aa->R
 | 0=>fun _ _ _ _ _ _=>none
 | m+1=>fun v0 v1 v15 v16 v17 h=>
  An Hl (bin TT .lss 3) v17 v16 fun v18=>
  De v18
  (St K (Ct K m) v0 v1 v15 v16 v17 h)
  (Nx K v0 h)
def Sp(K:Nat)(v0 v1:EV)(h:Aa):R:=
 A7 v0 fun v13=>
 Am 0 v13 fun v14=>
 Al v14 h fun v15=>
 Hg v15 fun v16=>
 Ct K K v0 v1 v15 v16 (.int .i64 0) h
def Jw(K:Nat)(v0 v1:EV)(h:Aa):R:=
 A7 v0 fun v8=>
 Am 4 v8 fun v9=>
 Al v9 h fun v10=>
 Q1 v10 fun v11=>
 De v11
 (some (.tuple [],h))
 (Sp K v0 v1 h)
abbrev Afj(K:Nat)(c:Ad):Ad:=(w2 136 (D1 K) c)
theorem Aa2(c c' r:Ad)(K:Nat)(m:Nat):I0 (fun ih=>H6 TT (Afj K c) c' r K (nOf TT 87) (F2 TT 87) (Sb TT 87 [true,false,true,false]) [(0,fun ρ h=>Nx K (ρ 0) h)] ih) m=fun ρ h=>Ct K m (ρ 0) (ρ 1) (ρ 15) (ρ 16) (ρ 17) h:=
 C3 (E:=fun m ρ h=>Ct K m (ρ 0) (ρ 1) (ρ 15) (ρ 16) (ρ 17) h) rfl (fun m=>Se fun ρ h=>by
  show _=Ct K (m+1) (ρ 0) (ρ 1) (ρ 15) (ρ 16) (ρ 17) h
  rw[Ct];kernel_rfl) m
theorem Acl(H:Aw disp)(hd:3<=d)(v0 v1:EV)(h:Aa):Ae TT disp K d false 87 [v0,v1] h=Jw K v0 v1 h:=
 Cj (H.bare (by kernel_rfl)) hd (by kernel_rfl) (fun d hd=>(W2 (Rs H (lq hd rfl)) rfl)) (fun d c r=>(cut [true,false,true,false] (Aa2 (Ae TT disp K d false) c r K K) (by kernel_rfl) (by kernel_rfl) rfl)) (fun d c r=>by kernel_rfl)
def Jr(K:Nat)(v16 v21:EV)(h:Aa):R:=
 Bk v16 v21 (.bool false) fun v22=>
 some (v22,h)
def Jt(K:Nat)(v2 v3 v9 v14:EV)(h:Aa):R:=
 Bk v9 v14 (.bool false) fun v15=>
 As (Ay v15 true)
 (Am 2 v3 fun v18=>
 Al v18 h fun v19=>
 An R8 (bin TT .sub 3) v19 (.int .i64 1) fun v20=>
 Aj (Ib K v2 (.int .i64 0) v20 h) fun v21 h=>
 Jr K v15 v21 h)
 (Jr K v15 (.tuple []) h)
def Ng(K:Nat)(v0 v1 v2:EV)(h:Aa):R:=
 Ea 23 v0 h fun v3 h=>
 Ca 6 v3 h fun v7=>
 Aj (Kc K v7 h) fun v8 h=>
 As (Ay v8 true)
 (Ca 6 v3 h fun v11=>
 Aj (K2 K v11 h) fun v12 h=>
 An R8 (bin TT .sub 3) v12 (.int .i64 1) fun v13=>
 Aj (Ib K v1 (.int .i64 0) v13 h) fun v14 h=>
 Jt K v2 v3 v8 v14 h)
 (Jt K v2 v3 v8 (.tuple []) h)
theorem Agd(H:Aw disp)(hd:4<=d)(v0 v1 v2:EV)(h:Aa):Ae TT disp K d false 92 [v0,v1,v2] h=Ng K v0 v1 v2 h:=
 Cj (H.bare (by kernel_rfl)) hd (by kernel_rfl) (fun d hd=>(W1 (Vl H (lq hd rfl)) (W1 (Q6 H (lq hd rfl)) (W3 (Ac2 H (lq hd rfl)) rfl)))) (fun d c r=>rfl) (fun d c r=>by kernel_rfl)
def Rz(c r:Ad)(K:Nat)(v0 v1:EV)(h:Aa):R:=
 A7 v0 fun v34=>
 Am 0 v34 fun v35=>
 Al v35 h fun v36=>
 Aj (c 165 [v36,v1] h) fun v38 h=>
 some (v38,h)
def Fe(c r:Ad)(K:Nat)(v0 v1 v2 v15 v22:EV)(h:Aa):R:=
 Bk v15 (.bool true) v22 fun v23=>
 De v23
 (some ((.int .i64 0),h))
 (An Fj (bin TT .eql 3) v2 (.int .i64 0) fun v26=>
 De v26
 (A7 v0 fun v28=>
 Am 263 v28 fun v29=>
 Al v29 h fun v30=>
 Aj (c 15 [v30,v1] h) fun v32 h=>
 some (v32,h))
 (Rz c r K v0 v1 h))
def G3(c r:Ad)(K:Nat)(v0 v1 v2 v10 v13:EV)(h:Aa):R:=
 Bk v10 (.bool true) v13 fun v14=>
 As (Ay v14 false)
 (A7 v0 fun v18=>
 Am 1 v18 fun v19=>
 Am 2 v19 fun v20=>
 Al v20 h fun v21=>
 An Fj (bin TT .eql 3) v2 v21 fun v22=>
 Fe c r K v0 v1 v2 v14 v22 h)
 (Fe c r K v0 v1 v2 v14 (.tuple []) h)
def V4(c r:Ad)(K:Nat)(v0 v1 v2:EV)(h:Aa):R:=
 An Fj (bin TT .eql 3) v1 (.int .i64 (-1)) fun v9=>
 As (Ay v9 false)
 (Aj (G7 K v0 v1 h) fun v13 h=>
 G3 c r K v0 v1 v2 v9 v13 h)
 (G3 c r K v0 v1 v2 v9 (.tuple []) h)
theorem Aag(H:Aw disp)(hd:3<=d)(v0 v1 v2:EV)(h:Aa):Ae TT disp K (d+1) false 123 [v0,v1,v2] h=V4 (Ae TT disp K d false) (Ae TT disp K d true) K v0 v1 v2 h:=
 Um (H.bare (by kernel_rfl)) (by kernel_rfl) (W2 (N0 H (lq hd rfl)) rfl) rfl (by kernel_rfl)
def V1(K:Nat)(v1 v2 v4:EV)(h:Aa):R:=
 Hj (.cells [.Ag,(.bool false)] 278) h fun v5 h=>
 Am 1 v1 fun v12=>
 Al v12 h fun v13=>
 Aj (Dj K v5 (.int .i64 6) v13 h) fun v14 h=>
 Am 2 v1 fun v15=>
 Al v15 h fun v16=>
 Aj (Dj K v5 (.int .i64 1) v16 h) fun v17 h=>
 Am 3 v1 fun v18=>
 Al v18 h fun v19=>
 Aj (Dj K v5 (.int .i64 1) v19 h) fun v20 h=>
 Am 4 v1 fun v21=>
 Al v21 h fun v22=>
 Aj (Dj K v5 (.int .i64 2) v22 h) fun v23 h=>
 Am 5 v1 fun v24=>
 Al v24 h fun v25=>
 Aj (Dj K v5 (.int .i64 2) v25 h) fun v26 h=>
 Am 6 v1 fun v27=>
 Mu 32 1 v27 none none none fun v28=>
 Aj (Nc K v5 v28 h) fun v29 h=>
 Aj (Jj K v5 h) fun v31 h=>
 Bv 0 v31 fun v32=>
 Bv 1 v31 fun v33=>
 Mu 44 1 v4 none none none fun v34=>
 Aj (builtin TT .copy #[174,174] [v34,v32] h) fun v36 h=>
 Ca 44 v4 h fun v37=>
 D5 44 v2 v37 h fun h=>
 Cx TT [.c v2 118,.v v33] h
def Lh(K:Nat)(v0:EV)(h:Aa):R:=
 Ea 89 v0 h fun v1 h=>
 Hj (.cells (List.replicate 44 (.int .u8 0)) 118) h fun v2 h=>
 Hj (.cells (List.replicate 44 (.int .u8 0)) 118) h fun v4 h=>
 Ca 38 v1 h fun v8=>
 Aj (N2 K v8 h) fun v9 h=>
 Q1 v9 fun v10=>
 De v10
 (Ca 44 v4 h fun v11=>
 D5 44 v2 v11 h fun h=>
 Cx TT [.c v2 118,.v (.int .i64 10)] h)
 (V1 K v1 v2 v4 h)
theorem Ub(H:Aw disp)(hd:4<=d)(v0:EV)(h:Aa):Ae TT disp K d false 128 [v0] h=Lh K v0 h:=
 Cj (H.bare (by kernel_rfl)) hd (by kernel_rfl) (fun d hd=>(W1 (Ado H (lq hd rfl)) (W3 (Yf H (lq hd rfl)) (W2 (Vp H (lq hd rfl)) (W1 (Yj H (lq hd rfl)) rfl))))) (fun d c r=>rfl) (fun d c r=>by kernel_rfl)
def Ac4(c r:Ad)(K:Nat)(v0 v1 v2:EV)(h:Aa):R:=
 Hj (.cells (List.replicate 64 (.int .u8 0)) 103) h fun v6 h=>
 Aj (c 179 [v0,v1] h) fun v10 h=>
 A7 v0 fun v12=>
 Am 0 v12 fun v13=>
 Al v13 h fun v14=>
 Aj (Pb K v14 v1 v2 h) fun v17 h=>
 Bv 0 v17 fun v18=>
 Bv 1 v17 fun v19=>
 D5 64 v6 v18 h fun h=>
 Cx TT [.c v6 103,.v v19] h
theorem Af3(H:Aw disp)(hd:3<=d)(v0 v1 v2:EV)(h:Aa):Ae TT disp K (d+1) false 133 [v0,v1,v2] h=Ac4 (Ae TT disp K d false) (Ae TT disp K d true) K v0 v1 v2 h:=
 Um (H.bare (by kernel_rfl)) (by kernel_rfl) (W3 (Aee H (lq hd rfl)) rfl) rfl (by kernel_rfl)
def Yu(c r:Ad)(K:Nat)(v0 v1:EV)(h:Aa):R:=
 Ea 105 v1 h fun v3 h=>
 Fz h fun base s=>
 A7 v0 fun v6=>
 Am 2 v6 fun v7=>
 Bd 4 14 base v7 s fun s=>Al v7 h fun v8=>
 Bd 5 0 base v3 s fun s=>Ca 68 v3 h fun v9=>
 Af0 6 h s fun s=>Aj (B1 (List.replicate 4 (.int .i64 0)++List.replicate 64 (.int .u8 0)) 105 68 1 [(0,v9)] h) fun v10 h=>
 Ci 7 126 s h (fun h=>(Dt 105 68 v8 v10 h)) fun v11 h s=>
 A7 v0 fun v12=>
 Am 2 v12 fun v13=>
 Ad4 10 1023 v13 s fun s=>D5 1 v13 v11 h fun h=>
 Am 1 v3 fun v14=>
 Al v14 h fun v15=>
 An Fj (bin TT .eql 3) v15 (.int .i64 1) fun v17=>
 De v17
 (Ca 68 v3 h fun v19=>
 Aj (c 205 [v0,v19] h) fun v20 h=>
 some (.tuple [],h))
 (An Fj (bin TT .eql 3) v15 (.int .i64 2) fun v22=>
 De v22
 (Fz h fun base s=>
 A7 v0 fun v24=>
 Am 0 v24 fun v25=>
 Bd 3 7 base v25 s fun s=>Al v25 h fun v26=>
 Am 2 v3 fun v27=>
 Bd 5 16 base v27 s fun s=>Al v27 h fun v28=>
 Ci 6 63 s h (fun h=>(Jq K v26 v28 (.int .i64 3) h)) fun v29 h s=>
 some (.tuple [],h))
 (An Fj (bin TT .eql 3) v15 (.int .i64 3) fun v31=>
 De v31
 (Fz h fun base s=>
 A7 v0 fun v33=>
 Am 0 v33 fun v34=>
 Bd 3 7 base v34 s fun s=>Al v34 h fun v35=>
 Am 2 v3 fun v36=>
 Bd 5 16 base v36 s fun s=>Al v36 h fun v37=>
 Ci 6 63 s h (fun h=>(Jq K v35 v37 (.int .i64 4) h)) fun v38 h s=>
 some (.tuple [],h))
 (An Fj (bin TT .eql 3) v15 (.int .i64 4) fun v40=>
 De v40
 (A7 v0 fun v42=>
 Am 0 v42 fun v43=>
 Al v43 h fun v44=>
 Aj (G9 K v44 h) fun v45 h=>
 some (.tuple [],h))
 (some (.tuple [],h)))))
theorem Ada(H:Aw disp)(hd:2<=d)(v0 v1:EV)(h:Aa):Ae TT disp K (d+1) false 169 [v0,v1] h=Yu (Ae TT disp K d false) (Ae TT disp K d true) K v0 v1 h:=
 Um (H.bare (by kernel_rfl)) (by kernel_rfl) (W3 (Afc H (lq hd rfl)) (W1 (Sr H (lq hd rfl)) rfl)) rfl (by kernel_rfl)
def Ak8(K:Nat)(v4 v7:EV)(h:Aa):R:=
 Ca 38 v7 h fun v42=>
 D5 38 v4 v42 h fun h=>
 Cx TT [.c v4 89,.v (.int .i64 0)] h
def Up(K:Nat)(v4 v7 v36 v39:EV)(h:Aa):R:=
 Bk v36 (.bool true) v39 fun v40=>
 De v40
 (Bu (D3 [(0,1),(1,1),(2,1),(3,1),(4,1),(5,1),(6,32)]) (List.replicate 6 (.int .i64 0)++List.replicate 32 (.int .u8 0)) [] fun v41=>
 D5 38 v4 v41 h fun h=>
 Cx TT [.c v4 89,.v (.int .i64 10)] h)
 (Ak8 K v4 v7 h)
def Ain(K:Nat)(v0 v1:EV)(h:Aa):R:=
 Ea 118 v1 h fun v3 h=>
 Hj (.cells (List.replicate 6 (.int .i64 0)++List.replicate 32 (.int .u8 0)) 89) h fun v4 h=>
 Mu 44 1 v3 none none none fun v10=>
 Aj (Aax K v10 h) fun v11 h=>
 Aj (Ce K v11 (.int .i64 6) h) fun v14 h=>
 Aj (Ce K v11 (.int .i64 1) h) fun v16 h=>
 Aj (Ce K v11 (.int .i64 1) h) fun v18 h=>
 Aj (Ce K v11 (.int .i64 2) h) fun v20 h=>
 Aj (Ce K v11 (.int .i64 2) h) fun v22 h=>
 Bu (D3 [(0,1),(1,1),(2,1),(3,1),(4,1),(5,1),(6,32)]) (List.replicate 6 (.int .i64 0)++List.replicate 32 (.int .u8 0)) [(0,v0),(1,v14),(2,v16),(3,v18),(4,v20),(5,v22)] fun v23=>
 Hj (.cells (List.replicate 6 (.int .i64 0)++List.replicate 32 (.int .u8 0)) 89) h fun v7 h=>
 D5 38 v7 v23 h fun h=>
 Fz h fun base s=>
 Am 6 v7 fun v24=>
 Mu 32 1 v24 none none none fun v25=>
 Ci 3 4 s h (fun h=>(Jv K v11 (.int .i64 32) h)) fun v27 h s=>
 Ci 4 15 s h (fun h=>(builtin TT .copy #[174,174] [v25,v27] h)) fun v28 h s=>
 Ca 38 v7 h fun v30=>
 Aj (Lh K v30 h) fun v31 h=>
 Bv 0 v31 fun v32=>
 Bv 1 v31 fun v33=>
 Hj (.cells (List.replicate 44 (.int .u8 0)) 118) h fun v8 h=>
 D5 44 v8 v32 h fun h=>
 An Gv (bin TT .neq 28) v33 (.int .i64 0) fun v35=>
 As (Ay v35 false)
 (Ca 44 v8 h fun v37=>
 Ca 44 v3 h fun v38=>
 An Gv (bin TT .neq 118) v37 v38 fun v39=>
 Up K v4 v7 v35 v39 h)
 (Up K v4 v7 v35 (.tuple []) h)
theorem Ato(H:Aw disp)(hd:5<=d)(v0 v1:EV)(h:Aa):Ae TT disp K d false 181 [v0,v1] h=Ain K v0 v1 h:=
 Cj (H.bare (by kernel_rfl)) hd (by kernel_rfl) (fun d hd=>(W1 (Agp H (lq hd rfl)) (W2 (Un H (lq hd rfl)) (W2 (Rn H (lq hd rfl)) (W1 (Ub H (lq hd rfl)) rfl))))) (fun d c r=>rfl) (fun d c r=>by kernel_rfl)
def Rc(K:Nat)(v1 v6:EV)(h:Aa):R:=
 Aj (B1 [(.int .u8 0)] 5 1 0 [] h) fun v35 h=>
 R9 1 v1 none (some v6) none fun v38=>
 Aj (Dt 5 1 v35 v38 h) fun v39 h=>
 some (.tuple [v39,(.int .i64 0)],h)
def Yl(K:Nat)(ih1_:EV->EV->EV->EV->EV->EV->Aa->R)(v1 v6 v7 v22 v23 v24:EV)(h:Aa):R:=
 An Hw (bin TT .add 3) v24 (.int .i64 1) fun v34=>
 ih1_ v1 v6 v7 v22 v23 v34 h
def Y1(K:Nat)(ih1_:EV->EV->EV->EV->EV->EV->Aa->R)(v1 v6 v7 v22 v23 v24:EV)(h:Aa):R:=
 Lt (bin TT .shr 70) v7 (.int .u64 8) fun v33=>
 Yl K ih1_ v1 v6 v33 v22 v23 v24 h
def Yo(K:Nat)(ih1_:EV->EV->EV->EV->EV->EV->Aa->R)(v1 v6 v7 v22 v23 v24:EV)(h:Aa):R:=
 It 1 v22 v24 fun v26=>
 Al v26 h fun v27=>
 My .u8 v7 fun v30=>
 An Gv (bin TT .neq 5) v27 v30 fun v31=>
 De v31
 (some (.tuple [.Ag,(.int .i64 11)],h))
 (Y1 K ih1_ v1 v6 v7 v22 v23 v24 h)
def Fq(K:Nat):Nat->EV->EV->EV->EV->EV->EV->Aa->R
 | 0=>fun _ _ _ _ _ _ _=>none
 | m+1=>fun v1 v6 v7 v22 v23 v24 h=>
  An Hl (bin TT .lss 3) v24 v23 fun v25=>
  De v25
  (Yo K (Fq K m) v1 v6 v7 v22 v23 v24 h)
  (Rc K v1 v6 h)
def Ys(K:Nat)(v1 v2 v6:EV)(h:Aa):R:=
 Fz h fun base s=>
 Bd 0 0 base v2 s fun s=>Ca 256 v2 h fun v15=>
 R9 1 v1 none (some v6) none fun v18=>
 Ci 4 15 s h (fun h=>(H8 K v15 v18 h)) fun v19 h s=>
 R9 1 v1 (some v6) none none fun v22=>
 Hg v22 fun v23=>
 Fq K K v1 v6 v19 v22 v23 (.int .i64 0) h
def Rp(K:Nat)(v0 v1:EV)(h:Aa):R:=
 Ea 72 v0 h fun v2 h=>
 Hg v1 fun v11=>
 An R8 (bin TT .sub 3) v11 (.int .i64 4) fun v12=>
 An Hl (bin TT .lss 3) v12 (.int .i64 0) fun v14=>
 De v14
 (some (.tuple [.Ag,(.int .i64 14)],h))
 (Ys K v1 v2 v12 h)
abbrev Aks(K:Nat)(c:Ad):Ad:=(w2 82 (H8 K) c)
theorem Agf(c c' r:Ad)(K:Nat)(m:Nat):I0 (fun ih=>H6 TT (Aks K c) c' r K (nOf TT 193) (F2 TT 193) (Sb TT 193 [true,true,true,true,false,true,false]) [(0,fun ρ h=>Rc K (ρ 1) (ρ 6) h)] ih) m=fun ρ h=>Fq K m (ρ 1) (ρ 6) (ρ 7) (ρ 22) (ρ 23) (ρ 24) h:=
 C3 (E:=fun m ρ h=>Fq K m (ρ 1) (ρ 6) (ρ 7) (ρ 22) (ρ 23) (ρ 24) h) rfl (fun m=>Se fun ρ h=>by
  show _=Fq K (m+1) (ρ 1) (ρ 6) (ρ 7) (ρ 22) (ρ 23) (ρ 24) h
  rw[Fq];kernel_rfl) m
theorem Ahc(H:Aw disp)(hd:4<=d)(v0 v1:EV)(h:Aa):Ae TT disp K d false 193 [v0,v1] h=Rp K v0 v1 h:=
 Cj (H.bare (by kernel_rfl)) hd (by kernel_rfl) (fun d hd=>(W2 (Oc H (lq hd rfl)) rfl)) (fun d c r=>(cut [true,true,true,true,false,true,false] (Agf (Ae TT disp K d false) c r K K) (by kernel_rfl) (by kernel_rfl) rfl)) (fun d c r=>by kernel_rfl)
def Ny(K:Nat)(v0 v1 v5:EV)(h:Aa):R:=
 Fz h fun base s=>
 A7 v0 fun v34=>
 Am 0 v34 fun v35=>
 Bd 3 7 base v35 s fun s=>Al v35 h fun v36=>
 It 1 v36 v1 fun v38=>
 Bd 6 63 base v38 s fun s=>Al v38 h fun v39=>
 Bd 7 0 base v5 s fun s=>Ca 64 v5 h fun v40=>
 Ci 8 255 s h (fun h=>(Cw K v39 v40 h)) fun v41 h s=>
 Bv 0 v41 fun v42=>
 Bv 1 v41 fun v43=>
 some (.tuple [v42,v43],h)
def J3(K:Nat)(base:Nat)(s:DX)(v0 v1 v5 v24 v31:EV)(h:Aa):R:=
 Bk v24 v31 (.bool false) fun v32=>
 De v32
 (some (.tuple [(.int .i64 0),(.int .i64 33)],h))
 (Ny K v0 v1 v5 h)
def Sz(K:Nat)(v0 v1 v5:EV)(h:Aa):R:=
 Fz h fun base s=>
 A7 v0 fun v16=>
 Am 0 v16 fun v17=>
 Bd 3 7 base v17 s fun s=>Al v17 h fun v18=>
 It 1 v18 v1 fun v20=>
 Bd 6 63 base v20 s fun s=>Al v20 h fun v21=>
 Ci 7 127 s h (fun h=>(C1 K v21 h)) fun v22 h s=>
 An Fj (bin TT .eql 3) v22 (.int .i64 0) fun v23=>
 As (Ay v23 true)
 (Ci 11 2047 s h (fun h=>(Mc K v0 h)) fun v26 h s=>
 A7 v0 fun v28=>
 Am 2 v28 fun v29=>
 Bd 15 29695 base v29 s fun s=>Al v29 h fun v30=>
 An Zu (bin TT .geq 3) v26 v30 fun v31=>
 J3 K base s v0 v1 v5 v23 v31 h)
 (J3 K base s v0 v1 v5 v23 (.tuple []) h)
def Mh(K:Nat)(v0 v1 v2:EV)(h:Aa):R:=
 Ea 103 v2 h fun v5 h=>
 Aj (Il K v0 v1 h) fun v11 h=>
 An Gv (bin TT .neq 28) v11 (.int .i64 0) fun v13=>
 De v13
 (some (.tuple [(.int .i64 0),v11],h))
 (Sz K v0 v1 v5 h)
theorem Abt(H:Aw disp)(hd:3<=d)(v0 v1 v2:EV)(h:Aa):Ae TT disp K d false 203 [v0,v1,v2] h=Mh K v0 v1 v2 h:=
 Cj (H.bare (by kernel_rfl)) hd (by kernel_rfl) (fun d hd=>(W2 (Nu H (lq hd rfl)) (W2 (Q2 H (lq hd rfl)) (W1 (Kv H (lq hd rfl)) (W1 (Aba H (lq hd rfl)) rfl))))) (fun d c r=>rfl) (fun d c r=>by kernel_rfl)
def So(K:Nat)(v0 v1:EV)(h:Aa):R:=
 A7 v0 fun v13=>
 Am 0 v13 fun v14=>
 Al v14 h fun v15=>
 It 1 v15 v1 fun v17=>
 Al v17 h fun v18=>
 Aj (Fu K v18 h) fun v19 h=>
 some (v19,h)
def Mj(K:Nat)(v0 v1:EV)(h:Aa):R:=
 Aj (Il K v0 v1 h) fun v8 h=>
 An Gv (bin TT .neq 28) v8 (.int .i64 0) fun v10=>
 De v10
 (some (v8,h))
 (So K v0 v1 h)
theorem Acn(H:Aw disp)(hd:3<=d)(v0 v1:EV)(h:Aa):Ae TT disp K d false 204 [v0,v1] h=Mj K v0 v1 h:=
 Cj (H.bare (by kernel_rfl)) hd (by kernel_rfl) (fun d hd=>(W2 (Nu H (lq hd rfl)) (W1 (Q0 H (lq hd rfl)) rfl))) (fun d c r=>rfl) (fun d c r=>by kernel_rfl)
def Q5(K:Nat)(v0 v1:EV)(h:Aa):R:=
 Ea 72 v0 h fun v2 h=>
 Ca 256 v2 h fun v6=>
 Aj (H8 K v6 v1 h) fun v8 h=>
 Aj (B1 [(.int .u8 0)] 5 1 0 [] h) fun v9 h=>
 Aj (Dt 5 1 v9 v1 h) fun v11 h=>
 My .u8 v8 fun v13=>
 Lt (bin TT .shr 70) v8 (.int .u64 8) fun v15=>
 My .u8 v15 fun v16=>
 Lt (bin TT .shr 70) v8 (.int .u64 16) fun v18=>
 My .u8 v18 fun v19=>
 Lt (bin TT .shr 70) v8 (.int .u64 24) fun v21=>
 My .u8 v21 fun v22=>
 Aj (B1 [(.int .u8 0)] 5 1 4 [(0,v13),(1,v16),(2,v19),(3,v22)] h) fun v23 h=>
 Aj (Dt 5 1 v11 v23 h) fun v24 h=>
 some (v24,h)
theorem Ahm(H:Aw disp)(hd:4<=d)(v0 v1:EV)(h:Aa):Ae TT disp K d false 211 [v0,v1] h=Q5 K v0 v1 h:=
 Cj (H.bare (by kernel_rfl)) hd (by kernel_rfl) (fun d hd=>(W2 (Oc H (lq hd rfl)) rfl)) (fun d c r=>rfl) (fun d c r=>by kernel_rfl)
def N9(c r:Ad)(K:Nat)(h:Aa):R:=
 some ((.int .i64 0),h)
def I7(c r:Ad)(K:Nat)(v0:EV)(h:Aa):R:=
 Aj (c 70 [v0] h) fun v44 h=>
 An Fj (bin TT .eql 28) v44 (.int .i64 34) fun v45=>
 De v45
 (some ((.int .i64 34),h))
 (N9 c r K h)
def Gr(c r:Ad)(K:Nat)(v0 v35 v41:EV)(h:Aa):R:=
 Bk v35 v41 (.bool false) fun v42=>
 De v42
 (some ((.int .i64 0),h))
 (I7 c r K v0 h)
def Oa(c r:Ad)(K:Nat)(v0 v1:EV)(h:Aa):R:=
 A7 v0 fun v18=>
 Am 264 v18 fun v19=>
 Al v19 h fun v20=>
 It 1 v20 v1 fun v22=>
 D5 1 v22 (.int .i64 1) h fun h=>
 A7 v0 fun v24=>
 Am 263 v24 fun v25=>
 Al v25 h fun v26=>
 Aj (c 69 [v26,v1] h) fun v28 h=>
 A7 v0 fun v31=>
 Am 265 v31 fun v32=>
 Al v32 h fun v33=>
 An Gv (bin TT .neq 3) v1 v33 fun v34=>
 As (Ay v34 true)
 (A7 v0 fun v38=>
 Am 266 v38 fun v39=>
 Al v39 h fun v40=>
 An Gv (bin TT .neq 3) v1 v40 fun v41=>
 Gr c r K v0 v34 v41 h)
 (Gr c r K v0 v34 (.tuple []) h)
def P8(c r:Ad)(K:Nat)(v0 v1:EV)(h:Aa):R:=
 A7 v0 fun v7=>
 Am 1 v7 fun v8=>
 Ca 6 v8 h fun v9=>
 Aj (E9 K v9 v1 h) fun v11 h=>
 An Hl (bin TT .lss 3) v11 (.int .i64 0) fun v12=>
 De v12
 (some ((.int .i64 13),h))
 (Aj (G7 K v0 v1 h) fun v16 h=>
 De v16
 (some ((.int .i64 16),h))
 (Oa c r K v0 v1 h))
theorem U4(H:Aw disp)(hd:3<=d)(v0 v1:EV)(h:Aa):Ae TT disp K (d+1) false 20 [v0,v1] h=P8 (Ae TT disp K d false) (Ae TT disp K d true) K v0 v1 h:=
 Um (H.bare (by kernel_rfl)) (by kernel_rfl) (W2 (H9 H (lq hd rfl)) (W2 (N0 H (lq hd rfl)) rfl)) rfl (by kernel_rfl)
def Po(K:Nat)(v1 v3 v5 v8:EV)(h:Aa):R:=
 Fz h fun base s=>
 Am 0 v1 fun v54=>
 Bd 2 2 base v54 s fun s=>Al v54 h fun v55=>
 Am 1 v1 fun v56=>
 Bd 4 8 base v56 s fun s=>Al v56 h fun v57=>
 An X4 (bin TT .mul 3) v55 v57 fun v58=>
 Am 2 v1 fun v59=>
 Bd 7 64 base v59 s fun s=>Al v59 h fun v60=>
 Am 5 v1 fun v61=>
 Bd 9 256 base v61 s fun s=>Al v61 h fun v62=>
 Ci 10 1022 s h (fun h=>(Mr K v58 v60 v62 h)) fun v63 h s=>
 Bu (D3 [(0,5),(5,1),(6,1)]) [.Ag,(.int .i64 0),(.int .i64 0),(.int .i64 0),(.bool false),.Ag,.Ag] [(0,v63)] fun v64=>
 Bd 12 0 base v5 s fun s=>Ca 6 v5 h fun v65=>
 Ci 13 8190 s h (fun h=>(Mq K v64 v65 h)) fun v66 h s=>
 Ad4 15 32767 v3 s fun s=>D5 20 v3 v66 h fun h=>
 Cx TT [.v v8,.c v3 42,.v (.bool true)] h
def Ka(K:Nat)(v1 v3 v5 v8 v48 v50:EV)(h:Aa):R:=
 Bk v48 (.bool true) v50 fun v51=>
 De v51
 (Bu (D3 [(0,7),(7,6),(13,3),(16,1),(17,1),(18,1),(19,1)]) ([.Ag]++List.replicate 3 (.int .i64 0)++[(.bool false)]++List.replicate 2 .Ag++List.replicate 8 (.int .i64 0)++List.replicate 2 .Ag++List.replicate 3 (.int .i64 0)) [] fun v52=>
 D5 20 v3 v52 h fun h=>
 Cx TT [.v .Ej,.c v3 42,.v (.bool false)] h)
 (Po K v1 v3 v5 v8 h)
def Pg(K:Nat)(v1 v3 v5 v6:EV)(h:Aa):R:=
 Fz h fun base s=>
 Bd 1 0 base v1 s fun s=>Ca 6 v1 h fun v41=>
 Ci 2 0 s h (fun h=>(A0h K h)) fun v42 h s=>
 Ci 3 7 s h (fun h=>(Ab1 K v6 v41 v42 h)) fun v43 h s=>
 Bv 0 v43 fun v44=>
 Bv 1 v43 fun v45=>
 An Gv (bin TT .neq 28) v45 (.int .i64 0) fun v47=>
 As (Ay v47 false)
 (An Fj (bin TT .eql 29) v44 .Ej fun v50=>
 Ka K v1 v3 v5 v44 v47 v50 h)
 (Ka K v1 v3 v5 v44 v47 (.tuple []) h)
def Pn(K:Nat)(v1 v3 v5:EV)(h:Aa):R:=
 Am 0 v1 fun v24=>
 Al v24 h fun v25=>
 Am 1 v1 fun v26=>
 Al v26 h fun v27=>
 An X4 (bin TT .mul 3) v25 v27 fun v28=>
 Am 2 v1 fun v29=>
 Al v29 h fun v30=>
 Am 5 v1 fun v31=>
 Al v31 h fun v32=>
 Aj (Ai0 K v28 v30 v32 h) fun v33 h=>
 Bv 0 v33 fun v34=>
 Bv 1 v33 fun v35=>
 An Gv (bin TT .neq 28) v35 (.int .i64 0) fun v37=>
 De v37
 (Bu (D3 [(0,7),(7,6),(13,3),(16,1),(17,1),(18,1),(19,1)]) ([.Ag]++List.replicate 3 (.int .i64 0)++[(.bool false)]++List.replicate 2 .Ag++List.replicate 8 (.int .i64 0)++List.replicate 2 .Ag++List.replicate 3 (.int .i64 0)) [] fun v38=>
 D5 20 v3 v38 h fun h=>
 Cx TT [.v .Ej,.c v3 42,.v (.bool false)] h)
 (Pg K v1 v3 v5 v34 h)
def Fi(K:Nat)(v1 v3 v5 v14 v20:EV)(h:Aa):R:=
 Bk v14 (.bool true) v20 fun v21=>
 De v21
 (Bu (D3 [(0,7),(7,6),(13,3),(16,1),(17,1),(18,1),(19,1)]) ([.Ag]++List.replicate 3 (.int .i64 0)++[(.bool false)]++List.replicate 2 .Ag++List.replicate 8 (.int .i64 0)++List.replicate 2 .Ag++List.replicate 3 (.int .i64 0)) [] fun v22=>
 D5 20 v3 v22 h fun h=>
 Cx TT [.v .Ej,.c v3 42,.v (.bool false)] h)
 (Pn K v1 v3 v5 h)
def G6(K:Nat)(v0:EV)(h:Aa):R:=
 Ea 23 v0 h fun v1 h=>
 Hj (.cells ([.Ag]++List.replicate 3 (.int .i64 0)++[(.bool false)]++List.replicate 2 .Ag++List.replicate 8 (.int .i64 0)++List.replicate 2 .Ag++List.replicate 3 (.int .i64 0)) 42) h fun v3 h=>
 Ca 6 v1 h fun v10=>
 Hj (.cells [(.int .i64 0),(.int .i64 0),(.int .i64 0),(.int .i64 0),(.int .i64 0),(.int .i64 0)] 37) h fun v5 h=>
 D5 6 v5 v10 h fun h=>
 Ca 6 v5 h fun v11=>
 Aj (Ja K v11 h) fun v12 h=>
 Q1 v12 fun v13=>
 As (Ay v13 false)
 (Am 0 v1 fun v15=>
 Al v15 h fun v16=>
 Am 1 v1 fun v17=>
 Al v17 h fun v18=>
 An X4 (bin TT .mul 3) v16 v18 fun v19=>
 An Ww (bin TT .gtr 3) v19 (.int .i64 64) fun v20=>
 Fi K v1 v3 v5 v13 v20 h)
 (Fi K v1 v3 v5 v13 (.tuple []) h)
theorem X2(H:Aw disp)(hd:6<=d)(v0:EV)(h:Aa):Ae TT disp K d false 33 [v0] h=G6 K v0 h:=
 Cj (H.bare (by kernel_rfl)) hd (by kernel_rfl) (fun d hd=>(W1 (Xz H (lq hd rfl)) (W3 (Abj H (lq hd rfl)) (W2 (Abl H (lq hd rfl)) (W0 (Avj H (lq hd rfl)) (W3 (Aoq H (lq hd rfl)) (W3 (Atf H (lq hd rfl)) rfl))))))) (fun d c r=>rfl) (fun d c r=>by kernel_rfl)
def Ue(K:Nat)(ih0_:EV->EV->EV->Aa->R)(v0 v15 v16:EV)(h:Aa):R:=
 An Hw (bin TT .add 3) v16 (.int .i64 1) fun v28=>
 ih0_ v0 v15 v28 h
def Tp(K:Nat)(ih0_:EV->EV->EV->Aa->R)(v0 v15 v16:EV)(h:Aa):R:=
 A7 v0 fun v22=>
 Am 0 v22 fun v23=>
 Al v23 h fun v24=>
 Aj (Mx K v24 v16 h) fun v26 h=>
 Aj (N7 K v0 v16 v26 h) fun v27 h=>
 Ue K ih0_ v0 v15 v16 h
def Ds(K:Nat):Nat->EV->EV->EV->Aa->R
 | 0=>fun _ _ _ _=>none
 | m+1=>fun v0 v15 v16 h=>
  An Hl (bin TT .lss 3) v16 v15 fun v17=>
  De v17
  (Tp K (Ds K m) v0 v15 v16 h)
  (some (.tuple [],h))
def Im(K:Nat)(v0 v1:EV)(h:Aa):R:=
 A7 v0 fun v6=>
 Am 0 v6 fun v7=>
 Al v7 h fun v8=>
 Aj (Jw K v8 v1 h) fun v10 h=>
 A7 v0 fun v12=>
 Am 0 v12 fun v13=>
 Al v13 h fun v14=>
 Aj (Hf K v14 h) fun v15 h=>
 Ds K K v0 v15 (.int .i64 0) h
abbrev Aga(K:Nat)(c:Ad):Ad:=(w2 87 (Jw K) (w1 74 (Hf K) (w2 89 (Mx K) (w3 88 (N7 K) c))))
theorem Abu(c c' r:Ad)(K:Nat)(m:Nat):I0 (fun ih=>H6 TT (Aga K c) c' r K (nOf TT 40) (F2 TT 40) (Sb TT 40 [true,true,false]) [(0,F2 TT 40)] ih) m=fun ρ h=>Ds K m (ρ 0) (ρ 15) (ρ 16) h:=
 C3 (E:=fun m ρ h=>Ds K m (ρ 0) (ρ 15) (ρ 16) h) rfl (fun m=>Se fun ρ h=>by
  show _=Ds K (m+1) (ρ 0) (ρ 15) (ρ 16) h
  rw[Ds];kernel_rfl) m
theorem Adl(H:Aw disp)(hd:4<=d)(v0 v1:EV)(h:Aa):Ae TT disp K d false 40 [v0,v1] h=Im K v0 v1 h:=
 Cj (H.bare (by kernel_rfl)) hd (by kernel_rfl) (fun d hd=>(W2 (Acl H (lq hd rfl)) (W1 (Nv H (lq hd rfl)) (W2 (Agb H (lq hd rfl)) (W3 (Adj H (lq hd rfl)) rfl))))) (fun d c r=>(cut [true,true,false] (Abu (Ae TT disp K d false) c r K K) (by kernel_rfl) (by kernel_rfl) rfl)) (fun d c r=>by kernel_rfl)
def Afz(K:Nat)(h:Aa):R:=
 some ((.bool false),h)
def Da(K:Nat)(base:Nat)(s:DX)(v57 v60:EV)(h:Aa):R:=
 Bk v57 v60 (.bool false) fun v61=>
 some (v61,h)
def Eh(K:Nat)(base:Nat)(s:DX)(v2 v52 v55:EV)(h:Aa):R:=
 Bk v52 v55 (.bool false) fun v56=>
 As (Ay v56 true)
 (Am 5 v2 fun v58=>
 Bd 42 4398046511103 base v58 s fun s=>Al v58 h fun v59=>
 An Aei (bin TT .leq 3) v59 (.int .i64 4294967295) fun v60=>
 Da K base s v56 v60 h)
 (Da K base s v56 (.tuple []) h)
def Fl(K:Nat)(base:Nat)(s:DX)(v2 v47 v50:EV)(h:Aa):R:=
 Bk v47 v50 (.bool false) fun v51=>
 As (Ay v51 true)
 (Am 5 v2 fun v53=>
 Bd 37 137438953471 base v53 s fun s=>Al v53 h fun v54=>
 An Zu (bin TT .geq 3) v54 (.int .i64 0) fun v55=>
 Eh K base s v2 v51 v55 h)
 (Eh K base s v2 v51 (.tuple []) h)
def Hi(K:Nat)(base:Nat)(s:DX)(v2 v42 v45:EV)(h:Aa):R:=
 Bk v42 v45 (.bool false) fun v46=>
 As (Ay v46 true)
 (Am 4 v2 fun v48=>
 Bd 32 4294967295 base v48 s fun s=>Al v48 h fun v49=>
 An Aei (bin TT .leq 3) v49 (.int .i64 281474976710655) fun v50=>
 Fl K base s v2 v46 v50 h)
 (Fl K base s v2 v46 (.tuple []) h)
def I2(K:Nat)(base:Nat)(s:DX)(v2 v31 v40:EV)(h:Aa):R:=
 Bk v31 v40 (.bool false) fun v41=>
 As (Ay v41 true)
 (Am 4 v2 fun v43=>
 Bd 27 134217727 base v43 s fun s=>Al v43 h fun v44=>
 An Zu (bin TT .geq 3) v44 (.int .i64 1) fun v45=>
 Hi K base s v2 v41 v45 h)
 (Hi K base s v2 v41 (.tuple []) h)
def I5(K:Nat)(base:Nat)(s:DX)(v2 v3 v23 v29:EV)(h:Aa):R:=
 Bk v23 v29 (.bool false) fun v30=>
 As (Ay v30 true)
 (Bd 15 32767 base v3 s fun s=>Ca 6 v3 h fun v32=>
 Am 1 v2 fun v33=>
 Bd 17 98303 base v33 s fun s=>Al v33 h fun v34=>
 Ci 18 262143 s h (fun h=>(E9 K v32 v34 h)) fun v35 h s=>
 Bd 19 32767 base v3 s fun s=>Ca 6 v3 h fun v36=>
 Am 2 v2 fun v37=>
 Bd 21 1081343 base v37 s fun s=>Al v37 h fun v38=>
 Ci 22 4194303 s h (fun h=>(E9 K v36 v38 h)) fun v39 h s=>
 An Gv (bin TT .neq 3) v35 v39 fun v40=>
 I2 K base s v2 v30 v40 h)
 (I2 K base s v2 v30 (.tuple []) h)
def Pq(K:Nat)(v2 v3 v6 v7:EV)(h:Aa):R:=
 De v7
 (Ca 6 v2 h fun v10=>
 Am 0 v2 fun v11=>
 Al v11 h fun v12=>
 Bu (D3 [(0,1),(1,1),(2,1),(3,1),(4,1),(5,1)]) [(.int .i64 0),(.int .i64 0),(.int .i64 0),(.int .i64 0),(.int .i64 0),(.int .i64 0)] [(0,v12)] fun v13=>
 An Fj (bin TT .eql 83) v10 v13 fun v14=>
 some (v14,h))
 (An Fj (bin TT .eql 3) v6 (.int .i64 1) fun v16=>
 De v16
 (Fz h fun base s=>
 Bd 0 0 base v3 s fun s=>Ca 6 v3 h fun v17=>
 Am 1 v2 fun v18=>
 Bd 2 2 base v18 s fun s=>Al v18 h fun v19=>
 Am 3 v2 fun v20=>
 Bd 4 8 base v20 s fun s=>Al v20 h fun v21=>
 Ci 5 31 s h (fun h=>(Ng K v17 v19 v21 h)) fun v22 h s=>
 As (Ay v22 true)
 (Bd 7 127 base v3 s fun s=>Ca 6 v3 h fun v24=>
 Am 2 v2 fun v25=>
 Bd 9 383 base v25 s fun s=>Al v25 h fun v26=>
 Am 3 v2 fun v27=>
 Bd 11 1151 base v27 s fun s=>Al v27 h fun v28=>
 Ci 12 4095 s h (fun h=>(Ng K v24 v26 v28 h)) fun v29 h s=>
 I5 K base s v2 v3 v22 v29 h)
 (I5 K base s v2 v3 v22 (.tuple []) h))
 (Afz K h))
def O6(K:Nat)(v0 v1:EV)(h:Aa):R:=
 Ea 83 v0 h fun v2 h=>
 Ea 23 v1 h fun v3 h=>
 Am 0 v2 fun v5=>
 Al v5 h fun v6=>
 An Fj (bin TT .eql 3) v6 (.int .i64 0) fun v8=>
 De v8
 (Pq K v2 v3 v6 v8 h)
 (An Fj (bin TT .eql 3) v6 (.int .i64 2) fun v9=>
 Pq K v2 v3 v6 v9 h)
theorem Ad7(H:Aw disp)(hd:5<=d)(v0 v1:EV)(h:Aa):Ae TT disp K d false 43 [v0,v1] h=O6 K v0 v1 h:=
 Cj (H.bare (by kernel_rfl)) hd (by kernel_rfl) (fun d hd=>(W2 (H9 H (lq hd rfl)) (W3 (Agd H (lq hd rfl)) rfl))) (fun d c r=>rfl) (fun d c r=>by kernel_rfl)
def Uv(K:Nat)(v10 v14:EV)(h:Aa):R:=
 Ca 49 v14 h fun v51=>
 D5 49 v10 v51 h fun h=>
 Cx TT [.c v10 120,.v (.int .i64 0)] h
def E3(K:Nat)(v10 v14 v41 v48:EV)(h:Aa):R:=
 Bk v41 (.bool true) v48 fun v49=>
 De v49
 (Bu (D3 [(0,1),(1,1),(2,1),(3,1),(4,1),(5,44)]) (List.replicate 5 (.int .i64 0)++List.replicate 44 (.int .u8 0)) [] fun v50=>
 D5 49 v10 v50 h fun h=>
 Cx TT [.c v10 120,.v (.int .i64 10)] h)
 (Uv K v10 v14 h)
def Gg(K:Nat)(v4 v5 v10 v14 v35 v39:EV)(h:Aa):R:=
 Bk v35 (.bool true) v39 fun v40=>
 As (Ay v40 false)
 (Am 1 v5 fun v42=>
 Al v42 h fun v43=>
 Am 2 v5 fun v45=>
 Al v45 h fun v46=>
 An R8 (bin TT .sub 3) v4 v46 fun v47=>
 An Aei (bin TT .leq 3) v43 v47 fun v48=>
 E3 K v10 v14 v40 v48 h)
 (E3 K v10 v14 v40 (.tuple []) h)
def Ie(K:Nat)(v4 v5 v10 v14 v30 v33:EV)(h:Aa):R:=
 Bk v30 (.bool true) v33 fun v34=>
 As (Ay v34 false)
 (Am 1 v5 fun v36=>
 Al v36 h fun v37=>
 An Ww (bin TT .gtr 3) v37 v4 fun v39=>
 Gg K v4 v5 v10 v14 v34 v39 h)
 (Gg K v4 v5 v10 v14 v34 (.tuple []) h)
def Hb(K:Nat)(v0 v1 v2 v3 v4:EV)(h:Aa):R:=
 Ea 89 v0 h fun v5 h=>
 Hj (.cells (List.replicate 5 (.int .i64 0)++List.replicate 44 (.int .u8 0)) 120) h fun v10 h=>
 Ca 38 v5 h fun v16=>
 Aj (Lh K v16 h) fun v17 h=>
 Bv 0 v17 fun v18=>
 Bv 1 v17 fun v19=>
 Hj (.cells (List.replicate 44 (.int .u8 0)) 118) h fun v12 h=>
 D5 44 v12 v18 h fun h=>
 Am 0 v5 fun v20=>
 Al v20 h fun v21=>
 Ca 44 v12 h fun v26=>
 Bu (D3 [(0,1),(1,1),(2,1),(3,1),(4,1),(5,44)]) (List.replicate 5 (.int .i64 0)++List.replicate 44 (.int .u8 0)) [(0,v21),(1,v1),(2,v2),(3,v3),(4,v4),(5,v26)] fun v27=>
 Hj (.cells (List.replicate 5 (.int .i64 0)++List.replicate 44 (.int .u8 0)) 120) h fun v14 h=>
 D5 49 v14 v27 h fun h=>
 An Gv (bin TT .neq 28) v19 (.int .i64 0) fun v29=>
 As (Ay v29 false)
 (Ca 49 v14 h fun v31=>
 Aj (Ik K v31 h) fun v32 h=>
 Q1 v32 fun v33=>
 Ie K v4 v5 v10 v14 v29 v33 h)
 (Ie K v4 v5 v10 v14 v29 (.tuple []) h)
theorem Nz(H:Aw disp)(hd:5<=d)(v0 v1 v2 v3 v4:EV)(h:Aa):Ae TT disp K d false 79 [v0,v1,v2,v3,v4] h=Hb K v0 v1 v2 v3 v4 h:=
 Cj (H.bare (by kernel_rfl)) hd (by kernel_rfl) (fun d hd=>(W1 (Ub H (lq hd rfl)) (W1 (Ns H (lq hd rfl)) rfl))) (fun d c r=>rfl) (fun d c r=>by kernel_rfl)
def Rq(c r:Ad)(K:Nat)(v0 v4 v5:EV)(h:Aa):R:=
 A7 v0 fun v48=>
 Am 265 v48 fun v49=>
 D5 1 v49 v4 h fun h=>
 A7 v0 fun v50=>
 Am 266 v50 fun v51=>
 D5 1 v51 v5 h fun h=>
 A7 v0 fun v52=>
 Am 267 v52 fun v53=>
 D5 1 v53 (.int .i64 0) h fun h=>
 some ((.int .i64 0),h)
def Q7(c r:Ad)(K:Nat)(v0:EV)(h:Aa):R:=
 A7 v0 fun v34=>
 Am 263 v34 fun v35=>
 Al v35 h fun v36=>
 Aj (R7 K v36 h) fun v37 h=>
 Bv 0 v37 fun v38=>
 Bv 1 v37 fun v39=>
 Bv 2 v37 fun v40=>
 An Gv (bin TT .neq 28) v40 (.int .i64 0) fun v42=>
 De v42
 (some ((.int .i64 40),h))
 (Rq c r K v0 v38 v39 h)
def Ma(c r:Ad)(K:Nat)(v0:EV)(h:Aa):R:=
 A7 v0 fun v25=>
 Am 0 v25 fun v26=>
 Al v26 h fun v27=>
 Aj (c 67 [v27] h) fun v28 h=>
 An Gv (bin TT .neq 28) v28 (.int .i64 0) fun v30=>
 De v30
 (some (v28,h))
 (Q7 c r K v0 h)
def Hh(c r:Ad)(K:Nat)(v0 v12 v22:EV)(h:Aa):R:=
 Bk v12 v22 (.bool false) fun v23=>
 De v23
 (some ((.int .i64 0),h))
 (Ma c r K v0 h)
def Vm(c r:Ad)(K:Nat)(v0:EV)(h:Aa):R:=
 A7 v0 fun v8=>
 Am 265 v8 fun v9=>
 Al v9 h fun v10=>
 An Gv (bin TT .neq 3) v10 (.int .i64 (-1)) fun v11=>
 As (Ay v11 true)
 (A7 v0 fun v14=>
 Am 267 v14 fun v15=>
 Al v15 h fun v16=>
 A7 v0 fun v18=>
 Am 1 v18 fun v19=>
 Am 2 v19 fun v20=>
 Al v20 h fun v21=>
 An Hl (bin TT .lss 3) v16 v21 fun v22=>
 Hh c r K v0 v11 v22 h)
 (Hh c r K v0 v11 (.tuple []) h)
theorem Aay(H:Aw disp)(hd:4<=d)(v0:EV)(h:Aa):Ae TT disp K (d+1) false 80 [v0] h=Vm (Ae TT disp K d false) (Ae TT disp K d true) K v0 h:=
 Um (H.bare (by kernel_rfl)) (by kernel_rfl) (W1 (Ahu H (lq hd rfl)) rfl) rfl (by kernel_rfl)
def Jg(K:Nat)(base:Nat)(s:DX)(v8 v14:EV)(h:Aa):R:=
 Bk v8 v14 (.bool false) fun v15=>
 some (v15,h)
def I4(K:Nat)(v0 v1:EV)(h:Aa):R:=
 Ea 83 v1 h fun v3 h=>
 Fz h fun base s=>
 Am 0 v3 fun v5=>
 Bd 1 1 base v5 s fun s=>Al v5 h fun v6=>
 An Fj (bin TT .eql 3) v6 (.int .i64 1) fun v7=>
 As (Ay v7 true)
 (Bd 4 15 base v3 s fun s=>Ca 6 v3 h fun v9=>
 A7 v0 fun v11=>
 Am 1 v11 fun v12=>
 Bd 8 239 base v12 s fun s=>Ca 6 v12 h fun v13=>
 Ci 9 511 s h (fun h=>(O6 K v9 v13 h)) fun v14 h s=>
 Jg K base s v7 v14 h)
 (Jg K base s v7 (.tuple []) h)
theorem Aaf(H:Aw disp)(hd:6<=d)(v0 v1:EV)(h:Aa):Ae TT disp K d false 83 [v0,v1] h=I4 K v0 v1 h:=
 Cj (H.bare (by kernel_rfl)) hd (by kernel_rfl) (fun d hd=>(W2 (Ad7 H (lq hd rfl)) rfl)) (fun d c r=>rfl) (fun d c r=>by kernel_rfl)
def Agk(K:Nat)(v2 v4:EV)(h:Aa):R:=
 Ca 38 v4 h fun v35=>
 D5 38 v2 v35 h fun h=>
 Cx TT [.c v2 89,.v (.int .i64 0)] h
def Agu(K:Nat)(v1 v2 v4:EV)(h:Aa):R:=
 Ca 38 v4 h fun v19=>
 Am 1 v1 fun v20=>
 Al v20 h fun v21=>
 Am 2 v1 fun v22=>
 Al v22 h fun v23=>
 Am 3 v1 fun v24=>
 Al v24 h fun v25=>
 Am 4 v1 fun v26=>
 Al v26 h fun v27=>
 Aj (Hb K v19 v21 v23 v25 v27 h) fun v28 h=>
 Bv 0 v28 fun v29=>
 Bv 1 v28 fun v30=>
 An Gv (bin TT .neq 28) v30 (.int .i64 0) fun v32=>
 De v32
 (Bu (D3 [(0,1),(1,1),(2,1),(3,1),(4,1),(5,1),(6,32)]) (List.replicate 6 (.int .i64 0)++List.replicate 32 (.int .u8 0)) [] fun v33=>
 D5 38 v2 v33 h fun h=>
 Cx TT [.c v2 89,.v v30] h)
 (Agk K v2 v4 h)
def Ab9(K:Nat)(v0:EV)(h:Aa):R:=
 Ea 120 v0 h fun v1 h=>
 Hj (.cells (List.replicate 6 (.int .i64 0)++List.replicate 32 (.int .u8 0)) 89) h fun v2 h=>
 Am 0 v1 fun v7=>
 Al v7 h fun v8=>
 Am 5 v1 fun v9=>
 Ca 44 v9 h fun v10=>
 Aj (Ain K v8 v10 h) fun v11 h=>
 Bv 0 v11 fun v12=>
 Bv 1 v11 fun v13=>
 Hj (.cells (List.replicate 6 (.int .i64 0)++List.replicate 32 (.int .u8 0)) 89) h fun v4 h=>
 D5 38 v4 v12 h fun h=>
 An Gv (bin TT .neq 28) v13 (.int .i64 0) fun v15=>
 De v15
 (Bu (D3 [(0,1),(1,1),(2,1),(3,1),(4,1),(5,1),(6,32)]) (List.replicate 6 (.int .i64 0)++List.replicate 32 (.int .u8 0)) [] fun v16=>
 D5 38 v2 v16 h fun h=>
 Cx TT [.c v2 89,.v v13] h)
 (Agu K v1 v2 v4 h)
theorem An3(H:Aw disp)(hd:6<=d)(v0:EV)(h:Aa):Ae TT disp K d false 135 [v0] h=Ab9 K v0 h:=
 Cj (H.bare (by kernel_rfl)) hd (by kernel_rfl) (fun d hd=>(W2 (Ato H (lq hd rfl)) (W5 (Nz H (lq hd rfl)) rfl))) (fun d c r=>rfl) (fun d c r=>by kernel_rfl)
def Acv(K:Nat)(v4 v9:EV)(h:Aa):R:=
 Ca 49 v9 h fun v58=>
 D5 49 v4 v58 h fun h=>
 Cx TT [.c v4 120,.v (.int .i64 0)] h
def Nf(K:Nat)(v4 v9 v52 v55:EV)(h:Aa):R:=
 Bk v52 (.bool true) v55 fun v56=>
 De v56
 (Bu (D3 [(0,1),(1,1),(2,1),(3,1),(4,1),(5,44)]) (List.replicate 5 (.int .i64 0)++List.replicate 44 (.int .u8 0)) [] fun v57=>
 D5 49 v4 v57 h fun h=>
 Cx TT [.c v4 120,.v (.int .i64 10)] h)
 (Acv K v4 v9 h)
def Nj(K:Nat)(v4 v8 v9 v47 v50:EV)(h:Aa):R:=
 Bk v47 (.bool true) v50 fun v51=>
 As (Ay v51 false)
 (Aj (Ob K v8 h) fun v54 h=>
 An Gv (bin TT .neq 28) v54 (.int .i64 0) fun v55=>
 Nf K v4 v9 v51 v55 h)
 (Nf K v4 v9 v51 (.tuple []) h)
def Ac3(K:Nat)(v4 v6:EV)(h:Aa):R:=
 Aj (Aax K v6 h) fun v22 h=>
 Aj (Ce K v22 (.int .i64 1) h) fun v24 h=>
 Bu (D3 [(0,1),(1,1),(2,1),(3,1),(4,1),(5,44)]) (List.replicate 5 (.int .i64 0)++List.replicate 44 (.int .u8 0)) [(0,v24)] fun v25=>
 Hj (.cells (List.replicate 5 (.int .i64 0)++List.replicate 44 (.int .u8 0)) 120) h fun v9 h=>
 D5 49 v9 v25 h fun h=>
 Aj (Ce K v22 (.int .i64 1) h) fun v27 h=>
 Aj (Ce K v22 (.int .i64 2) h) fun v29 h=>
 Aj (Ce K v22 (.int .i64 2) h) fun v31 h=>
 Aj (Ce K v22 (.int .i64 4) h) fun v33 h=>
 Aj (Ce K v22 (.int .i64 6) h) fun v35 h=>
 Am 1 v9 fun v36=>
 D5 1 v36 v29 h fun h=>
 Am 2 v9 fun v37=>
 D5 1 v37 v31 h fun h=>
 Am 3 v9 fun v38=>
 D5 1 v38 v33 h fun h=>
 Am 4 v9 fun v39=>
 D5 1 v39 v35 h fun h=>
 Fz h fun base s=>
 Am 5 v9 fun v40=>
 Mu 44 1 v40 none none none fun v41=>
 Ci 3 4 s h (fun h=>(Jv K v22 (.int .i64 44) h)) fun v43 h s=>
 Ci 4 15 s h (fun h=>(builtin TT .copy #[174,174] [v41,v43] h)) fun v44 h s=>
 An Gv (bin TT .neq 3) v27 (.int .i64 1) fun v46=>
 As (Ay v46 false)
 (Ca 49 v9 h fun v48=>
 Aj (Ik K v48 h) fun v49 h=>
 Q1 v49 fun v50=>
 Nj K v4 v22 v9 v46 v50 h)
 (Nj K v4 v22 v9 v46 (.tuple []) h)
def Wi(K:Nat)(v0 v1:EV)(h:Aa):R:=
 Ea 72 v0 h fun v2 h=>
 Ea 103 v1 h fun v3 h=>
 Hj (.cells (List.replicate 5 (.int .i64 0)++List.replicate 44 (.int .u8 0)) 120) h fun v4 h=>
 Fz h fun base s=>
 Bd 0 0 base v2 s fun s=>Ca 256 v2 h fun v12=>
 Mu 64 1 v3 none none none fun v13=>
 Ci 2 3 s h (fun h=>(Rp K v12 v13 h)) fun v14 h s=>
 Bv 0 v14 fun v15=>
 Bv 1 v14 fun v16=>
 An Gv (bin TT .neq 28) v16 (.int .i64 0) fun v18=>
 De v18
 (Bu (D3 [(0,1),(1,1),(2,1),(3,1),(4,1),(5,44)]) (List.replicate 5 (.int .i64 0)++List.replicate 44 (.int .u8 0)) [] fun v19=>
 D5 49 v4 v19 h fun h=>
 Cx TT [.c v4 120,.v v16] h)
 (Ac3 K v4 v15 h)
theorem Akt(H:Aw disp)(hd:5<=d)(v0 v1:EV)(h:Aa):Ae TT disp K d false 154 [v0,v1] h=Wi K v0 v1 h:=
 Cj (H.bare (by kernel_rfl)) hd (by kernel_rfl) (fun d hd=>(W2 (Ahc H (lq hd rfl)) (W1 (Adp H (lq hd rfl)) (W1 (Agp H (lq hd rfl)) (W2 (Un H (lq hd rfl)) (W2 (Rn H (lq hd rfl)) (W1 (Ns H (lq hd rfl)) rfl))))))) (fun d c r=>rfl) (fun d c r=>by kernel_rfl)
def Ks(c r:Ad)(K:Nat)(v8 v9:EV)(h:Aa):R:=
 some (.tuple [v8,v9],h)
def Yx(c r:Ad)(K:Nat)(v0 v1 v2:EV)(h:Aa):R:=
 Ea 103 v2 h fun v5 h=>
 Aj (c 179 [v0,v1] h) fun v12 h=>
 Fz h fun base s=>
 A7 v0 fun v15=>
 Am 0 v15 fun v16=>
 Bd 3 7 base v16 s fun s=>Al v16 h fun v17=>
 Bd 5 0 base v5 s fun s=>Ca 64 v5 h fun v19=>
 Ci 6 63 s h (fun h=>(Mh K v17 v1 v19 h)) fun v20 h s=>
 Bv 0 v20 fun v21=>
 Bv 1 v20 fun v22=>
 An Fj (bin TT .eql 28) v22 (.int .i64 0) fun v24=>
 De v24
 (A7 v0 fun v26=>
 Am 3 v26 fun v27=>
 Al v27 h fun v28=>
 Bu (D3 [(0,1),(1,1)]) [(.int .i64 0),(.int .i64 0)] [(0,v1),(1,v21)] fun v31=>
 Aj (builtin TT .delete #[164,243] [v28,v31] h) fun _ h=>
 Ks c r K v21 v22 h)
 (Ks c r K v21 v22 h)
theorem Ads(H:Aw disp)(hd:3<=d)(v0 v1 v2:EV)(h:Aa):Ae TT disp K (d+1) false 164 [v0,v1,v2] h=Yx (Ae TT disp K d false) (Ae TT disp K d true) K v0 v1 v2 h:=
 Um (H.bare (by kernel_rfl)) (by kernel_rfl) (W3 (Abt H (lq hd rfl)) rfl) rfl (by kernel_rfl)
def Yr(c r:Ad)(K:Nat)(v0 v1:EV)(h:Aa):R:=
 Aj (c 179 [v0,v1] h) fun v7 h=>
 A7 v0 fun v9=>
 Am 0 v9 fun v10=>
 Al v10 h fun v11=>
 Aj (Mj K v11 v1 h) fun v13 h=>
 some (v13,h)
theorem Ac8(H:Aw disp)(hd:3<=d)(v0 v1:EV)(h:Aa):Ae TT disp K (d+1) false 165 [v0,v1] h=Yr (Ae TT disp K d false) (Ae TT disp K d true) K v0 v1 h:=
 Um (H.bare (by kernel_rfl)) (by kernel_rfl) (W2 (Acn H (lq hd rfl)) rfl) rfl (by kernel_rfl)
def Ac5(K:Nat)(v2 v4 v7:EV)(h:Aa):R:=
 Ca 256 v2 h fun v40=>
 Aj (Q5 K v40 v7 h) fun v42 h=>
 Aig 64 v42 fun v43=>
 Ca 64 v43 h fun v44=>
 D5 64 v4 v44 h fun h=>
 Cx TT [.c v4 103,.v (.int .i64 0)] h
def Ac1(K:Nat)(v2 v3 v4:EV)(h:Aa):R:=
 Hj (.cells [.Ag,(.bool false)] 278) h fun v6 h=>
 Am 0 v3 fun v13=>
 Al v13 h fun v14=>
 Aj (Dj K v6 (.int .i64 1) v14 h) fun v15 h=>
 Aj (Dj K v6 (.int .i64 1) (.int .i64 1) h) fun v16 h=>
 Am 1 v3 fun v17=>
 Al v17 h fun v18=>
 Aj (Dj K v6 (.int .i64 2) v18 h) fun v19 h=>
 Am 2 v3 fun v20=>
 Al v20 h fun v21=>
 Aj (Dj K v6 (.int .i64 2) v21 h) fun v22 h=>
 Am 3 v3 fun v23=>
 Al v23 h fun v24=>
 Aj (Dj K v6 (.int .i64 4) v24 h) fun v25 h=>
 Am 4 v3 fun v26=>
 Al v26 h fun v27=>
 Aj (Dj K v6 (.int .i64 6) v27 h) fun v28 h=>
 Am 5 v3 fun v29=>
 Mu 44 1 v29 none none none fun v30=>
 Aj (Nc K v6 v30 h) fun v31 h=>
 Aj (Jj K v6 h) fun v33 h=>
 Bv 0 v33 fun v34=>
 Bv 1 v33 fun v35=>
 An Gv (bin TT .neq 28) v35 (.int .i64 0) fun v37=>
 De v37
 (Bu (Pz 1) (List.replicate 64 (.int .u8 0)) [] fun v38=>
 D5 64 v4 v38 h fun h=>
 Cx TT [.c v4 103,.v v35] h)
 (Ac5 K v2 v4 v34 h)
def Wc(K:Nat)(v0 v1:EV)(h:Aa):R:=
 Ea 72 v0 h fun v2 h=>
 Ea 120 v1 h fun v3 h=>
 Hj (.cells (List.replicate 64 (.int .u8 0)) 103) h fun v4 h=>
 Ca 49 v3 h fun v9=>
 Aj (Ik K v9 h) fun v10 h=>
 Q1 v10 fun v11=>
 De v11
 (Bu (Pz 1) (List.replicate 64 (.int .u8 0)) [] fun v12=>
 D5 64 v4 v12 h fun h=>
 Cx TT [.c v4 103,.v (.int .i64 10)] h)
 (Ac1 K v2 v3 v4 h)
theorem Akw(H:Aw disp)(hd:5<=d)(v0 v1:EV)(h:Aa):Ae TT disp K d false 177 [v0,v1] h=Wc K v0 v1 h:=
 Cj (H.bare (by kernel_rfl)) hd (by kernel_rfl) (fun d hd=>(W1 (Ns H (lq hd rfl)) (W2 (Ahm H (lq hd rfl)) (W3 (Yf H (lq hd rfl)) (W2 (Vp H (lq hd rfl)) (W1 (Yj H (lq hd rfl)) rfl)))))) (fun d c r=>rfl) (fun d c r=>by kernel_rfl)
def I6(c r:Ad)(K:Nat)(ih0_:EV->EV->EV->EV->EV->Aa->R)(v0 v2 v3 v5 v8 v13:EV)(h:Aa):R:=
 Aj (c 20 [v0,v13] h) fun v93 h=>
 An Fj (bin TT .eql 28) v93 (.int .i64 34) fun v94=>
 De v94
 (Bu (D3 [(0,1),(1,1),(2,1),(3,1),(4,1),(5,1)]) [(.int .i64 0),(.int .i64 0),(.int .i64 0),(.int .i64 0),(.int .i64 0),(.int .i64 0)] [] fun v95=>
 D5 6 v8 v95 h fun h=>
 Cx TT [.c v8 83,.v (.int .i64 34)] h)
 (ih0_ v0 v2 v3 v5 v8 h)
def Rg(c r:Ad)(K:Nat)(ih0_:EV->EV->EV->EV->EV->Aa->R)(v0 v2 v3 v5 v8 v13:EV)(h:Aa):R:=
 A7 v0 fun v80=>
 Am 266 v80 fun v81=>
 Al v81 h fun v82=>
 An Fj (bin TT .eql 3) v13 v82 fun v83=>
 De v83
 (A7 v0 fun v85=>
 Am 267 v85 fun v86=>
 Al v86 h fun v87=>
 An Hw (bin TT .add 3) v87 (.int .i64 1) fun v88=>
 A7 v0 fun v89=>
 Am 267 v89 fun v90=>
 D5 1 v90 v88 h fun h=>
 I6 c r K ih0_ v0 v2 v3 v5 v8 v13 h)
 (I6 c r K ih0_ v0 v2 v3 v5 v8 v13 h)
def Rf(c r:Ad)(K:Nat)(ih0_:EV->EV->EV->EV->EV->Aa->R)(v0 v2 v3 v5 v8:EV)(h:Aa):R:=
 Ca 38 v5 h fun v35=>
 Aj (c 81 [v0,v35,v2,v3] h) fun v38 h=>
 Bv 0 v38 fun v39=>
 Bv 1 v38 fun v40=>
 An Fj (bin TT .eql 28) v40 (.int .i64 0) fun v43=>
 De v43
 (Fz h fun base s=>
 A7 v0 fun v45=>
 Am 265 v45 fun v46=>
 Bd 3 7 base v46 s fun s=>Al v46 h fun v47=>
 A7 v0 fun v49=>
 Am 266 v49 fun v50=>
 Bd 7 112 base v50 s fun s=>Al v50 h fun v51=>
 A7 v0 fun v53=>
 Am 267 v53 fun v54=>
 Bd 11 1792 base v54 s fun s=>Al v54 h fun v55=>
 A7 v0 fun v58=>
 Am 7 v58 fun v59=>
 Bd 16 57344 base v59 s fun s=>Ca 256 v59 h fun v60=>
 Am 6 v5 fun v61=>
 Mu 32 1 v61 none none none fun v62=>
 Ci 19 516096 s h (fun h=>(H8 K v60 v62 h)) fun v63 h s=>
 My .i64 v63 fun v64=>
 Bu (D3 [(0,1),(1,1),(2,1),(3,1),(4,1),(5,1)]) [(.int .i64 0),(.int .i64 0),(.int .i64 0),(.int .i64 0),(.int .i64 0),(.int .i64 0)] [(0,(.int .i64 1)),(1,v47),(2,v51),(3,v55),(4,v3),(5,v64)] fun v65=>
 Af0 22 h s fun s=>Hj (.cells [(.int .i64 0),(.int .i64 0),(.int .i64 0),(.int .i64 0),(.int .i64 0),(.int .i64 0)] 83) h fun v15 h=>
 Ad4 23 8388607 v15 s fun s=>D5 6 v15 v65 h fun h=>
 A7 v0 fun v67=>
 Am 267 v67 fun v68=>
 Al v68 h fun v69=>
 An Hw (bin TT .add 3) v69 (.int .i64 1) fun v70=>
 A7 v0 fun v71=>
 Am 267 v71 fun v72=>
 D5 1 v72 v70 h fun h=>
 Ca 6 v15 h fun v73=>
 D5 6 v8 v73 h fun h=>
 Cx TT [.c v8 83,.v (.int .i64 0)] h)
 (An Fj (bin TT .eql 28) v40 (.int .i64 34) fun v75=>
 De v75
 (Bu (D3 [(0,1),(1,1),(2,1),(3,1),(4,1),(5,1)]) [(.int .i64 0),(.int .i64 0),(.int .i64 0),(.int .i64 0),(.int .i64 0),(.int .i64 0)] [] fun v76=>
 D5 6 v8 v76 h fun h=>
 Cx TT [.c v8 83,.v v40] h)
 (Rg c r K ih0_ v0 v2 v3 v5 v8 v39 h))
def Ck(c r:Ad)(K:Nat):Nat->EV->EV->EV->EV->EV->Aa->R
 | 0=>fun _ _ _ _ _ _=>none
 | m+1=>fun v0 v2 v3 v5 v8 h=>
  Aj (c 80 [v0] h) fun v28 h=>
  An Gv (bin TT .neq 28) v28 (.int .i64 0) fun v30=>
  De v30
  (Bu (D3 [(0,1),(1,1),(2,1),(3,1),(4,1),(5,1)]) [(.int .i64 0),(.int .i64 0),(.int .i64 0),(.int .i64 0),(.int .i64 0),(.int .i64 0)] [] fun v31=>
  D5 6 v8 v31 h fun h=>
  Cx TT [.c v8 83,.v v28] h)
  (Rf c r K (Ck c r K m) v0 v2 v3 v5 v8 h)
def Q9(c r:Ad)(K:Nat)(v0 v2 v3 v5 v8:EV)(h:Aa):R:=
 Ck c r K K v0 v2 v3 v5 v8 h
def Vw(c r:Ad)(K:Nat)(v0 v1 v2 v3:EV)(h:Aa):R:=
 Ea 89 v1 h fun v5 h=>
 Hj (.cells [(.int .i64 0),(.int .i64 0),(.int .i64 0),(.int .i64 0),(.int .i64 0),(.int .i64 0)] 83) h fun v8 h=>
 Ca 38 v5 h fun v17=>
 Aj (Hb K v17 (.int .i64 0) (.int .i64 0) v2 v3 h) fun v20 h=>
 Bv 0 v20 fun v21=>
 Bv 1 v20 fun v22=>
 Hj (.cells (List.replicate 5 (.int .i64 0)++List.replicate 44 (.int .u8 0)) 120) h fun v10 h=>
 D5 49 v10 v21 h fun h=>
 An Gv (bin TT .neq 28) v22 (.int .i64 0) fun v24=>
 De v24
 (Bu (D3 [(0,1),(1,1),(2,1),(3,1),(4,1),(5,1)]) [(.int .i64 0),(.int .i64 0),(.int .i64 0),(.int .i64 0),(.int .i64 0),(.int .i64 0)] [] fun v25=>
 D5 6 v8 v25 h fun h=>
 Cx TT [.c v8 83,.v v22] h)
 (Q9 c r K v0 v2 v3 v5 v8 h)
abbrev Adw(K:Nat)(c:Ad):Ad:=(w5 79 (Hb K) (w2 82 (H8 K) c))
theorem Zz(c r:Ad)(K:Nat)(m:Nat):I0 (fun ih=>H6 TT (Adw K c) c r K (nOf TT 34) (F2 TT 34) (Sb TT 34 [true,true,false]) [(0,F2 TT 34)] ih) m=fun ρ h=>Ck c r K m (ρ 0) (ρ 2) (ρ 3) (ρ 5) (ρ 8) h:=
 C3 (E:=fun m ρ h=>Ck c r K m (ρ 0) (ρ 2) (ρ 3) (ρ 5) (ρ 8) h) rfl (fun m=>Se fun ρ h=>by
  show _=Ck c r K (m+1) (ρ 0) (ρ 2) (ρ 3) (ρ 5) (ρ 8) h
  rw[Ck];kernel_rfl) m
theorem Z2(H:Aw disp)(hd:5<=d)(v0 v1 v2 v3:EV)(h:Aa):Ae TT disp K (d+1) false 34 [v0,v1,v2,v3] h=Vw (Ae TT disp K d false) (Ae TT disp K d true) K v0 v1 v2 v3 h:=
 Um (H.bare (by kernel_rfl)) (by kernel_rfl) (W5 (Nz H (lq hd rfl)) (W2 (Oc H (lq hd rfl)) rfl)) (cut [true,true,false] (Zz (Ae TT disp K d false) (Ae TT disp K d true) K K) (by kernel_rfl) (by kernel_rfl) rfl) (by kernel_rfl)
def Jh(c r:Ad)(K:Nat)(v4 v7 v8:EV)(h:Aa):R:=
 Ca 32 v7 h fun v65=>
 D5 32 v4 v65 h fun h=>
 Cx TT [.c v4 87,.v v8,.v (.int .i64 0)] h
def Mg(c r:Ad)(K:Nat)(v4 v7 v8 v9:EV)(h:Aa):R:=
 An Fj (bin TT .eql 3) v9 (.int .i64 0) fun v63=>
 De v63
 (Bu (Pz 1) (List.replicate 32 (.int .u8 0)) [] fun v64=>
 D5 32 v4 v64 h fun h=>
 Cx TT [.c v4 87,.v (.int .i64 0),.v (.int .i64 41)] h)
 (Jh c r K v4 v7 v8 h)
def Fg(c r:Ad)(K:Nat)(ih2_:EV->EV->EV->EV->EV->EV->EV->EV->Aa->R)(v0 v3 v4 v7 v8 v9 v30 v31:EV)(h:Aa):R:=
 An Hw (bin TT .add 3) v31 (.int .i64 1) fun v61=>
 ih2_ v0 v3 v4 v7 v8 v9 v30 v61 h
def Rm(c r:Ad)(K:Nat)(ih2_:EV->EV->EV->EV->EV->EV->EV->EV->Aa->R)(v0 v3 v4 v7 v8 v9 v11 v12 v30 v31:EV)(h:Aa):R:=
 Ca 32 v12 h fun v51=>
 D5 32 v7 v51 h fun h=>
 An Hw (bin TT .add 3) v9 (.int .i64 1) fun v53=>
 Adg 2 1 v11 (.int .i64 0) fun v55=>
 Al v55 h fun v56=>
 Aj (G7 K v0 v56 h) fun v57 h=>
 Q1 v57 fun v58=>
 De v58
 (An Hw (bin TT .add 3) v8 (.int .i64 1) fun v60=>
 Fg c r K ih2_ v0 v3 v4 v7 v60 v53 v30 v31 h)
 (Fg c r K ih2_ v0 v3 v4 v7 v8 v53 v30 v31 h)
def Q8(c r:Ad)(K:Nat)(ih2_:EV->EV->EV->EV->EV->EV->EV->EV->Aa->R)(v0 v3 v4 v7 v8 v9 v11 v12 v13 v30 v31:EV)(h:Aa):R:=
 Q1 v13 fun v50=>
 De v50
 (Fg c r K ih2_ v0 v3 v4 v7 v8 v9 v30 v31 h)
 (Rm c r K ih2_ v0 v3 v4 v7 v8 v9 v11 v12 v30 v31 h)
def Mn(c r:Ad)(K:Nat)(ih2_:EV->EV->EV->EV->EV->EV->EV->EV->Aa->R)(v0 v3 v4 v7 v8 v9 v30 v31:EV)(h:Aa):R:=
 Ayx 2 2 true 2 v30 v31 fun v33=>
 Hj (.cells [(.int .i64 0),(.int .i64 0)] 176) h fun v11 h=>
 D5 2 v11 v33 h fun h=>
 Ca 6 v3 h fun v36=>
 Adg 2 1 v11 (.int .i64 0) fun v37=>
 Al v37 h fun v38=>
 Adg 2 1 v11 (.int .i64 1) fun v39=>
 Al v39 h fun v40=>
 Aj (c 84 [v0,v36,v38,v40] h) fun v41 h=>
 Bv 0 v41 fun v42=>
 Bv 1 v41 fun v43=>
 Bv 2 v41 fun v44=>
 Hj (.cells (List.replicate 32 (.int .u8 0)) 87) h fun v12 h=>
 D5 32 v12 v42 h fun h=>
 An Gv (bin TT .neq 28) v44 (.int .i64 0) fun v46=>
 De v46
 (Bu (Pz 1) (List.replicate 32 (.int .u8 0)) [] fun v47=>
 D5 32 v4 v47 h fun h=>
 Cx TT [.c v4 87,.v (.int .i64 0),.v v44] h)
 (Q8 c r K ih2_ v0 v3 v4 v7 v8 v9 v11 v12 v43 v30 v31 h)
def Bq(c r:Ad)(K:Nat):Nat->EV->EV->EV->EV->EV->EV->EV->EV->Aa->R
 | 0=>fun _ _ _ _ _ _ _ _ _=>none
 | m+1=>fun v0 v3 v4 v7 v8 v9 v30 v31 h=>
  An Hl (bin TT .lss 3) v31 (.int .i64 2) fun v32=>
  De v32
  (Mn c r K (Bq c r K m) v0 v3 v4 v7 v8 v9 v30 v31 h)
  (Mg c r K v4 v7 v8 v9 h)
def Rx(c r:Ad)(K:Nat)(v0 v3 v4:EV)(h:Aa):R:=
 Hj (.cells (List.replicate 32 (.int .u8 0)) 87) h fun v7 h=>
 Am 1 v3 fun v20=>
 Al v20 h fun v21=>
 Am 2 v3 fun v22=>
 Al v22 h fun v23=>
 Bu (Pz 1) [(.int .i64 0),(.int .i64 0)] [(0,v21),(1,v23)] fun v24=>
 Am 2 v3 fun v25=>
 Al v25 h fun v26=>
 Am 1 v3 fun v27=>
 Al v27 h fun v28=>
 Bu (Pz 1) [(.int .i64 0),(.int .i64 0)] [(0,v26),(1,v28)] fun v29=>
 Bu (Pz 2) [(.int .i64 0),(.int .i64 0),(.int .i64 0),(.int .i64 0)] [(0,v24),(1,v29)] fun v30=>
 Bq c r K K v0 v3 v4 v7 (.int .i64 0) (.int .i64 0) v30 (.int .i64 0) h
def Vs(c r:Ad)(K:Nat)(v0 v1:EV)(h:Aa):R:=
 Ea 83 v1 h fun v3 h=>
 Hj (.cells (List.replicate 32 (.int .u8 0)) 87) h fun v4 h=>
 Ca 6 v3 h fun v16=>
 Aj (I4 K v0 v16 h) fun v17 h=>
 Q1 v17 fun v18=>
 De v18
 (Bu (Pz 1) (List.replicate 32 (.int .u8 0)) [] fun v19=>
 D5 32 v4 v19 h fun h=>
 Cx TT [.c v4 87,.v (.int .i64 0),.v (.int .i64 10)] h)
 (Rx c r K v0 v3 v4 h)
abbrev Adv(K:Nat)(c:Ad):Ad:=(w2 83 (I4 K) (w2 21 (G7 K) c))
theorem Ze(c r:Ad)(K:Nat)(m:Nat):I0 (fun ih=>H6 TT (Adv K c) c r K (nOf TT 41) (F2 TT 41) (Sb TT 41 [true,true,true,true,false,true,false]) [(0,fun ρ h=>Mg c r K (ρ 4) (ρ 7) (ρ 8) (ρ 9) h)] ih) m=fun ρ h=>Bq c r K m (ρ 0) (ρ 3) (ρ 4) (ρ 7) (ρ 8) (ρ 9) (ρ 30) (ρ 31) h:=
 C3 (E:=fun m ρ h=>Bq c r K m (ρ 0) (ρ 3) (ρ 4) (ρ 7) (ρ 8) (ρ 9) (ρ 30) (ρ 31) h) rfl (fun m=>Se fun ρ h=>by
  show _=Bq c r K (m+1) (ρ 0) (ρ 3) (ρ 4) (ρ 7) (ρ 8) (ρ 9) (ρ 30) (ρ 31) h
  rw[Bq];kernel_rfl) m
theorem Aai(H:Aw disp)(hd:6<=d)(v0 v1:EV)(h:Aa):Ae TT disp K (d+1) false 41 [v0,v1] h=Vs (Ae TT disp K d false) (Ae TT disp K d true) K v0 v1 h:=
 Um (H.bare (by kernel_rfl)) (by kernel_rfl) (W2 (Aaf H (lq hd rfl)) (W2 (N0 H (lq hd rfl)) rfl)) (cut [true,true,true,true,false,true,false] (Ze (Ae TT disp K d false) (Ae TT disp K d true) K K) (by kernel_rfl) (by kernel_rfl) rfl) (by kernel_rfl)
def Alc(K:Nat)(v8 v10:EV)(h:Aa):R:=
 Ca 49 v10 h fun v33=>
 D5 49 v8 v33 h fun h=>
 Cx TT [.c v8 120,.v (.int .i64 0)] h
def Uw(K:Nat)(v8 v10 v26 v30:EV)(h:Aa):R:=
 Bk v26 (.bool true) v30 fun v31=>
 De v31
 (Bu (D3 [(0,1),(1,1),(2,1),(3,1),(4,1),(5,44)]) (List.replicate 5 (.int .i64 0)++List.replicate 44 (.int .u8 0)) [] fun v32=>
 D5 49 v8 v32 h fun h=>
 Cx TT [.c v8 120,.v (.int .i64 12)] h)
 (Alc K v8 v10 h)
def All(K:Nat)(v2 v3 v8 v10:EV)(h:Aa):R:=
 Am 1 v10 fun v22=>
 Al v22 h fun v23=>
 An Gv (bin TT .neq 3) v23 v2 fun v25=>
 As (Ay v25 false)
 (Am 2 v10 fun v27=>
 Al v27 h fun v28=>
 An Gv (bin TT .neq 3) v28 v3 fun v30=>
 Uw K v8 v10 v25 v30 h)
 (Uw K v8 v10 v25 (.tuple []) h)
def Ai8(K:Nat)(v0 v1 v2 v3:EV)(h:Aa):R:=
 Ea 72 v0 h fun v4 h=>
 Ea 103 v1 h fun v5 h=>
 Hj (.cells (List.replicate 5 (.int .i64 0)++List.replicate 44 (.int .u8 0)) 120) h fun v8 h=>
 Ca 256 v4 h fun v13=>
 Ca 64 v5 h fun v14=>
 Aj (Wi K v13 v14 h) fun v15 h=>
 Bv 0 v15 fun v16=>
 Bv 1 v15 fun v17=>
 Hj (.cells (List.replicate 5 (.int .i64 0)++List.replicate 44 (.int .u8 0)) 120) h fun v10 h=>
 D5 49 v10 v16 h fun h=>
 An Gv (bin TT .neq 28) v17 (.int .i64 0) fun v19=>
 De v19
 (Bu (D3 [(0,1),(1,1),(2,1),(3,1),(4,1),(5,44)]) (List.replicate 5 (.int .i64 0)++List.replicate 44 (.int .u8 0)) [] fun v20=>
 D5 49 v8 v20 h fun h=>
 Cx TT [.c v8 120,.v v17] h)
 (All K v2 v3 v8 v10 h)
theorem Atx(H:Aw disp)(hd:6<=d)(v0 v1 v2 v3:EV)(h:Aa):Ae TT disp K d false 108 [v0,v1,v2,v3] h=Ai8 K v0 v1 v2 v3 h:=
 Cj (H.bare (by kernel_rfl)) hd (by kernel_rfl) (fun d hd=>(W2 (Akt H (lq hd rfl)) rfl)) (fun d c r=>rfl) (fun d c r=>by kernel_rfl)
def Kr(c r:Ad)(K:Nat)(v14:EV)(h:Aa):R:=
 some (v14,h)
def Ig(c r:Ad)(K:Nat)(v14 v58 v64:EV)(h:Aa):R:=
 Bk v58 v64 (.bool false) fun v65=>
 De v65
 (some ((.int .i64 30),h))
 (Kr c r K v14 h)
def Tq(c r:Ad)(K:Nat)(v0 v2 v15:EV)(h:Aa):R:=
 Fz h fun base s=>
 A7 v0 fun v48=>
 Am 0 v48 fun v49=>
 Bd 3 7 base v49 s fun s=>Al v49 h fun v50=>
 Bd 5 0 base v15 s fun s=>Ca 64 v15 h fun v52=>
 Ci 6 63 s h (fun h=>(c 164 [v50,v2,v52] h)) fun v53 h s=>
 Bv 0 v53 fun v54=>
 Bv 1 v53 fun v55=>
 An Fj (bin TT .eql 28) v55 (.int .i64 0) fun v57=>
 As (Ay v57 true)
 (A7 v0 fun v61=>
 Am 267 v61 fun v62=>
 Al v62 h fun v63=>
 An Gv (bin TT .neq 3) v54 v63 fun v64=>
 Ig c r K v55 v57 v64 h)
 (Ig c r K v55 v57 (.tuple []) h)
def Uj(c r:Ad)(K:Nat)(v0 v2 v13:EV)(h:Aa):R:=
 Fz h fun base s=>
 A7 v0 fun v36=>
 Am 7 v36 fun v37=>
 Bd 3 7 base v37 s fun s=>Ca 256 v37 h fun v38=>
 Bd 4 0 base v13 s fun s=>Ca 49 v13 h fun v39=>
 Ci 5 31 s h (fun h=>(Wc K v38 v39 h)) fun v40 h s=>
 Bv 0 v40 fun v41=>
 Bv 1 v40 fun v42=>
 Af0 9 h s fun s=>Hj (.cells (List.replicate 64 (.int .u8 0)) 103) h fun v15 h=>
 Ad4 10 767 v15 s fun s=>D5 64 v15 v41 h fun h=>
 An Gv (bin TT .neq 28) v42 (.int .i64 0) fun v44=>
 De v44
 (some (v42,h))
 (Tq c r K v0 v2 v15 h)
def Yd(c r:Ad)(K:Nat)(v0 v1 v2 v3 v4 v5:EV)(h:Aa):R:=
 Ea 89 v1 h fun v7 h=>
 Am 5 v7 fun v18=>
 D5 1 v18 v3 h fun h=>
 Fz h fun base s=>
 Bd 0 0 base v7 s fun s=>Ca 38 v7 h fun v20=>
 A7 v0 fun v23=>
 Am 267 v23 fun v24=>
 Bd 5 28 base v24 s fun s=>Al v24 h fun v25=>
 Ci 8 255 s h (fun h=>(Hb K v20 v2 v25 v4 v5 h)) fun v28 h s=>
 Bv 0 v28 fun v29=>
 Bv 1 v28 fun v30=>
 Af0 12 h s fun s=>Hj (.cells (List.replicate 5 (.int .i64 0)++List.replicate 44 (.int .u8 0)) 120) h fun v13 h=>
 Ad4 13 6143 v13 s fun s=>D5 49 v13 v29 h fun h=>
 An Gv (bin TT .neq 28) v30 (.int .i64 0) fun v32=>
 De v32
 (some (v30,h))
 (Uj c r K v0 v2 v13 h)
theorem Adf(H:Aw disp)(hd:5<=d)(v0 v1 v2 v3 v4 v5:EV)(h:Aa):Ae TT disp K (d+1) false 131 [v0,v1,v2,v3,v4,v5] h=Yd (Ae TT disp K d false) (Ae TT disp K d true) K v0 v1 v2 v3 v4 v5 h:=
 Um (H.bare (by kernel_rfl)) (by kernel_rfl) (W5 (Nz H (lq hd rfl)) (W2 (Akw H (lq hd rfl)) rfl)) rfl (by kernel_rfl)
def S0(c r:Ad)(K:Nat)(v8 v14:EV)(h:Aa):R:=
 Am 6 v14 fun v94=>
 Ca 32 v94 h fun v95=>
 D5 32 v8 v95 h fun h=>
 Cx TT [.c v8 87,.v (.bool true),.v (.int .i64 0)] h
def Fx(c r:Ad)(K:Nat)(base:Nat)(s:DX)(v8 v14 v80 v91:EV)(h:Aa):R:=
 Bk v80 (.bool true) v91 fun v92=>
 De v92
 (Bu (Pz 1) (List.replicate 32 (.int .u8 0)) [] fun v93=>
 D5 32 v8 v93 h fun h=>
 Cx TT [.c v8 87,.v (.bool false),.v (.int .i64 0)] h)
 (S0 c r K v8 v14 h)
def Hs(c r:Ad)(K:Nat)(base:Nat)(s:DX)(v0 v5 v8 v14 v74 v78:EV)(h:Aa):R:=
 Bk v74 (.bool true) v78 fun v79=>
 As (Ay v79 false)
 (A7 v0 fun v82=>
 Am 7 v82 fun v83=>
 Bd 12 4095 base v83 s fun s=>Ca 256 v83 h fun v84=>
 Am 6 v14 fun v85=>
 Mu 32 1 v85 none none none fun v86=>
 Ci 15 32767 s h (fun h=>(H8 K v84 v86 h)) fun v87 h s=>
 My .i64 v87 fun v88=>
 Am 5 v5 fun v89=>
 Bd 18 131583 base v89 s fun s=>Al v89 h fun v90=>
 An Gv (bin TT .neq 3) v88 v90 fun v91=>
 Fx c r K base s v8 v14 v79 v91 h)
 (Fx c r K base s v8 v14 v79 (.tuple []) h)
def Sn(c r:Ad)(K:Nat)(v0 v3 v5 v8 v13:EV)(h:Aa):R:=
 Ca 49 v13 h fun v68=>
 Aj (Ab9 K v68 h) fun v69 h=>
 Bv 0 v69 fun v70=>
 Bv 1 v69 fun v71=>
 Hj (.cells (List.replicate 6 (.int .i64 0)++List.replicate 32 (.int .u8 0)) 89) h fun v14 h=>
 D5 38 v14 v70 h fun h=>
 Fz h fun base s=>
 An Gv (bin TT .neq 28) v71 (.int .i64 0) fun v73=>
 As (Ay v73 false)
 (Am 5 v14 fun v75=>
 Bd 4 15 base v75 s fun s=>Al v75 h fun v76=>
 An Gv (bin TT .neq 3) v76 v3 fun v78=>
 Hs c r K base s v0 v5 v8 v14 v73 v78 h)
 (Hs c r K base s v0 v5 v8 v14 v73 (.tuple []) h)
def Fy(c r:Ad)(K:Nat)(v0 v3 v5 v8 v13 v59 v64:EV)(h:Aa):R:=
 Bk v59 (.bool true) v64 fun v65=>
 De v65
 (Bu (Pz 1) (List.replicate 32 (.int .u8 0)) [] fun v66=>
 D5 32 v8 v66 h fun h=>
 Cx TT [.c v8 87,.v (.bool false),.v (.int .i64 0)] h)
 (Sn c r K v0 v3 v5 v8 v13 h)
def Fw(c r:Ad)(K:Nat)(v0 v3 v5 v8 v13 v54 v57:EV)(h:Aa):R:=
 Bk v54 (.bool true) v57 fun v58=>
 As (Ay v58 false)
 (Am 4 v13 fun v60=>
 Al v60 h fun v61=>
 Am 4 v5 fun v62=>
 Al v62 h fun v63=>
 An Gv (bin TT .neq 3) v61 v63 fun v64=>
 Fy c r K v0 v3 v5 v8 v13 v58 v64 h)
 (Fy c r K v0 v3 v5 v8 v13 v58 (.tuple []) h)
def Sx(c r:Ad)(K:Nat)(v0 v2 v3 v5 v8 v11:EV)(h:Aa):R:=
 Fz h fun base s=>
 A7 v0 fun v42=>
 Am 7 v42 fun v43=>
 Bd 3 7 base v43 s fun s=>Ca 256 v43 h fun v44=>
 Bd 4 0 base v11 s fun s=>Ca 64 v11 h fun v45=>
 Am 3 v5 fun v47=>
 Bd 7 64 base v47 s fun s=>Al v47 h fun v48=>
 Ci 8 255 s h (fun h=>(Ai8 K v44 v45 v2 v48 h)) fun v49 h s=>
 Bv 0 v49 fun v50=>
 Bv 1 v49 fun v51=>
 Af0 12 h s fun s=>Hj (.cells (List.replicate 5 (.int .i64 0)++List.replicate 44 (.int .u8 0)) 120) h fun v13 h=>
 Ad4 13 6143 v13 s fun s=>D5 49 v13 v50 h fun h=>
 An Gv (bin TT .neq 28) v51 (.int .i64 0) fun v53=>
 As (Ay v53 false)
 (Am 0 v13 fun v55=>
 Al v55 h fun v56=>
 An Fj (bin TT .eql 3) v56 (.int .i64 2) fun v57=>
 Fw c r K v0 v3 v5 v8 v13 v53 v57 h)
 (Fw c r K v0 v3 v5 v8 v13 v53 (.tuple []) h)
def Wx(c r:Ad)(K:Nat)(v0 v1 v2 v3:EV)(h:Aa):R:=
 Ea 83 v1 h fun v5 h=>
 Hj (.cells (List.replicate 32 (.int .u8 0)) 87) h fun v8 h=>
 Fz h fun base s=>
 A7 v0 fun v17=>
 Am 0 v17 fun v18=>
 Bd 3 7 base v18 s fun s=>Al v18 h fun v19=>
 Am 3 v5 fun v21=>
 Bd 6 32 base v21 s fun s=>Al v21 h fun v22=>
 Ci 7 127 s h (fun h=>(c 133 [v19,v2,v22] h)) fun v23 h s=>
 Bv 0 v23 fun v24=>
 Bv 1 v23 fun v25=>
 Af0 11 h s fun s=>Hj (.cells (List.replicate 64 (.int .u8 0)) 103) h fun v11 h=>
 Ad4 12 3071 v11 s fun s=>D5 64 v11 v24 h fun h=>
 An Fj (bin TT .eql 28) v25 (.int .i64 0) fun v29=>
 De v29
 (Sx c r K v0 v2 v3 v5 v8 v11 h)
 (An Fj (bin TT .eql 28) v25 (.int .i64 34) fun v31=>
 De v31
 (Bu (Pz 1) (List.replicate 32 (.int .u8 0)) [] fun v32=>
 D5 32 v8 v32 h fun h=>
 Cx TT [.c v8 87,.v (.bool false),.v v25] h)
 (An Fj (bin TT .eql 28) v25 (.int .i64 32) fun v35=>
 De v35
 (Bu (Pz 1) (List.replicate 32 (.int .u8 0)) [] fun v36=>
 Aj (c 134 [v0,v2] h) fun v39 h=>
 D5 32 v8 v36 h fun h=>
 Cx TT [.c v8 87,.v (.bool false),.v v39] h)
 (Bu (Pz 1) (List.replicate 32 (.int .u8 0)) [] fun v27=>
 D5 32 v8 v27 h fun h=>
 Cx TT [.c v8 87,.v (.bool false),.v (.int .i64 0)] h)))
theorem Aa6(H:Aw disp)(hd:6<=d)(v0 v1 v2 v3:EV)(h:Aa):Ae TT disp K (d+1) false 84 [v0,v1,v2,v3] h=Wx (Ae TT disp K d false) (Ae TT disp K d true) K v0 v1 v2 v3 h:=
 Um (H.bare (by kernel_rfl)) (by kernel_rfl) (W2 (Oc H (lq hd rfl)) (W1 (An3 H (lq hd rfl)) (W4 (Atx H (lq hd rfl)) rfl))) rfl (by kernel_rfl)
end
end Go.Ev
