import Derived.Test.YtpkcfamminlmaaaGreatDc
set_option linter.unusedVariables false
set_option linter.unusedSimpArgs false
set_option linter.unusedSectionVars false
namespace Go.Ev
open Go.Proofs
set_option maxRecDepth 100000
set_option maxHeartbeats 4000000
noncomputable section
variable {disp:Nat->Option FT}{K d:Nat}
def M9(K:Nat)(v0:EV)(h:Aa):R:=
 Fw (.cells [(.int .i64 0),(.int .i64 0),(.int .i64 0),(.int .i64 0),(.int .i64 0),(.int .i64 0)] 23) h fun v2 h=>
 Bj v0 fun v4=>
 Ap 0 v4 fun v5=>
 B4 6 v5 h fun v6=>
 Dw 6 v2 v6 h fun h=>
 Ct TT [.c v2 23] h
theorem Zj(H:Aq disp)(hd:1<=d)(v0:EV)(h:Aa):Ad TT disp K d false 65 [v0] h=M9 K v0 h:=
 Cm (H.bare (by kernel_rfl)) hd (by kernel_rfl) (fun d hd=>rfl) (fun d c r=>rfl) (fun d c r=>by kernel_rfl)
def Anv(K:Nat)(v0 v1 v4:EV)(h:Aa):R:=
 Bj v0 fun v19=>
 Ap 6 v19 fun v20=>
 Av v20 h fun v21=>
 Gn 6 v21 v1 fun v23=>
 B4 6 v23 h fun v24=>
 Dw 6 v4 v24 h fun h=>
 Ct TT [.c v4 83,.v (.int .i64 0)] h
def Adn(K:Nat)(v0 v1 v4 v8 v15:EV)(h:Aa):R:=
 Br v8 (.bool true) v15 fun v16=>
 Dx v16
 (B7 (Dj [(0,1),(1,1),(2,1),(3,1),(4,1),(5,1)]) [(.int .i64 0),(.int .i64 0),(.int .i64 0),(.int .i64 0),(.int .i64 0),(.int .i64 0)] [] fun v17=>
 Dw 6 v4 v17 h fun h=>
 Ct TT [.c v4 83,.v (.int .i64 13)] h)
 (Anv K v0 v1 v4 h)
def Akf(K:Nat)(v0 v1:EV)(h:Aa):R:=
 Fw (.cells [(.int .i64 0),(.int .i64 0),(.int .i64 0),(.int .i64 0),(.int .i64 0),(.int .i64 0)] 83) h fun v4 h=>
 Ar Gc (bin TT .lss 3) v1 (.int .i64 0) fun v7=>
 Ay (Ah v7 false)
 (Bj v0 fun v11=>
 Ap 6 v11 fun v12=>
 Av v12 h fun v13=>
 E9 v13 fun v14=>
 Ar Y0 (bin TT .geq 3) v1 v14 fun v15=>
 Adn K v0 v1 v4 v7 v15 h)
 (Adn K v0 v1 v4 v7 (.tuple []) h)
theorem Al7(H:Aq disp)(hd:1<=d)(v0 v1:EV)(h:Aa):Ad TT disp K d false 184 [v0,v1] h=Akf K v0 v1 h:=
 Cm (H.bare (by kernel_rfl)) hd (by kernel_rfl) (fun d hd=>rfl) (fun d c r=>rfl) (fun d c r=>by kernel_rfl)
def K2(K:Nat)(v0:EV)(h:Aa):R:=
 Bj v0 fun v13=>
 Ap 0 v13 fun v14=>
 Dw 1 v14 .Af h fun h=>
 Bj v0 fun v15=>
 Ap 2 v15 fun v16=>
 Dw 1 v16 (.int .i64 0) h fun h=>
 Bj v0 fun v17=>
 Ap 3 v17 fun v18=>
 Dw 1 v18 (.int .i64 0) h fun h=>
 Bj v0 fun v19=>
 Ap 4 v19 fun v20=>
 Dw 1 v20 (.bool false) h fun h=>
 some ((.int .i64 0),h)
def Gv(K:Nat)(v0:EV)(h:Aa):R:=
 Al (Dd K v0 h) fun v5 h=>
 Ar E5 (bin TT .neq 28) v5 (.int .i64 0) fun v7=>
 Dx v7
 (some (v5,h))
 (K2 K v0 h)
theorem Q3(H:Aq disp)(hd:2<=d)(v0:EV)(h:Aa):Ad TT disp K d false 236 [v0] h=Gv K v0 h:=
 Cm (H.bare (by kernel_rfl)) hd (by kernel_rfl) (fun d hd=>(W1 (Hg H (lq hd rfl)) rfl)) (fun d c r=>rfl) (fun d c r=>by kernel_rfl)
def U2(K:Nat)(v0 v1:EV)(h:Aa):R:=
 Bj v0 fun v13=>
 Ap 0 v13 fun v14=>
 Av v14 h fun v15=>
 Gn 1 v15 v1 fun v17=>
 Av v17 h fun v18=>
 Al (Gv K v18 h) fun v19 h=>
 some (v19,h)
def Nt(K:Nat)(v0 v1:EV)(h:Aa):R:=
 Al (Hl K v0 v1 h) fun v8 h=>
 Ar E5 (bin TT .neq 28) v8 (.int .i64 0) fun v10=>
 Dx v10
 (some (v8,h))
 (U2 K v0 v1 h)
theorem Aed(H:Aq disp)(hd:3<=d)(v0 v1:EV)(h:Aa):Ad TT disp K d false 221 [v0,v1] h=Nt K v0 v1 h:=
 Cm (H.bare (by kernel_rfl)) hd (by kernel_rfl) (fun d hd=>(W2 (Jx H (lq hd rfl)) (W1 (Q3 H (lq hd rfl)) rfl))) (fun d c r=>rfl) (fun d c r=>by kernel_rfl)
def Aw1(K:Nat)(v1:EV)(h:Aa):R:=
 E4 h fun base s=>
 Bc 0 0 base v1 s fun s=>B4 6 v1 h fun v7=>
 Ap 3 v1 fun v8=>
 Bc 2 2 base v8 s fun s=>Av v8 h fun v9=>
 Yz 3 h s fun s=>Al (Ts [(.int .i64 0),(.int .i64 0),(.int .i64 0),(.int .i64 0),(.int .i64 0),(.int .i64 0)] 83 v9 v9 h) fun v10 h=>
 Bc 4 0 base v1 s fun s=>B4 6 v1 h fun v11=>
 Cs 5 16 s h (fun h=>(Hj K v11 h)) fun v12 h s=>
 Yz 6 h s fun s=>Al (Ts [(.int .i64 0)] 3 v12 v12 h) fun v13 h=>
 B7 (Dj [(0,6),(6,1),(7,1)]) [(.int .i64 0),(.int .i64 0),(.int .i64 0),(.int .i64 0),(.int .i64 0),(.int .i64 0),.Af,.Af] [(0,v7),(1,v10),(2,v13)] fun v14=>
 Yz 8 h s fun s=>D8 155 v14 h fun v15 h=>
 some (.tuple [v15,(.int .i64 0)],h)
def Aj6(K:Nat)(v0:EV)(h:Aa):R:=
 D8 23 v0 h fun v1 h=>
 B4 6 v1 h fun v4=>
 Al (I4 K v4 h) fun v5 h=>
 Pw v5 fun v6=>
 Dx v6
 (some (.tuple [.Bi,(.int .i64 20)],h))
 (Aw1 K v1 h)
theorem Atx(H:Aq disp)(hd:4<=d)(v0:EV)(h:Aa):Ad TT disp K d false 16 [v0] h=Aj6 K v0 h:=
 Cm (H.bare (by kernel_rfl)) hd (by kernel_rfl) (fun d hd=>(W1 (Pq H (lq hd rfl)) (W1 (Kn H (lq hd rfl)) rfl))) (fun d c r=>rfl) (fun d c r=>by kernel_rfl)
def Le(c r:Ae)(K:Nat)(v5:EV)(h:Aa):R:=
 some (v5,h)
def Aa1(c r:Ae)(K:Nat)(v0 v1:EV)(h:Aa):R:=
 Al (c 179 [v0,v1] h) fun v8 h=>
 Bj v0 fun v10=>
 Ap 0 v10 fun v11=>
 Av v11 h fun v12=>
 Al (Nt K v12 v1 h) fun v14 h=>
 Ar G1 (bin TT .eql 28) v14 (.int .i64 0) fun v16=>
 Dx v16
 (Al (Q6 K v0 v1 (.int .i64 0) h) fun v19 h=>
 Le c r K v14 h)
 (Le c r K v14 h)
theorem Aen(H:Aq disp)(hd:3<=d)(v0 v1:EV)(h:Aa):Ad TT disp K (d+1) false 202 [v0,v1] h=Aa1 (Ad TT disp K d false) (Ad TT disp K d true) K v0 v1 h:=
 Q5 (H.bare (by kernel_rfl)) (by kernel_rfl) (W2 (Aed H (lq hd rfl)) (W3 (Aeh H (lq hd rfl)) rfl)) rfl (by kernel_rfl)
end
end Go.Ev

namespace Go.Ev
open Go.Proofs
set_option maxRecDepth 100000
set_option maxHeartbeats 4000000
noncomputable section
variable {disp:Nat->Option FT}{K d:Nat}
def Ade(K:Nat)(v0 v1 v2:EV)(h:Aa):R:=
 D8 112 v0 h fun v3 h=>
 D8 3 v1 h fun v4 h=>
 D8 3 v2 h fun v5 h=>
 some ((.func 95 [] [v3,v4,v5]),h)
theorem Alp(H:Aq disp)(hd:1<=d)(v0 v1 v2:EV)(h:Aa):Ad TT disp K d false 47 [v0,v1,v2] h=Ade K v0 v1 v2 h:=
 Cm (H.bare (by kernel_rfl)) hd (by kernel_rfl) (fun d hd=>rfl) (fun d c r=>rfl) (fun d c r=>by kernel_rfl)
def No(c r:Ae)(K:Nat)(ih0_:EV->EV->EV->EV->EV->EV->Aa->R)(v0 v2 v3 v8 v9 v10:EV)(h:Aa):R:=
 Ar Fx (bin TT .add 3) v10 (.int .i64 1) fun v32=>
 ih0_ v0 v2 v3 v8 v9 v32 h
def Kh(c r:Ae)(K:Nat)(ih0_:EV->EV->EV->EV->EV->EV->Aa->R)(v0 v2 v3 v8 v9 v10 v26 v30:EV)(h:Aa):R:=
 Br v26 v30 (.bool false) fun v31=>
 Dx v31
 (some (.tuple [],h))
 (No c r K ih0_ v0 v2 v3 v8 v9 v10 h)
def Kl(c r:Ae)(K:Nat)(ih0_:EV->EV->EV->EV->EV->EV->Aa->R)(v0 v2 v3 v6 v8 v9 v10 v19 v24:EV)(h:Aa):R:=
 Br v19 v24 (.bool false) fun v25=>
 Ay (Ah v25 true)
 (B4 51 v6 h fun v28=>
 Al (U3 c r v0 [v28] h) fun v29 h=>
 Pw v29 fun v30=>
 Kh c r K ih0_ v0 v2 v3 v8 v9 v10 v25 v30 h)
 (Kh c r K ih0_ v0 v2 v3 v8 v9 v10 v25 (.tuple []) h)
def Zy(c r:Ae)(K:Nat)(ih0_:EV->EV->EV->EV->EV->EV->Aa->R)(v0 v2 v3 v8 v9 v10:EV)(h:Aa):R:=
 Gn 51 v8 v10 fun v12=>
 B4 51 v12 h fun v13=>
 Fw (.cells (List.replicate 7 (.int .i64 0)++List.replicate 44 (.int .u8 0)) 122) h fun v6 h=>
 Dw 51 v6 v13 h fun h=>
 Ap 2 v6 fun v14=>
 Ap 3 v14 fun v15=>
 Av v15 h fun v16=>
 Av v2 h fun v17=>
 Ar G1 (bin TT .eql 3) v16 v17 fun v18=>
 Ay (Ah v18 true)
 (Ap 2 v6 fun v20=>
 Ap 4 v20 fun v21=>
 Av v21 h fun v22=>
 Av v3 h fun v23=>
 Ar G1 (bin TT .eql 3) v22 v23 fun v24=>
 Kl c r K ih0_ v0 v2 v3 v6 v8 v9 v10 v18 v24 h)
 (Kl c r K ih0_ v0 v2 v3 v6 v8 v9 v10 v18 (.tuple []) h)
def D9(c r:Ae)(K:Nat):Nat->EV->EV->EV->EV->EV->EV->Aa->R
 | 0=>fun _ _ _ _ _ _ _=>none
 | m+1=>fun v0 v2 v3 v8 v9 v10 h=>
  Ar Gc (bin TT .lss 3) v10 v9 fun v11=>
  Dx v11
  (Zy c r K (D9 c r K m) v0 v2 v3 v8 v9 v10 h)
  (some (.tuple [],h))
def Af5(c r:Ae)(K:Nat)(v0 v1 v2 v3:EV)(h:Aa):R:=
 Ap 0 v1 fun v7=>
 Av v7 h fun v8=>
 E9 v8 fun v9=>
 D9 c r K K v0 v2 v3 v8 v9 (.int .i64 0) h
abbrev Amh(K:Nat)(c:Ae):Ae:=c
theorem Agx(c r:Ae)(K:Nat)(m:Nat):Io (fun ih=>Hy TT (Amh K c) c r K (nOf TT 95) (F7 TT 95) (Q2 TT 95 [true,false]) [(0,F7 TT 95)] ih) m=fun ρ h=>D9 c r K m (ρ 0) (ρ 2) (ρ 3) (ρ 8) (ρ 9) (ρ 10) h:=
 C6 (E:=fun m ρ h=>D9 c r K m (ρ 0) (ρ 2) (ρ 3) (ρ 8) (ρ 9) (ρ 10) h) rfl (fun m=>Qz fun ρ h=>by
  show _=D9 c r K (m+1) (ρ 0) (ρ 2) (ρ 3) (ρ 8) (ρ 9) (ρ 10) h
  rw[D9];kernel_rfl) m
theorem Ai1(H:Aq disp)(hd:0<=d)(v0 v1 v2 v3:EV)(h:Aa):Ad TT disp K (d+1) false 95 [v0,v1,v2,v3] h=Af5 (Ad TT disp K d false) (Ad TT disp K d true) K v0 v1 v2 v3 h:=
 Q5 (H.bare (by kernel_rfl)) (by kernel_rfl) rfl (cut [true,false] (Agx (Ad TT disp K d false) (Ad TT disp K d true) K K) (by kernel_rfl) (by kernel_rfl) rfl) (by kernel_rfl)
def Aaa(K:Nat)(v0:EV)(h:Aa):R:=
 some (v0,h)
def Ahr(K:Nat)(ih1_:EV->EV->EV->EV->Aa->R)(v0 v7 v8 v9:EV)(h:Aa):R:=
 Ar Fx (bin TT .add 3) v9 (.int .i64 1) fun v19=>
 ih1_ v0 v7 v8 v19 h
def Ahh(K:Nat)(ih1_:EV->EV->EV->EV->Aa->R)(v0 v7 v8 v9:EV)(h:Aa):R:=
 Gn 1 v7 v9 fun v12=>
 Av v12 h fun v13=>
 Pw v13 fun v15=>
 Dx v15
 (Wz 64 v0 none (some v9) none fun v18=>
 some (v18,h))
 (Ahr K ih1_ v0 v7 v8 v9 h)
def Ji(K:Nat):Nat->EV->EV->EV->EV->Aa->R
 | 0=>fun _ _ _ _ _=>none
 | m+1=>fun v0 v7 v8 v9 h=>
  Ar Gc (bin TT .lss 3) v9 v8 fun v10=>
  Dx v10
  (Ahh K (Ji K m) v0 v7 v8 v9 h)
  (Aaa K v0 h)
def Yv(K:Nat)(v0 v1:EV)(h:Aa):R:=
 E9 v1 fun v8=>
 Ji K K v0 v1 v8 (.int .i64 0) h
abbrev Awa(K:Nat)(c:Ae):Ae:=c
theorem An9(c c' r:Ae)(K:Nat)(m:Nat):Io (fun ih=>Hy TT (Awa K c) c' r K (nOf TT 141) (F7 TT 141) (Q2 TT 141 [true,false,true,false]) [(0,fun ρ h=>Aaa K (ρ 0) h)] ih) m=fun ρ h=>Ji K m (ρ 0) (ρ 7) (ρ 8) (ρ 9) h:=
 C6 (E:=fun m ρ h=>Ji K m (ρ 0) (ρ 7) (ρ 8) (ρ 9) h) rfl (fun m=>Qz fun ρ h=>by
  show _=Ji K (m+1) (ρ 0) (ρ 7) (ρ 8) (ρ 9) h
  rw[Ji];kernel_rfl) m
theorem Ao0(H:Aq disp)(hd:1<=d)(v0 v1:EV)(h:Aa):Ad TT disp K d false 141 [v0,v1] h=Yv K v0 v1 h:=
 Cm (H.bare (by kernel_rfl)) hd (by kernel_rfl) (fun d hd=>rfl) (fun d c r=>(cut [true,false,true,false] (An9 (Ad TT disp K d false) c r K K) (by kernel_rfl) (by kernel_rfl) rfl)) (fun d c r=>by kernel_rfl)
def Xr(K:Nat)(v0 v1 v2:EV)(h:Aa):R:=
 D8 83 v1 h fun v4 h=>
 Ap 0 v4 fun v6=>
 Av v6 h fun v7=>
 Ar G1 (bin TT .eql 3) v7 (.int .i64 1) fun v8=>
 Dx v8
 (E4 h fun base s=>
 Bj v0 fun v10=>
 Ap 7 v10 fun v11=>
 Bc 3 7 base v11 s fun s=>Av v11 h fun v12=>
 Ap 1 v4 fun v13=>
 Bc 5 16 base v13 s fun s=>Av v13 h fun v14=>
 Gn 1 v12 v14 fun v15=>
 Bc 7 127 base v15 s fun s=>Av v15 h fun v16=>
 Ar Fx (bin TT .add 3) v16 v2 fun v18=>
 Gn 1 v12 v14 fun v19=>
 Xi 11 2047 v19 s fun s=>Dw 1 v19 v18 h fun h=>
 E4 h fun base s=>
 Bj v0 fun v21=>
 Ap 7 v21 fun v22=>
 Bc 3 7 base v22 s fun s=>Av v22 h fun v23=>
 Ap 2 v4 fun v24=>
 Bc 5 16 base v24 s fun s=>Av v24 h fun v25=>
 Gn 1 v23 v25 fun v26=>
 Bc 7 127 base v26 s fun s=>Av v26 h fun v27=>
 Ar Fx (bin TT .add 3) v27 v2 fun v29=>
 Gn 1 v23 v25 fun v30=>
 Xi 11 2047 v30 s fun s=>Dw 1 v30 v29 h fun h=>
 some (.tuple [],h))
 (some (.tuple [],h))
theorem Aio(H:Aq disp)(hd:1<=d)(v0 v1 v2:EV)(h:Aa):Ad TT disp K d false 185 [v0,v1,v2] h=Xr K v0 v1 v2 h:=
 Cm (H.bare (by kernel_rfl)) hd (by kernel_rfl) (fun d hd=>rfl) (fun d c r=>rfl) (fun d c r=>by kernel_rfl)
def Afx(c r:Ae)(K:Nat)(v2 v4:EV)(h:Aa):R:=
 B4 3 v4 h fun v32=>
 Dw 3 v2 v32 h fun h=>
 Ct TT [.c v2 112,.v (.int .i64 0)] h
def Am5(c r:Ae)(K:Nat)(ih1_:EV->EV->EV->EV->EV->Aa->R)(v0 v2 v4 v11 v12:EV)(h:Aa):R:=
 Ar Fx (bin TT .add 3) v12 (.int .i64 1) fun v31=>
 ih1_ v0 v2 v4 v11 v31 h
def Am8(c r:Ae)(K:Nat)(ih1_:EV->EV->EV->EV->EV->Aa->R)(v0 v2 v4 v5 v6 v7 v11 v12:EV)(h:Aa):R:=
 Al (c 94 [v4,v0,v5,v6,v7] h) fun v30 h=>
 Am5 c r K ih1_ v0 v2 v4 v11 v12 h
def Aml(c r:Ae)(K:Nat)(ih1_:EV->EV->EV->EV->EV->Aa->R)(v0 v2 v4 v11 v12:EV)(h:Aa):R:=
 Al (c 93 [v0,v12] h) fun v18 h=>
 B3 0 v18 fun v19=>
 B3 1 v18 fun v20=>
 B3 2 v18 fun v21=>
 Ar E5 (bin TT .neq 28) v21 (.int .i64 0) fun v23=>
 Dx v23
 (B7 (Dj [(0,1),(1,1),(2,1)]) [.Af,.Af,(.int .i64 0)] [] fun v24=>
 Dw 3 v2 v24 h fun h=>
 Ct TT [.c v2 112,.v v21] h)
 (Am8 c r K ih1_ v0 v2 v4 v12 v19 v20 v11 v12 h)
def Lv(c r:Ae)(K:Nat):Nat->EV->EV->EV->EV->EV->Aa->R
 | 0=>fun _ _ _ _ _ _=>none
 | m+1=>fun v0 v2 v4 v11 v12 h=>
  Ar Gc (bin TT .lss 3) v12 v11 fun v13=>
  Dx v13
  (Aml c r K (Lv c r K m) v0 v2 v4 v11 v12 h)
  (Afx c r K v2 v4 h)
def Axf(c r:Ae)(K:Nat)(v0:EV)(h:Aa):R:=
 Fw (.cells [.Af,.Af,(.int .i64 0)] 112) h fun v2 h=>
 Fw (.cells [.Af,.Af,(.int .i64 0)] 112) h fun v4 h=>
 Al (Ic K v0 h) fun v10 h=>
 Al (Hj K v10 h) fun v11 h=>
 Lv c r K K v0 v2 v4 v11 (.int .i64 0) h
abbrev A0l(K:Nat)(c:Ae):Ae:=(w1 30 (Ic K) (w1 63 (Hj K) c))
theorem Arl(c r:Ae)(K:Nat)(m:Nat):Io (fun ih=>Hy TT (A0l K c) c r K (nOf TT 46) (F7 TT 46) (Q2 TT 46 [true,true,false,true,false]) [(0,fun ρ h=>Afx c r K (ρ 2) (ρ 4) h)] ih) m=fun ρ h=>Lv c r K m (ρ 0) (ρ 2) (ρ 4) (ρ 11) (ρ 12) h:=
 C6 (E:=fun m ρ h=>Lv c r K m (ρ 0) (ρ 2) (ρ 4) (ρ 11) (ρ 12) h) rfl (fun m=>Qz fun ρ h=>by
  show _=Lv c r K (m+1) (ρ 0) (ρ 2) (ρ 4) (ρ 11) (ρ 12) h
  rw[Lv];kernel_rfl) m
theorem At7(H:Aq disp)(hd:1<=d)(v0:EV)(h:Aa):Ad TT disp K (d+1) false 46 [v0] h=Axf (Ad TT disp K d false) (Ad TT disp K d true) K v0 h:=
 Q5 (H.bare (by kernel_rfl)) (by kernel_rfl) (W1 (Acn H (lq hd rfl)) (W1 (Kn H (lq hd rfl)) rfl)) (cut [true,true,false,true,false] (Arl (Ad TT disp K d false) (Ad TT disp K d true) K K) (by kernel_rfl) (by kernel_rfl) rfl) (by kernel_rfl)
def Acg(c r:Ae)(K:Nat)(v4 v5:EV)(h:Aa):R:=
 Ct TT [.v v4,.v v5,.v (.int .i64 0)] h
def Akw(c r:Ae)(K:Nat)(ih1_:EV->EV->EV->EV->EV->EV->Aa->R)(v0 v1 v4 v5 v14 v15:EV)(h:Aa):R:=
 Ar Fx (bin TT .add 3) v15 (.int .i64 1) fun v47=>
 ih1_ v0 v1 v4 v5 v14 v47 h
def Ajt(c r:Ae)(K:Nat)(ih1_:EV->EV->EV->EV->EV->EV->Aa->R)(v0 v1 v4 v5 v8 v9 v14 v15:EV)(h:Aa):R:=
 B4 64 v8 h fun v39=>
 Al (B5 (List.replicate 64 (.int .u8 0)) 103 64 1 [(0,v39)] h) fun v40 h=>
 Al (Dy 103 64 v4 v40 h) fun v41 h=>
 Ar G1 (bin TT .eql 28) v9 (.int .i64 0) fun v44=>
 Al (B5 [(.bool false)] 4 1 1 [(0,v44)] h) fun v45 h=>
 Al (Dy 4 1 v5 v45 h) fun v46 h=>
 Akw c r K ih1_ v0 v1 v41 v46 v14 v15 h
def Avs(c r:Ae)(K:Nat)(ih1_:EV->EV->EV->EV->EV->EV->Aa->R)(v4 v5:EV)(h:Aa):R:=
 Ct TT [.v v4,.v v5,.v (.int .i64 0)] h
def Ajz(c r:Ae)(K:Nat)(ih1_:EV->EV->EV->EV->EV->EV->Aa->R)(v0 v1 v4 v5 v14 v15:EV)(h:Aa):R:=
 Al (Cr K v0 h) fun v20 h=>
 Al (c 133 [v20,v1,v15] h) fun v23 h=>
 B3 0 v23 fun v24=>
 B3 1 v23 fun v25=>
 Fw (.cells (List.replicate 64 (.int .u8 0)) 103) h fun v8 h=>
 Dw 64 v8 v24 h fun h=>
 Ar G1 (bin TT .eql 28) v25 (.int .i64 34) fun v28=>
 Dx v28
 (Ct TT [.v .Af,.v .Af,.v v25] h)
 (Ar G1 (bin TT .eql 28) v25 (.int .i64 32) fun v31=>
 Dx v31
 (Al (c 20 [v0,v1] h) fun v34 h=>
 Ar G1 (bin TT .eql 28) v34 (.int .i64 34) fun v35=>
 Dx v35
 (Ct TT [.v .Af,.v .Af,.v (.int .i64 34)] h)
 (Avs c r K ih1_ v4 v5 h))
 (Ajt c r K ih1_ v0 v1 v4 v5 v8 v25 v14 v15 h))
def J7(c r:Ae)(K:Nat):Nat->EV->EV->EV->EV->EV->EV->Aa->R
 | 0=>fun _ _ _ _ _ _ _=>none
 | m+1=>fun v0 v1 v4 v5 v14 v15 h=>
  Ar Gc (bin TT .lss 3) v15 v14 fun v16=>
  Dx v16
  (Ajz c r K (J7 c r K m) v0 v1 v4 v5 v14 v15 h)
  (Acg c r K v4 v5 h)
def As1(c r:Ae)(K:Nat)(v0 v1:EV)(h:Aa):R:=
 Al (Cr K v0 h) fun v11 h=>
 Al (C2 K v11 h) fun v12 h=>
 Al (J3 K v12 v1 h) fun v14 h=>
 J7 c r K K v0 v1 .Af .Af v14 (.int .i64 0) h
abbrev Aym(K:Nat)(c:Ae):Ae:=(w1 31 (Cr K) (w1 36 (C2 K) (w2 89 (J3 K) c)))
theorem Aqi(c r:Ae)(K:Nat)(m:Nat):Io (fun ih=>Hy TT (Aym K c) c r K (nOf TT 93) (F7 TT 93) (Q2 TT 93 [true,false,true,false]) [(0,fun ρ h=>Acg c r K (ρ 4) (ρ 5) h)] ih) m=fun ρ h=>J7 c r K m (ρ 0) (ρ 1) (ρ 4) (ρ 5) (ρ 14) (ρ 15) h:=
 C6 (E:=fun m ρ h=>J7 c r K m (ρ 0) (ρ 1) (ρ 4) (ρ 5) (ρ 14) (ρ 15) h) rfl (fun m=>Qz fun ρ h=>by
  show _=J7 c r K (m+1) (ρ 0) (ρ 1) (ρ 4) (ρ 5) (ρ 14) (ρ 15) h
  rw[J7];kernel_rfl) m
theorem Asb(H:Aq disp)(hd:2<=d)(v0 v1:EV)(h:Aa):Ad TT disp K (d+1) false 93 [v0,v1] h=As1 (Ad TT disp K d false) (Ad TT disp K d true) K v0 v1 h:=
 Q5 (H.bare (by kernel_rfl)) (by kernel_rfl) (W1 (Abj H (lq hd rfl)) (W1 (Sy H (lq hd rfl)) (W2 (Ag6 H (lq hd rfl)) rfl))) (cut [true,false,true,false] (Aqi (Ad TT disp K d false) (Ad TT disp K d true) K K) (by kernel_rfl) (by kernel_rfl) rfl) (by kernel_rfl)
def Alq(K:Nat)(v0:EV)(h:Aa):R:=
 Fw (.cells [(.int .i64 0),(.int .i64 0),(.int .i64 0),(.int .i64 0),(.int .i64 0),(.int .i64 0)] 83) h fun v2 h=>
 Al (Bo K v0 (.int .i64 1) h) fun v5 h=>
 B7 (Dj [(0,1),(1,1),(2,1),(3,1),(4,1),(5,1)]) [(.int .i64 0),(.int .i64 0),(.int .i64 0),(.int .i64 0),(.int .i64 0),(.int .i64 0)] [(0,v5)] fun v6=>
 Fw (.cells [(.int .i64 0),(.int .i64 0),(.int .i64 0),(.int .i64 0),(.int .i64 0),(.int .i64 0)] 83) h fun v3 h=>
 Dw 6 v3 v6 h fun h=>
 Al (Bo K v0 (.int .i64 2) h) fun v8 h=>
 Al (Bo K v0 (.int .i64 2) h) fun v10 h=>
 Al (Bo K v0 (.int .i64 1) h) fun v12 h=>
 Ap 1 v3 fun v13=>
 Dw 1 v13 v8 h fun h=>
 Ap 2 v3 fun v14=>
 Dw 1 v14 v10 h fun h=>
 Ap 3 v3 fun v15=>
 Dw 1 v15 v12 h fun h=>
 Al (Bo K v0 (.int .i64 6) h) fun v17 h=>
 Al (Bo K v0 (.int .i64 4) h) fun v19 h=>
 Ap 4 v3 fun v20=>
 Dw 1 v20 v17 h fun h=>
 Ap 5 v3 fun v21=>
 Dw 1 v21 v19 h fun h=>
 B4 6 v3 h fun v22=>
 Dw 6 v2 v22 h fun h=>
 Ct TT [.c v2 83] h
theorem Ar2(H:Aq disp)(hd:3<=d)(v0:EV)(h:Aa):Ad TT disp K d false 198 [v0] h=Alq K v0 h:=
 Cm (H.bare (by kernel_rfl)) hd (by kernel_rfl) (fun d hd=>(W2 (On H (lq hd rfl)) rfl)) (fun d c r=>rfl) (fun d c r=>by kernel_rfl)
def Ph(K:Nat)(v1 v3 v5 v8:EV)(h:Aa):R:=
 E4 h fun base s=>
 Ap 0 v1 fun v50=>
 Bc 2 2 base v50 s fun s=>Av v50 h fun v51=>
 Ap 1 v1 fun v52=>
 Bc 4 8 base v52 s fun s=>Av v52 h fun v53=>
 Ar Vm (bin TT .mul 3) v51 v53 fun v54=>
 Ap 2 v1 fun v55=>
 Bc 7 64 base v55 s fun s=>Av v55 h fun v56=>
 Ap 5 v1 fun v57=>
 Bc 9 256 base v57 s fun s=>Av v57 h fun v58=>
 Cs 10 1022 s h (fun h=>(Ma K v54 v56 v58 h)) fun v59 h s=>
 B7 (Dj [(0,5),(5,1),(6,1)]) [.Af,(.int .i64 0),(.int .i64 0),(.int .i64 0),(.bool false),.Af,.Af] [(0,v59)] fun v60=>
 Bc 12 0 base v5 s fun s=>B4 6 v5 h fun v61=>
 Cs 13 8190 s h (fun h=>(Mf K v60 v61 h)) fun v62 h s=>
 Xi 15 32767 v3 s fun s=>Dw 20 v3 v62 h fun h=>
 Ct TT [.v v8,.c v3 42,.v (.bool true)] h
def Pf(K:Nat)(v1 v3 v5 v6:EV)(h:Aa):R:=
 E4 h fun base s=>
 Bc 1 0 base v1 s fun s=>B4 6 v1 h fun v41=>
 Cs 2 0 s h (fun h=>(A1m K h)) fun v42 h s=>
 Cs 3 7 s h (fun h=>(Ab0 K v6 v41 v42 h)) fun v43 h s=>
 B3 0 v43 fun v44=>
 B3 1 v43 fun v45=>
 Ar E5 (bin TT .neq 28) v45 (.int .i64 0) fun v47=>
 Dx v47
 (B7 (Dj [(0,7),(7,6),(13,3),(16,1),(17,1),(18,1),(19,1)]) ([.Af]++List.replicate 3 (.int .i64 0)++[(.bool false)]++List.replicate 2 .Af++List.replicate 8 (.int .i64 0)++List.replicate 2 .Af++List.replicate 3 (.int .i64 0)) [] fun v48=>
 Dw 20 v3 v48 h fun h=>
 Ct TT [.v .Bi,.c v3 42,.v (.bool false)] h)
 (Ph K v1 v3 v5 v44 h)
def O8(K:Nat)(v1 v3 v5:EV)(h:Aa):R:=
 Ap 0 v1 fun v24=>
 Av v24 h fun v25=>
 Ap 1 v1 fun v26=>
 Av v26 h fun v27=>
 Ar Vm (bin TT .mul 3) v25 v27 fun v28=>
 Ap 2 v1 fun v29=>
 Av v29 h fun v30=>
 Ap 5 v1 fun v31=>
 Av v31 h fun v32=>
 Al (Ajf K v28 v30 v32 h) fun v33 h=>
 B3 0 v33 fun v34=>
 B3 1 v33 fun v35=>
 Ar E5 (bin TT .neq 28) v35 (.int .i64 0) fun v37=>
 Dx v37
 (B7 (Dj [(0,7),(7,6),(13,3),(16,1),(17,1),(18,1),(19,1)]) ([.Af]++List.replicate 3 (.int .i64 0)++[(.bool false)]++List.replicate 2 .Af++List.replicate 8 (.int .i64 0)++List.replicate 2 .Af++List.replicate 3 (.int .i64 0)) [] fun v38=>
 Dw 20 v3 v38 h fun h=>
 Ct TT [.v .Bi,.c v3 42,.v (.bool false)] h)
 (Pf K v1 v3 v5 v34 h)
def F5(K:Nat)(v1 v3 v5 v14 v20:EV)(h:Aa):R:=
 Br v14 (.bool true) v20 fun v21=>
 Dx v21
 (B7 (Dj [(0,7),(7,6),(13,3),(16,1),(17,1),(18,1),(19,1)]) ([.Af]++List.replicate 3 (.int .i64 0)++[(.bool false)]++List.replicate 2 .Af++List.replicate 8 (.int .i64 0)++List.replicate 2 .Af++List.replicate 3 (.int .i64 0)) [] fun v22=>
 Dw 20 v3 v22 h fun h=>
 Ct TT [.v .Bi,.c v3 42,.v (.bool false)] h)
 (O8 K v1 v3 v5 h)
def Jf(K:Nat)(v0:EV)(h:Aa):R:=
 D8 23 v0 h fun v1 h=>
 Fw (.cells ([.Af]++List.replicate 3 (.int .i64 0)++[(.bool false)]++List.replicate 2 .Af++List.replicate 8 (.int .i64 0)++List.replicate 2 .Af++List.replicate 3 (.int .i64 0)) 42) h fun v3 h=>
 B4 6 v1 h fun v10=>
 Fw (.cells [(.int .i64 0),(.int .i64 0),(.int .i64 0),(.int .i64 0),(.int .i64 0),(.int .i64 0)] 37) h fun v5 h=>
 Dw 6 v5 v10 h fun h=>
 B4 6 v5 h fun v11=>
 Al (Jb K v11 h) fun v12 h=>
 Pw v12 fun v13=>
 Ay (Ah v13 false)
 (Ap 0 v1 fun v15=>
 Av v15 h fun v16=>
 Ap 1 v1 fun v17=>
 Av v17 h fun v18=>
 Ar Vm (bin TT .mul 3) v16 v18 fun v19=>
 Ar Sc (bin TT .gtr 3) v19 (.int .i64 64) fun v20=>
 F5 K v1 v3 v5 v13 v20 h)
 (F5 K v1 v3 v5 v13 (.tuple []) h)
theorem Ys(H:Aq disp)(hd:6<=d)(v0:EV)(h:Aa):Ad TT disp K d false 45 [v0] h=Jf K v0 h:=
 Cm (H.bare (by kernel_rfl)) hd (by kernel_rfl) (fun d hd=>(W1 (X9 H (lq hd rfl)) (W3 (Acq H (lq hd rfl)) (W2 (Ace H (lq hd rfl)) (W0 (Ax4 H (lq hd rfl)) (W3 (Aq0 H (lq hd rfl)) (W3 (Avu H (lq hd rfl)) rfl))))))) (fun d c r=>rfl) (fun d c r=>by kernel_rfl)
def An8(K:Nat)(v0 v1 v5 v7:EV)(h:Aa):R:=
 B4 6 v7 h fun v28=>
 Al (Xr K v0 v28 (.int .i64 (-1)) h) fun v29 h=>
 B4 6 v5 h fun v31=>
 Al (Xr K v0 v31 (.int .i64 1) h) fun v32 h=>
 E4 h fun base s=>
 Bj v0 fun v34=>
 Ap 6 v34 fun v35=>
 Bc 3 7 base v35 s fun s=>Av v35 h fun v36=>
 Bc 5 0 base v5 s fun s=>B4 6 v5 h fun v38=>
 Gn 6 v36 v1 fun v39=>
 Xi 7 127 v39 s fun s=>Dw 6 v39 v38 h fun h=>
 some ((.int .i64 0),h)
def Acw(K:Nat)(v0 v1 v2:EV)(h:Aa):R:=
 D8 83 v2 h fun v5 h=>
 Al (Akf K v0 v1 h) fun v12 h=>
 B3 0 v12 fun v13=>
 B3 1 v12 fun v14=>
 Fw (.cells [(.int .i64 0),(.int .i64 0),(.int .i64 0),(.int .i64 0),(.int .i64 0),(.int .i64 0)] 83) h fun v7 h=>
 Dw 6 v7 v13 h fun h=>
 Ar E5 (bin TT .neq 28) v14 (.int .i64 0) fun v17=>
 Dx v17
 (some (v14,h))
 (E4 h fun base s=>
 Bc 0 0 base v5 s fun s=>B4 6 v5 h fun v20=>
 Bj v0 fun v22=>
 Ap 0 v22 fun v23=>
 Bc 4 14 base v23 s fun s=>B4 6 v23 h fun v24=>
 Cs 5 31 s h (fun h=>(Abg K v20 v24 h)) fun v25 h s=>
 Pw v25 fun v26=>
 Dx v26
 (some ((.int .i64 10),h))
 (An8 K v0 v1 v5 v7 h))
theorem Aly(H:Aq disp)(hd:6<=d)(v0 v1 v2:EV)(h:Aa):Ad TT disp K d false 142 [v0,v1,v2] h=Acw K v0 v1 v2 h:=
 Cm (H.bare (by kernel_rfl)) hd (by kernel_rfl) (fun d hd=>(W2 (Al7 H (lq hd rfl)) (W2 (Afs H (lq hd rfl)) (W3 (Aio H (lq hd rfl)) rfl)))) (fun d c r=>rfl) (fun d c r=>by kernel_rfl)
def Yt(K:Nat)(v0:EV)(h:Aa):R:=
 D8 120 v0 h fun v1 h=>
 Fw (.cells [(.int .i64 0),(.int .i64 0),(.int .i64 0),.Bi] 60) h fun v2 h=>
 Ap 5 v1 fun v9=>
 Pe 44 1 v9 none none none fun v10=>
 Al (Tf K v10 h) fun v11 h=>
 E4 h fun base s=>
 Ap 4 v1 fun v12=>
 Bc 1 1 base v12 s fun s=>Av v12 h fun v13=>
 Ap 3 v1 fun v14=>
 Bc 3 4 base v14 s fun s=>Av v14 h fun v15=>
 Cs 5 16 s h (fun h=>(Bo K v11 (.int .i64 6) h)) fun v17 h s=>
 B7 (Dj [(0,1),(1,1),(2,1),(3,1)]) [(.int .i64 0),(.int .i64 0),(.int .i64 0),.Bi] [(0,v13),(1,v15),(2,v17)] fun v18=>
 Yz 7 h s fun s=>Fw (.cells [(.int .i64 0),(.int .i64 0),(.int .i64 0),.Bi] 60) h fun v5 h=>
 Xi 8 255 v5 s fun s=>Dw 4 v5 v18 h fun h=>
 Al (Bo K v11 (.int .i64 1) h) fun v20 h=>
 Al (Bo K v11 (.int .i64 1) h) fun v22 h=>
 Al (Bo K v11 (.int .i64 1) h) fun v24 h=>
 B7 (Dj [(0,1),(1,1),(2,1),(3,1),(4,1),(5,1)]) [(.int .i64 0),(.int .i64 0),(.int .i64 0),(.int .i64 0),(.int .i64 0),(.int .i64 0)] [(0,v20),(1,v22),(2,v24)] fun v25=>
 Fw (.cells [(.int .i64 0),(.int .i64 0),(.int .i64 0),(.int .i64 0),(.int .i64 0),(.int .i64 0)] 23) h fun v6 h=>
 Dw 6 v6 v25 h fun h=>
 Al (Bo K v11 (.int .i64 2) h) fun v27 h=>
 Al (Bo K v11 (.int .i64 1) h) fun v29 h=>
 Al (Bo K v11 (.int .i64 1) h) fun v31 h=>
 Ap 3 v6 fun v32=>
 Dw 1 v32 v27 h fun h=>
 Ap 4 v6 fun v33=>
 Dw 1 v33 v29 h fun h=>
 Ap 5 v6 fun v34=>
 Dw 1 v34 v31 h fun h=>
 B4 6 v6 h fun v36=>
 Al (Aj6 K v36 h) fun v37 h=>
 B3 0 v37 fun v38=>
 B3 1 v37 fun v39=>
 Ap 3 v5 fun v41=>
 Dw 1 v41 v38 h fun h=>
 B4 4 v5 h fun v42=>
 Dw 4 v2 v42 h fun h=>
 Ct TT [.c v2 60,.v v39] h
theorem Aqk(H:Aq disp)(hd:5<=d)(v0:EV)(h:Aa):Ad TT disp K d false 155 [v0] h=Yt K v0 h:=
 Cm (H.bare (by kernel_rfl)) hd (by kernel_rfl) (fun d hd=>(W1 (Aai H (lq hd rfl)) (W2 (On H (lq hd rfl)) (W1 (Atx H (lq hd rfl)) rfl)))) (fun d c r=>rfl) (fun d c r=>by kernel_rfl)
def Ac6(K:Nat)(h:Aa):R:=
 some ((.int .i64 0),h)
def Avf(K:Nat)(ih1_:EV->EV->EV->EV->Aa->R)(v2 v3 v5 v13:EV)(h:Aa):R:=
 Ar Fx (bin TT .add 3) v13 (.int .i64 1) fun v38=>
 ih1_ v2 v3 v5 v38 h
def Awd(K:Nat)(ih1_:EV->EV->EV->EV->Aa->R)(v2 v3 v5 v7 v8 v13:EV)(h:Aa):R:=
 Ap 3 v2 fun v30=>
 Av v30 h fun v31=>
 B4 6 v7 h fun v33=>
 Al (Acw K v31 v8 v33 h) fun v34 h=>
 Ar E5 (bin TT .neq 28) v34 (.int .i64 0) fun v36=>
 Dx v36
 (some (v34,h))
 (Avf K ih1_ v2 v3 v5 v13 h)
def Avl(K:Nat)(ih1_:EV->EV->EV->EV->Aa->R)(v2 v3 v5 v13:EV)(h:Aa):R:=
 E4 h fun base s=>
 Cs 1 1 s h (fun h=>(Alq K v5 h)) fun v17 h s=>
 Ap 2 v3 fun v18=>
 Bc 3 4 base v18 s fun s=>Av v18 h fun v19=>
 Ar Sq (bin TT .sub 3) v19 (.int .i64 1) fun v20=>
 Ar Vm (bin TT .mul 3) (.int .i64 2) v20 fun v21=>
 Ar Fx (bin TT .add 3) v21 v13 fun v23=>
 Yz 8 h s fun s=>Fw (.cells [(.int .i64 0),(.int .i64 0),(.int .i64 0),(.int .i64 0),(.int .i64 0),(.int .i64 0)] 83) h fun v7 h=>
 Xi 9 259 v7 s fun s=>Dw 6 v7 v17 h fun h=>
 Ap 3 v2 fun v25=>
 Av v25 h fun v26=>
 Al (M9 K v26 h) fun v27 h=>
 Agc 3 false 0 v27 fun v28=>
 Ar Y0 (bin TT .geq 3) v23 v28 fun v29=>
 Dx v29
 (Ac6 K h)
 (Awd K ih1_ v2 v3 v5 v7 v23 v13 h)
def O5(K:Nat):Nat->EV->EV->EV->EV->Aa->R
 | 0=>fun _ _ _ _ _=>none
 | m+1=>fun v2 v3 v5 v13 h=>
  Ar Gc (bin TT .lss 3) v13 (.int .i64 2) fun v14=>
  Dx v14
  (Avl K (O5 K m) v2 v3 v5 v13 h)
  (Ac6 K h)
def Als(K:Nat)(v0 v1:EV)(h:Aa):R:=
 D8 60 v0 h fun v2 h=>
 D8 120 v1 h fun v3 h=>
 Ap 5 v3 fun v10=>
 Pe 44 1 v10 (some (.int .i64 1)) none none fun v11=>
 Al (Tf K v11 h) fun v12 h=>
 O5 K K v2 v3 v12 (.int .i64 0) h
abbrev Awu(K:Nat)(c:Ae):Ae:=(w1 194 (Tf K) (w3 142 (Acw K) (w1 198 (Alq K) (w1 65 (M9 K) c))))
theorem Ap0(c c' r:Ae)(K:Nat)(m:Nat):Io (fun ih=>Hy TT (Awu K c) c' r K (nOf TT 156) (F7 TT 156) (Q2 TT 156 [true,true,false,true,false]) [(0,fun ρ h=>Ac6 K h)] ih) m=fun ρ h=>O5 K m (ρ 2) (ρ 3) (ρ 5) (ρ 13) h:=
 C6 (E:=fun m ρ h=>O5 K m (ρ 2) (ρ 3) (ρ 5) (ρ 13) h) rfl (fun m=>Qz fun ρ h=>by
  show _=O5 K (m+1) (ρ 2) (ρ 3) (ρ 5) (ρ 13) h
  rw[O5];kernel_rfl) m
theorem Ar0(H:Aq disp)(hd:7<=d)(v0 v1:EV)(h:Aa):Ad TT disp K d false 156 [v0,v1] h=Als K v0 v1 h:=
 Cm (H.bare (by kernel_rfl)) hd (by kernel_rfl) (fun d hd=>(W1 (Aai H (lq hd rfl)) (W3 (Aly H (lq hd rfl)) (W1 (Ar2 H (lq hd rfl)) (W1 (Zj H (lq hd rfl)) rfl))))) (fun d c r=>(cut [true,true,false,true,false] (Ap0 (Ad TT disp K d false) c r K K) (by kernel_rfl) (by kernel_rfl) rfl)) (fun d c r=>by kernel_rfl)
def Ajw(c r:Ae)(K:Nat)(v2 v4:EV)(h:Aa):R:=
 B4 4 v4 h fun v88=>
 Dw 4 v2 v88 h fun h=>
 Ct TT [.c v2 60,.v (.int .i64 0)] h
def Au0(c r:Ae)(K:Nat)(ih1_:EV->EV->EV->EV->EV->EV->Aa->R)(v0 v2 v4 v73 v74 v75:EV)(h:Aa):R:=
 Ar Fx (bin TT .add 3) v75 (.int .i64 1) fun v87=>
 ih1_ v0 v2 v4 v73 v74 v87 h
def Aui(c r:Ae)(K:Nat)(ih1_:EV->EV->EV->EV->EV->EV->Aa->R)(v0 v2 v4 v73 v74 v75:EV)(h:Aa):R:=
 Gn 49 v73 v75 fun v78=>
 B4 49 v78 h fun v79=>
 Fw (.cells (List.replicate 5 (.int .i64 0)++List.replicate 44 (.int .u8 0)) 120) h fun v11 h=>
 Dw 49 v11 v79 h fun h=>
 B4 49 v11 h fun v80=>
 Gn 49 v0 v75 fun v83=>
 B4 49 v83 h fun v84=>
 Ar E5 (bin TT .neq 120) v80 v84 fun v85=>
 Dx v85
 (B7 (Dj [(0,1),(1,1),(2,1),(3,1)]) [(.int .i64 0),(.int .i64 0),(.int .i64 0),.Bi] [] fun v86=>
 Dw 4 v2 v86 h fun h=>
 Ct TT [.c v2 60,.v (.int .i64 10)] h)
 (Au0 c r K ih1_ v0 v2 v4 v73 v74 v75 h)
def O2(c r:Ae)(K:Nat):Nat->EV->EV->EV->EV->EV->EV->Aa->R
 | 0=>fun _ _ _ _ _ _ _=>none
 | m+1=>fun v0 v2 v4 v73 v74 v75 h=>
  Ar Gc (bin TT .lss 3) v75 v74 fun v76=>
  Dx v76
  (Aui c r K (O2 c r K m) v0 v2 v4 v73 v74 v75 h)
  (Ajw c r K v2 v4 h)
def Avp(c r:Ae)(K:Nat)(v0 v2 v4 v9:EV)(h:Aa):R:=
 E9 v9 fun v74=>
 O2 c r K K v0 v2 v4 v9 v74 (.int .i64 0) h
def Alc(c r:Ae)(K:Nat)(v0 v2 v4:EV)(h:Aa):R:=
 E4 h fun base s=>
 Bc 0 0 base v4 s fun s=>B4 4 v4 h fun v62=>
 Gn 49 v0 (.int .i64 0) fun v64=>
 Ap 1 v64 fun v65=>
 Bc 4 14 base v65 s fun s=>Av v65 h fun v66=>
 Cs 5 31 s h (fun h=>(c 110 [v62,v66] h)) fun v67 h s=>
 B3 0 v67 fun v68=>
 B3 1 v67 fun v69=>
 Ar E5 (bin TT .neq 28) v69 (.int .i64 0) fun v71=>
 Dx v71
 (B7 (Dj [(0,1),(1,1),(2,1),(3,1)]) [(.int .i64 0),(.int .i64 0),(.int .i64 0),.Bi] [] fun v72=>
 Dw 4 v2 v72 h fun h=>
 Ct TT [.c v2 60,.v (.int .i64 10)] h)
 (Avp c r K v0 v2 v4 v68 h)
def Aun(c r:Ae)(K:Nat)(ih7_:EV->EV->EV->EV->EV->EV->Aa->R)(v0 v2 v4 v41 v42 v43:EV)(h:Aa):R:=
 Ar Fx (bin TT .add 3) v43 (.int .i64 1) fun v60=>
 ih7_ v0 v2 v4 v41 v42 v60 h
def Ai5(c r:Ae)(K:Nat)(ih7_:EV->EV->EV->EV->EV->EV->Aa->R)(v0 v2 v4 v41 v42 v43 v53 v57:EV)(h:Aa):R:=
 Br v53 (.bool true) v57 fun v58=>
 Dx v58
 (B7 (Dj [(0,1),(1,1),(2,1),(3,1)]) [(.int .i64 0),(.int .i64 0),(.int .i64 0),.Bi] [] fun v59=>
 Dw 4 v2 v59 h fun h=>
 Ct TT [.c v2 60,.v (.int .i64 10)] h)
 (Aun c r K ih7_ v0 v2 v4 v41 v42 v43 h)
def Asl(c r:Ae)(K:Nat)(ih7_:EV->EV->EV->EV->EV->EV->Aa->R)(v0 v2 v4 v41 v42 v43:EV)(h:Aa):R:=
 Gn 49 v41 v43 fun v46=>
 B4 49 v46 h fun v47=>
 Fw (.cells (List.replicate 5 (.int .i64 0)++List.replicate 44 (.int .u8 0)) 120) h fun v8 h=>
 Dw 49 v8 v47 h fun h=>
 Ap 2 v8 fun v48=>
 Av v48 h fun v49=>
 Ar Fx (bin TT .add 3) v43 (.int .i64 1) fun v51=>
 Ar E5 (bin TT .neq 3) v49 v51 fun v52=>
 Ay (Ah v52 false)
 (B4 4 v4 h fun v54=>
 B4 49 v8 h fun v55=>
 Al (Als K v54 v55 h) fun v56 h=>
 Ar E5 (bin TT .neq 28) v56 (.int .i64 0) fun v57=>
 Ai5 c r K ih7_ v0 v2 v4 v41 v42 v43 v52 v57 h)
 (Ai5 c r K ih7_ v0 v2 v4 v41 v42 v43 v52 (.tuple []) h)
def Nd(c r:Ae)(K:Nat):Nat->EV->EV->EV->EV->EV->EV->Aa->R
 | 0=>fun _ _ _ _ _ _ _=>none
 | m+1=>fun v0 v2 v4 v41 v42 v43 h=>
  Ar Gc (bin TT .lss 3) v43 v42 fun v44=>
  Dx v44
  (Asl c r K (Nd c r K m) v0 v2 v4 v41 v42 v43 h)
  (Alc c r K v0 v2 v4 h)
def Ase(c r:Ae)(K:Nat)(v0 v2 v4:EV)(h:Aa):R:=
 Ap 3 v4 fun v35=>
 Av v35 h fun v36=>
 Al (M9 K v36 h) fun v37 h=>
 Al (I3 K v37 h) fun v38 h=>
 Wz 49 v0 (some (.int .i64 1)) (some v38) none fun v41=>
 E9 v41 fun v42=>
 Nd c r K K v0 v2 v4 v41 v42 (.int .i64 0) h
def Aak(c r:Ae)(K:Nat)(v0 v2 v4 v25 v32:EV)(h:Aa):R:=
 Br v25 (.bool true) v32 fun v33=>
 Dx v33
 (B7 (Dj [(0,1),(1,1),(2,1),(3,1)]) [(.int .i64 0),(.int .i64 0),(.int .i64 0),.Bi] [] fun v34=>
 Dw 4 v2 v34 h fun h=>
 Ct TT [.c v2 60,.v (.int .i64 10)] h)
 (Ase c r K v0 v2 v4 h)
def Ahe(c r:Ae)(K:Nat)(v0 v2:EV)(h:Aa):R:=
 Gn 49 v0 (.int .i64 0) fun v18=>
 B4 49 v18 h fun v19=>
 Al (Yt K v19 h) fun v20 h=>
 B3 0 v20 fun v21=>
 B3 1 v20 fun v22=>
 Fw (.cells [(.int .i64 0),(.int .i64 0),(.int .i64 0),.Bi] 60) h fun v4 h=>
 Dw 4 v4 v21 h fun h=>
 Ar E5 (bin TT .neq 28) v22 (.int .i64 0) fun v24=>
 Ay (Ah v24 false)
 (Ap 3 v4 fun v26=>
 Av v26 h fun v27=>
 Al (M9 K v27 h) fun v28 h=>
 Al (I3 K v28 h) fun v29 h=>
 E9 v0 fun v31=>
 Ar Sc (bin TT .gtr 3) v29 v31 fun v32=>
 Aak c r K v0 v2 v4 v24 v32 h)
 (Aak c r K v0 v2 v4 v24 (.tuple []) h)
def Asv(c r:Ae)(K:Nat)(v0:EV)(h:Aa):R:=
 Fw (.cells [(.int .i64 0),(.int .i64 0),(.int .i64 0),.Bi] 60) h fun v2 h=>
 E9 v0 fun v13=>
 Ar G1 (bin TT .eql 3) v13 (.int .i64 0) fun v14=>
 Dx v14
 (B7 (Dj [(0,1),(1,1),(2,1),(3,1)]) [(.int .i64 0),(.int .i64 0),(.int .i64 0),.Bi] [] fun v15=>
 Dw 4 v2 v15 h fun h=>
 Ct TT [.c v2 60,.v (.int .i64 10)] h)
 (Ahe c r K v0 v2 h)
abbrev Amk(K:Nat)(c:Ae):Ae:=(w2 156 (Als K) (w1 65 (M9 K) (w1 112 (I3 K) (w1 155 (Yt K) c))))
theorem Apd(c r:Ae)(K:Nat)(m:Nat):Io (fun ih=>Hy TT (Amk K c) c r K (nOf TT 109) (F7 TT 109) (Q2 TT 109 [true,true,true,true,true,true,true,true,false,true,false]) [(2,fun ρ h=>Ajw c r K (ρ 2) (ρ 4) h)] ih) m=fun ρ h=>O2 c r K m (ρ 0) (ρ 2) (ρ 4) (ρ 73) (ρ 74) (ρ 75) h:=
 C6 (E:=fun m ρ h=>O2 c r K m (ρ 0) (ρ 2) (ρ 4) (ρ 73) (ρ 74) (ρ 75) h) rfl (fun m=>Qz fun ρ h=>by
  show _=O2 c r K (m+1) (ρ 0) (ρ 2) (ρ 4) (ρ 73) (ρ 74) (ρ 75) h
  rw[O2];kernel_rfl) m
theorem An7(c r:Ae)(K:Nat)(m:Nat):Io (fun ih=>Hy TT (Amk K c) c r K (nOf TT 109) (F7 TT 109) (Q2 TT 109 [true,true,true,true,true,false,true,false]) [(0,fun ρ h=>Alc c r K (ρ 0) (ρ 2) (ρ 4) h)] ih) m=fun ρ h=>Nd c r K m (ρ 0) (ρ 2) (ρ 4) (ρ 41) (ρ 42) (ρ 43) h:=
 C6 (E:=fun m ρ h=>Nd c r K m (ρ 0) (ρ 2) (ρ 4) (ρ 41) (ρ 42) (ρ 43) h) rfl (fun m=>Qz fun ρ h=>by
  show _=Nd c r K (m+1) (ρ 0) (ρ 2) (ρ 4) (ρ 41) (ρ 42) (ρ 43) h
  rw[Nd];kernel_rfl) m
theorem Ar3(H:Aq disp)(hd:7<=d)(v0:EV)(h:Aa):Ad TT disp K (d+1) false 109 [v0] h=Asv (Ad TT disp K d false) (Ad TT disp K d true) K v0 h:=
 Q5 (H.bare (by kernel_rfl)) (by kernel_rfl) (W2 (Ar0 H (lq hd rfl)) (W1 (Zj H (lq hd rfl)) (W1 (Vx H (lq hd rfl)) (W1 (Aqk H (lq hd rfl)) rfl)))) (cut [true,true,true,true,true,true,true,true,false,true,false] (Apd (Ad TT disp K d false) (Ad TT disp K d true) K K) (by kernel_rfl) (by kernel_rfl) (cut [true,true,true,true,true,false,true,false] (An7 (Ad TT disp K d false) (Ad TT disp K d true) K K) (by kernel_rfl) (by kernel_rfl) rfl)) (by kernel_rfl)
def T2(c r:Ae)(K:Nat)(v6 v8:EV)(h:Aa):R:=
 Al (c 109 [v8] h) fun v36 h=>
 B3 0 v36 fun v37=>
 B3 1 v36 fun v38=>
 Dw 4 v6 v37 h fun h=>
 Ct TT [.c v6 60,.v v38] h
def Ahm(c r:Ae)(K:Nat)(ih1_:EV->EV->EV->EV->EV->EV->EV->Aa->R)(v1 v3 v6 v8 v13 v14 v15:EV)(h:Aa):R:=
 Ar Fx (bin TT .add 3) v15 (.int .i64 1) fun v34=>
 ih1_ v1 v3 v6 v8 v13 v14 v34 h
def Ahp(c r:Ae)(K:Nat)(ih1_:EV->EV->EV->EV->EV->EV->EV->Aa->R)(v1 v3 v6 v8 v11 v13 v14 v15:EV)(h:Aa):R:=
 B4 49 v11 h fun v31=>
 Al (B5 (List.replicate 5 (.int .i64 0)++List.replicate 44 (.int .u8 0)) 120 49 1 [(0,v31)] h) fun v32 h=>
 Al (Dy 120 49 v8 v32 h) fun v33 h=>
 Ahm c r K ih1_ v1 v3 v6 v33 v13 v14 v15 h
def Ahj(c r:Ae)(K:Nat)(ih1_:EV->EV->EV->EV->EV->EV->EV->Aa->R)(v1 v3 v6 v8 v13 v14 v15:EV)(h:Aa):R:=
 Gn 64 v13 v15 fun v18=>
 B4 64 v18 h fun v19=>
 Fw (.cells (List.replicate 64 (.int .u8 0)) 103) h fun v10 h=>
 Dw 64 v10 v19 h fun h=>
 B4 256 v3 h fun v21=>
 B4 64 v10 h fun v22=>
 Al (Yk K v21 v22 v1 v15 h) fun v25 h=>
 B3 0 v25 fun v26=>
 B3 1 v25 fun v27=>
 Fw (.cells (List.replicate 5 (.int .i64 0)++List.replicate 44 (.int .u8 0)) 120) h fun v11 h=>
 Dw 49 v11 v26 h fun h=>
 Ar E5 (bin TT .neq 28) v27 (.int .i64 0) fun v29=>
 Dx v29
 (T2 c r K v6 v8 h)
 (Ahp c r K ih1_ v1 v3 v6 v8 v11 v13 v14 v15 h)
def Jj(c r:Ae)(K:Nat):Nat->EV->EV->EV->EV->EV->EV->EV->Aa->R
 | 0=>fun _ _ _ _ _ _ _ _=>none
 | m+1=>fun v1 v3 v6 v8 v13 v14 v15 h=>
  Ar Gc (bin TT .lss 3) v15 v14 fun v16=>
  Dx v16
  (Ahj c r K (Jj c r K m) v1 v3 v6 v8 v13 v14 v15 h)
  (T2 c r K v6 v8 h)
def Aph(c r:Ae)(K:Nat)(v0 v1 v2:EV)(h:Aa):R:=
 D8 72 v0 h fun v3 h=>
 Fw (.cells [(.int .i64 0),(.int .i64 0),(.int .i64 0),.Bi] 60) h fun v6 h=>
 E9 v2 fun v14=>
 Jj c r K K v1 v3 v6 .Af v2 v14 (.int .i64 0) h
abbrev Avv(K:Nat)(c:Ae):Ae:=(w4 108 (Yk K) c)
theorem Anx(c r:Ae)(K:Nat)(m:Nat):Io (fun ih=>Hy TT (Avv K c) c r K (nOf TT 52) (F7 TT 52) (Q2 TT 52 [true,true,false,true,false]) [(0,fun ρ h=>T2 c r K (ρ 6) (ρ 8) h)] ih) m=fun ρ h=>Jj c r K m (ρ 1) (ρ 3) (ρ 6) (ρ 8) (ρ 13) (ρ 14) (ρ 15) h:=
 C6 (E:=fun m ρ h=>Jj c r K m (ρ 1) (ρ 3) (ρ 6) (ρ 8) (ρ 13) (ρ 14) (ρ 15) h) rfl (fun m=>Qz fun ρ h=>by
  show _=Jj c r K (m+1) (ρ 1) (ρ 3) (ρ 6) (ρ 8) (ρ 13) (ρ 14) (ρ 15) h
  rw[Jj];kernel_rfl) m
theorem Ap1(H:Aq disp)(hd:6<=d)(v0 v1 v2:EV)(h:Aa):Ad TT disp K (d+1) false 52 [v0,v1,v2] h=Aph (Ad TT disp K d false) (Ad TT disp K d true) K v0 v1 v2 h:=
 Q5 (H.bare (by kernel_rfl)) (by kernel_rfl) (W4 (Aki H (lq hd rfl)) rfl) (cut [true,true,false,true,false] (Anx (Ad TT disp K d false) (Ad TT disp K d true) K K) (by kernel_rfl) (by kernel_rfl) rfl) (by kernel_rfl)
def O3(c r:Ae)(K:Nat)(v0 v1 v2 v3 v4:EV)(h:Aa):R:=
 Al (Gd K v1 h) fun v67 h=>
 Al (Yv K v3 v4 h) fun v71 h=>
 Al (c 52 [v67,v2,v71] h) fun v72 h=>
 B3 0 v72 fun v73=>
 B3 1 v72 fun v74=>
 Fw (.cells [(.int .i64 0),(.int .i64 0),(.int .i64 0),.Bi] 60) h fun v14 h=>
 Dw 4 v14 v73 h fun h=>
 Ar G1 (bin TT .eql 28) v74 (.int .i64 0) fun v76=>
 Dx v76
 (E4 h fun base s=>
 Bj v0 fun v79=>
 Ap 1 v79 fun v80=>
 Bc 4 14 base v80 s fun s=>Av v80 h fun v81=>
 Bc 6 0 base v14 s fun s=>B4 4 v14 h fun v83=>
 B7 (Dj [(0,1),(1,4)]) [(.int .i64 0),(.int .i64 0),(.int .i64 0),(.int .i64 0),.Bi] [(0,v2),(1,v83)] fun v84=>
 Yz 8 h s fun s=>Al (B5 [(.int .i64 0),(.int .i64 0),(.int .i64 0),(.int .i64 0),.Bi] 250 5 1 [(0,v84)] h) fun v85 h=>
 Cs 9 510 s h (fun h=>(Dy 250 5 v81 v85 h)) fun v86 h s=>
 Bj v0 fun v87=>
 Ap 1 v87 fun v88=>
 Xi 12 4095 v88 s fun s=>Dw 1 v88 v86 h fun h=>
 some (.tuple [],h))
 (some (.tuple [],h))
def Tx(c r:Ae)(K:Nat)(ih1_:EV->EV->EV->EV->EV->EV->EV->EV->Aa->R)(v0 v1 v2 v3 v4 v16 v17 v18:EV)(h:Aa):R:=
 Ar Fx (bin TT .add 3) v18 (.int .i64 1) fun v64=>
 ih1_ v0 v1 v2 v3 v4 v16 v17 v64 h
def Abl(c r:Ae)(K:Nat)(ih1_:EV->EV->EV->EV->EV->EV->EV->EV->Aa->R)(v0 v1 v2 v3 v4 v10 v12 v16 v17 v18:EV)(h:Aa):R:=
 E4 h fun base s=>
 Bj v0 fun v43=>
 Ap 0 v43 fun v44=>
 Bc 4 14 base v44 s fun s=>Av v44 h fun v45=>
 Bc 7 0 base v12 s fun s=>B4 49 v12 h fun v48=>
 B7 (Dj [(0,1),(1,1),(2,49)]) (List.replicate 7 (.int .i64 0)++List.replicate 44 (.int .u8 0)) [(0,v2),(1,v10),(2,v48)] fun v49=>
 Yz 9 h s fun s=>Al (B5 (List.replicate 7 (.int .i64 0)++List.replicate 44 (.int .u8 0)) 122 51 1 [(0,v49)] h) fun v50 h=>
 Cs 10 1022 s h (fun h=>(Dy 122 51 v45 v50 h)) fun v51 h s=>
 Bj v0 fun v52=>
 Ap 0 v52 fun v53=>
 Xi 13 8191 v53 s fun s=>Dw 1 v53 v51 h fun h=>
 E4 h fun base s=>
 Bj v0 fun v56=>
 Ap 2 v56 fun v57=>
 Bc 4 14 base v57 s fun s=>Av v57 h fun v58=>
 Ap 3 v12 fun v59=>
 Bc 6 32 base v59 s fun s=>Av v59 h fun v60=>
 Bcb h fun h0=>Al (builtin TT .max #[3,3] [v58,v60] h0) fun v61 _=>
 Bj v0 fun v62=>
 Ap 2 v62 fun v63=>
 Xi 10 1023 v63 s fun s=>Dw 1 v63 v61 h fun h=>
 Tx c r K ih1_ v0 v1 v2 v3 v4 v16 v17 v18 h
def Tk(c r:Ae)(K:Nat)(ih1_:EV->EV->EV->EV->EV->EV->EV->EV->Aa->R)(v0 v1 v2 v3 v4 v10 v12 v16 v17 v18 v34 v39:EV)(h:Aa):R:=
 Br v34 (.bool true) v39 fun v40=>
 Dx v40
 (Tx c r K ih1_ v0 v1 v2 v3 v4 v16 v17 v18 h)
 (Abl c r K ih1_ v0 v1 v2 v3 v4 v10 v12 v16 v17 v18 h)
def Abr(c r:Ae)(K:Nat)(ih1_:EV->EV->EV->EV->EV->EV->EV->EV->Aa->R)(v0 v1 v2 v3 v4 v16 v17 v18:EV)(h:Aa):R:=
 Gn 64 v16 v18 fun v21=>
 B4 64 v21 h fun v22=>
 Fw (.cells (List.replicate 64 (.int .u8 0)) 103) h fun v11 h=>
 Dw 64 v11 v22 h fun h=>
 E4 h fun base s=>
 Cs 1 1 s h (fun h=>(Gd K v1 h)) fun v25 h s=>
 Bc 2 0 base v11 s fun s=>B4 64 v11 h fun v26=>
 Cs 5 31 s h (fun h=>(Yk K v25 v26 v2 v18 h)) fun v29 h s=>
 B3 0 v29 fun v30=>
 B3 1 v29 fun v31=>
 Yz 9 h s fun s=>Fw (.cells (List.replicate 5 (.int .i64 0)++List.replicate 44 (.int .u8 0)) 120) h fun v12 h=>
 Xi 10 767 v12 s fun s=>Dw 49 v12 v30 h fun h=>
 Ar E5 (bin TT .neq 28) v31 (.int .i64 0) fun v33=>
 Ay (Ah v33 false)
 (Gn 1 v4 v18 fun v37=>
 Av v37 h fun v38=>
 Pw v38 fun v39=>
 Tk c r K ih1_ v0 v1 v2 v3 v4 v18 v12 v16 v17 v18 v33 v39 h)
 (Tk c r K ih1_ v0 v1 v2 v3 v4 v18 v12 v16 v17 v18 v33 (.tuple []) h)
def Hc(c r:Ae)(K:Nat):Nat->EV->EV->EV->EV->EV->EV->EV->EV->Aa->R
 | 0=>fun _ _ _ _ _ _ _ _ _=>none
 | m+1=>fun v0 v1 v2 v3 v4 v16 v17 v18 h=>
  Ar Gc (bin TT .lss 3) v18 v17 fun v19=>
  Dx v19
  (Abr c r K (Hc c r K m) v0 v1 v2 v3 v4 v16 v17 v18 h)
  (O3 c r K v0 v1 v2 v3 v4 h)
def Ahq(c r:Ae)(K:Nat)(v0 v1 v2 v3 v4:EV)(h:Aa):R:=
 E9 v3 fun v17=>
 Hc c r K K v0 v1 v2 v3 v4 v3 v17 (.int .i64 0) h
abbrev An2(K:Nat)(c:Ae):Ae:=(w1 32 (Gd K) (w2 141 (Yv K) (w4 108 (Yk K) c)))
theorem Ai0(c r:Ae)(K:Nat)(m:Nat):Io (fun ih=>Hy TT (An2 K c) c r K (nOf TT 94) (F7 TT 94) (Q2 TT 94 [false,true,false]) [(0,fun ρ h=>O3 c r K (ρ 0) (ρ 1) (ρ 2) (ρ 3) (ρ 4) h)] ih) m=fun ρ h=>Hc c r K m (ρ 0) (ρ 1) (ρ 2) (ρ 3) (ρ 4) (ρ 16) (ρ 17) (ρ 18) h:=
 C6 (E:=fun m ρ h=>Hc c r K m (ρ 0) (ρ 1) (ρ 2) (ρ 3) (ρ 4) (ρ 16) (ρ 17) (ρ 18) h) rfl (fun m=>Qz fun ρ h=>by
  show _=Hc c r K (m+1) (ρ 0) (ρ 1) (ρ 2) (ρ 3) (ρ 4) (ρ 16) (ρ 17) (ρ 18) h
  rw[Hc];kernel_rfl) m
theorem Aku(H:Aq disp)(hd:6<=d)(v0 v1 v2 v3 v4:EV)(h:Aa):Ad TT disp K (d+1) false 94 [v0,v1,v2,v3,v4] h=Ahq (Ad TT disp K d false) (Ad TT disp K d true) K v0 v1 v2 v3 v4 h:=
 Q5 (H.bare (by kernel_rfl)) (by kernel_rfl) (W1 (Abq H (lq hd rfl)) (W2 (Ao0 H (lq hd rfl)) (W4 (Aki H (lq hd rfl)) rfl))) (cut [false,true,false] (Ai0 (Ad TT disp K d false) (Ad TT disp K d true) K K) (by kernel_rfl) (by kernel_rfl) rfl) (by kernel_rfl)
end
end Go.Ev

namespace Go.Ev
open Go.Proofs
set_option maxRecDepth 100000
set_option maxHeartbeats 4000000
noncomputable section
variable {disp:Nat->Option FT}{K d:Nat}
theorem Lo:(Ds TT 9 0).1=.tmp 110:=by kernel_rfl
def Co(c r:Ae)(K:Nat)(tm:Ac)(v8:EV)(h:Aa)(ds:List Nat):R:=
 Dw 1 v8 (.bool true) h fun h=>
 Ej ds h fun h=>Ct TT [.c v8 4] h
theorem Ia(H:Aq disp)(hd:6<=d)(tm:Ac)(h:Aa)(ds:List Nat):A9t (Ad TT disp K d false) (Ad TT disp K d true) K tm h ds=Co (Ad TT disp K d false) (Ad TT disp K d true) K tm (tmp tm 8) h ds:=by
 simp only[A9t,Co,Ll,dd,↓reduceIte,Nat.reduceEqDiff,Int.reduceOfNat,Int.reduceNegSucc,Nat.reduceAdd,tt0,tt1,tt2,tt3,tt4]
def Es(c r:Ae)(K:Nat)(ih1_:Ac->EV->EV->EV->EV->EV->EV->Aa->List Nat->R)(tm:Ac)(v3:EV)(v8:EV)(v9:EV)(v14:EV)(v64:EV)(v65:EV)(h:Aa)(ds:List Nat):R:=
 Ar Fx (bin TT .add 3) v65 (.int .i64 1) fun v135=>
 ih1_ ((tm.put 135 (some v135)).put 65 (some v135)) v3 v8 v9 v14 v64 v135 h ds
theorem Lg(H:Aq disp)(hd:6<=d){ih1_:CF}{ih1_':Ac->EV->EV->EV->EV->EV->EV->Aa->List Nat->R}(hih1_:∀ tm h ds,ih1_ tm h ds=ih1_' tm (tmp tm 3) (tmp tm 8) (tmp tm 9) (tmp tm 14) (tmp tm 64) (tmp tm 65) h ds)(tm:Ac)(h:Aa)(ds:List Nat):Bc7 (Ad TT disp K d false) (Ad TT disp K d true) K ih1_ tm h ds=Es (Ad TT disp K d false) (Ad TT disp K d true) K ih1_' tm (tmp tm 3) (tmp tm 8) (tmp tm 9) (tmp tm 14) (tmp tm 64) (tmp tm 65) h ds:=by
 simp only[Bc7,Es,Ll,dd,↓reduceIte,Nat.reduceEqDiff,Int.reduceOfNat,Int.reduceNegSucc,Nat.reduceAdd,hih1_,tt0,tt1,tt2,tt3,tt4]
def Er(c r:Ae)(K:Nat)(ih1_:Ac->EV->EV->EV->EV->EV->EV->Aa->List Nat->R)(tm:Ac)(v3:EV)(v8:EV)(v9:EV)(v14:EV)(v20:EV)(v64:EV)(v65:EV)(h:Aa)(ds:List Nat):R:=
 Av v20 h fun v133=>
 Ar E5 (bin TT .neq 3) v133 (.int .i64 2) fun v134=>
 Dx v134
 (Dw 1 v8 (.bool false) h fun h=>
 Ej ds h fun h=>Ct TT [.c v8 4] h)
 (Es c r K ih1_ ((tm.put 133 (some v133)).put 134 (some v134)) v3 v8 v9 v14 v64 v65 h ds)
theorem Tt(H:Aq disp)(hd:6<=d){ih1_:CF}{ih1_':Ac->EV->EV->EV->EV->EV->EV->Aa->List Nat->R}(hih1_:∀ tm h ds,ih1_ tm h ds=ih1_' tm (tmp tm 3) (tmp tm 8) (tmp tm 9) (tmp tm 14) (tmp tm 64) (tmp tm 65) h ds)(tm:Ac)(h:Aa)(ds:List Nat):Bbl (Ad TT disp K d false) (Ad TT disp K d true) K ih1_ tm h ds=Er (Ad TT disp K d false) (Ad TT disp K d true) K ih1_' tm (tmp tm 3) (tmp tm 8) (tmp tm 9) (tmp tm 14) (tmp tm 20) (tmp tm 64) (tmp tm 65) h ds:=by
 simp only[Bbl,Er,Ll,dd,↓reduceIte,Nat.reduceEqDiff,Int.reduceOfNat,Int.reduceNegSucc,Nat.reduceAdd,hih1_,Lg H hd hih1_,tt0,tt1,tt2,tt3,tt4]
def Ek(c r:Ae)(K:Nat)(ih1_:Ac->EV->EV->EV->EV->EV->EV->Aa->List Nat->R)(tm:Ac)(v3:EV)(v8:EV)(v9:EV)(v14:EV)(v15:EV)(v18:EV)(v64:EV)(v65:EV)(h:Aa)(ds:List Nat):R:=
 Fw (.cells [(.int .i64 0)] 3) h fun v20 h=>
 Dw 1 v20 (.int .i64 0) h fun h=>
 B4 3 v18 h fun v106=>
 Ar Fx (bin TT .add 3) v15 (.int .i64 1) fun v109=>
 Al (Ade K v106 v3 v109 h) fun v110 h=>
 Aab c TT 9 136 0 v110 ((((((tm.put 20 (some v20)).put 106 (some v106)).put 107 (some v3)).put 108 (some v15)).put 109 (some v109)).put 110 (some v110)) h ds (fun h ds=>
 Er c r K ih1_ ((((((tm.put 20 (some v20)).put 106 (some v106)).put 107 (some v3)).put 108 (some v15)).put 109 (some v109)).put 110 (some v110)) v3 v8 v9 v14 v20 v64 v65 h ds) (fun id h ds=>
 Ay (Nat.beq 4 id) (Er c r K ih1_ ((((((tm.put 20 (some v20)).put 106 (some v106)).put 107 (some v3)).put 108 (some v15)).put 109 (some v109)).put 110 (some v110)) v3 v8 v9 v14 v20 v64 v65 h ds) (Ay (Nat.beq 3 id) (Es c r K ih1_ ((((((tm.put 20 (some v20)).put 106 (some v106)).put 107 (some v3)).put 108 (some v15)).put 109 (some v109)).put 110 (some v110)) v3 v8 v9 v14 v64 v65 h ds) (Ay (Nat.beq 2 id) (Co c r K ((((((tm.put 20 (some v20)).put 106 (some v106)).put 107 (some v3)).put 108 (some v15)).put 109 (some v109)).put 110 (some v110)) v8 h ds) (none)))) (fun h ds=>
 Ej ds h fun h=>Ct TT [.c v8 4] h)
theorem Tn(H:Aq disp)(hd:6<=d){ih1_:CF}{ih1_':Ac->EV->EV->EV->EV->EV->EV->Aa->List Nat->R}(hih1_:∀ tm h ds,ih1_ tm h ds=ih1_' tm (tmp tm 3) (tmp tm 8) (tmp tm 9) (tmp tm 14) (tmp tm 64) (tmp tm 65) h ds)(tm:Ac)(h:Aa)(ds:List Nat):Biv (Ad TT disp K d false) (Ad TT disp K d true) K ih1_ tm h ds=Ek (Ad TT disp K d false) (Ad TT disp K d true) K ih1_' tm (tmp tm 3) (tmp tm 8) (tmp tm 9) (tmp tm 14) (tmp tm 15) (tmp tm 18) (tmp tm 64) (tmp tm 65) h ds:=by
 simp only[Biv,Ek,Ll,dd,↓reduceIte,Nat.reduceEqDiff,Int.reduceOfNat,Int.reduceNegSucc,Nat.reduceAdd,hih1_,Tt H hd hih1_,Lg H hd hih1_,Ia H hd,Alp H (lq hd rfl),tt0,tt1,tt2,tt3,tt4,Aq9 Lo,Amb Lo,Ail,Ah8,Agn,Ao6]
def Ep(c r:Ae)(K:Nat)(ih1_:Ac->EV->EV->EV->EV->EV->EV->Aa->List Nat->R)(tm:Ac)(v3:EV)(v8:EV)(v9:EV)(v14:EV)(v15:EV)(v18:EV)(v64:EV)(v65:EV)(v100:EV)(v104:EV)(h:Aa)(ds:List Nat):R:=
 Br v100 (.bool true) v104 fun v105=>
 Dx v105
 (Dw 1 v8 (.bool false) h fun h=>
 Ej ds h fun h=>Ct TT [.c v8 4] h)
 (Ek c r K ih1_ (tm.put 105 (some v105)) v3 v8 v9 v14 v15 v18 v64 v65 h ds)
theorem Tj(H:Aq disp)(hd:6<=d){ih1_:CF}{ih1_':Ac->EV->EV->EV->EV->EV->EV->Aa->List Nat->R}(hih1_:∀ tm h ds,ih1_ tm h ds=ih1_' tm (tmp tm 3) (tmp tm 8) (tmp tm 9) (tmp tm 14) (tmp tm 64) (tmp tm 65) h ds)(tm:Ac)(h:Aa)(ds:List Nat):Baw (Ad TT disp K d false) (Ad TT disp K d true) K ih1_ tm h ds=Ep (Ad TT disp K d false) (Ad TT disp K d true) K ih1_' tm (tmp tm 3) (tmp tm 8) (tmp tm 9) (tmp tm 14) (tmp tm 15) (tmp tm 18) (tmp tm 64) (tmp tm 65) (tmp tm 100) (tmp tm 104) h ds:=by
 simp only[Baw,Ep,Ll,dd,↓reduceIte,Nat.reduceEqDiff,Int.reduceOfNat,Int.reduceNegSucc,Nat.reduceAdd,hih1_,Tn H hd hih1_,tt0,tt1,tt2,tt3,tt4]
def Dp(c r:Ae)(K:Nat)(ih1_:Ac->EV->EV->EV->EV->EV->EV->Aa->List Nat->R)(tm:Ac)(v3:EV)(v8:EV)(v9:EV)(v14:EV)(v15:EV)(v18:EV)(v64:EV)(v65:EV)(v92:EV)(v98:EV)(h:Aa)(ds:List Nat):R:=
 Br v92 (.bool true) v98 fun v99=>
 Ay (Ah v99 false)
 (Ap 2 v18 fun v101=>
 Av v101 h fun v102=>
 Ar E5 (bin TT .neq 3) v102 v3 fun v104=>
 Ep c r K ih1_ ((((((tm.put 99 (some v99)).put 100 (some v99)).put 101 (some v101)).put 102 (some v102)).put 103 (some v3)).put 104 (some v104)) v3 v8 v9 v14 v15 v18 v64 v65 v99 v104 h ds)
 (Ep c r K ih1_ ((((((tm.put 99 (some v99)).put 100 (some v99)).put 101 (some (.tuple []))).put 102 (some (.tuple []))).put 103 (some (.tuple []))).put 104 (some (.tuple []))) v3 v8 v9 v14 v15 v18 v64 v65 v99 (.tuple []) h ds)
theorem To(H:Aq disp)(hd:6<=d){ih1_:CF}{ih1_':Ac->EV->EV->EV->EV->EV->EV->Aa->List Nat->R}(hih1_:∀ tm h ds,ih1_ tm h ds=ih1_' tm (tmp tm 3) (tmp tm 8) (tmp tm 9) (tmp tm 14) (tmp tm 64) (tmp tm 65) h ds)(tm:Ac)(h:Aa)(ds:List Nat):Bb4 (Ad TT disp K d false) (Ad TT disp K d true) K ih1_ tm h ds=Dp (Ad TT disp K d false) (Ad TT disp K d true) K ih1_' tm (tmp tm 3) (tmp tm 8) (tmp tm 9) (tmp tm 14) (tmp tm 15) (tmp tm 18) (tmp tm 64) (tmp tm 65) (tmp tm 92) (tmp tm 98) h ds:=by
 simp only[Bb4,Dp,Ll,dd,↓reduceIte,Nat.reduceEqDiff,Int.reduceOfNat,Int.reduceNegSucc,Nat.reduceAdd,hih1_,Tj H hd hih1_,tt0,tt1,tt2,tt3,tt4]
def El(c r:Ae)(K:Nat)(ih1_:Ac->EV->EV->EV->EV->EV->EV->Aa->List Nat->R)(tm:Ac)(v3:EV)(v8:EV)(v9:EV)(v14:EV)(v15:EV)(v64:EV)(v65:EV)(h:Aa)(ds:List Nat):R:=
 Ar Fx (bin TT .add 3) v14 (.int .i64 1) fun v84=>
 Al (c 46 [v9] h) fun v87 h=>
 B3 0 v87 fun v88=>
 B3 1 v87 fun v89=>
 Fw (.cells [.Af,.Af,(.int .i64 0)] 112) h fun v18 h=>
 Dw 3 v18 v88 h fun h=>
 Ar E5 (bin TT .neq 28) v89 (.int .i64 0) fun v91=>
 Ay (Ah v91 false)
 (Ap 0 v18 fun v93=>
 Av v93 h fun v94=>
 E9 v94 fun v95=>
 Ar Vm (bin TT .mul 3) (.int .i64 2) v84 fun v97=>
 Ar E5 (bin TT .neq 3) v95 v97 fun v98=>
 Dp c r K ih1_ (((((((((((((((((((tm.put 83 (some v14)).put 84 (some v84)).put 14 (some v84)).put 86 (some v9)).put 87 (some v87)).put 85 (some v87)).put 88 (some v88)).put 89 (some v89)).put 18 (some v18)).put 19 (some v89)).put 90 (some v89)).put 91 (some v91)).put 92 (some v91)).put 93 (some v93)).put 94 (some v94)).put 95 (some v95)).put 96 (some v84)).put 97 (some v97)).put 98 (some v98)) v3 v8 v9 v84 v15 v18 v64 v65 v91 v98 h ds)
 (Dp c r K ih1_ (((((((((((((((((((tm.put 83 (some v14)).put 84 (some v84)).put 14 (some v84)).put 86 (some v9)).put 87 (some v87)).put 85 (some v87)).put 88 (some v88)).put 89 (some v89)).put 18 (some v18)).put 19 (some v89)).put 90 (some v89)).put 91 (some v91)).put 92 (some v91)).put 93 (some (.tuple []))).put 94 (some (.tuple []))).put 95 (some (.tuple []))).put 96 (some (.tuple []))).put 97 (some (.tuple []))).put 98 (some (.tuple []))) v3 v8 v9 v84 v15 v18 v64 v65 v91 (.tuple []) h ds)
theorem Ta(H:Aq disp)(hd:6<=d){ih1_:CF}{ih1_':Ac->EV->EV->EV->EV->EV->EV->Aa->List Nat->R}(hih1_:∀ tm h ds,ih1_ tm h ds=ih1_' tm (tmp tm 3) (tmp tm 8) (tmp tm 9) (tmp tm 14) (tmp tm 64) (tmp tm 65) h ds)(tm:Ac)(h:Aa)(ds:List Nat):Ber (Ad TT disp K d false) (Ad TT disp K d true) K ih1_ tm h ds=El (Ad TT disp K d false) (Ad TT disp K d true) K ih1_' tm (tmp tm 3) (tmp tm 8) (tmp tm 9) (tmp tm 14) (tmp tm 15) (tmp tm 64) (tmp tm 65) h ds:=by
 simp only[Ber,El,Ll,dd,↓reduceIte,Nat.reduceEqDiff,Int.reduceOfNat,Int.reduceNegSucc,Nat.reduceAdd,hih1_,To H hd hih1_,tt0,tt1,tt2,tt3,tt4]
def Gw(c r:Ae)(K:Nat)(ih1_:Ac->EV->EV->EV->EV->EV->EV->Aa->List Nat->R)(tm:Ac)(v3:EV)(v8:EV)(v9:EV)(v14:EV)(v64:EV)(v65:EV)(h:Aa)(ds:List Nat):R:=
 Ar Fx (bin TT .add 3) v65 (.int .i64 1) fun v71=>
 K3 (bin TT .and 3) v65 (.int .i64 7) fun v73=>
 B7 (Dj [(0,1),(1,1),(2,1),(3,1),(4,1),(5,1),(6,32)]) (List.replicate 6 (.int .i64 0)++List.replicate 32 (.int .u8 0)) [(0,(.int .i64 3)),(1,v71),(2,(.int .i64 1)),(3,v73)] fun v74=>
 Ar Fx (bin TT .add 3) v65 (.int .i64 1) fun v77=>
 Al (c 34 [v9,v74,v3,v77] h) fun v78 h=>
 B3 0 v78 fun v79=>
 B3 1 v78 fun v80=>
 Fw (.cells [(.int .i64 0),(.int .i64 0),(.int .i64 0),(.int .i64 0),(.int .i64 0),(.int .i64 0)] 83) h fun v16 h=>
 Dw 6 v16 v79 h fun h=>
 Ar E5 (bin TT .neq 28) v80 (.int .i64 0) fun v82=>
 Dx v82
 (Co c r K (((((((((((((((((((tm.put 67 (some v65)).put 15 (some v65)).put 69 (some v9)).put 70 (some v65)).put 71 (some v71)).put 72 (some v65)).put 73 (some v73)).put 74 (some v74)).put 75 (some v3)).put 76 (some v65)).put 77 (some v77)).put 78 (some v78)).put 68 (some v78)).put 79 (some v79)).put 80 (some v80)).put 16 (some v16)).put 17 (some v80)).put 81 (some v80)).put 82 (some v82)) v8 h ds)
 (El c r K ih1_ (((((((((((((((((((tm.put 67 (some v65)).put 15 (some v65)).put 69 (some v9)).put 70 (some v65)).put 71 (some v71)).put 72 (some v65)).put 73 (some v73)).put 74 (some v74)).put 75 (some v3)).put 76 (some v65)).put 77 (some v77)).put 78 (some v78)).put 68 (some v78)).put 79 (some v79)).put 80 (some v80)).put 16 (some v16)).put 17 (some v80)).put 81 (some v80)).put 82 (some v82)) v3 v8 v9 v14 v65 v64 v65 h ds)
theorem Tc(H:Aq disp)(hd:6<=d){ih1_:CF}{ih1_':Ac->EV->EV->EV->EV->EV->EV->Aa->List Nat->R}(hih1_:∀ tm h ds,ih1_ tm h ds=ih1_' tm (tmp tm 3) (tmp tm 8) (tmp tm 9) (tmp tm 14) (tmp tm 64) (tmp tm 65) h ds)(tm:Ac)(h:Aa)(ds:List Nat):Biq (Ad TT disp K d false) (Ad TT disp K d true) K ih1_ tm h ds=Gw (Ad TT disp K d false) (Ad TT disp K d true) K ih1_' tm (tmp tm 3) (tmp tm 8) (tmp tm 9) (tmp tm 14) (tmp tm 64) (tmp tm 65) h ds:=by
 simp only[Biq,Gw,Ll,dd,↓reduceIte,Nat.reduceEqDiff,Int.reduceOfNat,Int.reduceNegSucc,Nat.reduceAdd,hih1_,Ia H hd,Ta H hd hih1_,tt0,tt1,tt2,tt3,tt4]
def Dr(c r:Ae)(K:Nat):Nat->Ac->EV->EV->EV->EV->EV->EV->Aa->List Nat->R
 | 0=>fun _ _ _ _ _ _ _ _ _=>none
 | m+1=>fun tm v3 v8 v9 v14 v64 v65 h ds=>
  Ar Gc (bin TT .lss 3) v65 v64 fun v66=>
  Dx v66
  (Gw c r K (Dr c r K m) (tm.put 66 (some v66)) v3 v8 v9 v14 v64 v65 h ds)
  (Co c r K (tm.put 66 (some v66)) v8 h ds)
theorem Ti(H:Aq disp)(hd:6<=d):∀ (m:Nat) (tm:Ac) (h:Aa) (ds:List Nat),Adm (Bg7 (Ad TT disp K d false) (Ad TT disp K d true) K) m tm h ds=Dr (Ad TT disp K d false) (Ad TT disp K d true) K m tm (tmp tm 3) (tmp tm 8) (tmp tm 9) (tmp tm 14) (tmp tm 64) (tmp tm 65) h ds:=by
 intro m
 induction m with
 | zero=>intros;rfl
 | succ m hih1_=>
  intro tm h ds
  rw[Ah0]
  simp only[Bg7,Dr,Ll,dd,↓reduceIte,Nat.reduceEqDiff,Int.reduceOfNat,Int.reduceNegSucc,Nat.reduceAdd,hih1_,Tc H hd hih1_,Ia H hd,tt0,tt1,tt2,tt3,tt4]
def Ed(c r:Ae)(K:Nat)(tm:Ac)(v2:EV)(v3:EV)(v8:EV)(v9:EV)(h:Aa)(ds:List Nat):R:=
 Dr c r K K (((tm.put 14 (some (.int .i64 0))).put 64 (some v2)).put 65 (some (.int .i64 0))) v3 v8 v9 (.int .i64 0) v2 (.int .i64 0) h ds
theorem Sr(H:Aq disp)(hd:6<=d)(tm:Ac)(h:Aa)(ds:List Nat):A80 (Ad TT disp K d false) (Ad TT disp K d true) K tm h ds=Ed (Ad TT disp K d false) (Ad TT disp K d true) K tm (tmp tm 2) (tmp tm 3) (tmp tm 8) (tmp tm 9) h ds:=by
 simp only[A80,Ed,Ll,dd,↓reduceIte,Nat.reduceEqDiff,Int.reduceOfNat,Int.reduceNegSucc,Nat.reduceAdd,Ti H hd,tt0,tt1,tt2,tt3,tt4]
def Gg(c r:Ae)(K:Nat)(ih11_:Ac->EV->EV->EV->EV->EV->EV->EV->Aa->List Nat->R)(tm:Ac)(v2:EV)(v3:EV)(v8:EV)(v9:EV)(v53:EV)(v54:EV)(v55:EV)(h:Aa)(ds:List Nat):R:=
 Ar Fx (bin TT .add 3) v55 (.int .i64 1) fun v63=>
 ih11_ ((tm.put 63 (some v63)).put 55 (some v63)) v2 v3 v8 v9 v53 v54 v63 h ds
theorem Sk(H:Aq disp)(hd:6<=d){ih11_:CF}{ih11_':Ac->EV->EV->EV->EV->EV->EV->EV->Aa->List Nat->R}(hih11_:∀ tm h ds,ih11_ tm h ds=ih11_' tm (tmp tm 2) (tmp tm 3) (tmp tm 8) (tmp tm 9) (tmp tm 53) (tmp tm 54) (tmp tm 55) h ds)(tm:Ac)(h:Aa)(ds:List Nat):A7k (Ad TT disp K d false) (Ad TT disp K d true) K ih11_ tm h ds=Gg (Ad TT disp K d false) (Ad TT disp K d true) K ih11_' tm (tmp tm 2) (tmp tm 3) (tmp tm 8) (tmp tm 9) (tmp tm 53) (tmp tm 54) (tmp tm 55) h ds:=by
 simp only[A7k,Gg,Ll,dd,↓reduceIte,Nat.reduceEqDiff,Int.reduceOfNat,Int.reduceNegSucc,Nat.reduceAdd,hih11_,tt0,tt1,tt2,tt3,tt4]
def Gj(c r:Ae)(K:Nat)(ih11_:Ac->EV->EV->EV->EV->EV->EV->EV->Aa->List Nat->R)(tm:Ac)(v2:EV)(v3:EV)(v8:EV)(v9:EV)(v53:EV)(v54:EV)(v55:EV)(h:Aa)(ds:List Nat):R:=
 Gn 1 v53 v55 fun v57=>
 Av v57 h fun v58=>
 Al (Jq K v9 h) fun v60 h=>
 Al (c 15 [v60,v58] h) fun v62 h=>
 Gg c r K ih11_ (((((((tm.put 57 (some v57)).put 58 (some v58)).put 13 (some v58)).put 59 (some v9)).put 60 (some v60)).put 61 (some v58)).put 62 (some v62)) v2 v3 v8 v9 v53 v54 v55 h ds
theorem So(H:Aq disp)(hd:6<=d){ih11_:CF}{ih11_':Ac->EV->EV->EV->EV->EV->EV->EV->Aa->List Nat->R}(hih11_:∀ tm h ds,ih11_ tm h ds=ih11_' tm (tmp tm 2) (tmp tm 3) (tmp tm 8) (tmp tm 9) (tmp tm 53) (tmp tm 54) (tmp tm 55) h ds)(tm:Ac)(h:Aa)(ds:List Nat):A7g (Ad TT disp K d false) (Ad TT disp K d true) K ih11_ tm h ds=Gj (Ad TT disp K d false) (Ad TT disp K d true) K ih11_' tm (tmp tm 2) (tmp tm 3) (tmp tm 8) (tmp tm 9) (tmp tm 53) (tmp tm 54) (tmp tm 55) h ds:=by
 simp only[A7g,Gj,Ll,dd,↓reduceIte,Nat.reduceEqDiff,Int.reduceOfNat,Int.reduceNegSucc,Nat.reduceAdd,hih11_,Sk H hd hih11_,Abw H (lq hd rfl),tt0,tt1,tt2,tt3,tt4]
def Db(c r:Ae)(K:Nat):Nat->Ac->EV->EV->EV->EV->EV->EV->EV->Aa->List Nat->R
 | 0=>fun _ _ _ _ _ _ _ _ _ _=>none
 | m+1=>fun tm v2 v3 v8 v9 v53 v54 v55 h ds=>
  Ar Gc (bin TT .lss 3) v55 v54 fun v56=>
  Dx v56
  (Gj c r K (Db c r K m) (tm.put 56 (some v56)) v2 v3 v8 v9 v53 v54 v55 h ds)
  (Ed c r K (tm.put 56 (some v56)) v2 v3 v8 v9 h ds)
theorem Sp(H:Aq disp)(hd:6<=d):∀ (m:Nat) (tm:Ac) (h:Aa) (ds:List Nat),Adm (A8y (Ad TT disp K d false) (Ad TT disp K d true) K) m tm h ds=Db (Ad TT disp K d false) (Ad TT disp K d true) K m tm (tmp tm 2) (tmp tm 3) (tmp tm 8) (tmp tm 9) (tmp tm 53) (tmp tm 54) (tmp tm 55) h ds:=by
 intro m
 induction m with
 | zero=>intros;rfl
 | succ m hih11_=>
  intro tm h ds
  rw[Ah0]
  simp only[A8y,Db,Ll,dd,↓reduceIte,Nat.reduceEqDiff,Int.reduceOfNat,Int.reduceNegSucc,Nat.reduceAdd,hih11_,So H hd hih11_,Sr H hd,tt0,tt1,tt2,tt3,tt4]
def Ge(c r:Ae)(K:Nat)(tm:Ac)(v1:EV)(v2:EV)(v3:EV)(v8:EV)(v9:EV)(h:Aa)(ds:List Nat):R:=
 E9 v1 fun v54=>
 Db c r K K (((tm.put 53 (some v1)).put 54 (some v54)).put 55 (some (.int .i64 0))) v2 v3 v8 v9 v1 v54 (.int .i64 0) h ds
theorem Sg(H:Aq disp)(hd:6<=d)(tm:Ac)(h:Aa)(ds:List Nat):A9x (Ad TT disp K d false) (Ad TT disp K d true) K tm h ds=Ge (Ad TT disp K d false) (Ad TT disp K d true) K tm (tmp tm 1) (tmp tm 2) (tmp tm 3) (tmp tm 8) (tmp tm 9) h ds:=by
 simp only[A9x,Ge,Ll,dd,↓reduceIte,Nat.reduceEqDiff,Int.reduceOfNat,Int.reduceNegSucc,Nat.reduceAdd,Sp H hd,tt0,tt1,tt2,tt3,tt4]
def Dc(c r:Ae)(K:Nat)(tm:Ac)(v1:EV)(v2:EV)(v3:EV)(v8:EV)(v9:EV)(v49:EV)(v51:EV)(h:Aa)(ds:List Nat):R:=
 Br v49 (.bool true) v51 fun v52=>
 Dx v52
 (Dw 1 v8 (.bool true) h fun h=>
 Ej ds h fun h=>Ct TT [.c v8 4] h)
 (Ge c r K (tm.put 52 (some v52)) v1 v2 v3 v8 v9 h ds)
theorem Sl(H:Aq disp)(hd:6<=d)(tm:Ac)(h:Aa)(ds:List Nat):A1u (Ad TT disp K d false) (Ad TT disp K d true) K tm h ds=Dc (Ad TT disp K d false) (Ad TT disp K d true) K tm (tmp tm 1) (tmp tm 2) (tmp tm 3) (tmp tm 8) (tmp tm 9) (tmp tm 49) (tmp tm 51) h ds:=by
 simp only[A1u,Dc,Ll,dd,↓reduceIte,Nat.reduceEqDiff,Int.reduceOfNat,Int.reduceNegSucc,Nat.reduceAdd,Sg H hd,tt0,tt1,tt2,tt3,tt4]
def Dg(c r:Ae)(K:Nat)(tm:Ac)(v1:EV)(v2:EV)(v3:EV)(v8:EV)(v9:EV)(v45:EV)(v47:EV)(h:Aa)(ds:List Nat):R:=
 Br v45 (.bool true) v47 fun v48=>
 Ay (Ah v48 false)
 (Ar Sc (bin TT .gtr 3) v3 (.int .i64 4294967295) fun v51=>
 Dc c r K ((((tm.put 48 (some v48)).put 49 (some v48)).put 50 (some v3)).put 51 (some v51)) v1 v2 v3 v8 v9 v48 v51 h ds)
 (Dc c r K ((((tm.put 48 (some v48)).put 49 (some v48)).put 50 (some (.tuple []))).put 51 (some (.tuple []))) v1 v2 v3 v8 v9 v48 (.tuple []) h ds)
theorem Si(H:Aq disp)(hd:6<=d)(tm:Ac)(h:Aa)(ds:List Nat):A2m (Ad TT disp K d false) (Ad TT disp K d true) K tm h ds=Dg (Ad TT disp K d false) (Ad TT disp K d true) K tm (tmp tm 1) (tmp tm 2) (tmp tm 3) (tmp tm 8) (tmp tm 9) (tmp tm 45) (tmp tm 47) h ds:=by
 simp only[A2m,Dg,Ll,dd,↓reduceIte,Nat.reduceEqDiff,Int.reduceOfNat,Int.reduceNegSucc,Nat.reduceAdd,Sl H hd,tt0,tt1,tt2,tt3,tt4]
def Dh(c r:Ae)(K:Nat)(tm:Ac)(v1:EV)(v2:EV)(v3:EV)(v8:EV)(v9:EV)(v41:EV)(v43:EV)(h:Aa)(ds:List Nat):R:=
 Br v41 (.bool true) v43 fun v44=>
 Ay (Ah v44 false)
 (Ar Gc (bin TT .lss 3) v3 (.int .i64 1) fun v47=>
 Dg c r K ((((tm.put 44 (some v44)).put 45 (some v44)).put 46 (some v3)).put 47 (some v47)) v1 v2 v3 v8 v9 v44 v47 h ds)
 (Dg c r K ((((tm.put 44 (some v44)).put 45 (some v44)).put 46 (some (.tuple []))).put 47 (some (.tuple []))) v1 v2 v3 v8 v9 v44 (.tuple []) h ds)
theorem Se(H:Aq disp)(hd:6<=d)(tm:Ac)(h:Aa)(ds:List Nat):A1t (Ad TT disp K d false) (Ad TT disp K d true) K tm h ds=Dh (Ad TT disp K d false) (Ad TT disp K d true) K tm (tmp tm 1) (tmp tm 2) (tmp tm 3) (tmp tm 8) (tmp tm 9) (tmp tm 41) (tmp tm 43) h ds:=by
 simp only[A1t,Dh,Ll,dd,↓reduceIte,Nat.reduceEqDiff,Int.reduceOfNat,Int.reduceNegSucc,Nat.reduceAdd,Si H hd,tt0,tt1,tt2,tt3,tt4]
def Da(c r:Ae)(K:Nat)(tm:Ac)(v1:EV)(v2:EV)(v3:EV)(v8:EV)(v9:EV)(v37:EV)(v39:EV)(h:Aa)(ds:List Nat):R:=
 Br v37 (.bool true) v39 fun v40=>
 Ay (Ah v40 false)
 (Ar Sc (bin TT .gtr 3) v2 (.int .i64 60) fun v43=>
 Dh c r K ((((tm.put 40 (some v40)).put 41 (some v40)).put 42 (some v2)).put 43 (some v43)) v1 v2 v3 v8 v9 v40 v43 h ds)
 (Dh c r K ((((tm.put 40 (some v40)).put 41 (some v40)).put 42 (some (.tuple []))).put 43 (some (.tuple []))) v1 v2 v3 v8 v9 v40 (.tuple []) h ds)
theorem Sb(H:Aq disp)(hd:6<=d)(tm:Ac)(h:Aa)(ds:List Nat):A1x (Ad TT disp K d false) (Ad TT disp K d true) K tm h ds=Da (Ad TT disp K d false) (Ad TT disp K d true) K tm (tmp tm 1) (tmp tm 2) (tmp tm 3) (tmp tm 8) (tmp tm 9) (tmp tm 37) (tmp tm 39) h ds:=by
 simp only[A1x,Da,Ll,dd,↓reduceIte,Nat.reduceEqDiff,Int.reduceOfNat,Int.reduceNegSucc,Nat.reduceAdd,Se H hd,tt0,tt1,tt2,tt3,tt4]
def De(c r:Ae)(K:Nat)(tm:Ac)(v1:EV)(v2:EV)(v3:EV)(v8:EV)(v9:EV)(v32:EV)(v35:EV)(h:Aa)(ds:List Nat):R:=
 Br v32 (.bool true) v35 fun v36=>
 Ay (Ah v36 false)
 (Ar Gc (bin TT .lss 3) v2 (.int .i64 0) fun v39=>
 Da c r K ((((tm.put 36 (some v36)).put 37 (some v36)).put 38 (some v2)).put 39 (some v39)) v1 v2 v3 v8 v9 v36 v39 h ds)
 (Da c r K ((((tm.put 36 (some v36)).put 37 (some v36)).put 38 (some (.tuple []))).put 39 (some (.tuple []))) v1 v2 v3 v8 v9 v36 (.tuple []) h ds)
theorem Sf(H:Aq disp)(hd:6<=d)(tm:Ac)(h:Aa)(ds:List Nat):A10 (Ad TT disp K d false) (Ad TT disp K d true) K tm h ds=De (Ad TT disp K d false) (Ad TT disp K d true) K tm (tmp tm 1) (tmp tm 2) (tmp tm 3) (tmp tm 8) (tmp tm 9) (tmp tm 32) (tmp tm 35) h ds:=by
 simp only[A10,De,Ll,dd,↓reduceIte,Nat.reduceEqDiff,Int.reduceOfNat,Int.reduceNegSucc,Nat.reduceAdd,Sb H hd,tt0,tt1,tt2,tt3,tt4]
def Gh(c r:Ae)(K:Nat)(tm:Ac)(v1:EV)(v2:EV)(v3:EV)(v4:EV)(v8:EV)(h:Aa)(ds:List Nat):R:=
 B4 6 v4 h fun v25=>
 Al (Jf K v25 h) fun v26 h=>
 B3 0 v26 fun v27=>
 B3 1 v26 fun v28=>
 B3 2 v26 fun v29=>
 Fw (.cells ([.Af]++List.replicate 3 (.int .i64 0)++[(.bool false)]++List.replicate 2 .Af++List.replicate 8 (.int .i64 0)++List.replicate 2 .Af++List.replicate 3 (.int .i64 0)) 42) h fun v10 h=>
 Dw 20 v10 v28 h fun h=>
 Pw v29 fun v31=>
 Ay (Ah v31 false)
 (E9 v1 fun v34=>
 Ar Sc (bin TT .gtr 3) v34 (.int .i64 64) fun v35=>
 De c r K (((((((((((((((tm.put 25 (some v25)).put 26 (some v26)).put 24 (some v26)).put 27 (some v27)).put 28 (some v28)).put 29 (some v29)).put 10 (some v10)).put 9 (some v27)).put 11 (some v29)).put 30 (some v29)).put 31 (some v31)).put 32 (some v31)).put 33 (some v1)).put 34 (some v34)).put 35 (some v35)) v1 v2 v3 v8 v27 v31 v35 h ds)
 (De c r K (((((((((((((((tm.put 25 (some v25)).put 26 (some v26)).put 24 (some v26)).put 27 (some v27)).put 28 (some v28)).put 29 (some v29)).put 10 (some v10)).put 9 (some v27)).put 11 (some v29)).put 30 (some v29)).put 31 (some v31)).put 32 (some v31)).put 33 (some (.tuple []))).put 34 (some (.tuple []))).put 35 (some (.tuple []))) v1 v2 v3 v8 v27 v31 (.tuple []) h ds)
theorem Sh(H:Aq disp)(hd:6<=d)(tm:Ac)(h:Aa)(ds:List Nat):Bam (Ad TT disp K d false) (Ad TT disp K d true) K tm h ds=Gh (Ad TT disp K d false) (Ad TT disp K d true) K tm (tmp tm 1) (tmp tm 2) (tmp tm 3) (tmp tm 4) (tmp tm 8) h ds:=by
 simp only[Bam,Gh,Ll,dd,↓reduceIte,Nat.reduceEqDiff,Int.reduceOfNat,Int.reduceNegSucc,Nat.reduceAdd,Sf H hd,Ys H (lq hd rfl),tt0,tt1,tt2,tt3,tt4]
def H0(c r:Ae)(K:Nat)(v0 v1 v2 v3:EV)(h:Aa):R:=
 (fun(tm:Ac) (ds:List Nat)=>
 D8 23 v0 h fun v4 h=>
 Fw (.cells [(.bool false)] 4) h fun v8 h=>
 Al (c 44 [] h) fun v22 h=>
 Pw v22 fun v23=>
 Dx v23
 (Dw 1 v8 (.bool false) h fun h=>
 Ej ds h fun h=>Ct TT [.c v8 4] h)
 (Gh c r K ((((tm.put 4 (some v4)).put 8 (some v8)).put 22 (some v22)).put 23 (some v23)) v1 v2 v3 v4 v8 h ds)) ((((Tr.nil.put 0 (some v0)).put 1 (some v1)).put 2 (some v2)).put 3 (some v3)) []
theorem Ve(H:Aq disp)(hd:6<=d)(v0 v1 v2 v3:EV)(h:Aa):Ad TT disp K (d+1) false 9 [v0,v1,v2,v3] h=H0 (Ad TT disp K d false) (Ad TT disp K d true) K v0 v1 v2 v3 h:=by
 rw[Ae6 ((H.plain 9 rfl).trans (show Ala 9=some F9 by kernel_rfl))]
 unfold F9
 rw[Auv (by simp)]
 simp only[H0,Ll,dd,↓reduceIte,Nat.reduceEqDiff,Int.reduceOfNat,Int.reduceNegSucc,Nat.reduceAdd,Sh H hd,tt0,tt1,tt2,tt3,tt4]
def D3(c r:Ae)(K:Nat)(l:Nat)(v20:EV)(h:Aa):R:=
 Av v20 h fun v131=>
 Ar Fx (bin TT .add 3) v131 (.int .i64 1) fun v132=>
 Dw 1 v20 v132 h fun h=>
 Arb l true .ready none h
theorem Rj(H:Aq disp)(hd:6<=d){l:Nat}(tm:Ac)(h:Aa):A0o (Ad TT disp K d false) (Ad TT disp K d true) K l tm h []=D3 (Ad TT disp K d false) (Ad TT disp K d true) K l (tmp tm 20) h:=by
 simp only[A0o,D3,dd,↓reduceIte,Nat.reduceEqDiff,Int.reduceOfNat,Int.reduceNegSucc,Nat.reduceAdd,tt0,tt1,tt2,tt3,tt4]
def Cy(c r:Ae)(K:Nat)(l:Nat)(v8:EV)(v20:EV)(v117:EV)(v129:EV)(h:Aa):R:=
 Br v117 (.bool true) v129 fun v130=>
 Dx v130
 (Dw 1 v8 (.bool false) h fun h=>
 Arb l false .done (some .ret) h)
 (D3 c r K l v20 h)
theorem Rn(H:Aq disp)(hd:6<=d){l:Nat}(tm:Ac)(h:Aa):Aur (Ad TT disp K d false) (Ad TT disp K d true) K l tm h []=Cy (Ad TT disp K d false) (Ad TT disp K d true) K l (tmp tm 8) (tmp tm 20) (tmp tm 117) (tmp tm 129) h:=by
 simp only[Aur,Cy,dd,↓reduceIte,Nat.reduceEqDiff,Int.reduceOfNat,Int.reduceNegSucc,Nat.reduceAdd,Rj H hd,tt0,tt1,tt2,tt3,tt4]
def Cx(c r:Ae)(K:Nat)(l:Nat)(v8:EV)(v20:EV)(v117:EV)(v123:EV)(v128:EV)(h:Aa):R:=
 Ay (Ah v117 false)
 (Br v123 v128 (.bool false) fun v129=>
 Cy c r K l v8 v20 v117 v129 h)
 (Cy c r K l v8 v20 v117 (.tuple []) h)
theorem Ry(H:Aq disp)(hd:6<=d){l:Nat}(tm:Ac)(h:Aa):Aum (Ad TT disp K d false) (Ad TT disp K d true) K l tm h []=Cx (Ad TT disp K d false) (Ad TT disp K d true) K l (tmp tm 8) (tmp tm 20) (tmp tm 117) (tmp tm 123) (tmp tm 128) h:=by
 simp only[Aum,Cx,dd,↓reduceIte,Nat.reduceEqDiff,Int.reduceOfNat,Int.reduceNegSucc,Nat.reduceAdd,Rn H hd,tt0,tt1,tt2,tt3,tt4]
def C1(c r:Ae)(K:Nat)(l:Nat)(v8:EV)(v16:EV)(v20:EV)(v21:EV)(v117:EV)(v123:EV)(h:Aa):R:=
 Ay (Ah v123 true)
 (Ap 0 v21 fun v124=>
 Av v124 h fun v125=>
 Ap 2 v16 fun v126=>
 Av v126 h fun v127=>
 Ar E5 (bin TT .neq 3) v125 v127 fun v128=>
 Cx c r K l v8 v20 v117 v123 v128 h)
 (Cx c r K l v8 v20 v117 v123 (.tuple []) h)
theorem Rv(H:Aq disp)(hd:6<=d){l:Nat}(tm:Ac)(h:Aa):Aub (Ad TT disp K d false) (Ad TT disp K d true) K l tm h []=C1 (Ad TT disp K d false) (Ad TT disp K d true) K l (tmp tm 8) (tmp tm 16) (tmp tm 20) (tmp tm 21) (tmp tm 117) (tmp tm 123) h:=by
 simp only[Aub,C1,dd,↓reduceIte,Nat.reduceEqDiff,Int.reduceOfNat,Int.reduceNegSucc,Nat.reduceAdd,Ry H hd,tt0,tt1,tt2,tt3,tt4]
def E7(c r:Ae)(K:Nat)(l:Nat)(v8:EV)(v16:EV)(v20:EV)(v21:EV)(h:Aa):R:=
 Ap 1 v21 fun v112=>
 Av v112 h fun v113=>
 Ap 3 v16 fun v114=>
 Av v114 h fun v115=>
 Ar E5 (bin TT .neq 3) v113 v115 fun v116=>
 Ay (Ah v116 false)
 (Ap 0 v21 fun v118=>
 Av v118 h fun v119=>
 Ap 1 v16 fun v120=>
 Av v120 h fun v121=>
 Ar E5 (bin TT .neq 3) v119 v121 fun v122=>
 C1 c r K l v8 v16 v20 v21 v116 v122 h)
 (C1 c r K l v8 v16 v20 v21 v116 (.tuple []) h)
theorem Ql(H:Aq disp)(hd:6<=d){l:Nat}(tm:Ac)(h:Aa):Ap4 (Ad TT disp K d false) (Ad TT disp K d true) K l tm h []=E7 (Ad TT disp K d false) (Ad TT disp K d true) K l (tmp tm 8) (tmp tm 16) (tmp tm 20) (tmp tm 21) h:=by
 simp only[Ap4,E7,dd,↓reduceIte,Nat.reduceEqDiff,Int.reduceOfNat,Int.reduceNegSucc,Nat.reduceAdd,Rv H hd,tt0,tt1,tt2,tt3,tt4]
def Gt(c r:Ae)(K:Nat)(l:Nat)(v8:EV)(v16:EV)(v20:EV)(v111:EV)(h:Aa):R:=
 Fw (.cells (List.replicate 7 (.int .i64 0)++List.replicate 44 (.int .u8 0)) 122) h fun v21 h=>
 Dw 51 v21 v111 h fun h=>
 Gb l h fun h=>E7 c r K l v8 v16 v20 v21 h
theorem Tg(H:Aq disp)(hd:6<=d){l:Nat}(tm:Ac)(h:Aa):Bd2 (Ad TT disp K d false) (Ad TT disp K d true) K l tm h []=Gt (Ad TT disp K d false) (Ad TT disp K d true) K l (tmp tm 8) (tmp tm 16) (tmp tm 20) (tmp tm 111) h:=by
 simp only[Bd2,Gt,dd,↓reduceIte,Nat.reduceEqDiff,Int.reduceOfNat,Int.reduceNegSucc,Nat.reduceAdd,Ql H hd,tt0,tt1,tt2,tt3,tt4]
theorem R3(H:Aq disp)(hd:6<=d){l:Nat}(tm:Ac)(h:Aa)(x111:EV){st:LoopState}{p:Option Code}{d0:Nat}(hg:h.get l=some (.loop st p 9 136 tm [111] (Ds TT 9 0).2.2.1 (Ds TT 9 0).2.2.2 d0)):
 Ad TT disp K (d+1) true l [x111] h=Gt (Ad TT disp K d false) (Ad TT disp K d true) K l (tmp tm 8) (tmp tm 16) (tmp tm 20) x111 h:=by
 rw[Aev,Ais hg (show Nb [111] [x111] 136 tm=some (tm.put 111 (some x111)) from rfl),Bcy,Tg H hd]
 simp only[dd,↓reduceIte,Nat.reduceEqDiff,Int.reduceOfNat,Int.reduceNegSucc,Nat.reduceAdd]
end
end Go.Ev
