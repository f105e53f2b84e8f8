import Derived.Test.YtokpnommcenoaaaGreatFun
set_option linter.unusedVariables false
set_option linter.unusedSimpArgs false
set_option linter.unusedSectionVars false
namespace Go.Ev
open Go.Proofs
set_option maxRecDepth 100000
set_option maxHeartbeats 4000000
noncomputable section
variable {disp:Nat->Option FT}{K d:Nat}
def Gs(K:Nat)(v0:EV)(h:Ac):R:=
 Ce v0 fun v4=>
 A6 0 v4 fun v5=>
 A5 v5 h fun v6=>
 some (v6,h)
theorem Jh(H:Bp disp)(hd:1<=d)(v0:EV)(h:Ac):Af TT disp K d false 13 [v0] h=Gs K v0 h:=
 Ek (H.bare (by kernel_rfl)) hd (by kernel_rfl) (fun d hd=>rfl) (fun d c r=>rfl) (fun d c r=>by kernel_rfl)
def Dr(K:Nat)(v0:EV)(h:Ac):R:=
 Fs 23 v0 h fun v1 h=>
 A6 0 v1 fun v3=>
 A5 v3 h fun v4=>
 A6 1 v1 fun v5=>
 A5 v5 h fun v6=>
 Az N2 (bin TT .mul 3) v4 v6 fun v7=>
 some (v7,h)
theorem Gd(H:Bp disp)(hd:1<=d)(v0:EV)(h:Ac):Af TT disp K d false 15 [v0] h=Dr K v0 h:=
 Ek (H.bare (by kernel_rfl)) hd (by kernel_rfl) (fun d hd=>rfl) (fun d c r=>rfl) (fun d c r=>by kernel_rfl)
def K2(K:Nat)(v0:EV)(h:Ac):R:=
 Ce v0 fun v4=>
 A6 263 v4 fun v5=>
 A5 v5 h fun v6=>
 some (v6,h)
theorem Ny(H:Bp disp)(hd:1<=d)(v0:EV)(h:Ac):Af TT disp K d false 17 [v0] h=K2 K v0 h:=
 Ek (H.bare (by kernel_rfl)) hd (by kernel_rfl) (fun d hd=>rfl) (fun d c r=>rfl) (fun d c r=>by kernel_rfl)
def Rv(K:Nat)(v0:EV)(h:Ac):R:=
 Ce v0 fun v4=>
 A6 2 v4 fun v5=>
 A5 v5 h fun v6=>
 some (v6,h)
theorem Ty(H:Bp disp)(hd:1<=d)(v0:EV)(h:Ac):Af TT disp K d false 22 [v0] h=Rv K v0 h:=
 Ek (H.bare (by kernel_rfl)) hd (by kernel_rfl) (fun d hd=>rfl) (fun d c r=>rfl) (fun d c r=>by kernel_rfl)
def B3(K:Nat)(v0:EV)(h:Ac):R:=
 Ce v0 fun v4=>
 A6 0 v4 fun v5=>
 A5 v5 h fun v6=>
 some (v6,h)
theorem Ir(H:Bp disp)(hd:1<=d)(v0:EV)(h:Ac):Af TT disp K d false 34 [v0] h=B3 K v0 h:=
 Ek (H.bare (by kernel_rfl)) hd (by kernel_rfl) (fun d hd=>rfl) (fun d c r=>rfl) (fun d c r=>by kernel_rfl)
def K5(K:Nat)(v0:EV)(h:Ac):R:=
 Ce v0 fun v4=>
 A6 1 v4 fun v5=>
 A5 v5 h fun v6=>
 some (v6,h)
theorem N8(H:Bp disp)(hd:1<=d)(v0:EV)(h:Ac):Af TT disp K d false 36 [v0] h=K5 K v0 h:=
 Ek (H.bare (by kernel_rfl)) hd (by kernel_rfl) (fun d hd=>rfl) (fun d c r=>rfl) (fun d c r=>by kernel_rfl)
def Mo(K:Nat)(v0:EV)(h:Ac):R:=
 Ce v0 fun v4=>
 A6 3 v4 fun v5=>
 A5 v5 h fun v6=>
 some (v6,h)
theorem O4(H:Bp disp)(hd:1<=d)(v0:EV)(h:Ac):Af TT disp K d false 37 [v0] h=Mo K v0 h:=
 Ek (H.bare (by kernel_rfl)) hd (by kernel_rfl) (fun d hd=>rfl) (fun d c r=>rfl) (fun d c r=>by kernel_rfl)
def Lt(K:Nat)(v0:EV)(h:Ac):R:=
 Ce v0 fun v4=>
 A6 2 v4 fun v5=>
 A5 v5 h fun v6=>
 some (v6,h)
theorem N5(H:Bp disp)(hd:1<=d)(v0:EV)(h:Ac):Af TT disp K d false 38 [v0] h=Lt K v0 h:=
 Ek (H.bare (by kernel_rfl)) hd (by kernel_rfl) (fun d hd=>rfl) (fun d c r=>rfl) (fun d c r=>by kernel_rfl)
def Md(K:Nat)(v0:EV)(h:Ac):R:=
 Wc (.cells [(.int .i64 0),(.int .i64 0),(.int .i64 0)] 104) h fun v2 h=>
 Ce v0 fun v4=>
 A6 3 v4 fun v5=>
 E2 3 v5 h fun v6=>
 Zk 3 v2 v6 h fun h=>
 Sl TT [.c v2 104] h
theorem O6(H:Bp disp)(hd:1<=d)(v0:EV)(h:Ac):Af TT disp K d false 54 [v0] h=Md K v0 h:=
 Ek (H.bare (by kernel_rfl)) hd (by kernel_rfl) (fun d hd=>rfl) (fun d c r=>rfl) (fun d c r=>by kernel_rfl)
def Mk(K:Nat)(v5:EV)(h:Ac):R:=
 some (v5,h)
def Mn(K:Nat)(ih1_:EV->EV->EV->EV->EV->Ac->R)(v1 v5 v11 v12 v13:EV)(h:Ac):R:=
 Az He (bin TT .add 3) v13 (.int .i64 1) fun v23=>
 ih1_ v1 v5 v11 v12 v23 h
def Tx(K:Nat)(ih1_:EV->EV->EV->EV->EV->Ac->R)(v1 v5 v11 v12 v13:EV)(h:Ac):R:=
 M7 6 v11 v13 fun v15=>
 E2 6 v15 h fun v16=>
 Wc (.cells [(.int .i64 0),(.int .i64 0),(.int .i64 0),(.int .i64 0),(.int .i64 0),(.int .i64 0)] 53) h fun v7 h=>
 Zk 6 v7 v16 h fun h=>
 A6 0 v7 fun v17=>
 A5 v17 h fun v18=>
 Az G7 (bin TT .eql 3) v18 v1 fun v20=>
 Fz v20
 (Az He (bin TT .add 3) v5 (.int .i64 1) fun v22=>
 Mn K ih1_ v1 v22 v11 v12 v13 h)
 (Mn K ih1_ v1 v5 v11 v12 v13 h)
def Dx(K:Nat):Nat->EV->EV->EV->EV->EV->Ac->R
 | 0=>fun _ _ _ _ _ _=>none
 | m+1=>fun v1 v5 v11 v12 v13 h=>
  Az H5 (bin TT .lss 3) v13 v12 fun v14=>
  Fz v14
  (Tx K (Dx K m) v1 v5 v11 v12 v13 h)
  (Mk K v5 h)
def K1(K:Nat)(v0 v1:EV)(h:Ac):R:=
 Ce v0 fun v9=>
 A6 6 v9 fun v10=>
 A5 v10 h fun v11=>
 J0 v11 fun v12=>
 Dx K K v1 (.int .i64 0) v11 v12 (.int .i64 0) h
abbrev Uv(K:Nat)(c:Ae):Ae:=c
theorem Rn(c c' r:Ae)(K:Nat)(m:Nat):Jv (fun ih=>H4 TT (Uv K c) c' r K (nOf TT 55) (Hc TT 55) (V7 TT 55 [true,true,false,true,false]) [(0,fun ρ h=>Mk K (ρ 5) h)] ih) m=fun ρ h=>Dx K m (ρ 1) (ρ 5) (ρ 11) (ρ 12) (ρ 13) h:=
 Fb (E:=fun m ρ h=>Dx K m (ρ 1) (ρ 5) (ρ 11) (ρ 12) (ρ 13) h) rfl (fun m=>V4 fun ρ h=>by
  show _=Dx K (m+1) (ρ 1) (ρ 5) (ρ 11) (ρ 12) (ρ 13) h
  rw[Dx];kernel_rfl) m
theorem Sg(H:Bp disp)(hd:1<=d)(v0 v1:EV)(h:Ac):Af TT disp K d false 55 [v0,v1] h=K1 K v0 v1 h:=
 Ek (H.bare (by kernel_rfl)) hd (by kernel_rfl) (fun d hd=>rfl) (fun d c r=>(cut [true,true,false,true,false] (Rn (Af TT disp K d false) c r K K) (by kernel_rfl) (by kernel_rfl) rfl)) (fun d c r=>by kernel_rfl)
def Ds(K:Nat)(v0:EV)(h:Ac):R:=
 Ce v0 fun v4=>
 A6 3 v4 fun v5=>
 A5 v5 h fun v6=>
 some (v6,h)
theorem Pc(H:Bp disp)(hd:1<=d)(v0:EV)(h:Ac):Af TT disp K d false 58 [v0] h=Ds K v0 h:=
 Ek (H.bare (by kernel_rfl)) hd (by kernel_rfl) (fun d hd=>rfl) (fun d c r=>rfl) (fun d c r=>by kernel_rfl)
def Rp(K:Nat)(v1 v2:EV)(h:Ac):R:=
 A6 1 v2 fun v14=>
 A5 v14 h fun v15=>
 Rj (bin TT .quo 3) v1 v15 fun v16=>
 some (v16,h)
def Kg(K:Nat)(v1 v2 v7 v11:EV)(h:Ac):R:=
 Ca v7 (.bool true) v11 fun v12=>
 Fz v12
 (some ((.int .i64 (-1)),h))
 (Rp K v1 v2 h)
def Nc(K:Nat)(v0 v1:EV)(h:Ac):R:=
 Fs 23 v0 h fun v2 h=>
 Az H5 (bin TT .lss 3) v1 (.int .i64 0) fun v6=>
 Al (B9 v6 false)
 (E2 6 v2 h fun v9=>
 Bc (Dr K v9 h) fun v10 h=>
 Az Tq (bin TT .geq 3) v1 v10 fun v11=>
 Kg K v1 v2 v6 v11 h)
 (Kg K v1 v2 v6 (.tuple []) h)
theorem Qc(H:Bp disp)(hd:2<=d)(v0 v1:EV)(h:Ac):Af TT disp K d false 76 [v0,v1] h=Nc K v0 v1 h:=
 Ek (H.bare (by kernel_rfl)) hd (by kernel_rfl) (fun d hd=>(W1 (Gd H (lq hd rfl)) rfl)) (fun d c r=>rfl) (fun d c r=>by kernel_rfl)
def K8(K:Nat)(v10 v13:EV)(h:Ac):R:=
 Ca v10 v13 (.bool false) fun v14=>
 some (v14,h)
def Ew(K:Nat)(v0 v1 v2:EV)(h:Ac):R:=
 Az Tq (bin TT .geq 3) v0 v1 fun v9=>
 Al (B9 v9 true)
 (Az S2 (bin TT .leq 3) v0 v2 fun v13=>
 K8 K v9 v13 h)
 (K8 K v9 (.tuple []) h)
theorem Wb(H:Bp disp)(hd:1<=d)(v0 v1 v2:EV)(h:Ac):Af TT disp K d false 83 [v0,v1,v2] h=Ew K v0 v1 v2 h:=
 Ek (H.bare (by kernel_rfl)) hd (by kernel_rfl) (fun d hd=>rfl) (fun d c r=>rfl) (fun d c r=>by kernel_rfl)
def G9(K:Nat)(v11 v14:EV)(h:Ac):R:=
 Ca v11 v14 (.bool false) fun v15=>
 some (v15,h)
def Ha(K:Nat)(v1 v6 v9:EV)(h:Ac):R:=
 Ca v6 v9 (.bool false) fun v10=>
 Al (B9 v10 true)
 (A6 1 v1 fun v12=>
 A5 v12 h fun v13=>
 Az S2 (bin TT .leq 3) v13 (.int .i64 4) fun v14=>
 G9 K v10 v14 h)
 (G9 K v10 (.tuple []) h)
def E7(K:Nat)(v0:EV)(h:Ac):R:=
 Fs 32 v0 h fun v1 h=>
 A6 0 v1 fun v3=>
 A5 v3 h fun v4=>
 Az Tq (bin TT .geq 3) v4 (.int .i64 0) fun v5=>
 Al (B9 v5 true)
 (A6 1 v1 fun v7=>
 A5 v7 h fun v8=>
 Az Tq (bin TT .geq 3) v8 (.int .i64 1) fun v9=>
 Ha K v1 v5 v9 h)
 (Ha K v1 v5 (.tuple []) h)
theorem Qo(H:Bp disp)(hd:1<=d)(v0:EV)(h:Ac):Af TT disp K d false 104 [v0] h=E7 K v0 h:=
 Ek (H.bare (by kernel_rfl)) hd (by kernel_rfl) (fun d hd=>rfl) (fun d c r=>rfl) (fun d c r=>by kernel_rfl)
def Ej(K:Nat)(v4:EV)(h:Ac):R:=
 some (v4,h)
def Gf(K:Nat)(ih1_:EV->EV->EV->EV->Ac->R)(v1 v4 v13 v14:EV)(h:Ac):R:=
 Az He (bin TT .add 3) v14 (.int .i64 1) fun v26=>
 ih1_ v1 v4 v13 v26 h
def Gi(K:Nat)(ih1_:EV->EV->EV->EV->Ac->R)(v1 v4 v13 v14:EV)(h:Ac):R:=
 A6 2 v1 fun v19=>
 A5 v19 h fun v20=>
 Rj (bin TT .quo 3) v14 (.int .i64 32) fun v22=>
 Az He (bin TT .add 3) v20 v22 fun v23=>
 Vi .u8 v23 fun v24=>
 M7 1 v4 v14 fun v25=>
 Zk 1 v25 v24 h fun h=>
 Gf K ih1_ v1 v4 v13 v14 h
def Bm(K:Nat):Nat->EV->EV->EV->EV->Ac->R
 | 0=>fun _ _ _ _ _=>none
 | m+1=>fun v1 v4 v13 v14 h=>
  Az H5 (bin TT .lss 3) v14 v13 fun v15=>
  Fz v15
  (Gi K (Bm K m) v1 v4 v13 v14 h)
  (Ej K v4 h)
def Dv(K:Nat)(v0:EV)(h:Ac):R:=
 Fs 95 v0 h fun v1 h=>
 A6 3 v1 fun v6=>
 A5 v6 h fun v7=>
 Bc (builtin TT .min #[3,3] [v7,(.int .i64 1000)] h) fun v8 h=>
 Bc (builtin TT .max #[3,3] [v8,(.int .i64 0)] h) fun v9 h=>
 Bc (I2 [(.int .u8 0)] 5 v9 v9 h) fun v11 h=>
 J0 v11 fun v13=>
 Bm K K v1 v11 v13 (.int .i64 0) h
abbrev L5(K:Nat)(c:Ae):Ae:=c
theorem J6(c c' r:Ae)(K:Nat)(m:Nat):Jv (fun ih=>H4 TT (L5 K c) c' r K (nOf TT 114) (Hc TT 114) (V7 TT 114 [true,true,true,false,true,false]) [(0,fun ρ h=>Ej K (ρ 4) h)] ih) m=fun ρ h=>Bm K m (ρ 1) (ρ 4) (ρ 13) (ρ 14) h:=
 Fb (E:=fun m ρ h=>Bm K m (ρ 1) (ρ 4) (ρ 13) (ρ 14) h) rfl (fun m=>V4 fun ρ h=>by
  show _=Bm K (m+1) (ρ 1) (ρ 4) (ρ 13) (ρ 14) h
  rw[Bm];kernel_rfl) m
theorem Kp(H:Bp disp)(hd:1<=d)(v0:EV)(h:Ac):Af TT disp K d false 114 [v0] h=Dv K v0 h:=
 Ek (H.bare (by kernel_rfl)) hd (by kernel_rfl) (fun d hd=>rfl) (fun d c r=>(cut [true,true,true,false,true,false] (J6 (Af TT disp K d false) c r K K) (by kernel_rfl) (by kernel_rfl) rfl)) (fun d c r=>by kernel_rfl)
def Eb(K:Nat)(v0:EV)(h:Ac):R:=
 Ce v0 fun v3=>
 A6 7 v3 fun v4=>
 Zk 1 v4 .Bj h fun h=>
 some (.tuple [],h)
theorem Gk(H:Bp disp)(hd:1<=d)(v0:EV)(h:Ac):Af TT disp K d false 120 [v0] h=Eb K v0 h:=
 Ek (H.bare (by kernel_rfl)) hd (by kernel_rfl) (fun d hd=>rfl) (fun d c r=>rfl) (fun d c r=>by kernel_rfl)
def Cq(K:Nat)(v0:EV)(h:Ac):R:=
 Ce v0 fun v4=>
 A6 0 v4 fun v5=>
 A5 v5 h fun v6=>
 Bc (Abx v6 h) fun v7 h=>
 some (v7,h)
theorem G6(H:Bp disp)(hd:1<=d)(v0:EV)(h:Ac):Af TT disp K d false 122 [v0] h=Cq K v0 h:=
 Ek (H.bare (by kernel_rfl)) hd (by kernel_rfl) (fun d hd=>rfl) (fun d c r=>rfl) (fun d c r=>by kernel_rfl)
def Sq(K:Nat)(v0 v1:EV)(h:Ac):R:=
 Ce v0 fun v17=>
 A6 6 v17 fun v18=>
 A5 v18 h fun v19=>
 M7 1 v19 v1 fun v21=>
 A5 v21 h fun v22=>
 Bc (Cq K v22 h) fun v23 h=>
 some (v23,h)
def K4(K:Nat)(v0 v1 v7 v14:EV)(h:Ac):R:=
 Ca v7 (.bool true) v14 fun v15=>
 Fz v15
 (some ((.int .i64 0),h))
 (Sq K v0 v1 h)
def J4(K:Nat)(v0 v1:EV)(h:Ac):R:=
 Az H5 (bin TT .lss 3) v1 (.int .i64 0) fun v6=>
 Al (B9 v6 false)
 (Ce v0 fun v10=>
 A6 6 v10 fun v11=>
 A5 v11 h fun v12=>
 J0 v12 fun v13=>
 Az Tq (bin TT .geq 3) v1 v13 fun v14=>
 K4 K v0 v1 v6 v14 h)
 (K4 K v0 v1 v6 (.tuple []) h)
theorem Re(H:Bp disp)(hd:2<=d)(v0 v1:EV)(h:Ac):Af TT disp K d false 123 [v0,v1] h=J4 K v0 v1 h:=
 Ek (H.bare (by kernel_rfl)) hd (by kernel_rfl) (fun d hd=>(W1 (G6 H (lq hd rfl)) rfl)) (fun d c r=>rfl) (fun d c r=>by kernel_rfl)
def Jo(K:Nat)(v5:EV)(h:Ac):R:=
 some (v5,h)
def Jz(K:Nat)(ih1_:EV->EV->EV->EV->EV->EV->Ac->R)(v0 v1 v5 v11 v12 v13:EV)(h:Ac):R:=
 Az He (bin TT .add 3) v13 (.int .i64 1) fun v39=>
 ih1_ v0 v1 v5 v11 v12 v39 h
def Ju(K:Nat)(ih1_:EV->EV->EV->EV->EV->EV->Ac->R)(base:Nat)(s:DX)(v0 v1 v5 v6 v11 v12 v13 v21 v36:EV)(h:Ac):R:=
 Ca v21 v36 (.bool false) fun v37=>
 Fz v37
 (Jz K ih1_ v0 v1 v6 v11 v12 v13 h)
 (Jz K ih1_ v0 v1 v5 v11 v12 v13 h)
def Jm(K:Nat)(ih1_:EV->EV->EV->EV->EV->EV->Ac->R)(base:Nat)(s:DX)(v0 v1 v5 v6 v11 v12 v13 v21 v24 v35:EV)(h:Ac):R:=
 Al (B9 v21 true)
 (Ca v24 (.bool true) v35 fun v36=>
 Ju K ih1_ base s v0 v1 v5 v6 v11 v12 v13 v21 v36 h)
 (Ju K ih1_ base s v0 v1 v5 v6 v11 v12 v13 v21 (.tuple []) h)
def Jj(K:Nat)(ih1_:EV->EV->EV->EV->EV->EV->Ac->R)(base:Nat)(s:DX)(v0 v1 v5 v6 v7 v11 v12 v13 v21 v24:EV)(h:Ac):R:=
 Al (B9 v24 false)
 (C0 8 255 s h (fun h=>(Cq K v7 h)) fun v26 h s=>
 Ce v0 fun v28=>
 A6 6 v28 fun v29=>
 B2 12 3711 base v29 s fun s=>A5 v29 h fun v30=>
 M7 1 v30 v5 fun v32=>
 B2 15 32383 base v32 s fun s=>A5 v32 h fun v33=>
 C0 16 65535 s h (fun h=>(Cq K v33 h)) fun v34 h s=>
 Az Oe (bin TT .gtr 3) v26 v34 fun v35=>
 Jm K ih1_ base s v0 v1 v5 v6 v11 v12 v13 v21 v24 v35 h)
 (Jm K ih1_ base s v0 v1 v5 v6 v11 v12 v13 v21 v24 (.tuple []) h)
def P3(K:Nat)(ih1_:EV->EV->EV->EV->EV->EV->Ac->R)(v0 v1 v5 v11 v12 v13:EV)(h:Ac):R:=
 M7 1 v11 v13 fun v16=>
 A5 v16 h fun v17=>
 Hw h fun base s=>
 Az Mv (bin TT .neq 3) v13 v1 fun v20=>
 Al (B9 v20 true)
 (Az H5 (bin TT .lss 3) v5 (.int .i64 0) fun v23=>
 Jj K ih1_ base s v0 v1 v5 v13 v17 v11 v12 v13 v20 v23 h)
 (Jj K ih1_ base s v0 v1 v5 v13 v17 v11 v12 v13 v20 (.tuple []) h)
def C2(K:Nat):Nat->EV->EV->EV->EV->EV->EV->Ac->R
 | 0=>fun _ _ _ _ _ _ _=>none
 | m+1=>fun v0 v1 v5 v11 v12 v13 h=>
  Az H5 (bin TT .lss 3) v13 v12 fun v14=>
  Fz v14
  (P3 K (C2 K m) v0 v1 v5 v11 v12 v13 h)
  (Jo K v5 h)
def H9(K:Nat)(v0 v1:EV)(h:Ac):R:=
 Ce v0 fun v9=>
 A6 6 v9 fun v10=>
 A5 v10 h fun v11=>
 J0 v11 fun v12=>
 C2 K K v0 v1 (.int .i64 (-1)) v11 v12 (.int .i64 0) h
abbrev Rq(K:Nat)(c:Ae):Ae:=(w1 122 (Cq K) c)
theorem Nq(c c' r:Ae)(K:Nat)(m:Nat):Jv (fun ih=>H4 TT (Rq K c) c' r K (nOf TT 124) (Hc TT 124) (V7 TT 124 [true,true,false,true,false]) [(0,fun ρ h=>Jo K (ρ 5) h)] ih) m=fun ρ h=>C2 K m (ρ 0) (ρ 1) (ρ 5) (ρ 11) (ρ 12) (ρ 13) h:=
 Fb (E:=fun m ρ h=>C2 K m (ρ 0) (ρ 1) (ρ 5) (ρ 11) (ρ 12) (ρ 13) h) rfl (fun m=>V4 fun ρ h=>by
  show _=C2 K (m+1) (ρ 0) (ρ 1) (ρ 5) (ρ 11) (ρ 12) (ρ 13) h
  rw[C2];kernel_rfl) m
theorem O9(H:Bp disp)(hd:2<=d)(v0 v1:EV)(h:Ac):Af TT disp K d false 124 [v0,v1] h=H9 K v0 v1 h:=
 Ek (H.bare (by kernel_rfl)) hd (by kernel_rfl) (fun d hd=>(W1 (G6 H (lq hd rfl)) rfl)) (fun d c r=>(cut [true,true,false,true,false] (Nq (Af TT disp K d false) c r K K) (by kernel_rfl) (by kernel_rfl) rfl)) (fun d c r=>by kernel_rfl)
def El(K:Nat)(v3:EV)(h:Ac):R:=
 some (v3,h)
def G0(K:Nat)(ih1_:EV->EV->EV->Ac->R)(v1 v3 v4:EV)(h:Ac):R:=
 Az He (bin TT .add 3) v4 (.int .i64 2) fun v10=>
 ih1_ v1 v3 v10 h
def G5(K:Nat)(ih1_:EV->EV->EV->Ac->R)(v1 v3 v4:EV)(h:Ac):R:=
 Az He (bin TT .add 3) v3 (.int .i64 1) fun v12=>
 G0 K ih1_ v1 v12 v4 h
def Bo(K:Nat):Nat->EV->EV->EV->Ac->R
 | 0=>fun _ _ _ _=>none
 | m+1=>fun v1 v3 v4 h=>
  A6 3 v1 fun v6=>
  A5 v6 h fun v7=>
  Az H5 (bin TT .lss 3) v4 v7 fun v8=>
  Fz v8
  (G5 K (Bo K m) v1 v3 v4 h)
  (El K v3 h)
def D3(K:Nat)(v0:EV)(h:Ac):R:=
 Fs 114 v0 h fun v1 h=>
 Bo K K v1 (.int .i64 1) (.int .i64 0) h
abbrev Mu(K:Nat)(c:Ae):Ae:=c
theorem Kv(c c' r:Ae)(K:Nat)(m:Nat):Jv (fun ih=>H4 TT (Mu K c) c' r K (nOf TT 129) (Hc TT 129) (V7 TT 129 [true,true,false,true,false]) [(0,fun ρ h=>El K (ρ 3) h)] ih) m=fun ρ h=>Bo K m (ρ 1) (ρ 3) (ρ 4) h:=
 Fb (E:=fun m ρ h=>Bo K m (ρ 1) (ρ 3) (ρ 4) h) rfl (fun m=>V4 fun ρ h=>by
  show _=Bo K (m+1) (ρ 1) (ρ 3) (ρ 4) h
  rw[Bo];kernel_rfl) m
theorem La(H:Bp disp)(hd:1<=d)(v0:EV)(h:Ac):Af TT disp K d false 129 [v0] h=D3 K v0 h:=
 Ek (H.bare (by kernel_rfl)) hd (by kernel_rfl) (fun d hd=>rfl) (fun d c r=>(cut [true,true,false,true,false] (Kv (Af TT disp K d false) c r K K) (by kernel_rfl) (by kernel_rfl) rfl)) (fun d c r=>by kernel_rfl)
def F7(K:Nat)(v0:EV)(h:Ac):R:=
 Ce v0 fun v4=>
 A6 0 v4 fun v5=>
 A5 v5 h fun v6=>
 J0 v6 fun v7=>
 some (v7,h)
theorem O7(H:Bp disp)(hd:1<=d)(v0:EV)(h:Ac):Af TT disp K d false 132 [v0] h=F7 K v0 h:=
 Ek (H.bare (by kernel_rfl)) hd (by kernel_rfl) (fun d hd=>rfl) (fun d c r=>rfl) (fun d c r=>by kernel_rfl)
def Gy(K:Nat)(v0:EV)(h:Ac):R:=
 Ce v0 fun v4=>
 A6 1 v4 fun v5=>
 A5 v5 h fun v6=>
 some (v6,h)
theorem Qd(H:Bp disp)(hd:1<=d)(v0:EV)(h:Ac):Af TT disp K d false 133 [v0] h=Gy K v0 h:=
 Ek (H.bare (by kernel_rfl)) hd (by kernel_rfl) (fun d hd=>rfl) (fun d c r=>rfl) (fun d c r=>by kernel_rfl)
def H7(K:Nat)(v7 v10:EV)(h:Ac):R:=
 Ca v7 v10 (.bool false) fun v11=>
 some (v11,h)
def Hv(K:Nat)(v0 v1:EV)(h:Ac):R:=
 Az Tq (bin TT .geq 3) v0 (.int .i64 1) fun v6=>
 Al (B9 v6 true)
 (Az S2 (bin TT .leq 3) v0 v1 fun v10=>
 H7 K v6 v10 h)
 (H7 K v6 (.tuple []) h)
theorem Wa(H:Bp disp)(hd:1<=d)(v0 v1:EV)(h:Ac):Af TT disp K d false 154 [v0,v1] h=Hv K v0 v1 h:=
 Ek (H.bare (by kernel_rfl)) hd (by kernel_rfl) (fun d hd=>rfl) (fun d c r=>rfl) (fun d c r=>by kernel_rfl)
def Hb(K:Nat)(v0:EV)(h:Ac):R:=
 En (Iu [(0,1),(1,1),(2,1),(3,1),(4,1)]) [.Ab,(.int .i64 0),(.int .i64 0),(.int .i64 0),(.bool false)] [(1,v0)] fun v11=>
 Fs 277 v11 h fun v12 h=>
 some (.tuple [v12,(.int .i64 0)],h)
def E0(K:Nat)(v0 v6 v8:EV)(h:Ac):R:=
 Ca v6 (.bool true) v8 fun v9=>
 Fz v9
 (some (.tuple [.Bj,(.int .i64 13)],h))
 (Hb K v0 h)
def Df(K:Nat)(v0:EV)(h:Ac):R:=
 Az H5 (bin TT .lss 3) v0 (.int .i64 1) fun v5=>
 Al (B9 v5 false)
 (Az Oe (bin TT .gtr 3) v0 (.int .i64 64) fun v8=>
 E0 K v0 v5 v8 h)
 (E0 K v0 v5 (.tuple []) h)
theorem Lx(H:Bp disp)(hd:1<=d)(v0:EV)(h:Ac):Af TT disp K d false 155 [v0] h=Df K v0 h:=
 Ek (H.bare (by kernel_rfl)) hd (by kernel_rfl) (fun d hd=>rfl) (fun d c r=>rfl) (fun d c r=>by kernel_rfl)
def Jt(K:Nat)(v22 v31:EV)(h:Ac):R:=
 Ca v22 v31 (.bool false) fun v32=>
 some (v32,h)
def Jl(K:Nat)(v0 v1 v2 v13 v20:EV)(h:Ac):R:=
 Ca v13 v20 (.bool false) fun v21=>
 Al (B9 v21 true)
 (Ce v0 fun v25=>
 A6 1 v25 fun v26=>
 A6 3 v26 fun v27=>
 A5 v27 h fun v28=>
 Az Km (bin TT .sub 3) v28 v2 fun v30=>
 Az S2 (bin TT .leq 3) v1 v30 fun v31=>
 Jt K v21 v31 h)
 (Jt K v21 (.tuple []) h)
def Jx(K:Nat)(v0 v1 v2 v9 v11:EV)(h:Ac):R:=
 Ca v9 v11 (.bool false) fun v12=>
 Al (B9 v12 true)
 (Ce v0 fun v16=>
 A6 1 v16 fun v17=>
 A6 3 v17 fun v18=>
 A5 v18 h fun v19=>
 Az S2 (bin TT .leq 3) v2 v19 fun v20=>
 Jl K v0 v1 v2 v12 v20 h)
 (Jl K v0 v1 v2 v12 (.tuple []) h)
def Ga(K:Nat)(v0 v1 v2:EV)(h:Ac):R:=
 Az Tq (bin TT .geq 3) v1 (.int .i64 0) fun v8=>
 Al (B9 v8 true)
 (Az Tq (bin TT .geq 3) v2 (.int .i64 1) fun v11=>
 Jx K v0 v1 v2 v8 v11 h)
 (Jx K v0 v1 v2 v8 (.tuple []) h)
theorem Is(H:Bp disp)(hd:1<=d)(v0 v1 v2:EV)(h:Ac):Af TT disp K d false 181 [v0,v1,v2] h=Ga K v0 v1 v2 h:=
 Ek (H.bare (by kernel_rfl)) hd (by kernel_rfl) (fun d hd=>rfl) (fun d c r=>rfl) (fun d c r=>by kernel_rfl)
def Kk(K:Nat)(v1:EV)(h:Ac):R:=
 some (v1,h)
def Cs(K:Nat)(v0 v1:EV)(h:Ac):R:=
 Az G7 (bin TT .eql 35) v1 (.int .i64 34) fun v6=>
 Fz v6
 (Bc (Eb K v0 h) fun v8 h=>
 Kk K v1 h)
 (Kk K v1 h)
theorem Cj(H:Bp disp)(hd:2<=d)(v0 v1:EV)(h:Ac):Af TT disp K d false 182 [v0,v1] h=Cs K v0 v1 h:=
 Ek (H.bare (by kernel_rfl)) hd (by kernel_rfl) (fun d hd=>(W1 (Gk H (lq hd rfl)) rfl)) (fun d c r=>rfl) (fun d c r=>by kernel_rfl)
def O1(K:Nat)(v5:EV)(h:Ac):R:=
 some (v5,h)
def V8(K:Nat)(ih1_:EV->EV->EV->EV->Ac->R)(v0 v1 v5 v6:EV)(h:Ac):R:=
 Az He (bin TT .add 3) v6 (.int .i64 32) fun v12=>
 ih1_ v0 v1 v5 v12 h
def V5(K:Nat)(ih1_:EV->EV->EV->EV->Ac->R)(v0 v1 v5 v6:EV)(h:Ac):R:=
 J0 v5 fun v16=>
 Az He (bin TT .add 3) v0 v16 fun v17=>
 Az He (bin TT .add 3) v6 (.int .i64 32) fun v21=>
 Ail 1 v1 (some v6) (some v21) none fun v22=>
 Vu 32 v22 fun v23=>
 E2 32 v23 h fun v24=>
 En (Iu [(0,1),(1,32)]) ([(.int .i64 0)]++List.replicate 32 (.int .u8 0)) [(0,v17),(1,v24)] fun v25=>
 Bc (D8 ([(.int .i64 0)]++List.replicate 32 (.int .u8 0)) 112 33 1 [(0,v25)] h) fun v26 h=>
 Bc (Fo 112 33 v5 v26 h) fun v27 h=>
 V8 K ih1_ v0 v1 v27 v6 h
def Er(K:Nat):Nat->EV->EV->EV->EV->Ac->R
 | 0=>fun _ _ _ _ _=>none
 | m+1=>fun v0 v1 v5 v6 h=>
  J0 v1 fun v9=>
  Az H5 (bin TT .lss 3) v6 v9 fun v10=>
  Fz v10
  (V5 K (Er K m) v0 v1 v5 v6 h)
  (O1 K v5 h)
def Tp(K:Nat)(v0 v1:EV)(h:Ac):R:=
 Er K K v0 v1 .Ab (.int .i64 0) h
abbrev Xd(K:Nat)(c:Ae):Ae:=c
theorem T1(c c' r:Ae)(K:Nat)(m:Nat):Jv (fun ih=>H4 TT (Xd K c) c' r K (nOf TT 183) (Hc TT 183) (V7 TT 183 [true,true,false,true,false]) [(0,fun ρ h=>O1 K (ρ 5) h)] ih) m=fun ρ h=>Er K m (ρ 0) (ρ 1) (ρ 5) (ρ 6) h:=
 Fb (E:=fun m ρ h=>Er K m (ρ 0) (ρ 1) (ρ 5) (ρ 6) h) rfl (fun m=>V4 fun ρ h=>by
  show _=Er K (m+1) (ρ 0) (ρ 1) (ρ 5) (ρ 6) h
  rw[Er];kernel_rfl) m
theorem Us(H:Bp disp)(hd:1<=d)(v0 v1:EV)(h:Ac):Af TT disp K d false 183 [v0,v1] h=Tp K v0 v1 h:=
 Ek (H.bare (by kernel_rfl)) hd (by kernel_rfl) (fun d hd=>rfl) (fun d c r=>(cut [true,true,false,true,false] (T1 (Af TT disp K d false) c r K K) (by kernel_rfl) (by kernel_rfl) rfl)) (fun d c r=>by kernel_rfl)
def F8(K:Nat)(v0:EV)(h:Ac):R:=
 Fs 23 v0 h fun v1 h=>
 A6 0 v1 fun v3=>
 A5 v3 h fun v4=>
 A6 4 v1 fun v5=>
 A5 v5 h fun v6=>
 Az N2 (bin TT .mul 3) v4 v6 fun v7=>
 Az He (bin TT .add 3) v7 (.int .i64 4) fun v8=>
 some (v8,h)
theorem O5(H:Bp disp)(hd:1<=d)(v0:EV)(h:Ac):Af TT disp K d false 184 [v0] h=F8 K v0 h:=
 Ek (H.bare (by kernel_rfl)) hd (by kernel_rfl) (fun d hd=>rfl) (fun d c r=>rfl) (fun d c r=>by kernel_rfl)
def Im(K:Nat)(v0:EV)(h:Ac):R:=
 Rj (bin TT .quo 3) v0 (.int .i64 2) fun v10=>
 some (v10,h)
def E4(K:Nat)(v0:EV)(h:Ac):R:=
 Az H5 (bin TT .lss 3) v0 (.int .i64 0) fun v4=>
 Fz v4
 (Az Km (bin TT .sub 3) (.int .i64 1) v0 fun v6=>
 Rj (bin TT .quo 3) v6 (.int .i64 2) fun v7=>
 Abh v7 fun v8=>
 some (v8,h))
 (Im K v0 h)
theorem Nf(H:Bp disp)(hd:1<=d)(v0:EV)(h:Ac):Af TT disp K d false 188 [v0] h=E4 K v0 h:=
 Ek (H.bare (by kernel_rfl)) hd (by kernel_rfl) (fun d hd=>rfl) (fun d c r=>rfl) (fun d c r=>by kernel_rfl)
def T7(K:Nat)(v0:EV)(h:Ac):R:=
 Bc (Q0 v0 h) fun v11 h=>
 En (Iu [(0,1)]) [.Kn] [(0,v11)] fun v12=>
 Fs 266 v12 h fun v13 h=>
 some (.tuple [v13,(.int .i64 0)],h)
def Ou(K:Nat)(v0 v6 v8:EV)(h:Ac):R:=
 Ca v6 (.bool true) v8 fun v9=>
 Fz v9
 (some (.tuple [.Bj,(.int .i64 13)],h))
 (T7 K v0 h)
def Nh(K:Nat)(v0:EV)(h:Ac):R:=
 Az H5 (bin TT .lss 3) v0 (.int .i64 1) fun v5=>
 Al (B9 v5 false)
 (Az Oe (bin TT .gtr 3) v0 (.int .i64 4096) fun v8=>
 Ou K v0 v5 v8 h)
 (Ou K v0 v5 (.tuple []) h)
theorem Y2(H:Bp disp)(hd:1<=d)(v0:EV)(h:Ac):Af TT disp K d false 189 [v0] h=Nh K v0 h:=
 Ek (H.bare (by kernel_rfl)) hd (by kernel_rfl) (fun d hd=>rfl) (fun d c r=>rfl) (fun d c r=>by kernel_rfl)
def Ch(K:Nat)(v26 v29:EV)(h:Ac):R:=
 Ca v26 v29 (.bool false) fun v30=>
 some (v30,h)
def Cg(K:Nat)(v1 v21 v24:EV)(h:Ac):R:=
 Ca v21 v24 (.bool false) fun v25=>
 Al (B9 v25 true)
 (A6 5 v1 fun v27=>
 A5 v27 h fun v28=>
 Bc (Ew K v28 (.int .i64 4) (.int .i64 64) h) fun v29 h=>
 Ch K v25 v29 h)
 (Ch K v25 (.tuple []) h)
def Cn(K:Nat)(v1 v16 v19:EV)(h:Ac):R:=
 Ca v16 v19 (.bool false) fun v20=>
 Al (B9 v20 true)
 (A6 4 v1 fun v22=>
 A5 v22 h fun v23=>
 Bc (Ew K v23 (.int .i64 0) (.int .i64 4) h) fun v24 h=>
 Cg K v1 v20 v24 h)
 (Cg K v1 v20 (.tuple []) h)
def Cp(K:Nat)(v1 v11 v14:EV)(h:Ac):R:=
 Ca v11 v14 (.bool false) fun v15=>
 Al (B9 v15 true)
 (A6 3 v1 fun v17=>
 A5 v17 h fun v18=>
 Bc (Ew K v18 (.int .i64 1) (.int .i64 256) h) fun v19 h=>
 Cn K v1 v15 v19 h)
 (Cn K v1 v15 (.tuple []) h)
def Co(K:Nat)(v1 v6 v9:EV)(h:Ac):R:=
 Ca v6 v9 (.bool false) fun v10=>
 Al (B9 v10 true)
 (A6 2 v1 fun v12=>
 A5 v12 h fun v13=>
 Bc (Ew K v13 (.int .i64 4) (.int .i64 64) h) fun v14 h=>
 Cp K v1 v10 v14 h)
 (Cp K v1 v10 (.tuple []) h)
def Hi(K:Nat)(v0:EV)(h:Ac):R:=
 Fs 23 v0 h fun v1 h=>
 A6 0 v1 fun v3=>
 A5 v3 h fun v4=>
 Bc (Ew K v4 (.int .i64 3) (.int .i64 8) h) fun v5 h=>
 Al (B9 v5 true)
 (A6 1 v1 fun v7=>
 A5 v7 h fun v8=>
 Bc (Ew K v8 (.int .i64 1) (.int .i64 64) h) fun v9 h=>
 Co K v1 v5 v9 h)
 (Co K v1 v5 (.tuple []) h)
theorem Rg(H:Bp disp)(hd:2<=d)(v0:EV)(h:Ac):Af TT disp K d false 190 [v0] h=Hi K v0 h:=
 Ek (H.bare (by kernel_rfl)) hd (by kernel_rfl) (fun d hd=>(W3 (Wb H (lq hd rfl)) rfl)) (fun d c r=>rfl) (fun d c r=>by kernel_rfl)
def Hl(K:Nat)(v0:EV)(h:Ac):R:=
 Fs 23 v0 h fun v1 h=>
 A6 3 v1 fun v3=>
 A5 v3 h fun v4=>
 Az He (bin TT .add 3) v4 (.int .i64 2) fun v5=>
 Az Km (bin TT .sub 3) v5 (.int .i64 1) fun v6=>
 Rj (bin TT .quo 3) v6 (.int .i64 2) fun v7=>
 Az He (bin TT .add 3) (.int .i64 1) v7 fun v8=>
 some (v8,h)
theorem Rf(H:Bp disp)(hd:1<=d)(v0:EV)(h:Ac):Af TT disp K d false 191 [v0] h=Hl K v0 h:=
 Ek (H.bare (by kernel_rfl)) hd (by kernel_rfl) (fun d hd=>rfl) (fun d c r=>rfl) (fun d c r=>by kernel_rfl)
def Fp(K:Nat)(v0:EV)(h:Ac):R:=
 Fs 23 v0 h fun v1 h=>
 Hw h fun base s=>
 A6 1 v1 fun v6=>
 B2 1 1 base v6 s fun s=>A5 v6 h fun v7=>
 A6 4 v1 fun v8=>
 B2 3 4 base v8 s fun s=>A5 v8 h fun v9=>
 Az Km (bin TT .sub 3) v7 v9 fun v10=>
 Az Km (bin TT .sub 3) v10 (.int .i64 2) fun v11=>
 B2 6 0 base v1 s fun s=>E2 6 v1 h fun v12=>
 C0 7 64 s h (fun h=>(F8 K v12 h)) fun v13 h s=>
 A6 0 v1 fun v14=>
 A5 v14 h fun v15=>
 Az Km (bin TT .sub 3) v15 (.int .i64 1) fun v16=>
 Az N2 (bin TT .mul 3) v16 v11 fun v18=>
 Az Km (bin TT .sub 3) v18 v13 fun v20=>
 Az He (bin TT .add 3) v20 (.int .i64 1) fun v21=>
 A6 0 v1 fun v22=>
 A5 v22 h fun v23=>
 Az N2 (bin TT .mul 3) v23 v11 fun v25=>
 Az N2 (bin TT .mul 3) (.int .i64 2) v13 fun v27=>
 Az Km (bin TT .sub 3) v25 v27 fun v28=>
 Az He (bin TT .add 3) v28 (.int .i64 1) fun v29=>
 Bc (builtin TT .min #[3,3] [v21,v29] h) fun v30 h=>
 Rj (bin TT .shr 3) v30 (.int .u64 1) fun v32=>
 Az Km (bin TT .sub 3) v32 (.int .i64 1) fun v33=>
 A6 0 v1 fun v34=>
 A5 v34 h fun v35=>
 A6 4 v1 fun v36=>
 A5 v36 h fun v37=>
 Az N2 (bin TT .mul 3) v35 v37 fun v38=>
 Az Km (bin TT .sub 3) v33 v38 fun v39=>
 some (v39,h)
theorem Of(H:Bp disp)(hd:2<=d)(v0:EV)(h:Ac):Af TT disp K d false 192 [v0] h=Fp K v0 h:=
 Ek (H.bare (by kernel_rfl)) hd (by kernel_rfl) (fun d hd=>(W1 (O5 H (lq hd rfl)) rfl)) (fun d c r=>rfl) (fun d c r=>by kernel_rfl)
def Jp(K:Nat)(v12 v20:EV)(h:Ac):R:=
 Ca v12 v20 (.bool false) fun v21=>
 some (v21,h)
def Ij(K:Nat)(v0 v1:EV)(h:Ac):R:=
 Ce v0 fun v6=>
 A6 1 v6 fun v7=>
 E2 6 v7 h fun v8=>
 Bc (Nc K v8 v1 h) fun v10 h=>
 Az Tq (bin TT .geq 3) v10 (.int .i64 0) fun v11=>
 Al (B9 v11 true)
 (Ce v0 fun v14=>
 A6 264 v14 fun v15=>
 A5 v15 h fun v16=>
 M7 1 v16 v1 fun v18=>
 A5 v18 h fun v19=>
 Az G7 (bin TT .eql 3) v19 (.int .i64 1) fun v20=>
 Jp K v11 v20 h)
 (Jp K v11 (.tuple []) h)
theorem Pe(H:Bp disp)(hd:3<=d)(v0 v1:EV)(h:Ac):Af TT disp K d false 16 [v0,v1] h=Ij K v0 v1 h:=
 Ek (H.bare (by kernel_rfl)) hd (by kernel_rfl) (fun d hd=>(W2 (Qc H (lq hd rfl)) rfl)) (fun d c r=>rfl) (fun d c r=>by kernel_rfl)
def Hp(c r:Ae)(K:Nat)(v0 v3 v5:EV)(h:Ac):R:=
 Hw h fun base s=>
 Ce v0 fun v42=>
 A6 1 v42 fun v43=>
 B2 4 14 base v43 s fun s=>A5 v43 h fun v44=>
 B2 6 0 base v3 s fun s=>E2 68 v3 h fun v46=>
 Y3 7 h s fun s=>Bc (D8 (List.replicate 4 (.int .i64 0)++List.replicate 64 (.int .u8 0)) 32 68 1 [(0,v46)] h) fun v47 h=>
 C0 8 254 s h (fun h=>(c 105 [v44,v5,v47] h)) fun v48 h s=>
 Ce v0 fun v49=>
 A6 1 v49 fun v50=>
 Aap 11 2047 v50 s fun s=>Zk 1 v50 v48 h fun h=>
 some ((.int .i64 0),h)
def Sy(c r:Ae)(K:Nat)(ih1_:EV->EV->EV->Ac->R)(v0 v3 v5:EV)(h:Ac):R:=
 Az Km (bin TT .sub 3) v5 (.int .i64 1) fun v39=>
 ih1_ v0 v3 v39 h
def Hq(c r:Ae)(K:Nat)(ih1_:EV->EV->EV->Ac->R)(v0 v3 v5 v24 v36:EV)(h:Ac):R:=
 Ca v24 v36 (.bool false) fun v37=>
 Fz v37
 (Sy c r K ih1_ v0 v3 v5 h)
 (Hp c r K v0 v3 v5 h)
def Ci(c r:Ae)(K:Nat):Nat->EV->EV->EV->Ac->R
 | 0=>fun _ _ _ _=>none
 | m+1=>fun v0 v3 v5 h=>
  Az Oe (bin TT .gtr 3) v5 (.int .i64 0) fun v23=>
  Al (B9 v23 true)
  (Ce v0 fun v26=>
  A6 1 v26 fun v27=>
  A5 v27 h fun v28=>
  Az Km (bin TT .sub 3) v5 (.int .i64 1) fun v30=>
  M7 68 v28 v30 fun v31=>
  A6 0 v31 fun v32=>
  A5 v32 h fun v33=>
  A6 0 v3 fun v34=>
  A5 v34 h fun v35=>
  Az Oe (bin TT .gtr 3) v33 v35 fun v36=>
  Hq c r K (Ci c r K m) v0 v3 v5 v23 v36 h)
  (Hq c r K (Ci c r K m) v0 v3 v5 v23 (.tuple []) h)
def Lb(c r:Ae)(K:Nat)(v0 v3:EV)(h:Ac):R:=
 Ce v0 fun v18=>
 A6 1 v18 fun v19=>
 A5 v19 h fun v20=>
 J0 v20 fun v21=>
 Ci c r K K v0 v3 v21 h
def Ox(c r:Ae)(K:Nat)(v0 v1:EV)(h:Ac):R:=
 Fs 32 v1 h fun v3 h=>
 E2 68 v3 h fun v7=>
 Bc (E7 K v7 h) fun v8 h=>
 Ta v8 fun v9=>
 Fz v9
 (some ((.int .i64 10),h))
 (Ce v0 fun v12=>
 A6 1 v12 fun v13=>
 A5 v13 h fun v14=>
 J0 v14 fun v15=>
 Az Tq (bin TT .geq 3) v15 (.int .i64 256) fun v16=>
 Fz v16
 (some ((.int .i64 17),h))
 (Lb c r K v0 v3 h))
abbrev Tn(K:Nat)(c:Ae):Ae:=(w1 104 (E7 K) c)
theorem P6(c r:Ae)(K:Nat)(m:Nat):Jv (fun ih=>H4 TT (Tn K c) c r K (nOf TT 46) (Hc TT 46) (V7 TT 46 [true,true,true,false,false]) [(1,fun ρ h=>Hp c r K (ρ 0) (ρ 3) (ρ 5) h)] ih) m=fun ρ h=>Ci c r K m (ρ 0) (ρ 3) (ρ 5) h:=
 Fb (E:=fun m ρ h=>Ci c r K m (ρ 0) (ρ 3) (ρ 5) h) rfl (fun m=>V4 fun ρ h=>by
  show _=Ci c r K (m+1) (ρ 0) (ρ 3) (ρ 5) h
  rw[Ci];kernel_rfl) m
theorem Rc(H:Bp disp)(hd:1<=d)(v0 v1:EV)(h:Ac):Af TT disp K (d+1) false 46 [v0,v1] h=Ox (Af TT disp K d false) (Af TT disp K d true) K v0 v1 h:=
 V6 (H.bare (by kernel_rfl)) (by kernel_rfl) (W1 (Qo H (lq hd rfl)) rfl) (cut [true,true,true,false,false] (P6 (Af TT disp K d false) (Af TT disp K d true) K K) (by kernel_rfl) (by kernel_rfl) rfl) (by kernel_rfl)
def Bg(c r:Ae)(K:Nat)(v6:EV)(h:Ac):R:=
 some (.tuple [.Ab,v6],h)
def Gq(c r:Ae)(K:Nat)(v0 v1:EV)(h:Ac):R:=
 Fs 95 v0 h fun v2 h=>
 A6 0 v2 fun v7=>
 A5 v7 h fun v8=>
 Az G7 (bin TT .eql 3) v8 (.int .i64 1) fun v10=>
 Fz v10
 (Bc (c 50 [v1] h) fun v12 h=>
 Bg c r K v12 h)
 (Az G7 (bin TT .eql 3) v8 (.int .i64 2) fun v14=>
 Fz v14
 (Bc (c 110 [v1] h) fun v16 h=>
 Bg c r K v16 h)
 (Az G7 (bin TT .eql 3) v8 (.int .i64 3) fun v18=>
 Fz v18
 (Bc (c 109 [v1] h) fun v20 h=>
 Bg c r K v20 h)
 (Az G7 (bin TT .eql 3) v8 (.int .i64 4) fun v22=>
 Fz v22
 (A6 1 v2 fun v24=>
 A5 v24 h fun v25=>
 A6 2 v2 fun v26=>
 A5 v26 h fun v27=>
 Bc (c 111 [v1,v25,v27] h) fun v28 h=>
 Dn 0 v28 fun v29=>
 Dn 1 v28 fun v30=>
 some (.tuple [v29,v30],h))
 (Az G7 (bin TT .eql 3) v8 (.int .i64 5) fun v32=>
 Fz v32
 (Hw h fun base s=>
 A6 1 v2 fun v34=>
 B2 2 2 base v34 s fun s=>A5 v34 h fun v35=>
 B2 3 0 base v2 s fun s=>E2 4 v2 h fun v36=>
 C0 4 8 s h (fun h=>(Dv K v36 h)) fun v37 h s=>
 C0 5 31 s h (fun h=>(c 107 [v1,v35,v37] h)) fun v38 h s=>
 Bg c r K v38 h)
 (Az G7 (bin TT .eql 3) v8 (.int .i64 6) fun v40=>
 Fz v40
 (A6 1 v2 fun v42=>
 A5 v42 h fun v43=>
 A6 2 v2 fun v44=>
 A5 v44 h fun v45=>
 Bc (c 115 [v1,v43,v45] h) fun v46 h=>
 Bg c r K v46 h)
 (Az G7 (bin TT .eql 3) v8 (.int .i64 7) fun v48=>
 Fz v48
 (Bc (c 116 [v1] h) fun v50 h=>
 Bg c r K v50 h)
 (Az G7 (bin TT .eql 3) v8 (.int .i64 8) fun v52=>
 Fz v52
 (Bc (c 117 [v1] h) fun v54 h=>
 Bg c r K v54 h)
 (Az G7 (bin TT .eql 3) v8 (.int .i64 9) fun v56=>
 Fz v56
 (Bc (c 118 [v1] h) fun v59 h=>
 Dn 0 v59 fun v60=>
 Dn 1 v59 fun v61=>
 Bg c r K v61 h)
 (Az G7 (bin TT .eql 3) v8 (.int .i64 10) fun v63=>
 Fz v63
 (Bc (c 119 [v1] h) fun v66 h=>
 Dn 0 v66 fun v67=>
 Dn 1 v66 fun v68=>
 Bg c r K v68 h)
 (Az G7 (bin TT .eql 3) v8 (.int .i64 11) fun v70=>
 Fz v70
 (Bc (Eb K v1 h) fun v72 h=>
 Bg c r K (.int .i64 0) h)
 (Bg c r K (.int .i64 0) h)))))))))))
theorem M3(H:Bp disp)(hd:1<=d)(v0 v1:EV)(h:Ac):Af TT disp K (d+1) false 51 [v0,v1] h=Gq (Af TT disp K d false) (Af TT disp K d true) K v0 v1 h:=
 V6 (H.bare (by kernel_rfl)) (by kernel_rfl) (W1 (Kp H (lq hd rfl)) (W1 (Gk H (lq hd rfl)) rfl)) rfl (by kernel_rfl)
def Ll(K:Nat)(v0 v3:EV)(h:Ac):R:=
 Rj (bin TT .quo 3) v3 (.int .i64 2) fun v21=>
 Bc (H9 K v0 (.int .i64 (-1)) h) fun v25 h=>
 Bc (J4 K v0 v25 h) fun v26 h=>
 Az Km (bin TT .sub 3) v3 v26 fun v27=>
 Bc (builtin TT .min #[3,3] [v21,v27] h) fun v28 h=>
 some (v28,h)
def Se(K:Nat)(ih1_:EV->EV->EV->EV->EV->Ac->R)(v0 v3 v9 v10 v11:EV)(h:Ac):R:=
 Az He (bin TT .add 3) v11 (.int .i64 1) fun v19=>
 ih1_ v0 v3 v9 v10 v19 h
def Sh(K:Nat)(ih1_:EV->EV->EV->EV->EV->Ac->R)(v0 v3 v9 v10 v11:EV)(h:Ac):R:=
 M7 1 v9 v11 fun v13=>
 A5 v13 h fun v14=>
 Bc (Cq K v14 h) fun v17 h=>
 Az He (bin TT .add 3) v3 v17 fun v18=>
 Se K ih1_ v0 v18 v9 v10 v11 h
def Dm(K:Nat):Nat->EV->EV->EV->EV->EV->Ac->R
 | 0=>fun _ _ _ _ _ _=>none
 | m+1=>fun v0 v3 v9 v10 v11 h=>
  Az H5 (bin TT .lss 3) v11 v10 fun v12=>
  Fz v12
  (Sh K (Dm K m) v0 v3 v9 v10 v11 h)
  (Ll K v0 v3 h)
def Ov(K:Nat)(v0:EV)(h:Ac):R:=
 Ce v0 fun v7=>
 A6 6 v7 fun v8=>
 A5 v8 h fun v9=>
 J0 v9 fun v10=>
 Dm K K v0 (.int .i64 0) v9 v10 (.int .i64 0) h
abbrev Uc(K:Nat)(c:Ae):Ae:=(w2 124 (H9 K) (w2 123 (J4 K) (w1 122 (Cq K) c)))
theorem Ql(c c' r:Ae)(K:Nat)(m:Nat):Jv (fun ih=>H4 TT (Uc K c) c' r K (nOf TT 56) (Hc TT 56) (V7 TT 56 [true,true,false,true,false]) [(0,fun ρ h=>Ll K (ρ 0) (ρ 3) h)] ih) m=fun ρ h=>Dm K m (ρ 0) (ρ 3) (ρ 9) (ρ 10) (ρ 11) h:=
 Fb (E:=fun m ρ h=>Dm K m (ρ 0) (ρ 3) (ρ 9) (ρ 10) (ρ 11) h) rfl (fun m=>V4 fun ρ h=>by
  show _=Dm K (m+1) (ρ 0) (ρ 3) (ρ 9) (ρ 10) (ρ 11) h
  rw[Dm];kernel_rfl) m
theorem Ro(H:Bp disp)(hd:3<=d)(v0:EV)(h:Ac):Af TT disp K d false 56 [v0] h=Ov K v0 h:=
 Ek (H.bare (by kernel_rfl)) hd (by kernel_rfl) (fun d hd=>(W2 (O9 H (lq hd rfl)) (W2 (Re H (lq hd rfl)) (W1 (G6 H (lq hd rfl)) rfl)))) (fun d c r=>(cut [true,true,false,true,false] (Ql (Af TT disp K d false) c r K K) (by kernel_rfl) (by kernel_rfl) rfl)) (fun d c r=>by kernel_rfl)
def P1(K:Nat)(v8:EV)(h:Ac):R:=
 some (.tuple [v8,(.int .i64 0)],h)
def V0(K:Nat)(ih1_:EV->EV->EV->EV->Ac->R)(v1 v8 v23 v24:EV)(h:Ac):R:=
 Az He (bin TT .add 3) v24 (.int .i64 1) fun v44=>
 ih1_ v1 v8 v23 v44 h
def Vq(K:Nat)(ih1_:EV->EV->EV->EV->Ac->R)(v1 v8 v9 v23 v24:EV)(h:Ac):R:=
 Ce v8 fun v36=>
 A6 0 v36 fun v37=>
 A5 v37 h fun v38=>
 Bc (D8 [.Bj] 220 1 1 [(0,v9)] h) fun v40 h=>
 Bc (Fo 220 1 v38 v40 h) fun v41 h=>
 Ce v8 fun v42=>
 A6 0 v42 fun v43=>
 Zk 1 v43 v41 h fun h=>
 V0 K ih1_ v1 v8 v23 v24 h
def Vf(K:Nat)(ih1_:EV->EV->EV->EV->Ac->R)(v1 v8 v23 v24:EV)(h:Ac):R:=
 Bc (Df K v1 h) fun v28 h=>
 Dn 0 v28 fun v29=>
 Dn 1 v28 fun v30=>
 Az Mv (bin TT .neq 35) v30 (.int .i64 0) fun v32=>
 Fz v32
 (some (.tuple [.Bj,v30],h))
 (Vq K ih1_ v1 v8 v29 v23 v24 h)
def Fe(K:Nat):Nat->EV->EV->EV->EV->Ac->R
 | 0=>fun _ _ _ _ _=>none
 | m+1=>fun v1 v8 v23 v24 h=>
  Az H5 (bin TT .lss 3) v24 v23 fun v25=>
  Fz v25
  (Vf K (Fe K m) v1 v8 v23 v24 h)
  (P1 K v8 h)
def Vd(K:Nat)(v0 v1 v2:EV)(h:Ac):R:=
 En (Iu [(0,1),(1,1),(2,1),(3,1),(4,1)]) [.Ab,(.int .i64 0),(.int .i64 0),(.int .i64 0),(.bool false)] [(1,v1),(2,v2)] fun v21=>
 Fs 152 v21 h fun v22 h=>
 Fe K K v1 v22 v0 (.int .i64 0) h
def P9(K:Nat)(v0 v1 v2 v14 v17:EV)(h:Ac):R:=
 Ca v14 (.bool true) v17 fun v18=>
 Fz v18
 (some (.tuple [.Bj,(.int .i64 13)],h))
 (Vd K v0 v1 v2 h)
def Tl(K:Nat)(v0 v1 v2:EV)(h:Ac):R:=
 Bc (Hv K v0 (.int .i64 512) h) fun v12 h=>
 Ta v12 fun v13=>
 Al (B9 v13 false)
 (Bc (Hv K v2 (.int .i64 64) h) fun v16 h=>
 Ta v16 fun v17=>
 P9 K v0 v1 v2 v13 v17 h)
 (P9 K v0 v1 v2 v13 (.tuple []) h)
abbrev Aeh(K:Nat)(c:Ae):Ae:=(w2 154 (Hv K) (w1 155 (Df K) c))
theorem Yv(c c' r:Ae)(K:Nat)(m:Nat):Jv (fun ih=>H4 TT (Aeh K c) c' r K (nOf TT 90) (Hc TT 90) (V7 TT 90 [true,true,true,false,true,false]) [(0,fun ρ h=>P1 K (ρ 8) h)] ih) m=fun ρ h=>Fe K m (ρ 1) (ρ 8) (ρ 23) (ρ 24) h:=
 Fb (E:=fun m ρ h=>Fe K m (ρ 1) (ρ 8) (ρ 23) (ρ 24) h) rfl (fun m=>V4 fun ρ h=>by
  show _=Fe K (m+1) (ρ 1) (ρ 8) (ρ 23) (ρ 24) h
  rw[Fe];kernel_rfl) m
theorem Abv(H:Bp disp)(hd:2<=d)(v0 v1 v2:EV)(h:Ac):Af TT disp K d false 90 [v0,v1,v2] h=Tl K v0 v1 v2 h:=
 Ek (H.bare (by kernel_rfl)) hd (by kernel_rfl) (fun d hd=>(W2 (Wa H (lq hd rfl)) (W1 (Lx H (lq hd rfl)) rfl))) (fun d c r=>(cut [true,true,true,false,true,false] (Yv (Af TT disp K d false) c r K K) (by kernel_rfl) (by kernel_rfl) rfl)) (fun d c r=>by kernel_rfl)
def P8(c r:Ae)(K:Nat)(v0 v1 v2:EV)(h:Ac):R:=
 Hw h fun base s=>
 Ce v0 fun v38=>
 A6 7 v38 fun v39=>
 B2 4 14 base v39 s fun s=>A5 v39 h fun v40=>
 Ce v40 fun v41=>
 A6 0 v41 fun v42=>
 B2 7 126 base v42 s fun s=>A5 v42 h fun v43=>
 C0 10 768 s h (fun h=>(Tp K v1 v2 h)) fun v46 h s=>
 C0 11 2046 s h (fun h=>(c 59 [v43,v46] h)) fun v47 h s=>
 C0 12 4095 s h (fun h=>(Cs K v0 v47 h)) fun v48 h s=>
 some (v48,h)
def Jg(c r:Ae)(K:Nat)(v0 v1 v2 v7 v26 v28:EV)(h:Ac):R:=
 Ca v26 (.bool true) v28 fun v29=>
 Fz v29
 (some ((.int .i64 14),h))
 (Bc (Ga K v0 v1 v7 h) fun v34 h=>
 Ta v34 fun v35=>
 Fz v35
 (some ((.int .i64 13),h))
 (P8 c r K v0 v1 v2 h))
def Jw(c r:Ae)(K:Nat)(v0 v1 v2 v7 v22 v24:EV)(h:Ac):R:=
 Ca v22 (.bool true) v24 fun v25=>
 Al (B9 v25 false)
 (Az Oe (bin TT .gtr 3) v7 (.int .i64 4) fun v28=>
 Jg c r K v0 v1 v2 v7 v25 v28 h)
 (Jg c r K v0 v1 v2 v7 v25 (.tuple []) h)
def Mc(c r:Ae)(K:Nat)(v0 v1 v2:EV)(h:Ac):R:=
 J0 v2 fun v9=>
 Rj (bin TT .quo 3) v9 (.int .i64 32) fun v10=>
 Ce v0 fun v13=>
 A6 7 v13 fun v14=>
 A5 v14 h fun v15=>
 Az G7 (bin TT .eql 191) v15 .Bj fun v16=>
 Fz v16
 (some ((.int .i64 43),h))
 (J0 v2 fun v19=>
 Rj (bin TT .rem 3) v19 (.int .i64 32) fun v20=>
 Az Mv (bin TT .neq 3) v20 (.int .i64 0) fun v21=>
 Al (B9 v21 false)
 (Az H5 (bin TT .lss 3) v10 (.int .i64 1) fun v24=>
 Jw c r K v0 v1 v2 v10 v21 v24 h)
 (Jw c r K v0 v1 v2 v10 v21 (.tuple []) h))
theorem Pd(H:Bp disp)(hd:2<=d)(v0 v1 v2:EV)(h:Ac):Af TT disp K (d+1) false 107 [v0,v1,v2] h=Mc (Af TT disp K d false) (Af TT disp K d true) K v0 v1 v2 h:=
 V6 (H.bare (by kernel_rfl)) (by kernel_rfl) (W2 (Us H (lq hd rfl)) (W2 (Cj H (lq hd rfl)) (W3 (Is H (lq hd rfl)) rfl))) rfl (by kernel_rfl)
def Fl(c r:Ae)(K:Nat)(v3:EV)(h:Ac):R:=
 some (v3,h)
def Kf(c r:Ae)(K:Nat)(v0:EV)(h:Ac):R:=
 Bc (c 117 [v0] h) fun v5 h=>
 Az G7 (bin TT .eql 35) v5 (.int .i64 0) fun v7=>
 Fz v7
 (Bc (Eb K v0 h) fun v9 h=>
 Fl c r K v5 h)
 (Fl c r K v5 h)
theorem M8(H:Bp disp)(hd:1<=d)(v0:EV)(h:Ac):Af TT disp K (d+1) false 109 [v0] h=Kf (Af TT disp K d false) (Af TT disp K d true) K v0 h:=
 V6 (H.bare (by kernel_rfl)) (by kernel_rfl) (W1 (Gk H (lq hd rfl)) rfl) rfl (by kernel_rfl)
def Kj(c r:Ae)(K:Nat)(v8:EV)(h:Ac):R:=
 some (.tuple [v8,(.int .i64 0)],h)
def Rm(c r:Ae)(K:Nat)(ih1_:EV->EV->EV->EV->EV->Ac->R)(v0 v1 v2 v8 v9:EV)(h:Ac):R:=
 Az He (bin TT .add 3) v9 (.int .i64 1) fun v35=>
 ih1_ v0 v1 v2 v8 v35 h
def Rb(c r:Ae)(K:Nat)(ih1_:EV->EV->EV->EV->EV->Ac->R)(v0 v1 v2 v8 v9 v10:EV)(h:Ac):R:=
 E2 32 v10 h fun v54=>
 Bc (D8 (List.replicate 32 (.int .u8 0)) 85 32 1 [(0,v54)] h) fun v55 h=>
 Bc (Fo 85 32 v8 v55 h) fun v56 h=>
 Rm c r K ih1_ v0 v1 v2 v56 v9 h
def Rk(c r:Ae)(K:Nat)(ih1_:EV->EV->EV->EV->EV->Ac->R)(v0 v1 v2 v8 v9:EV)(h:Ac):R:=
 Ce v0 fun v38=>
 A6 7 v38 fun v39=>
 A5 v39 h fun v40=>
 Ce v40 fun v41=>
 A6 0 v41 fun v42=>
 A5 v42 h fun v43=>
 Bc (c 47 [v43,v9] h) fun v45 h=>
 Dn 0 v45 fun v46=>
 Dn 1 v45 fun v47=>
 Wc (.cells (List.replicate 32 (.int .u8 0)) 85) h fun v10 h=>
 Zk 32 v10 v46 h fun h=>
 Az Mv (bin TT .neq 35) v47 (.int .i64 0) fun v49=>
 Fz v49
 (Bc (Cs K v0 v47 h) fun v52 h=>
 some (.tuple [.Ab,v52],h))
 (Rb c r K ih1_ v0 v1 v2 v8 v9 v10 h)
def Dc(c r:Ae)(K:Nat):Nat->EV->EV->EV->EV->EV->Ac->R
 | 0=>fun _ _ _ _ _ _=>none
 | m+1=>fun v0 v1 v2 v8 v9 h=>
  Az He (bin TT .add 3) v1 v2 fun v32=>
  Az H5 (bin TT .lss 3) v9 v32 fun v33=>
  Fz v33
  (Rk c r K (Dc c r K m) v0 v1 v2 v8 v9 h)
  (Kj c r K v8 h)
def Rh(c r:Ae)(K:Nat)(v0 v1 v2:EV)(h:Ac):R:=
 Dc c r K K v0 v1 v2 .Ab v1 h
def Ke(c r:Ae)(K:Nat)(v0 v1 v2 v24 v26:EV)(h:Ac):R:=
 Ca v24 (.bool true) v26 fun v27=>
 Fz v27
 (some (.tuple [.Ab,(.int .i64 13)],h))
 (Rh c r K v0 v1 v2 h)
def Nj(c r:Ae)(K:Nat)(v0 v1 v2:EV)(h:Ac):R:=
 Ce v0 fun v14=>
 A6 7 v14 fun v15=>
 A5 v15 h fun v16=>
 Az G7 (bin TT .eql 191) v16 .Bj fun v17=>
 Fz v17
 (some (.tuple [.Ab,(.int .i64 43)],h))
 (Bc (Ga K v0 v1 v2 h) fun v22 h=>
 Ta v22 fun v23=>
 Al (B9 v23 false)
 (Az Oe (bin TT .gtr 3) v2 (.int .i64 4) fun v26=>
 Ke c r K v0 v1 v2 v23 v26 h)
 (Ke c r K v0 v1 v2 v23 (.tuple []) h))
abbrev R8(K:Nat)(c:Ae):Ae:=(w3 181 (Ga K) (w2 182 (Cs K) c))
theorem O3(c r:Ae)(K:Nat)(m:Nat):Jv (fun ih=>H4 TT (R8 K c) c r K (nOf TT 111) (Hc TT 111) (V7 TT 111 [true,true,true,false,true,false]) [(1,fun ρ h=>Kj c r K (ρ 8) h)] ih) m=fun ρ h=>Dc c r K m (ρ 0) (ρ 1) (ρ 2) (ρ 8) (ρ 9) h:=
 Fb (E:=fun m ρ h=>Dc c r K m (ρ 0) (ρ 1) (ρ 2) (ρ 8) (ρ 9) h) rfl (fun m=>V4 fun ρ h=>by
  show _=Dc c r K (m+1) (ρ 0) (ρ 1) (ρ 2) (ρ 8) (ρ 9) h
  rw[Dc];kernel_rfl) m
theorem Qw(H:Bp disp)(hd:2<=d)(v0 v1 v2:EV)(h:Ac):Af TT disp K (d+1) false 111 [v0,v1,v2] h=Nj (Af TT disp K d false) (Af TT disp K d true) K v0 v1 v2 h:=
 V6 (H.bare (by kernel_rfl)) (by kernel_rfl) (W3 (Is H (lq hd rfl)) (W2 (Cj H (lq hd rfl)) rfl)) (cut [true,true,true,false,true,false] (O3 (Af TT disp K d false) (Af TT disp K d true) K K) (by kernel_rfl) (by kernel_rfl) rfl) (by kernel_rfl)
def Rr(c r:Ae)(K:Nat)(v0 v1 v2:EV)(h:Ac):R:=
 Ce v0 fun v14=>
 A6 7 v14 fun v15=>
 A5 v15 h fun v16=>
 Ce v16 fun v17=>
 A6 0 v17 fun v18=>
 A5 v18 h fun v19=>
 Bc (c 70 [v19,v1,v2] h) fun v22 h=>
 Bc (Cs K v0 v22 h) fun v23 h=>
 some (v23,h)
def Na(c r:Ae)(K:Nat)(v0 v1 v2:EV)(h:Ac):R:=
 Ce v0 fun v8=>
 A6 7 v8 fun v9=>
 A5 v9 h fun v10=>
 Az G7 (bin TT .eql 191) v10 .Bj fun v11=>
 Fz v11
 (some ((.int .i64 43),h))
 (Rr c r K v0 v1 v2 h)
theorem Pn(H:Bp disp)(hd:2<=d)(v0 v1 v2:EV)(h:Ac):Af TT disp K (d+1) false 115 [v0,v1,v2] h=Na (Af TT disp K d false) (Af TT disp K d true) K v0 v1 v2 h:=
 V6 (H.bare (by kernel_rfl)) (by kernel_rfl) (W2 (Cj H (lq hd rfl)) rfl) rfl (by kernel_rfl)
def Qe(c r:Ae)(K:Nat)(v0:EV)(h:Ac):R:=
 Ce v0 fun v10=>
 A6 7 v10 fun v11=>
 A5 v11 h fun v12=>
 Ce v12 fun v13=>
 A6 0 v13 fun v14=>
 A5 v14 h fun v15=>
 Bc (c 72 [v15] h) fun v16 h=>
 Bc (Cs K v0 v16 h) fun v17 h=>
 some (v17,h)
def Mg(c r:Ae)(K:Nat)(v0:EV)(h:Ac):R:=
 Ce v0 fun v4=>
 A6 7 v4 fun v5=>
 A5 v5 h fun v6=>
 Az G7 (bin TT .eql 191) v6 .Bj fun v7=>
 Fz v7
 (some ((.int .i64 43),h))
 (Qe c r K v0 h)
theorem O2(H:Bp disp)(hd:2<=d)(v0:EV)(h:Ac):Af TT disp K (d+1) false 116 [v0] h=Mg (Af TT disp K d false) (Af TT disp K d true) K v0 h:=
 V6 (H.bare (by kernel_rfl)) (by kernel_rfl) (W2 (Cj H (lq hd rfl)) rfl) rfl (by kernel_rfl)
def L3(c r:Ae)(K:Nat)(v0:EV)(h:Ac):R:=
 Ce v0 fun v10=>
 A6 7 v10 fun v11=>
 A5 v11 h fun v12=>
 Ce v12 fun v13=>
 A6 0 v13 fun v14=>
 A5 v14 h fun v15=>
 Bc (c 73 [v15] h) fun v16 h=>
 Bc (Cs K v0 v16 h) fun v17 h=>
 some (v17,h)
def Ik(c r:Ae)(K:Nat)(v0:EV)(h:Ac):R:=
 Ce v0 fun v4=>
 A6 7 v4 fun v5=>
 A5 v5 h fun v6=>
 Az G7 (bin TT .eql 191) v6 .Bj fun v7=>
 Fz v7
 (some ((.int .i64 43),h))
 (L3 c r K v0 h)
theorem K6(H:Bp disp)(hd:2<=d)(v0:EV)(h:Ac):Af TT disp K (d+1) false 117 [v0] h=Ik (Af TT disp K d false) (Af TT disp K d true) K v0 h:=
 V6 (H.bare (by kernel_rfl)) (by kernel_rfl) (W2 (Cj H (lq hd rfl)) rfl) rfl (by kernel_rfl)
def Mq(c r:Ae)(K:Nat)(v0:EV)(h:Ac):R:=
 Ce v0 fun v13=>
 A6 7 v13 fun v14=>
 A5 v14 h fun v15=>
 Ce v15 fun v16=>
 A6 1 v16 fun v17=>
 A5 v17 h fun v18=>
 Bc (c 39 [v18] h) fun v19 h=>
 Dn 0 v19 fun v20=>
 Dn 1 v19 fun v21=>
 Bc (Cs K v0 v21 h) fun v25 h=>
 some (.tuple [v20,v25],h)
def It(c r:Ae)(K:Nat)(v0:EV)(h:Ac):R:=
 Ce v0 fun v7=>
 A6 7 v7 fun v8=>
 A5 v8 h fun v9=>
 Az G7 (bin TT .eql 191) v9 .Bj fun v10=>
 Fz v10
 (some (.tuple [(.bool false),(.int .i64 43)],h))
 (Mq c r K v0 h)
theorem L4(H:Bp disp)(hd:2<=d)(v0:EV)(h:Ac):Af TT disp K (d+1) false 118 [v0] h=It (Af TT disp K d false) (Af TT disp K d true) K v0 h:=
 V6 (H.bare (by kernel_rfl)) (by kernel_rfl) (W2 (Cj H (lq hd rfl)) rfl) rfl (by kernel_rfl)
def Mz(c r:Ae)(K:Nat)(v4:EV)(h:Ac):R:=
 some (.tuple [v4,(.int .i64 0)],h)
def M0(c r:Ae)(K:Nat)(v0:EV)(h:Ac):R:=
 Ce v0 fun v13=>
 A6 7 v13 fun v14=>
 A5 v14 h fun v15=>
 Ce v15 fun v16=>
 A6 0 v16 fun v17=>
 A5 v17 h fun v18=>
 Bc (c 145 [v18] h) fun v19 h=>
 Dn 0 v19 fun v20=>
 Dn 1 v19 fun v21=>
 Bc (Cs K v0 v21 h) fun v24 h=>
 Az Mv (bin TT .neq 35) v24 (.int .i64 0) fun v25=>
 Fz v25
 (some (.tuple [(.bool false),v21],h))
 (Mz c r K v20 h)
def Iv(c r:Ae)(K:Nat)(v0:EV)(h:Ac):R:=
 Ce v0 fun v7=>
 A6 7 v7 fun v8=>
 A5 v8 h fun v9=>
 Az G7 (bin TT .eql 191) v9 .Bj fun v10=>
 Fz v10
 (some (.tuple [(.bool false),(.int .i64 43)],h))
 (M0 c r K v0 h)
theorem L2(H:Bp disp)(hd:2<=d)(v0:EV)(h:Ac):Af TT disp K (d+1) false 119 [v0] h=Iv (Af TT disp K d false) (Af TT disp K d true) K v0 h:=
 V6 (H.bare (by kernel_rfl)) (by kernel_rfl) (W2 (Cj H (lq hd rfl)) rfl) rfl (by kernel_rfl)
def Lk(K:Nat)(v3:EV)(h:Ac):R:=
 some (v3,h)
def Lr(K:Nat)(ih1_:EV->EV->EV->EV->Ac->R)(v0 v3 v9 v10:EV)(h:Ac):R:=
 Az He (bin TT .add 3) v10 (.int .i64 1) fun v25=>
 ih1_ v0 v3 v9 v25 h
def Ss(K:Nat)(ih1_:EV->EV->EV->EV->Ac->R)(v0 v3 v9 v10:EV)(h:Ac):R:=
 Ce v0 fun v14=>
 A6 7 v14 fun v15=>
 A5 v15 h fun v16=>
 Ce v16 fun v17=>
 A6 0 v17 fun v18=>
 A5 v18 h fun v19=>
 Bc (Gs K v19 h) fun v20 h=>
 Bc (Ij K v20 v10 h) fun v22 h=>
 Fz v22
 (Az He (bin TT .add 3) v3 (.int .i64 1) fun v24=>
 Lr K ih1_ v0 v24 v9 v10 h)
 (Lr K ih1_ v0 v3 v9 v10 h)
def Dk(K:Nat):Nat->EV->EV->EV->EV->Ac->R
 | 0=>fun _ _ _ _ _=>none
 | m+1=>fun v0 v3 v9 v10 h=>
  Az H5 (bin TT .lss 3) v10 v9 fun v11=>
  Fz v11
  (Ss K (Dk K m) v0 v3 v9 v10 h)
  (Lk K v3 h)
def O0(K:Nat)(v0:EV)(h:Ac):R:=
 Ce v0 fun v6=>
 A6 1 v6 fun v7=>
 E2 6 v7 h fun v8=>
 Bc (Dr K v8 h) fun v9 h=>
 Dk K K v0 (.int .i64 0) v9 (.int .i64 0) h
abbrev Ub(K:Nat)(c:Ae):Ae:=(w1 15 (Dr K) (w1 13 (Gs K) (w2 16 (Ij K) c)))
theorem P7(c c' r:Ae)(K:Nat)(m:Nat):Jv (fun ih=>H4 TT (Ub K c) c' r K (nOf TT 121) (Hc TT 121) (V7 TT 121 [true,true,false,true,false]) [(0,fun ρ h=>Lk K (ρ 3) h)] ih) m=fun ρ h=>Dk K m (ρ 0) (ρ 3) (ρ 9) (ρ 10) h:=
 Fb (E:=fun m ρ h=>Dk K m (ρ 0) (ρ 3) (ρ 9) (ρ 10) h) rfl (fun m=>V4 fun ρ h=>by
  show _=Dk K (m+1) (ρ 0) (ρ 3) (ρ 9) (ρ 10) h
  rw[Dk];kernel_rfl) m
theorem Ri(H:Bp disp)(hd:4<=d)(v0:EV)(h:Ac):Af TT disp K d false 121 [v0] h=O0 K v0 h:=
 Ek (H.bare (by kernel_rfl)) hd (by kernel_rfl) (fun d hd=>(W1 (Gd H (lq hd rfl)) (W1 (Jh H (lq hd rfl)) (W2 (Pe H (lq hd rfl)) rfl)))) (fun d c r=>(cut [true,true,false,true,false] (P7 (Af TT disp K d false) c r K K) (by kernel_rfl) (by kernel_rfl) rfl)) (fun d c r=>by kernel_rfl)
def Cy(K:Nat)(v1 v5:EV)(h:Ac):R:=
 Hw h fun base s=>
 C0 1 1 s h (fun h=>(E4 K v5 h)) fun v40 h s=>
 Az Km (bin TT .sub 3) v40 (.int .i64 1) fun v41=>
 A6 0 v1 fun v42=>
 B2 4 8 base v42 s fun s=>A5 v42 h fun v43=>
 A6 4 v1 fun v44=>
 B2 6 32 base v44 s fun s=>A5 v44 h fun v45=>
 Az N2 (bin TT .mul 3) v43 v45 fun v46=>
 Az Km (bin TT .sub 3) v41 v46 fun v47=>
 some (v47,h)
def Dd(K:Nat)(v0:EV)(h:Ac):R:=
 Fs 114 v0 h fun v1 h=>
 A6 1 v1 fun v7=>
 A5 v7 h fun v8=>
 A6 4 v1 fun v9=>
 A5 v9 h fun v10=>
 Az Km (bin TT .sub 3) v8 v10 fun v11=>
 Az Km (bin TT .sub 3) v11 (.int .i64 2) fun v12=>
 A6 0 v1 fun v13=>
 A5 v13 h fun v14=>
 A6 4 v1 fun v15=>
 A5 v15 h fun v16=>
 Az N2 (bin TT .mul 3) v14 v16 fun v17=>
 Az He (bin TT .add 3) v17 (.int .i64 4) fun v18=>
 A6 0 v1 fun v19=>
 A5 v19 h fun v20=>
 Az Km (bin TT .sub 3) v20 (.int .i64 1) fun v21=>
 Az N2 (bin TT .mul 3) v21 v12 fun v23=>
 Az Km (bin TT .sub 3) v23 v18 fun v25=>
 Az He (bin TT .add 3) v25 (.int .i64 1) fun v26=>
 A6 0 v1 fun v27=>
 A5 v27 h fun v28=>
 Az N2 (bin TT .mul 3) v28 v12 fun v30=>
 Az N2 (bin TT .mul 3) (.int .i64 2) v18 fun v32=>
 Az Km (bin TT .sub 3) v30 v32 fun v33=>
 Az He (bin TT .add 3) v33 (.int .i64 1) fun v34=>
 Az H5 (bin TT .lss 3) v34 v26 fun v37=>
 Fz v37
 (Cy K v1 v34 h)
 (Cy K v1 v26 h)
theorem Jf(H:Bp disp)(hd:2<=d)(v0:EV)(h:Ac):Af TT disp K d false 130 [v0] h=Dd K v0 h:=
 Ek (H.bare (by kernel_rfl)) hd (by kernel_rfl) (fun d hd=>(W1 (Nf H (lq hd rfl)) rfl)) (fun d c r=>rfl) (fun d c r=>by kernel_rfl)
def Eg(K:Nat)(base:Nat)(s:DX)(v12 v21:EV)(h:Ac):R:=
 Ca v12 v21 (.bool false) fun v22=>
 some (v22,h)
def Fj(K:Nat)(base:Nat)(s:DX)(v1 v5 v10:EV)(h:Ac):R:=
 Ca v5 v10 (.bool false) fun v11=>
 Al (B9 v11 true)
 (A6 3 v1 fun v13=>
 B2 11 2047 base v13 s fun s=>A5 v13 h fun v14=>
 Az N2 (bin TT .mul 3) (.int .i64 2) v14 fun v15=>
 A6 2 v1 fun v16=>
 B2 14 9215 base v16 s fun s=>A5 v16 h fun v17=>
 B2 15 1023 base v1 s fun s=>E2 6 v1 h fun v18=>
 C0 16 33791 s h (fun h=>(Fp K v18 h)) fun v19 h s=>
 Az N2 (bin TT .mul 3) v17 v19 fun v20=>
 Az S2 (bin TT .leq 3) v15 v20 fun v21=>
 Eg K base s v11 v21 h)
 (Eg K base s v11 (.tuple []) h)
def Fq(K:Nat)(v0:EV)(h:Ac):R:=
 Fs 23 v0 h fun v1 h=>
 Hw h fun base s=>
 B2 0 0 base v1 s fun s=>E2 6 v1 h fun v3=>
 C0 1 1 s h (fun h=>(Hi K v3 h)) fun v4 h s=>
 Al (B9 v4 true)
 (B2 3 7 base v1 s fun s=>E2 6 v1 h fun v6=>
 C0 4 15 s h (fun h=>(Hl K v6 h)) fun v7 h s=>
 A6 2 v1 fun v8=>
 B2 6 39 base v8 s fun s=>A5 v8 h fun v9=>
 Az S2 (bin TT .leq 3) v7 v9 fun v10=>
 Fj K base s v1 v4 v10 h)
 (Fj K base s v1 v4 (.tuple []) h)
theorem Rl(H:Bp disp)(hd:3<=d)(v0:EV)(h:Ac):Af TT disp K d false 134 [v0] h=Fq K v0 h:=
 Ek (H.bare (by kernel_rfl)) hd (by kernel_rfl) (fun d hd=>(W1 (Rg H (lq hd rfl)) (W1 (Rf H (lq hd rfl)) (W1 (Of H (lq hd rfl)) rfl)))) (fun d c r=>rfl) (fun d c r=>by kernel_rfl)
def V1(K:Nat)(v8:EV)(h:Ac):R:=
 Bc (Tm h) fun v21 h=>
 En (Iu [(0,1),(1,1),(2,1),(3,1)]) [.Bj,.Ab,.Ab,.N6] [(0,v8),(3,v21)] fun v22=>
 Fs 149 v22 h fun v23 h=>
 some (.tuple [v23,(.int .i64 0)],h)
def S6(K:Nat)(v0 v1 v2:EV)(h:Ac):R:=
 Bc (Tl K v0 v1 v2 h) fun v14 h=>
 Dn 0 v14 fun v15=>
 Dn 1 v14 fun v16=>
 Az Mv (bin TT .neq 35) v16 (.int .i64 0) fun v18=>
 Fz v18
 (some (.tuple [.Bj,v16],h))
 (V1 K v15 h)
theorem Aal(H:Bp disp)(hd:3<=d)(v0 v1 v2:EV)(h:Ac):Af TT disp K d false 43 [v0,v1,v2] h=S6 K v0 v1 v2 h:=
 Ek (H.bare (by kernel_rfl)) hd (by kernel_rfl) (fun d hd=>(W3 (Abv H (lq hd rfl)) rfl)) (fun d c r=>rfl) (fun d c r=>by kernel_rfl)
def Pb(K:Nat)(v0 v2:EV)(h:Ac):R:=
 Hw h fun base s=>
 Ce v0 fun v12=>
 A6 7 v12 fun v13=>
 B2 3 7 base v13 s fun s=>A5 v13 h fun v14=>
 Ce v14 fun v15=>
 A6 0 v15 fun v16=>
 B2 6 63 base v16 s fun s=>A5 v16 h fun v17=>
 C0 7 127 s h (fun h=>(Md K v17 h)) fun v18 h s=>
 Ce v0 fun v20=>
 A6 7 v20 fun v21=>
 B2 11 1792 base v21 s fun s=>A5 v21 h fun v22=>
 Ce v22 fun v23=>
 A6 0 v23 fun v24=>
 B2 14 16128 base v24 s fun s=>A5 v24 h fun v25=>
 C0 15 32767 s h (fun h=>(Rv K v25 h)) fun v26 h s=>
 Y3 16 h s fun s=>Wc (.cells [(.int .i64 0),(.int .i64 0),(.int .i64 0)] 104) h fun v3 h=>
 Aap 17 131071 v3 s fun s=>Zk 3 v3 v18 h fun h=>
 Hw h fun base s=>
 A6 0 v3 fun v27=>
 B2 1 1 base v27 s fun s=>A5 v27 h fun v28=>
 A6 1 v3 fun v29=>
 B2 3 4 base v29 s fun s=>A5 v29 h fun v30=>
 A6 2 v3 fun v31=>
 B2 5 16 base v31 s fun s=>A5 v31 h fun v32=>
 C0 7 64 s h (fun h=>(K1 K v26 (.int .i64 1) h)) fun v34 h s=>
 C0 9 448 s h (fun h=>(K1 K v26 (.int .i64 2) h)) fun v36 h s=>
 Ce v0 fun v38=>
 A6 7 v38 fun v39=>
 B2 13 7168 base v39 s fun s=>A5 v39 h fun v40=>
 Ce v40 fun v41=>
 A6 0 v41 fun v42=>
 B2 16 64512 base v42 s fun s=>A5 v42 h fun v43=>
 C0 17 131008 s h (fun h=>(Gs K v43 h)) fun v44 h s=>
 C0 18 262080 s h (fun h=>(K2 K v44 h)) fun v45 h s=>
 C0 19 524224 s h (fun h=>(Ov K v45 h)) fun v46 h s=>
 C0 21 2097088 s h (fun h=>(O0 K v0 h)) fun v48 h s=>
 Ce v0 fun v50=>
 A6 7 v50 fun v51=>
 B2 25 29360128 base v51 s fun s=>A5 v51 h fun v52=>
 Ce v52 fun v53=>
 A6 1 v53 fun v54=>
 B2 28 264241152 base v54 s fun s=>A5 v54 h fun v55=>
 C0 29 536870848 s h (fun h=>(K5 K v55 h)) fun v56 h s=>
 Ce v0 fun v58=>
 A6 7 v58 fun v59=>
 B2 33 7516192768 base v59 s fun s=>A5 v59 h fun v60=>
 Ce v60 fun v61=>
 A6 1 v61 fun v62=>
 B2 36 67645734912 base v62 s fun s=>A5 v62 h fun v63=>
 C0 37 137438953408 s h (fun h=>(Mo K v63 h)) fun v64 h s=>
 Ce v0 fun v66=>
 A6 7 v66 fun v67=>
 B2 41 1924145348608 base v67 s fun s=>A5 v67 h fun v68=>
 Ce v68 fun v69=>
 A6 1 v69 fun v70=>
 B2 44 17317308137472 base v70 s fun s=>A5 v70 h fun v71=>
 C0 45 35184372088768 s h (fun h=>(Lt K v71 h)) fun v72 h s=>
 En (Iu [(0,1),(1,1),(2,1),(3,1),(4,1),(5,1),(6,1),(7,1),(8,1),(9,1),(10,1)]) [(.bool false),(.int .i64 0),(.int .i64 0),(.int .i64 0),(.int .i64 0),(.int .i64 0),(.int .i64 0),(.int .i64 0),(.int .i64 0),(.int .i64 0),(.bool false)] [(0,(.bool true)),(1,v28),(2,v30),(3,v32),(4,v34),(5,v36),(6,v46),(7,v48),(8,v56),(9,v64),(10,v72)] fun v73=>
 Aap 47 140737488355327 v2 s fun s=>Zk 11 v2 v73 h fun h=>
 Sl TT [.c v2 100] h
def Eh(K:Nat)(v0:EV)(h:Ac):R:=
 Wc (.cells [(.bool false),(.int .i64 0),(.int .i64 0),(.int .i64 0),(.int .i64 0),(.int .i64 0),(.int .i64 0),(.int .i64 0),(.int .i64 0),(.int .i64 0),(.bool false)] 100) h fun v2 h=>
 Ce v0 fun v6=>
 A6 7 v6 fun v7=>
 A5 v7 h fun v8=>
 Az G7 (bin TT .eql 191) v8 .Bj fun v9=>
 Fz v9
 (En (Iu [(0,1),(1,1),(2,1),(3,1),(4,1),(5,1),(6,1),(7,1),(8,1),(9,1),(10,1)]) [(.bool false),(.int .i64 0),(.int .i64 0),(.int .i64 0),(.int .i64 0),(.int .i64 0),(.int .i64 0),(.int .i64 0),(.int .i64 0),(.int .i64 0),(.bool false)] [] fun v10=>
 Zk 11 v2 v10 h fun h=>
 Sl TT [.c v2 100] h)
 (Pb K v0 v2 h)
theorem Oi(H:Bp disp)(hd:5<=d)(v0:EV)(h:Ac):Af TT disp K d false 52 [v0] h=Eh K v0 h:=
 Ek (H.bare (by kernel_rfl)) hd (by kernel_rfl) (fun d hd=>(W1 (O6 H (lq hd rfl)) (W1 (Ty H (lq hd rfl)) (W2 (Sg H (lq hd rfl)) (W1 (Jh H (lq hd rfl)) (W1 (Ny H (lq hd rfl)) (W1 (Ro H (lq hd rfl)) (W1 (Ri H (lq hd rfl)) (W1 (N8 H (lq hd rfl)) (W1 (O4 H (lq hd rfl)) (W1 (N5 H (lq hd rfl)) rfl))))))))))) (fun d c r=>rfl) (fun d c r=>by kernel_rfl)
def De(K:Nat)(base:Nat)(s:DX)(v66 v75:EV)(h:Ac):R:=
 Ca v66 v75 (.bool false) fun v76=>
 some (v76,h)
def G4(K:Nat)(v1:EV)(h:Ac):R:=
 Hw h fun base s=>
 B2 0 0 base v1 s fun s=>E2 6 v1 h fun v61=>
 C0 1 1 s h (fun h=>(D3 K v61 h)) fun v62 h s=>
 A6 2 v1 fun v63=>
 B2 3 4 base v63 s fun s=>A5 v63 h fun v64=>
 Az S2 (bin TT .leq 3) v62 v64 fun v65=>
 Al (B9 v65 true)
 (A6 3 v1 fun v67=>
 B2 7 127 base v67 s fun s=>A5 v67 h fun v68=>
 Az N2 (bin TT .mul 3) (.int .i64 2) v68 fun v69=>
 A6 2 v1 fun v70=>
 B2 10 575 base v70 s fun s=>A5 v70 h fun v71=>
 B2 11 63 base v1 s fun s=>E2 6 v1 h fun v72=>
 C0 12 2111 s h (fun h=>(Dd K v72 h)) fun v73 h s=>
 Az N2 (bin TT .mul 3) v71 v73 fun v74=>
 Az S2 (bin TT .leq 3) v69 v74 fun v75=>
 De K base s v65 v75 h)
 (De K base s v65 (.tuple []) h)
def A0(K:Nat)(v1 v56 v59:EV)(h:Ac):R:=
 Ca v56 (.bool true) v59 fun v60=>
 Fz v60
 (some ((.bool false),h))
 (G4 K v1 h)
def A3(K:Nat)(v1 v51 v54:EV)(h:Ac):R:=
 Ca v51 (.bool true) v54 fun v55=>
 Al (B9 v55 false)
 (A6 5 v1 fun v57=>
 A5 v57 h fun v58=>
 Az Oe (bin TT .gtr 3) v58 (.int .i64 64) fun v59=>
 A0 K v1 v55 v59 h)
 (A0 K v1 v55 (.tuple []) h)
def A4(K:Nat)(v1 v46 v49:EV)(h:Ac):R:=
 Ca v46 (.bool true) v49 fun v50=>
 Al (B9 v50 false)
 (A6 5 v1 fun v52=>
 A5 v52 h fun v53=>
 Az H5 (bin TT .lss 3) v53 (.int .i64 4) fun v54=>
 A3 K v1 v50 v54 h)
 (A3 K v1 v50 (.tuple []) h)
def Ba(K:Nat)(v1 v41 v44:EV)(h:Ac):R:=
 Ca v41 (.bool true) v44 fun v45=>
 Al (B9 v45 false)
 (A6 4 v1 fun v47=>
 A5 v47 h fun v48=>
 Az Oe (bin TT .gtr 3) v48 (.int .i64 4) fun v49=>
 A4 K v1 v45 v49 h)
 (A4 K v1 v45 (.tuple []) h)
def Bf(K:Nat)(v1 v36 v39:EV)(h:Ac):R:=
 Ca v36 (.bool true) v39 fun v40=>
 Al (B9 v40 false)
 (A6 4 v1 fun v42=>
 A5 v42 h fun v43=>
 Az H5 (bin TT .lss 3) v43 (.int .i64 0) fun v44=>
 Ba K v1 v40 v44 h)
 (Ba K v1 v40 (.tuple []) h)
def Bk(K:Nat)(v1 v31 v34:EV)(h:Ac):R:=
 Ca v31 (.bool true) v34 fun v35=>
 Al (B9 v35 false)
 (A6 3 v1 fun v37=>
 A5 v37 h fun v38=>
 Az Oe (bin TT .gtr 3) v38 (.int .i64 256) fun v39=>
 Bf K v1 v35 v39 h)
 (Bf K v1 v35 (.tuple []) h)
def Bn(K:Nat)(v1 v26 v29:EV)(h:Ac):R:=
 Ca v26 (.bool true) v29 fun v30=>
 Al (B9 v30 false)
 (A6 3 v1 fun v32=>
 A5 v32 h fun v33=>
 Az H5 (bin TT .lss 3) v33 (.int .i64 1) fun v34=>
 Bk K v1 v30 v34 h)
 (Bk K v1 v30 (.tuple []) h)
def Bv(K:Nat)(v1 v21 v24:EV)(h:Ac):R:=
 Ca v21 (.bool true) v24 fun v25=>
 Al (B9 v25 false)
 (A6 2 v1 fun v27=>
 A5 v27 h fun v28=>
 Az Oe (bin TT .gtr 3) v28 (.int .i64 64) fun v29=>
 Bn K v1 v25 v29 h)
 (Bn K v1 v25 (.tuple []) h)
def B0(K:Nat)(v1 v16 v19:EV)(h:Ac):R:=
 Ca v16 (.bool true) v19 fun v20=>
 Al (B9 v20 false)
 (A6 2 v1 fun v22=>
 A5 v22 h fun v23=>
 Az H5 (bin TT .lss 3) v23 (.int .i64 4) fun v24=>
 Bv K v1 v20 v24 h)
 (Bv K v1 v20 (.tuple []) h)
def Cl(K:Nat)(v1 v11 v14:EV)(h:Ac):R:=
 Ca v11 (.bool true) v14 fun v15=>
 Al (B9 v15 false)
 (A6 1 v1 fun v17=>
 A5 v17 h fun v18=>
 Az Oe (bin TT .gtr 3) v18 (.int .i64 64) fun v19=>
 B0 K v1 v15 v19 h)
 (B0 K v1 v15 (.tuple []) h)
def C5(K:Nat)(v1 v6 v9:EV)(h:Ac):R:=
 Ca v6 (.bool true) v9 fun v10=>
 Al (B9 v10 false)
 (A6 1 v1 fun v12=>
 A5 v12 h fun v13=>
 Az H5 (bin TT .lss 3) v13 (.int .i64 1) fun v14=>
 Cl K v1 v10 v14 h)
 (Cl K v1 v10 (.tuple []) h)
def D6(K:Nat)(v0:EV)(h:Ac):R:=
 Fs 114 v0 h fun v1 h=>
 A6 0 v1 fun v3=>
 A5 v3 h fun v4=>
 Az H5 (bin TT .lss 3) v4 (.int .i64 3) fun v5=>
 Al (B9 v5 false)
 (A6 0 v1 fun v7=>
 A5 v7 h fun v8=>
 Az Oe (bin TT .gtr 3) v8 (.int .i64 8) fun v9=>
 C5 K v1 v5 v9 h)
 (C5 K v1 v5 (.tuple []) h)
theorem Ls(H:Bp disp)(hd:3<=d)(v0:EV)(h:Ac):Af TT disp K d false 61 [v0] h=D6 K v0 h:=
 Ek (H.bare (by kernel_rfl)) hd (by kernel_rfl) (fun d hd=>(W1 (La H (lq hd rfl)) (W1 (Jf H (lq hd rfl)) rfl))) (fun d c r=>rfl) (fun d c r=>by kernel_rfl)
def Qf(K:Nat)(v4:EV)(h:Ac):R:=
 some (.tuple [v4,(.int .i64 0)],h)
def Vh(K:Nat)(ih1_:EV->EV->EV->EV->Ac->R)(v1 v4 v14 v15:EV)(h:Ac):R:=
 Az He (bin TT .add 3) v15 (.int .i64 1) fun v36=>
 ih1_ v1 v4 v14 v36 h
def U6(K:Nat)(ih1_:EV->EV->EV->EV->Ac->R)(v1 v4 v5 v14 v15:EV)(h:Ac):R:=
 Ce v4 fun v28=>
 A6 6 v28 fun v29=>
 A5 v29 h fun v30=>
 Bc (D8 [.Bj] 199 1 1 [(0,v5)] h) fun v32 h=>
 Bc (Fo 199 1 v30 v32 h) fun v33 h=>
 Ce v4 fun v34=>
 A6 6 v34 fun v35=>
 Zk 1 v35 v33 h fun h=>
 Vh K ih1_ v1 v4 v14 v15 h
def Ve(K:Nat)(ih1_:EV->EV->EV->EV->Ac->R)(v1 v4 v14 v15:EV)(h:Ac):R:=
 A6 1 v1 fun v18=>
 A5 v18 h fun v19=>
 Bc (Nh K v19 h) fun v20 h=>
 Dn 0 v20 fun v21=>
 Dn 1 v20 fun v22=>
 Az Mv (bin TT .neq 35) v22 (.int .i64 0) fun v24=>
 Fz v24
 (some (.tuple [.Bj,v22],h))
 (U6 K ih1_ v1 v4 v21 v14 v15 h)
def Fg(K:Nat):Nat->EV->EV->EV->EV->Ac->R
 | 0=>fun _ _ _ _ _=>none
 | m+1=>fun v1 v4 v14 v15 h=>
  Az H5 (bin TT .lss 3) v15 v14 fun v16=>
  Fz v16
  (Ve K (Fg K m) v1 v4 v14 v15 h)
  (Qf K v4 h)
def U5(K:Nat)(v1:EV)(h:Ac):R:=
 E2 6 v1 h fun v10=>
 En (Iu [(0,6),(6,1)]) [(.int .i64 0),(.int .i64 0),(.int .i64 0),(.int .i64 0),(.int .i64 0),(.int .i64 0),.Ab] [(0,v10)] fun v11=>
 Fs 198 v11 h fun v12 h=>
 A6 0 v1 fun v13=>
 A5 v13 h fun v14=>
 Fg K K v1 v12 v14 (.int .i64 0) h
def Nd(K:Nat)(v0:EV)(h:Ac):R:=
 Fs 23 v0 h fun v1 h=>
 E2 6 v1 h fun v7=>
 Bc (Fq K v7 h) fun v8 h=>
 Ta v8 fun v9=>
 Fz v9
 (some (.tuple [.Bj,(.int .i64 20)],h))
 (U5 K v1 h)
abbrev Aex(K:Nat)(c:Ae):Ae:=(w1 134 (Fq K) (w1 189 (Nh K) c))
theorem Yy(c c' r:Ae)(K:Nat)(m:Nat):Jv (fun ih=>H4 TT (Aex K c) c' r K (nOf TT 131) (Hc TT 131) (V7 TT 131 [true,true,true,false,true,false]) [(0,fun ρ h=>Qf K (ρ 4) h)] ih) m=fun ρ h=>Fg K m (ρ 1) (ρ 4) (ρ 14) (ρ 15) h:=
 Fb (E:=fun m ρ h=>Fg K m (ρ 1) (ρ 4) (ρ 14) (ρ 15) h) rfl (fun m=>V4 fun ρ h=>by
  show _=Fg K (m+1) (ρ 1) (ρ 4) (ρ 14) (ρ 15) h
  rw[Fg];kernel_rfl) m
theorem Aat(H:Bp disp)(hd:4<=d)(v0:EV)(h:Ac):Af TT disp K d false 131 [v0] h=Nd K v0 h:=
 Ek (H.bare (by kernel_rfl)) hd (by kernel_rfl) (fun d hd=>(W1 (Rl H (lq hd rfl)) (W1 (Y2 H (lq hd rfl)) rfl))) (fun d c r=>(cut [true,true,true,false,true,false] (Yy (Af TT disp K d false) c r K K) (by kernel_rfl) (by kernel_rfl) rfl)) (fun d c r=>by kernel_rfl)
def Rt(K:Nat)(v0 v4 v5 v8:EV)(h:Ac):R:=
 Hw h fun base s=>
 B2 1 0 base v4 s fun s=>E2 6 v4 h fun v34=>
 B2 2 0 base v5 s fun s=>E2 256 v5 h fun v35=>
 B2 4 0 base v4 s fun s=>E2 6 v4 h fun v37=>
 C0 5 16 s h (fun h=>(Dr K v37 h)) fun v38 h s=>
 Y3 6 h s fun s=>Bc (I2 [(.int .i64 0)] 3 v38 v38 h) fun v39 h=>
 En (Iu [(0,1),(1,6),(7,256),(263,1),(264,1),(265,1),(266,1),(267,1)]) ([.Bj]++List.replicate 6 (.int .i64 0)++List.replicate 256 (.int .u32 0)++[.Bj]++[.Ab]++List.replicate 3 (.int .i64 0)) [(0,v0),(1,v34),(2,v35),(3,v8),(4,v39),(5,(.int .i64 (-1))),(6,(.int .i64 (-1)))] fun v40=>
 Y3 8 h s fun s=>Fs 132 v40 h fun v41 h=>
 some (.tuple [v41,(.int .i64 0)],h)
def F4(K:Nat)(base:Nat)(s:DX)(v0 v4 v5 v8 v25 v31:EV)(h:Ac):R:=
 Ca v25 (.bool true) v31 fun v32=>
 Fz v32
 (some (.tuple [.Bj,(.int .i64 20)],h))
 (Rt K v0 v4 v5 v8 h)
def Jc(K:Nat)(base:Nat)(s:DX)(v0 v4 v5 v8 v17 v23:EV)(h:Ac):R:=
 Ca v17 (.bool true) v23 fun v24=>
 Al (B9 v24 false)
 (C0 12 4095 s h (fun h=>(B3 K v0 h)) fun v27 h s=>
 C0 13 8191 s h (fun h=>(Gy K v27 h)) fun v28 h s=>
 A6 2 v4 fun v29=>
 B2 15 18431 base v29 s fun s=>A5 v29 h fun v30=>
 Az Mv (bin TT .neq 3) v28 v30 fun v31=>
 F4 K base s v0 v4 v5 v8 v24 v31 h)
 (F4 K base s v0 v4 v5 v8 v24 (.tuple []) h)
def No(K:Nat)(v0 v1 v2:EV)(h:Ac):R:=
 Fs 23 v1 h fun v4 h=>
 Fs 119 v2 h fun v5 h=>
 E2 6 v4 h fun v11=>
 Bc (Nd K v11 h) fun v12 h=>
 Dn 0 v12 fun v13=>
 Dn 1 v12 fun v14=>
 Hw h fun base s=>
 Az Mv (bin TT .neq 35) v14 (.int .i64 0) fun v16=>
 Al (B9 v16 false)
 (C0 4 15 s h (fun h=>(B3 K v0 h)) fun v19 h s=>
 C0 5 31 s h (fun h=>(F7 K v19 h)) fun v20 h s=>
 B2 6 7 base v4 s fun s=>E2 6 v4 h fun v21=>
 C0 7 127 s h (fun h=>(Dr K v21 h)) fun v22 h s=>
 Az Mv (bin TT .neq 3) v20 v22 fun v23=>
 Jc K base s v0 v4 v5 v13 v16 v23 h)
 (Jc K base s v0 v4 v5 v13 v16 (.tuple []) h)
theorem Xl(H:Bp disp)(hd:5<=d)(v0 v1 v2:EV)(h:Ac):Af TT disp K d false 62 [v0,v1,v2] h=No K v0 v1 v2 h:=
 Ek (H.bare (by kernel_rfl)) hd (by kernel_rfl) (fun d hd=>(W1 (Aat H (lq hd rfl)) (W1 (Ir H (lq hd rfl)) (W1 (O7 H (lq hd rfl)) (W1 (Gd H (lq hd rfl)) (W1 (Qd H (lq hd rfl)) rfl)))))) (fun d c r=>rfl) (fun d c r=>by kernel_rfl)
def Td(K:Nat)(v0 v3:EV)(h:Ac):R:=
 E2 6 v3 h fun v19=>
 En (Iu [(0,1),(1,6),(7,1)]) [.Bj,(.int .i64 0),(.int .i64 0),(.int .i64 0),(.int .i64 0),(.int .i64 0),(.int .i64 0),.Bj] [(0,v0),(1,v19)] fun v20=>
 Fs 193 v20 h fun v21 h=>
 some (.tuple [v21,(.int .i64 0)],h)
def Q9(K:Nat)(v0 v1:EV)(h:Ac):R:=
 Fs 23 v1 h fun v3 h=>
 Hw h fun base s=>
 B2 1 0 base v3 s fun s=>E2 6 v3 h fun v10=>
 C0 2 0 s h (fun h=>(Agp K h)) fun v11 h s=>
 C0 3 7 s h (fun h=>(No K v0 v10 v11 h)) fun v12 h s=>
 Dn 0 v12 fun v13=>
 Dn 1 v12 fun v14=>
 Az Mv (bin TT .neq 35) v14 (.int .i64 0) fun v16=>
 Fz v16
 (some (.tuple [.Bj,v14],h))
 (Td K v0 v3 h)
theorem Y7(H:Bp disp)(hd:6<=d)(v0 v1:EV)(h:Ac):Af TT disp K d false 112 [v0,v1] h=Q9 K v0 v1 h:=
 Ek (H.bare (by kernel_rfl)) hd (by kernel_rfl) (fun d hd=>(W0 (Abz H (lq hd rfl)) (W3 (Xl H (lq hd rfl)) rfl))) (fun d c r=>rfl) (fun d c r=>by kernel_rfl)
def G1(K:Nat)(v4 v6:EV)(h:Ac):R:=
 some (.tuple [v6,v4],h)
def G3(K:Nat)(v1 v4:EV)(h:Ac):R:=
 E2 6 v1 h fun v33=>
 Bc (Q9 K v4 v33 h) fun v34 h=>
 Dn 0 v34 fun v35=>
 Dn 1 v34 fun v36=>
 Az Mv (bin TT .neq 35) v36 (.int .i64 0) fun v38=>
 Fz v38
 (some (.tuple [.Bj,.Bj],h))
 (G1 K v4 v35 h)
def G2(K:Nat)(v1:EV)(h:Ac):R:=
 Hw h fun base s=>
 B2 0 0 base v1 s fun s=>E2 6 v1 h fun v20=>
 C0 1 1 s h (fun h=>(Dr K v20 h)) fun v21 h s=>
 A6 2 v1 fun v22=>
 B2 3 4 base v22 s fun s=>A5 v22 h fun v23=>
 A6 5 v1 fun v24=>
 B2 5 16 base v24 s fun s=>A5 v24 h fun v25=>
 C0 6 63 s h (fun h=>(S6 K v21 v23 v25 h)) fun v26 h s=>
 Dn 0 v26 fun v27=>
 Dn 1 v26 fun v28=>
 Az Mv (bin TT .neq 35) v28 (.int .i64 0) fun v30=>
 Fz v30
 (some (.tuple [.Bj,.Bj],h))
 (G3 K v1 v27 h)
def Ct(K:Nat)(v1 v11 v17:EV)(h:Ac):R:=
 Ca v11 (.bool true) v17 fun v18=>
 Fz v18
 (some (.tuple [.Bj,.Bj],h))
 (G2 K v1 h)
def C8(K:Nat)(v0:EV)(h:Ac):R:=
 Fs 23 v0 h fun v1 h=>
 E2 6 v1 h fun v8=>
 Bc (D6 K v8 h) fun v9 h=>
 Ta v9 fun v10=>
 Al (B9 v10 false)
 (A6 0 v1 fun v12=>
 A5 v12 h fun v13=>
 A6 1 v1 fun v14=>
 A5 v14 h fun v15=>
 Az N2 (bin TT .mul 3) v13 v15 fun v16=>
 Az Oe (bin TT .gtr 3) v16 (.int .i64 64) fun v17=>
 Ct K v1 v10 v17 h)
 (Ct K v1 v10 (.tuple []) h)
theorem Le(H:Bp disp)(hd:7<=d)(v0:EV)(h:Ac):Af TT disp K d false 49 [v0] h=C8 K v0 h:=
 Ek (H.bare (by kernel_rfl)) hd (by kernel_rfl) (fun d hd=>(W1 (Ls H (lq hd rfl)) (W2 (Y7 H (lq hd rfl)) (W1 (Gd H (lq hd rfl)) (W3 (Aal H (lq hd rfl)) rfl))))) (fun d c r=>rfl) (fun d c r=>by kernel_rfl)
def Dz(c r:Ae)(K:Nat)(v6:EV)(h:Ac):R:=
 En (Iu [(0,1),(1,1),(2,1),(3,1),(4,64)]) (List.replicate 4 (.int .i64 0)++List.replicate 64 (.int .u8 0)) [(1,(.int .i64 4))] fun v62=>
 Bc (c 46 [v6,v62] h) fun v63 h=>
 Az G7 (bin TT .eql 35) v63 (.int .i64 0) fun v64=>
 some (v64,h)
def Cx(c r:Ae)(K:Nat)(ih1_:EV->EV->EV->EV->EV->Ac->R)(v5 v6 v26 v27 v28:EV)(h:Ac):R:=
 Az He (bin TT .add 3) v28 (.int .i64 1) fun v60=>
 ih1_ v5 v6 v26 v27 v60 h
def D1(c r:Ae)(K:Nat)(ih1_:EV->EV->EV->EV->EV->Ac->R)(v5 v6 v26 v27 v28 v54 v58:EV)(h:Ac):R:=
 Ca v54 (.bool true) v58 fun v59=>
 Fz v59
 (some ((.bool false),h))
 (Cx c r K ih1_ v5 v6 v26 v27 v28 h)
def Dy(c r:Ae)(K:Nat)(ih1_:EV->EV->EV->EV->EV->Ac->R)(v5 v6 v26 v27 v28 v49 v52:EV)(h:Ac):R:=
 Ca v49 (.bool true) v52 fun v53=>
 Al (B9 v53 false)
 (Bc (Eh K v5 h) fun v56 h=>
 En (Iu [(0,1),(1,1),(2,1),(3,1),(4,1),(5,1),(6,1),(7,1),(8,1),(9,1),(10,1)]) [(.bool false),(.int .i64 0),(.int .i64 0),(.int .i64 0),(.int .i64 0),(.int .i64 0),(.int .i64 0),(.int .i64 0),(.int .i64 0),(.int .i64 0),(.bool false)] [] fun v57=>
 Az Mv (bin TT .neq 100) v56 v57 fun v58=>
 D1 c r K ih1_ v5 v6 v26 v27 v28 v53 v58 h)
 (D1 c r K ih1_ v5 v6 v26 v27 v28 v53 (.tuple []) h)
def Fy(c r:Ae)(K:Nat)(ih1_:EV->EV->EV->EV->EV->Ac->R)(v5 v6 v8 v26 v27 v28:EV)(h:Ac):R:=
 Bc (B3 K v6 h) fun v36 h=>
 Bc (Ds K v36 h) fun v37 h=>
 E2 4 v8 h fun v39=>
 Bc (c 51 [v39,v5] h) fun v41 h=>
 Dn 0 v41 fun v42=>
 Dn 1 v41 fun v43=>
 Bc (B3 K v6 h) fun v45 h=>
 Bc (Ds K v45 h) fun v46 h=>
 Az Mv (bin TT .neq 3) v46 v37 fun v48=>
 Al (B9 v48 false)
 (J0 v42 fun v51=>
 Az Mv (bin TT .neq 3) v51 (.int .i64 0) fun v52=>
 Dy c r K ih1_ v5 v6 v26 v27 v28 v48 v52 h)
 (Dy c r K ih1_ v5 v6 v26 v27 v28 v48 (.tuple []) h)
def Ft(c r:Ae)(K:Nat)(ih1_:EV->EV->EV->EV->EV->Ac->R)(v5 v6 v26 v27 v28:EV)(h:Ac):R:=
 M7 4 v26 v28 fun v30=>
 E2 4 v30 h fun v31=>
 Wc (.cells [(.int .i64 0),(.int .i64 0),(.int .i64 0),(.int .i64 0)] 95) h fun v8 h=>
 Zk 4 v8 v31 h fun h=>
 A6 0 v8 fun v32=>
 A5 v32 h fun v33=>
 Az S2 (bin TT .leq 3) v33 (.int .i64 2) fun v34=>
 Fz v34
 (Cx c r K ih1_ v5 v6 v26 v27 v28 h)
 (Fy c r K ih1_ v5 v6 v8 v26 v27 v28 h)
def Bd(c r:Ae)(K:Nat):Nat->EV->EV->EV->EV->EV->Ac->R
 | 0=>fun _ _ _ _ _ _=>none
 | m+1=>fun v5 v6 v26 v27 v28 h=>
  Az H5 (bin TT .lss 3) v28 v27 fun v29=>
  Fz v29
  (Ft c r K (Bd c r K m) v5 v6 v26 v27 v28 h)
  (Dz c r K v6 h)
def Fw(c r:Ae)(K:Nat)(v1 v5 v6:EV)(h:Ac):R:=
 J0 v1 fun v27=>
 Bd c r K K v5 v6 v1 v27 (.int .i64 0) h
def Cb(c r:Ae)(K:Nat)(v1 v5 v6 v21 v24:EV)(h:Ac):R:=
 Ca v21 (.bool true) v24 fun v25=>
 Fz v25
 (some ((.bool true),h))
 (Fw c r K v1 v5 v6 h)
def Fh(c r:Ae)(K:Nat)(v1 v2:EV)(h:Ac):R:=
 E2 6 v2 h fun v15=>
 Bc (C8 K v15 h) fun v16 h=>
 Dn 0 v16 fun v17=>
 Dn 1 v16 fun v18=>
 Az G7 (bin TT .eql 90) v17 .Bj fun v20=>
 Al (B9 v20 false)
 (J0 v1 fun v23=>
 Az Oe (bin TT .gtr 3) v23 (.int .i64 80) fun v24=>
 Cb c r K v1 v17 v18 v20 v24 h)
 (Cb c r K v1 v17 v18 v20 (.tuple []) h)
def Eo(c r:Ae)(K:Nat)(v0 v1:EV)(h:Ac):R:=
 Fs 23 v0 h fun v2 h=>
 Bc (c 48 [] h) fun v12 h=>
 Ta v12 fun v13=>
 Fz v13
 (some ((.bool false),h))
 (Fh c r K v1 v2 h)
abbrev Kl(K:Nat)(c:Ae):Ae:=(w1 52 (Eh K) (w1 34 (B3 K) (w1 58 (Ds K) (w1 49 (C8 K) c))))
theorem Ix(c r:Ae)(K:Nat)(m:Nat):Jv (fun ih=>H4 TT (Kl K c) c r K (nOf TT 9) (Hc TT 9) (V7 TT 9 [true,true,true,true,false,true,false]) [(0,fun ρ h=>Dz c r K (ρ 6) h)] ih) m=fun ρ h=>Bd c r K m (ρ 5) (ρ 6) (ρ 26) (ρ 27) (ρ 28) h:=
 Fb (E:=fun m ρ h=>Bd c r K m (ρ 5) (ρ 6) (ρ 26) (ρ 27) (ρ 28) h) rfl (fun m=>V4 fun ρ h=>by
  show _=Bd c r K (m+1) (ρ 5) (ρ 6) (ρ 26) (ρ 27) (ρ 28) h
  rw[Bd];kernel_rfl) m
theorem Jq(H:Bp disp)(hd:7<=d)(v0 v1:EV)(h:Ac):Af TT disp K (d+1) false 9 [v0,v1] h=Eo (Af TT disp K d false) (Af TT disp K d true) K v0 v1 h:=
 V6 (H.bare (by kernel_rfl)) (by kernel_rfl) (W1 (Oi H (lq hd rfl)) (W1 (Ir H (lq hd rfl)) (W1 (Pc H (lq hd rfl)) (W1 (Le H (lq hd rfl)) rfl)))) (cut [true,true,true,true,false,true,false] (Ix (Af TT disp K d false) (Af TT disp K d true) K K) (by kernel_rfl) (by kernel_rfl) rfl) (by kernel_rfl)
end
end Go.Ev
