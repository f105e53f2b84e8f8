import Derived.Test.YtpkcfamminlmaaaGreatFun
set_option linter.unusedVariables false
set_option linter.unusedSimpArgs false
set_option linter.unusedSectionVars false
namespace Go.Ev
open Go.Proofs
set_option maxRecDepth 100000
set_option maxHeartbeats 4000000
noncomputable section
variable {disp:Nat->Option FT}{K d:Nat}
def G6(K:Nat)(v0:EV)(h:Aa):R:=
 Bj v0 fun v4=>
 An 263 v4 fun v5=>
 Am v5 h fun v6=>
 some (v6,h)
theorem Yj(H:Au disp)(hd:1<=d)(v0:EV)(h:Aa):Af TT disp K d false 14 [v0] h=G6 K v0 h:=
 C9 (H.bare (by kernel_rfl)) hd (by kernel_rfl) (fun d hd=>rfl) (fun d c r=>rfl) (fun d c r=>by kernel_rfl)
def Gi(K:Nat)(v0:EV)(h:Aa):R:=
 Bj v0 fun v4=>
 An 0 v4 fun v5=>
 Am v5 h fun v6=>
 some (v6,h)
theorem X1(H:Au disp)(hd:1<=d)(v0:EV)(h:Aa):Af TT disp K d false 31 [v0] h=Gi K v0 h:=
 C9 (H.bare (by kernel_rfl)) hd (by kernel_rfl) (fun d hd=>rfl) (fun d c r=>rfl) (fun d c r=>by kernel_rfl)
def Jl(K:Nat)(v0:EV)(h:Aa):R:=
 Bj v0 fun v4=>
 An 0 v4 fun v5=>
 Am v5 h fun v6=>
 some (v6,h)
theorem Aaq(H:Au disp)(hd:1<=d)(v0:EV)(h:Aa):Af TT disp K d false 36 [v0] h=Jl K v0 h:=
 C9 (H.bare (by kernel_rfl)) hd (by kernel_rfl) (fun d hd=>rfl) (fun d c r=>rfl) (fun d c r=>by kernel_rfl)
def J7(K:Nat)(v0:EV)(h:Aa):R:=
 E3 23 v0 h fun v1 h=>
 An 0 v1 fun v3=>
 Am v3 h fun v4=>
 An 1 v1 fun v5=>
 Am v5 h fun v6=>
 Ap Wz (bin TT .mul 3) v4 v6 fun v7=>
 some (v7,h)
theorem P6(H:Au disp)(hd:1<=d)(v0:EV)(h:Aa):Af TT disp K d false 63 [v0] h=J7 K v0 h:=
 C9 (H.bare (by kernel_rfl)) hd (by kernel_rfl) (fun d hd=>rfl) (fun d c r=>rfl) (fun d c r=>by kernel_rfl)
def Cf(K:Nat)(v0:EV)(h:Aa):R:=
 Bj v0 fun v4=>
 An 0 v4 fun v5=>
 Am v5 h fun v6=>
 Al (Aou v6 h) fun v7 h=>
 some (v7,h)
theorem H2(H:Au disp)(hd:1<=d)(v0:EV)(h:Aa):Af TT disp K d false 71 [v0] h=Cf K v0 h:=
 C9 (H.bare (by kernel_rfl)) hd (by kernel_rfl) (fun d hd=>rfl) (fun d c r=>rfl) (fun d c r=>by kernel_rfl)
def J1(K:Nat)(v0:EV)(h:Aa):R:=
 Bj v0 fun v4=>
 An 0 v4 fun v5=>
 Am v5 h fun v6=>
 Ho v6 fun v7=>
 some (v7,h)
theorem Qz(H:Au disp)(hd:1<=d)(v0:EV)(h:Aa):Af TT disp K d false 74 [v0] h=J1 K v0 h:=
 C9 (H.bare (by kernel_rfl)) hd (by kernel_rfl) (fun d hd=>rfl) (fun d c r=>rfl) (fun d c r=>by kernel_rfl)
def Nw(K:Nat)(v0:EV)(h:Aa):R:=
 Bj v0 fun v4=>
 An 1 v4 fun v5=>
 Am v5 h fun v6=>
 some (v6,h)
theorem Abe(H:Au disp)(hd:1<=d)(v0:EV)(h:Aa):Af TT disp K d false 75 [v0] h=Nw K v0 h:=
 C9 (H.bare (by kernel_rfl)) hd (by kernel_rfl) (fun d hd=>rfl) (fun d c r=>rfl) (fun d c r=>by kernel_rfl)
def Jd(K:Nat)(v3:EV)(h:Aa):R:=
 some (v3,h)
def N4(K:Nat)(ih1_:EV->EV->EV->Aa->R)(v1 v3 v4:EV)(h:Aa):R:=
 Ap Ip (bin TT .add 3) v4 (.int .i64 2) fun v10=>
 ih1_ v1 v3 v10 h
def N5(K:Nat)(ih1_:EV->EV->EV->Aa->R)(v1 v3 v4:EV)(h:Aa):R:=
 Ap Ip (bin TT .add 3) v3 (.int .i64 1) fun v12=>
 N4 K ih1_ v1 v12 v4 h
def B4(K:Nat):Nat->EV->EV->EV->Aa->R
 | 0=>fun _ _ _ _=>none
 | m+1=>fun v1 v3 v4 h=>
  An 3 v1 fun v6=>
  Am v6 h fun v7=>
  Ap Ih (bin TT .lss 3) v4 v7 fun v8=>
  Fg v8
  (N5 K (B4 K m) v1 v3 v4 h)
  (Jd K v3 h)
def H8(K:Nat)(v0:EV)(h:Aa):R:=
 E3 37 v0 h fun v1 h=>
 B4 K K v1 (.int .i64 1) (.int .i64 0) h
abbrev Xc(K:Nat)(c:Ac):Ac:=c
theorem Tq(c c' r:Ac)(K:Nat)(m:Nat):Jb (fun ih=>Ht TT (Xc K c) c' r K (nOf TT 76) (Gy TT 76) (Tx TT 76 [true,true,false,true,false]) [(0,fun ρ h=>Jd K (ρ 3) h)] ih) m=fun ρ h=>B4 K m (ρ 1) (ρ 3) (ρ 4) h:=
 Dl (E:=fun m ρ h=>B4 K m (ρ 1) (ρ 3) (ρ 4) h) rfl (fun m=>To fun ρ h=>by
  show _=B4 K (m+1) (ρ 1) (ρ 3) (ρ 4) h
  rw[B4];kernel_rfl) m
theorem Uv(H:Au disp)(hd:1<=d)(v0:EV)(h:Aa):Af TT disp K d false 76 [v0] h=H8 K v0 h:=
 C9 (H.bare (by kernel_rfl)) hd (by kernel_rfl) (fun d hd=>rfl) (fun d c r=>(cut [true,true,false,true,false] (Tq (Af TT disp K d false) c r K K) (by kernel_rfl) (by kernel_rfl) rfl)) (fun d c r=>by kernel_rfl)
def No(K:Nat)(v5:EV)(h:Aa):R:=
 some (v5,h)
def Jn(K:Nat)(ih1_:EV->EV->EV->EV->EV->EV->Aa->R)(v0 v1 v5 v11 v12 v13:EV)(h:Aa):R:=
 Ap Ip (bin TT .add 3) v13 (.int .i64 1) fun v39=>
 ih1_ v0 v1 v5 v11 v12 v39 h
def Fz(K:Nat)(ih1_:EV->EV->EV->EV->EV->EV->Aa->R)(base:Nat)(s:DX)(v0 v1 v5 v6 v11 v12 v13 v21 v36:EV)(h:Aa):R:=
 Bg v21 v36 (.bool false) fun v37=>
 Fg v37
 (Jn K ih1_ v0 v1 v6 v11 v12 v13 h)
 (Jn K ih1_ v0 v1 v5 v11 v12 v13 h)
def Fu(K:Nat)(ih1_:EV->EV->EV->EV->EV->EV->Aa->R)(base:Nat)(s:DX)(v0 v1 v5 v6 v11 v12 v13 v21 v24 v35:EV)(h:Aa):R:=
 Ao (As v21 true)
 (Bg v24 (.bool true) v35 fun v36=>
 Fz K ih1_ base s v0 v1 v5 v6 v11 v12 v13 v21 v36 h)
 (Fz K ih1_ base s v0 v1 v5 v6 v11 v12 v13 v21 (.tuple []) h)
def Jr(K:Nat)(ih1_:EV->EV->EV->EV->EV->EV->Aa->R)(base:Nat)(s:DX)(v0 v1 v5 v6 v7 v11 v12 v13 v21 v24:EV)(h:Aa):R:=
 Ao (As v24 false)
 (Cs 8 255 s h (fun h=>(Cf K v7 h)) fun v26 h s=>
 Bj v0 fun v28=>
 An 6 v28 fun v29=>
 A9 12 3711 base v29 s fun s=>Am v29 h fun v30=>
 Ix 1 v30 v5 fun v32=>
 A9 15 32383 base v32 s fun s=>Am v32 h fun v33=>
 Cs 16 65535 s h (fun h=>(Cf K v33 h)) fun v34 h s=>
 Ap Tz (bin TT .gtr 3) v26 v34 fun v35=>
 Fu K ih1_ base s v0 v1 v5 v6 v11 v12 v13 v21 v24 v35 h)
 (Fu K ih1_ base s v0 v1 v5 v6 v11 v12 v13 v21 v24 (.tuple []) h)
def Ry(K:Nat)(ih1_:EV->EV->EV->EV->EV->EV->Aa->R)(v0 v1 v5 v11 v12 v13:EV)(h:Aa):R:=
 Ix 1 v11 v13 fun v16=>
 Am v16 h fun v17=>
 Gn h fun base s=>
 Ap La (bin TT .neq 3) v13 v1 fun v20=>
 Ao (As v20 true)
 (Ap Ih (bin TT .lss 3) v5 (.int .i64 0) fun v23=>
 Jr K ih1_ base s v0 v1 v5 v13 v17 v11 v12 v13 v20 v23 h)
 (Jr K ih1_ base s v0 v1 v5 v13 v17 v11 v12 v13 v20 (.tuple []) h)
def Cr(K:Nat):Nat->EV->EV->EV->EV->EV->EV->Aa->R
 | 0=>fun _ _ _ _ _ _ _=>none
 | m+1=>fun v0 v1 v5 v11 v12 v13 h=>
  Ap Ih (bin TT .lss 3) v13 v12 fun v14=>
  Fg v14
  (Ry K (Cr K m) v0 v1 v5 v11 v12 v13 h)
  (No K v5 h)
def Gc(K:Nat)(v0 v1:EV)(h:Aa):R:=
 Bj v0 fun v9=>
 An 6 v9 fun v10=>
 Am v10 h fun v11=>
 Ho v11 fun v12=>
 Cr K K v0 v1 (.int .i64 (-1)) v11 v12 (.int .i64 0) h
abbrev Ac1(K:Nat)(c:Ac):Ac:=(w1 71 (Cf K) c)
theorem Y8(c c' r:Ac)(K:Nat)(m:Nat):Jb (fun ih=>Ht TT (Ac1 K c) c' r K (nOf TT 78) (Gy TT 78) (Tx TT 78 [true,true,false,true,false]) [(0,fun ρ h=>No K (ρ 5) h)] ih) m=fun ρ h=>Cr K m (ρ 0) (ρ 1) (ρ 5) (ρ 11) (ρ 12) (ρ 13) h:=
 Dl (E:=fun m ρ h=>Cr K m (ρ 0) (ρ 1) (ρ 5) (ρ 11) (ρ 12) (ρ 13) h) rfl (fun m=>To fun ρ h=>by
  show _=Cr K (m+1) (ρ 0) (ρ 1) (ρ 5) (ρ 11) (ρ 12) (ρ 13) h
  rw[Cr];kernel_rfl) m
theorem Qv(H:Au disp)(hd:2<=d)(v0 v1:EV)(h:Aa):Af TT disp K d false 78 [v0,v1] h=Gc K v0 v1 h:=
 C9 (H.bare (by kernel_rfl)) hd (by kernel_rfl) (fun d hd=>(W1 (H2 H (lq hd rfl)) rfl)) (fun d c r=>(cut [true,true,false,true,false] (Y8 (Af TT disp K d false) c r K K) (by kernel_rfl) (by kernel_rfl) rfl)) (fun d c r=>by kernel_rfl)
def Oz(K:Nat)(v0:EV)(h:Aa):R:=
 E3 23 v0 h fun v1 h=>
 An 3 v1 fun v3=>
 Am v3 h fun v4=>
 Ap Ip (bin TT .add 3) v4 (.int .i64 2) fun v5=>
 Ap Qn (bin TT .sub 3) v5 (.int .i64 1) fun v6=>
 N1 (bin TT .quo 3) v6 (.int .i64 2) fun v7=>
 Ap Ip (bin TT .add 3) (.int .i64 1) v7 fun v8=>
 some (v8,h)
theorem Acx(H:Au disp)(hd:1<=d)(v0:EV)(h:Aa):Af TT disp K d false 112 [v0] h=Oz K v0 h:=
 C9 (H.bare (by kernel_rfl)) hd (by kernel_rfl) (fun d hd=>rfl) (fun d c r=>rfl) (fun d c r=>by kernel_rfl)
def Pu(K:Nat)(v7 v10:EV)(h:Aa):R:=
 Bg v7 v10 (.bool false) fun v11=>
 some (v11,h)
def Pb(K:Nat)(v0 v1:EV)(h:Aa):R:=
 Ap Vj (bin TT .geq 3) v0 (.int .i64 1) fun v6=>
 Ao (As v6 true)
 (Ap Aab (bin TT .leq 3) v0 v1 fun v10=>
 Pu K v6 v10 h)
 (Pu K v6 (.tuple []) h)
theorem Aim(H:Au disp)(hd:1<=d)(v0 v1:EV)(h:Aa):Af TT disp K d false 124 [v0,v1] h=Pb K v0 v1 h:=
 C9 (H.bare (by kernel_rfl)) hd (by kernel_rfl) (fun d hd=>rfl) (fun d c r=>rfl) (fun d c r=>by kernel_rfl)
def Oq(K:Nat)(v0:EV)(h:Aa):R:=
 C0 (Gk [(0,1),(1,1),(2,1),(3,1),(4,1)]) [.Ag,(.int .i64 0),(.int .i64 0),(.int .i64 0),(.bool false)] [(1,v0)] fun v11=>
 E3 240 v11 h fun v12 h=>
 some (.tuple [v12,(.int .i64 0)],h)
def J9(K:Nat)(v0 v6 v8:EV)(h:Aa):R:=
 Bg v6 (.bool true) v8 fun v9=>
 Fg v9
 (some (.tuple [.Dx,(.int .i64 13)],h))
 (Oq K v0 h)
def Gu(K:Nat)(v0:EV)(h:Aa):R:=
 Ap Ih (bin TT .lss 3) v0 (.int .i64 1) fun v5=>
 Ao (As v5 false)
 (Ap Tz (bin TT .gtr 3) v0 (.int .i64 64) fun v8=>
 J9 K v0 v5 v8 h)
 (J9 K v0 v5 (.tuple []) h)
theorem Vh(H:Au disp)(hd:1<=d)(v0:EV)(h:Aa):Af TT disp K d false 125 [v0] h=Gu K v0 h:=
 C9 (H.bare (by kernel_rfl)) hd (by kernel_rfl) (fun d hd=>rfl) (fun d c r=>rfl) (fun d c r=>by kernel_rfl)
def Afv(K:Nat)(v0:EV)(h:Aa):R:=
 Al (Acs v0 h) fun v11 h=>
 C0 (Gk [(0,1)]) [.Tn] [(0,v11)] fun v12=>
 E3 218 v12 h fun v13 h=>
 some (.tuple [v13,(.int .i64 0)],h)
def Yk(K:Nat)(v0 v6 v8:EV)(h:Aa):R:=
 Bg v6 (.bool true) v8 fun v9=>
 Fg v9
 (some (.tuple [.Dx,(.int .i64 13)],h))
 (Afv K v0 h)
def Xu(K:Nat)(v0:EV)(h:Aa):R:=
 Ap Ih (bin TT .lss 3) v0 (.int .i64 1) fun v5=>
 Ao (As v5 false)
 (Ap Tz (bin TT .gtr 3) v0 (.int .i64 4096) fun v8=>
 Yk K v0 v5 v8 h)
 (Yk K v0 v5 (.tuple []) h)
theorem Al8(H:Au disp)(hd:1<=d)(v0:EV)(h:Aa):Af TT disp K d false 126 [v0] h=Xu K v0 h:=
 C9 (H.bare (by kernel_rfl)) hd (by kernel_rfl) (fun d hd=>rfl) (fun d c r=>rfl) (fun d c r=>by kernel_rfl)
def Qh(K:Nat)(v0:EV)(h:Aa):R:=
 N1 (bin TT .quo 3) v0 (.int .i64 2) fun v10=>
 some (v10,h)
def Kl(K:Nat)(v0:EV)(h:Aa):R:=
 Ap Ih (bin TT .lss 3) v0 (.int .i64 0) fun v4=>
 Fg v4
 (Ap Qn (bin TT .sub 3) (.int .i64 1) v0 fun v6=>
 N1 (bin TT .quo 3) v6 (.int .i64 2) fun v7=>
 Ao9 v7 fun v8=>
 some (v8,h))
 (Qh K v0 h)
theorem Xt(H:Au disp)(hd:1<=d)(v0:EV)(h:Aa):Af TT disp K d false 127 [v0] h=Kl K v0 h:=
 C9 (H.bare (by kernel_rfl)) hd (by kernel_rfl) (fun d hd=>rfl) (fun d c r=>rfl) (fun d c r=>by kernel_rfl)
def Uf(K:Nat)(v10 v13:EV)(h:Aa):R:=
 Bg v10 v13 (.bool false) fun v14=>
 some (v14,h)
def Hi(K:Nat)(v0 v1 v2:EV)(h:Aa):R:=
 Ap Vj (bin TT .geq 3) v0 v1 fun v9=>
 Ao (As v9 true)
 (Ap Aab (bin TT .leq 3) v0 v2 fun v13=>
 Uf K v9 v13 h)
 (Uf K v9 (.tuple []) h)
theorem Zt(H:Au disp)(hd:1<=d)(v0 v1 v2:EV)(h:Aa):Af TT disp K d false 140 [v0,v1,v2] h=Hi K v0 v1 v2 h:=
 C9 (H.bare (by kernel_rfl)) hd (by kernel_rfl) (fun d hd=>rfl) (fun d c r=>rfl) (fun d c r=>by kernel_rfl)
def Mw(K:Nat)(v0:EV)(h:Aa):R:=
 E3 23 v0 h fun v1 h=>
 An 0 v1 fun v3=>
 Am v3 h fun v4=>
 An 4 v1 fun v5=>
 Am v5 h fun v6=>
 Ap Wz (bin TT .mul 3) v4 v6 fun v7=>
 Ap Ip (bin TT .add 3) v7 (.int .i64 4) fun v8=>
 some (v8,h)
theorem Aap(H:Au disp)(hd:1<=d)(v0:EV)(h:Aa):Af TT disp K d false 159 [v0] h=Mw K v0 h:=
 C9 (H.bare (by kernel_rfl)) hd (by kernel_rfl) (fun d hd=>rfl) (fun d c r=>rfl) (fun d c r=>by kernel_rfl)
def Ur(K:Nat)(v0 v1:EV)(h:Aa):R:=
 Bj v0 fun v17=>
 An 6 v17 fun v18=>
 Am v18 h fun v19=>
 Ix 1 v19 v1 fun v21=>
 Am v21 h fun v22=>
 Al (Cf K v22 h) fun v23 h=>
 some (v23,h)
def Lr(K:Nat)(v0 v1 v7 v14:EV)(h:Aa):R:=
 Bg v7 (.bool true) v14 fun v15=>
 Fg v15
 (some ((.int .i64 0),h))
 (Ur K v0 v1 h)
def L0(K:Nat)(v0 v1:EV)(h:Aa):R:=
 Ap Ih (bin TT .lss 3) v1 (.int .i64 0) fun v6=>
 Ao (As v6 false)
 (Bj v0 fun v10=>
 An 6 v10 fun v11=>
 Am v11 h fun v12=>
 Ho v12 fun v13=>
 Ap Vj (bin TT .geq 3) v1 v13 fun v14=>
 Lr K v0 v1 v6 v14 h)
 (Lr K v0 v1 v6 (.tuple []) h)
theorem Ac8(H:Au disp)(hd:2<=d)(v0 v1:EV)(h:Aa):Af TT disp K d false 22 [v0,v1] h=L0 K v0 v1 h:=
 C9 (H.bare (by kernel_rfl)) hd (by kernel_rfl) (fun d hd=>(W1 (H2 H (lq hd rfl)) rfl)) (fun d c r=>rfl) (fun d c r=>by kernel_rfl)
def O4(K:Nat)(v0 v3:EV)(h:Aa):R:=
 N1 (bin TT .quo 3) v3 (.int .i64 2) fun v21=>
 Al (Gc K v0 (.int .i64 (-1)) h) fun v25 h=>
 Al (L0 K v0 v25 h) fun v26 h=>
 Ap Qn (bin TT .sub 3) v3 v26 fun v27=>
 Al (builtin TT .min #[3,3] [v21,v27] h) fun v28 h=>
 some (v28,h)
def Ut(K:Nat)(ih1_:EV->EV->EV->EV->EV->Aa->R)(v0 v3 v9 v10 v11:EV)(h:Aa):R:=
 Ap Ip (bin TT .add 3) v11 (.int .i64 1) fun v19=>
 ih1_ v0 v3 v9 v10 v19 h
def Ul(K:Nat)(ih1_:EV->EV->EV->EV->EV->Aa->R)(v0 v3 v9 v10 v11:EV)(h:Aa):R:=
 Ix 1 v9 v11 fun v13=>
 Am v13 h fun v14=>
 Al (Cf K v14 h) fun v17 h=>
 Ap Ip (bin TT .add 3) v3 v17 fun v18=>
 Ut K ih1_ v0 v18 v9 v10 v11 h
def Ef(K:Nat):Nat->EV->EV->EV->EV->EV->Aa->R
 | 0=>fun _ _ _ _ _ _=>none
 | m+1=>fun v0 v3 v9 v10 v11 h=>
  Ap Ih (bin TT .lss 3) v11 v10 fun v12=>
  Fg v12
  (Ul K (Ef K m) v0 v3 v9 v10 v11 h)
  (O4 K v0 v3 h)
def O1(K:Nat)(v0:EV)(h:Aa):R:=
 Bj v0 fun v7=>
 An 6 v7 fun v8=>
 Am v8 h fun v9=>
 Ho v9 fun v10=>
 Ef K K v0 (.int .i64 0) v9 v10 (.int .i64 0) h
abbrev Ae1(K:Nat)(c:Ac):Ac:=(w2 78 (Gc K) (w2 22 (L0 K) (w1 71 (Cf K) c)))
theorem Acl(c c' r:Ac)(K:Nat)(m:Nat):Jb (fun ih=>Ht TT (Ae1 K c) c' r K (nOf TT 29) (Gy TT 29) (Tx TT 29 [true,true,false,true,false]) [(0,fun ρ h=>O4 K (ρ 0) (ρ 3) h)] ih) m=fun ρ h=>Ef K m (ρ 0) (ρ 3) (ρ 9) (ρ 10) (ρ 11) h:=
 Dl (E:=fun m ρ h=>Ef K m (ρ 0) (ρ 3) (ρ 9) (ρ 10) (ρ 11) h) rfl (fun m=>To fun ρ h=>by
  show _=Ef K (m+1) (ρ 0) (ρ 3) (ρ 9) (ρ 10) (ρ 11) h
  rw[Ef];kernel_rfl) m
theorem Ac9(H:Au disp)(hd:3<=d)(v0:EV)(h:Aa):Af TT disp K d false 29 [v0] h=O1 K v0 h:=
 C9 (H.bare (by kernel_rfl)) hd (by kernel_rfl) (fun d hd=>(W2 (Qv H (lq hd rfl)) (W2 (Ac8 H (lq hd rfl)) (W1 (H2 H (lq hd rfl)) rfl)))) (fun d c r=>(cut [true,true,false,true,false] (Acl (Af TT disp K d false) c r K K) (by kernel_rfl) (by kernel_rfl) rfl)) (fun d c r=>by kernel_rfl)
def Abs(K:Nat)(v8:EV)(h:Aa):R:=
 some (.tuple [v8,(.int .i64 0)],h)
def Ahq(K:Nat)(ih1_:EV->EV->EV->EV->Aa->R)(v1 v8 v23 v24:EV)(h:Aa):R:=
 Ap Ip (bin TT .add 3) v24 (.int .i64 1) fun v44=>
 ih1_ v1 v8 v23 v44 h
def Aih(K:Nat)(ih1_:EV->EV->EV->EV->Aa->R)(v1 v8 v9 v23 v24:EV)(h:Aa):R:=
 Bj v8 fun v36=>
 An 0 v36 fun v37=>
 Am v37 h fun v38=>
 Al (B3 [.Dx] 180 1 1 [(0,v9)] h) fun v40 h=>
 Al (D5 180 1 v38 v40 h) fun v41 h=>
 Bj v8 fun v42=>
 An 0 v42 fun v43=>
 Jf 1 v43 v41 h fun h=>
 Ahq K ih1_ v1 v8 v23 v24 h
def Ahm(K:Nat)(ih1_:EV->EV->EV->EV->Aa->R)(v1 v8 v23 v24:EV)(h:Aa):R:=
 Al (Gu K v1 h) fun v28 h=>
 Cq 0 v28 fun v29=>
 Cq 1 v28 fun v30=>
 Ap La (bin TT .neq 28) v30 (.int .i64 0) fun v32=>
 Fg v32
 (some (.tuple [.Dx,v30],h))
 (Aih K ih1_ v1 v8 v29 v23 v24 h)
def Ld(K:Nat):Nat->EV->EV->EV->EV->Aa->R
 | 0=>fun _ _ _ _ _=>none
 | m+1=>fun v1 v8 v23 v24 h=>
  Ap Ih (bin TT .lss 3) v24 v23 fun v25=>
  Fg v25
  (Ahm K (Ld K m) v1 v8 v23 v24 h)
  (Abs K v8 h)
def Aid(K:Nat)(v0 v1 v2:EV)(h:Aa):R:=
 C0 (Gk [(0,1),(1,1),(2,1),(3,1),(4,1)]) [.Ag,(.int .i64 0),(.int .i64 0),(.int .i64 0),(.bool false)] [(1,v1),(2,v2)] fun v21=>
 E3 183 v21 h fun v22 h=>
 Ld K K v1 v22 v0 (.int .i64 0) h
def Aav(K:Nat)(v0 v1 v2 v14 v17:EV)(h:Aa):R:=
 Bg v14 (.bool true) v17 fun v18=>
 Fg v18
 (some (.tuple [.Dx,(.int .i64 13)],h))
 (Aid K v0 v1 v2 h)
def Afn(K:Nat)(v0 v1 v2:EV)(h:Aa):R:=
 Al (Pb K v0 (.int .i64 512) h) fun v12 h=>
 Sz v12 fun v13=>
 Ao (As v13 false)
 (Al (Pb K v2 (.int .i64 64) h) fun v16 h=>
 Sz v16 fun v17=>
 Aav K v0 v1 v2 v13 v17 h)
 (Aav K v0 v1 v2 v13 (.tuple []) h)
abbrev At9(K:Nat)(c:Ac):Ac:=(w2 124 (Pb K) (w1 125 (Gu K) c))
theorem Aly(c c' r:Ac)(K:Nat)(m:Nat):Jb (fun ih=>Ht TT (At9 K c) c' r K (nOf TT 72) (Gy TT 72) (Tx TT 72 [true,true,true,false,true,false]) [(0,fun ρ h=>Abs K (ρ 8) h)] ih) m=fun ρ h=>Ld K m (ρ 1) (ρ 8) (ρ 23) (ρ 24) h:=
 Dl (E:=fun m ρ h=>Ld K m (ρ 1) (ρ 8) (ρ 23) (ρ 24) h) rfl (fun m=>To fun ρ h=>by
  show _=Ld K (m+1) (ρ 1) (ρ 8) (ρ 23) (ρ 24) h
  rw[Ld];kernel_rfl) m
theorem An5(H:Au disp)(hd:2<=d)(v0 v1 v2:EV)(h:Aa):Af TT disp K d false 72 [v0,v1,v2] h=Afn K v0 v1 v2 h:=
 C9 (H.bare (by kernel_rfl)) hd (by kernel_rfl) (fun d hd=>(W2 (Aim H (lq hd rfl)) (W1 (Vh H (lq hd rfl)) rfl))) (fun d c r=>(cut [true,true,true,false,true,false] (Aly (Af TT disp K d false) c r K K) (by kernel_rfl) (by kernel_rfl) rfl)) (fun d c r=>by kernel_rfl)
def Fo(K:Nat)(v1 v5:EV)(h:Aa):R:=
 Gn h fun base s=>
 Cs 1 1 s h (fun h=>(Kl K v5 h)) fun v40 h s=>
 Ap Qn (bin TT .sub 3) v40 (.int .i64 1) fun v41=>
 An 0 v1 fun v42=>
 A9 4 8 base v42 s fun s=>Am v42 h fun v43=>
 An 4 v1 fun v44=>
 A9 6 32 base v44 s fun s=>Am v44 h fun v45=>
 Ap Wz (bin TT .mul 3) v43 v45 fun v46=>
 Ap Qn (bin TT .sub 3) v41 v46 fun v47=>
 some (v47,h)
def Gs(K:Nat)(v0:EV)(h:Aa):R:=
 E3 37 v0 h fun v1 h=>
 An 1 v1 fun v7=>
 Am v7 h fun v8=>
 An 4 v1 fun v9=>
 Am v9 h fun v10=>
 Ap Qn (bin TT .sub 3) v8 v10 fun v11=>
 Ap Qn (bin TT .sub 3) v11 (.int .i64 2) fun v12=>
 An 0 v1 fun v13=>
 Am v13 h fun v14=>
 An 4 v1 fun v15=>
 Am v15 h fun v16=>
 Ap Wz (bin TT .mul 3) v14 v16 fun v17=>
 Ap Ip (bin TT .add 3) v17 (.int .i64 4) fun v18=>
 An 0 v1 fun v19=>
 Am v19 h fun v20=>
 Ap Qn (bin TT .sub 3) v20 (.int .i64 1) fun v21=>
 Ap Wz (bin TT .mul 3) v21 v12 fun v23=>
 Ap Qn (bin TT .sub 3) v23 v18 fun v25=>
 Ap Ip (bin TT .add 3) v25 (.int .i64 1) fun v26=>
 An 0 v1 fun v27=>
 Am v27 h fun v28=>
 Ap Wz (bin TT .mul 3) v28 v12 fun v30=>
 Ap Wz (bin TT .mul 3) (.int .i64 2) v18 fun v32=>
 Ap Qn (bin TT .sub 3) v30 v32 fun v33=>
 Ap Ip (bin TT .add 3) v33 (.int .i64 1) fun v34=>
 Ap Ih (bin TT .lss 3) v34 v26 fun v37=>
 Fg v37
 (Fo K v1 v34 h)
 (Fo K v1 v26 h)
theorem Sk(H:Au disp)(hd:2<=d)(v0:EV)(h:Aa):Af TT disp K d false 77 [v0] h=Gs K v0 h:=
 C9 (H.bare (by kernel_rfl)) hd (by kernel_rfl) (fun d hd=>(W1 (Xt H (lq hd rfl)) rfl)) (fun d c r=>rfl) (fun d c r=>by kernel_rfl)
def Eh(K:Nat)(v26 v29:EV)(h:Aa):R:=
 Bg v26 v29 (.bool false) fun v30=>
 some (v30,h)
def Ea(K:Nat)(v1 v21 v24:EV)(h:Aa):R:=
 Bg v21 v24 (.bool false) fun v25=>
 Ao (As v25 true)
 (An 5 v1 fun v27=>
 Am v27 h fun v28=>
 Al (Hi K v28 (.int .i64 4) (.int .i64 64) h) fun v29 h=>
 Eh K v25 v29 h)
 (Eh K v25 (.tuple []) h)
def Ec(K:Nat)(v1 v16 v19:EV)(h:Aa):R:=
 Bg v16 v19 (.bool false) fun v20=>
 Ao (As v20 true)
 (An 4 v1 fun v22=>
 Am v22 h fun v23=>
 Al (Hi K v23 (.int .i64 0) (.int .i64 4) h) fun v24 h=>
 Ea K v1 v20 v24 h)
 (Ea K v1 v20 (.tuple []) h)
def D7(K:Nat)(v1 v11 v14:EV)(h:Aa):R:=
 Bg v11 v14 (.bool false) fun v15=>
 Ao (As v15 true)
 (An 3 v1 fun v17=>
 Am v17 h fun v18=>
 Al (Hi K v18 (.int .i64 1) (.int .i64 256) h) fun v19 h=>
 Ec K v1 v15 v19 h)
 (Ec K v1 v15 (.tuple []) h)
def D8(K:Nat)(v1 v6 v9:EV)(h:Aa):R:=
 Bg v6 v9 (.bool false) fun v10=>
 Ao (As v10 true)
 (An 2 v1 fun v12=>
 Am v12 h fun v13=>
 Al (Hi K v13 (.int .i64 4) (.int .i64 64) h) fun v14 h=>
 D7 K v1 v10 v14 h)
 (D7 K v1 v10 (.tuple []) h)
def Ow(K:Nat)(v0:EV)(h:Aa):R:=
 E3 23 v0 h fun v1 h=>
 An 0 v1 fun v3=>
 Am v3 h fun v4=>
 Al (Hi K v4 (.int .i64 3) (.int .i64 8) h) fun v5 h=>
 Ao (As v5 true)
 (An 1 v1 fun v7=>
 Am v7 h fun v8=>
 Al (Hi K v8 (.int .i64 1) (.int .i64 64) h) fun v9 h=>
 D8 K v1 v5 v9 h)
 (D8 K v1 v5 (.tuple []) h)
theorem Ac5(H:Au disp)(hd:2<=d)(v0:EV)(h:Aa):Af TT disp K d false 111 [v0] h=Ow K v0 h:=
 C9 (H.bare (by kernel_rfl)) hd (by kernel_rfl) (fun d hd=>(W3 (Zt H (lq hd rfl)) rfl)) (fun d c r=>rfl) (fun d c r=>by kernel_rfl)
def Lp(K:Nat)(v0:EV)(h:Aa):R:=
 E3 23 v0 h fun v1 h=>
 Gn h fun base s=>
 An 1 v1 fun v6=>
 A9 1 1 base v6 s fun s=>Am v6 h fun v7=>
 An 4 v1 fun v8=>
 A9 3 4 base v8 s fun s=>Am v8 h fun v9=>
 Ap Qn (bin TT .sub 3) v7 v9 fun v10=>
 Ap Qn (bin TT .sub 3) v10 (.int .i64 2) fun v11=>
 A9 6 0 base v1 s fun s=>B8 6 v1 h fun v12=>
 Cs 7 64 s h (fun h=>(Mw K v12 h)) fun v13 h s=>
 An 0 v1 fun v14=>
 Am v14 h fun v15=>
 Ap Qn (bin TT .sub 3) v15 (.int .i64 1) fun v16=>
 Ap Wz (bin TT .mul 3) v16 v11 fun v18=>
 Ap Qn (bin TT .sub 3) v18 v13 fun v20=>
 Ap Ip (bin TT .add 3) v20 (.int .i64 1) fun v21=>
 An 0 v1 fun v22=>
 Am v22 h fun v23=>
 Ap Wz (bin TT .mul 3) v23 v11 fun v25=>
 Ap Wz (bin TT .mul 3) (.int .i64 2) v13 fun v27=>
 Ap Qn (bin TT .sub 3) v25 v27 fun v28=>
 Ap Ip (bin TT .add 3) v28 (.int .i64 1) fun v29=>
 Al (builtin TT .min #[3,3] [v21,v29] h) fun v30 h=>
 N1 (bin TT .shr 3) v30 (.int .u64 1) fun v32=>
 Ap Qn (bin TT .sub 3) v32 (.int .i64 1) fun v33=>
 An 0 v1 fun v34=>
 Am v34 h fun v35=>
 An 4 v1 fun v36=>
 Am v36 h fun v37=>
 Ap Wz (bin TT .mul 3) v35 v37 fun v38=>
 Ap Qn (bin TT .sub 3) v33 v38 fun v39=>
 some (v39,h)
theorem Yt(H:Au disp)(hd:2<=d)(v0:EV)(h:Aa):Af TT disp K d false 113 [v0] h=Lp K v0 h:=
 C9 (H.bare (by kernel_rfl)) hd (by kernel_rfl) (fun d hd=>(W1 (Aap H (lq hd rfl)) rfl)) (fun d c r=>rfl) (fun d c r=>by kernel_rfl)
def Ah2(K:Nat)(v8:EV)(h:Aa):R:=
 Al (Agg h) fun v21 h=>
 C0 (Gk [(0,1),(1,1),(2,1),(3,1)]) [.Dx,.Ag,.Ag,.Zg] [(0,v8),(3,v21)] fun v22=>
 E3 166 v22 h fun v23 h=>
 some (.tuple [v23,(.int .i64 0)],h)
def Agh(K:Nat)(v0 v1 v2:EV)(h:Aa):R:=
 Al (Afn K v0 v1 v2 h) fun v14 h=>
 Cq 0 v14 fun v15=>
 Cq 1 v14 fun v16=>
 Ap La (bin TT .neq 28) v16 (.int .i64 0) fun v18=>
 Fg v18
 (some (.tuple [.Dx,v16],h))
 (Ah2 K v15 h)
theorem Aop(H:Au disp)(hd:3<=d)(v0 v1 v2:EV)(h:Aa):Af TT disp K d false 24 [v0,v1,v2] h=Agh K v0 v1 v2 h:=
 C9 (H.bare (by kernel_rfl)) hd (by kernel_rfl) (fun d hd=>(W3 (An5 H (lq hd rfl)) rfl)) (fun d c r=>rfl) (fun d c r=>by kernel_rfl)
def Gt(K:Nat)(base:Nat)(s:DX)(v66 v75:EV)(h:Aa):R:=
 Bg v66 v75 (.bool false) fun v76=>
 some (v76,h)
def N8(K:Nat)(v1:EV)(h:Aa):R:=
 Gn h fun base s=>
 A9 0 0 base v1 s fun s=>B8 6 v1 h fun v61=>
 Cs 1 1 s h (fun h=>(H8 K v61 h)) fun v62 h s=>
 An 2 v1 fun v63=>
 A9 3 4 base v63 s fun s=>Am v63 h fun v64=>
 Ap Aab (bin TT .leq 3) v62 v64 fun v65=>
 Ao (As v65 true)
 (An 3 v1 fun v67=>
 A9 7 127 base v67 s fun s=>Am v67 h fun v68=>
 Ap Wz (bin TT .mul 3) (.int .i64 2) v68 fun v69=>
 An 2 v1 fun v70=>
 A9 10 575 base v70 s fun s=>Am v70 h fun v71=>
 A9 11 63 base v1 s fun s=>B8 6 v1 h fun v72=>
 Cs 12 2111 s h (fun h=>(Gs K v72 h)) fun v73 h s=>
 Ap Wz (bin TT .mul 3) v71 v73 fun v74=>
 Ap Aab (bin TT .leq 3) v69 v74 fun v75=>
 Gt K base s v65 v75 h)
 (Gt K base s v65 (.tuple []) h)
def A5(K:Nat)(v1 v56 v59:EV)(h:Aa):R:=
 Bg v56 (.bool true) v59 fun v60=>
 Fg v60
 (some ((.bool false),h))
 (N8 K v1 h)
def A7(K:Nat)(v1 v51 v54:EV)(h:Aa):R:=
 Bg v51 (.bool true) v54 fun v55=>
 Ao (As v55 false)
 (An 5 v1 fun v57=>
 Am v57 h fun v58=>
 Ap Tz (bin TT .gtr 3) v58 (.int .i64 64) fun v59=>
 A5 K v1 v55 v59 h)
 (A5 K v1 v55 (.tuple []) h)
def Bb(K:Nat)(v1 v46 v49:EV)(h:Aa):R:=
 Bg v46 (.bool true) v49 fun v50=>
 Ao (As v50 false)
 (An 5 v1 fun v52=>
 Am v52 h fun v53=>
 Ap Ih (bin TT .lss 3) v53 (.int .i64 4) fun v54=>
 A7 K v1 v50 v54 h)
 (A7 K v1 v50 (.tuple []) h)
def Bn(K:Nat)(v1 v41 v44:EV)(h:Aa):R:=
 Bg v41 (.bool true) v44 fun v45=>
 Ao (As v45 false)
 (An 4 v1 fun v47=>
 Am v47 h fun v48=>
 Ap Tz (bin TT .gtr 3) v48 (.int .i64 4) fun v49=>
 Bb K v1 v45 v49 h)
 (Bb K v1 v45 (.tuple []) h)
def Br(K:Nat)(v1 v36 v39:EV)(h:Aa):R:=
 Bg v36 (.bool true) v39 fun v40=>
 Ao (As v40 false)
 (An 4 v1 fun v42=>
 Am v42 h fun v43=>
 Ap Ih (bin TT .lss 3) v43 (.int .i64 0) fun v44=>
 Bn K v1 v40 v44 h)
 (Bn K v1 v40 (.tuple []) h)
def B1(K:Nat)(v1 v31 v34:EV)(h:Aa):R:=
 Bg v31 (.bool true) v34 fun v35=>
 Ao (As v35 false)
 (An 3 v1 fun v37=>
 Am v37 h fun v38=>
 Ap Tz (bin TT .gtr 3) v38 (.int .i64 256) fun v39=>
 Br K v1 v35 v39 h)
 (Br K v1 v35 (.tuple []) h)
def B5(K:Nat)(v1 v26 v29:EV)(h:Aa):R:=
 Bg v26 (.bool true) v29 fun v30=>
 Ao (As v30 false)
 (An 3 v1 fun v32=>
 Am v32 h fun v33=>
 Ap Ih (bin TT .lss 3) v33 (.int .i64 1) fun v34=>
 B1 K v1 v30 v34 h)
 (B1 K v1 v30 (.tuple []) h)
def Cm(K:Nat)(v1 v21 v24:EV)(h:Aa):R:=
 Bg v21 (.bool true) v24 fun v25=>
 Ao (As v25 false)
 (An 2 v1 fun v27=>
 Am v27 h fun v28=>
 Ap Tz (bin TT .gtr 3) v28 (.int .i64 64) fun v29=>
 B5 K v1 v25 v29 h)
 (B5 K v1 v25 (.tuple []) h)
def C2(K:Nat)(v1 v16 v19:EV)(h:Aa):R:=
 Bg v16 (.bool true) v19 fun v20=>
 Ao (As v20 false)
 (An 2 v1 fun v22=>
 Am v22 h fun v23=>
 Ap Ih (bin TT .lss 3) v23 (.int .i64 4) fun v24=>
 Cm K v1 v20 v24 h)
 (Cm K v1 v20 (.tuple []) h)
def Ed(K:Nat)(v1 v11 v14:EV)(h:Aa):R:=
 Bg v11 (.bool true) v14 fun v15=>
 Ao (As v15 false)
 (An 1 v1 fun v17=>
 Am v17 h fun v18=>
 Ap Tz (bin TT .gtr 3) v18 (.int .i64 64) fun v19=>
 C2 K v1 v15 v19 h)
 (C2 K v1 v15 (.tuple []) h)
def Ga(K:Nat)(v1 v6 v9:EV)(h:Aa):R:=
 Bg v6 (.bool true) v9 fun v10=>
 Ao (As v10 false)
 (An 1 v1 fun v12=>
 Am v12 h fun v13=>
 Ap Ih (bin TT .lss 3) v13 (.int .i64 1) fun v14=>
 Ed K v1 v10 v14 h)
 (Ed K v1 v10 (.tuple []) h)
def Ia(K:Nat)(v0:EV)(h:Aa):R:=
 E3 37 v0 h fun v1 h=>
 An 0 v1 fun v3=>
 Am v3 h fun v4=>
 Ap Ih (bin TT .lss 3) v4 (.int .i64 3) fun v5=>
 Ao (As v5 false)
 (An 0 v1 fun v7=>
 Am v7 h fun v8=>
 Ap Tz (bin TT .gtr 3) v8 (.int .i64 8) fun v9=>
 Ga K v1 v5 v9 h)
 (Ga K v1 v5 (.tuple []) h)
theorem Um(H:Au disp)(hd:3<=d)(v0:EV)(h:Aa):Af TT disp K d false 27 [v0] h=Ia K v0 h:=
 C9 (H.bare (by kernel_rfl)) hd (by kernel_rfl) (fun d hd=>(W1 (Uv H (lq hd rfl)) (W1 (Sk H (lq hd rfl)) rfl))) (fun d c r=>rfl) (fun d c r=>by kernel_rfl)
def Iv(K:Nat)(base:Nat)(s:DX)(v12 v21:EV)(h:Aa):R:=
 Bg v12 v21 (.bool false) fun v22=>
 some (v22,h)
def Lg(K:Nat)(base:Nat)(s:DX)(v1 v5 v10:EV)(h:Aa):R:=
 Bg v5 v10 (.bool false) fun v11=>
 Ao (As v11 true)
 (An 3 v1 fun v13=>
 A9 11 2047 base v13 s fun s=>Am v13 h fun v14=>
 Ap Wz (bin TT .mul 3) (.int .i64 2) v14 fun v15=>
 An 2 v1 fun v16=>
 A9 14 9215 base v16 s fun s=>Am v16 h fun v17=>
 A9 15 1023 base v1 s fun s=>B8 6 v1 h fun v18=>
 Cs 16 33791 s h (fun h=>(Lp K v18 h)) fun v19 h s=>
 Ap Wz (bin TT .mul 3) v17 v19 fun v20=>
 Ap Aab (bin TT .leq 3) v15 v20 fun v21=>
 Iv K base s v11 v21 h)
 (Iv K base s v11 (.tuple []) h)
def Jg(K:Nat)(v0:EV)(h:Aa):R:=
 E3 23 v0 h fun v1 h=>
 Gn h fun base s=>
 A9 0 0 base v1 s fun s=>B8 6 v1 h fun v3=>
 Cs 1 1 s h (fun h=>(Ow K v3 h)) fun v4 h s=>
 Ao (As v4 true)
 (A9 3 7 base v1 s fun s=>B8 6 v1 h fun v6=>
 Cs 4 15 s h (fun h=>(Oz K v6 h)) fun v7 h s=>
 An 2 v1 fun v8=>
 A9 6 39 base v8 s fun s=>Am v8 h fun v9=>
 Ap Aab (bin TT .leq 3) v7 v9 fun v10=>
 Lg K base s v1 v4 v10 h)
 (Lg K base s v1 v4 (.tuple []) h)
theorem Tf(H:Au disp)(hd:3<=d)(v0:EV)(h:Aa):Af TT disp K d false 62 [v0] h=Jg K v0 h:=
 C9 (H.bare (by kernel_rfl)) hd (by kernel_rfl) (fun d hd=>(W1 (Ac5 H (lq hd rfl)) (W1 (Acx H (lq hd rfl)) (W1 (Yt H (lq hd rfl)) rfl)))) (fun d c r=>rfl) (fun d c r=>by kernel_rfl)
def Abb(K:Nat)(v4:EV)(h:Aa):R:=
 some (.tuple [v4,(.int .i64 0)],h)
def Ah6(K:Nat)(ih1_:EV->EV->EV->EV->Aa->R)(v1 v4 v14 v15:EV)(h:Aa):R:=
 Ap Ip (bin TT .add 3) v15 (.int .i64 1) fun v36=>
 ih1_ v1 v4 v14 v36 h
def Ahv(K:Nat)(ih1_:EV->EV->EV->EV->Aa->R)(v1 v4 v5 v14 v15:EV)(h:Aa):R:=
 Bj v4 fun v28=>
 An 6 v28 fun v29=>
 Am v29 h fun v30=>
 Al (B3 [.Dx] 153 1 1 [(0,v5)] h) fun v32 h=>
 Al (D5 153 1 v30 v32 h) fun v33 h=>
 Bj v4 fun v34=>
 An 6 v34 fun v35=>
 Jf 1 v35 v33 h fun h=>
 Ah6 K ih1_ v1 v4 v14 v15 h
def Ahr(K:Nat)(ih1_:EV->EV->EV->EV->Aa->R)(v1 v4 v14 v15:EV)(h:Aa):R:=
 An 1 v1 fun v18=>
 Am v18 h fun v19=>
 Al (Xu K v19 h) fun v20 h=>
 Cq 0 v20 fun v21=>
 Cq 1 v20 fun v22=>
 Ap La (bin TT .neq 28) v22 (.int .i64 0) fun v24=>
 Fg v24
 (some (.tuple [.Dx,v22],h))
 (Ahv K ih1_ v1 v4 v21 v14 v15 h)
def Lb(K:Nat):Nat->EV->EV->EV->EV->Aa->R
 | 0=>fun _ _ _ _ _=>none
 | m+1=>fun v1 v4 v14 v15 h=>
  Ap Ih (bin TT .lss 3) v15 v14 fun v16=>
  Fg v16
  (Ahr K (Lb K m) v1 v4 v14 v15 h)
  (Abb K v4 h)
def Ah4(K:Nat)(v1:EV)(h:Aa):R:=
 B8 6 v1 h fun v10=>
 C0 (Gk [(0,6),(6,1)]) [(.int .i64 0),(.int .i64 0),(.int .i64 0),(.int .i64 0),(.int .i64 0),(.int .i64 0),.Ag] [(0,v10)] fun v11=>
 E3 152 v11 h fun v12 h=>
 An 0 v1 fun v13=>
 Am v13 h fun v14=>
 Lb K K v1 v12 v14 (.int .i64 0) h
def X5(K:Nat)(v0:EV)(h:Aa):R:=
 E3 23 v0 h fun v1 h=>
 B8 6 v1 h fun v7=>
 Al (Jg K v7 h) fun v8 h=>
 Sz v8 fun v9=>
 Fg v9
 (some (.tuple [.Dx,(.int .i64 20)],h))
 (Ah4 K v1 h)
abbrev At4(K:Nat)(c:Ac):Ac:=(w1 62 (Jg K) (w1 126 (Xu K) c))
theorem Als(c c' r:Ac)(K:Nat)(m:Nat):Jb (fun ih=>Ht TT (At4 K c) c' r K (nOf TT 73) (Gy TT 73) (Tx TT 73 [true,true,true,false,true,false]) [(0,fun ρ h=>Abb K (ρ 4) h)] ih) m=fun ρ h=>Lb K m (ρ 1) (ρ 4) (ρ 14) (ρ 15) h:=
 Dl (E:=fun m ρ h=>Lb K m (ρ 1) (ρ 4) (ρ 14) (ρ 15) h) rfl (fun m=>To fun ρ h=>by
  show _=Lb K (m+1) (ρ 1) (ρ 4) (ρ 14) (ρ 15) h
  rw[Lb];kernel_rfl) m
theorem Aog(H:Au disp)(hd:4<=d)(v0:EV)(h:Aa):Af TT disp K d false 73 [v0] h=X5 K v0 h:=
 C9 (H.bare (by kernel_rfl)) hd (by kernel_rfl) (fun d hd=>(W1 (Tf H (lq hd rfl)) (W1 (Al8 H (lq hd rfl)) rfl))) (fun d c r=>(cut [true,true,true,false,true,false] (Als (Af TT disp K d false) c r K K) (by kernel_rfl) (by kernel_rfl) rfl)) (fun d c r=>by kernel_rfl)
def Adg(K:Nat)(v0 v4 v5 v8:EV)(h:Aa):R:=
 Gn h fun base s=>
 A9 1 0 base v4 s fun s=>B8 6 v4 h fun v34=>
 A9 2 0 base v5 s fun s=>B8 256 v5 h fun v35=>
 A9 4 0 base v4 s fun s=>B8 6 v4 h fun v37=>
 Cs 5 16 s h (fun h=>(J7 K v37 h)) fun v38 h s=>
 Ad6 6 h s fun s=>Al (Zc [(.int .i64 0)] 3 v38 v38 h) fun v39 h=>
 C0 (Gk [(0,1),(1,6),(7,256),(263,1),(264,1),(265,1),(266,1),(267,1)]) ([.Dx]++List.replicate 6 (.int .i64 0)++List.replicate 256 (.int .u32 0)++[.Dx]++[.Ag]++List.replicate 3 (.int .i64 0)) [(0,v0),(1,v34),(2,v35),(3,v8),(4,v39),(5,(.int .i64 (-1))),(6,(.int .i64 (-1)))] fun v40=>
 Ad6 8 h s fun s=>E3 149 v40 h fun v41 h=>
 some (.tuple [v41,(.int .i64 0)],h)
def Mh(K:Nat)(base:Nat)(s:DX)(v0 v4 v5 v8 v25 v31:EV)(h:Aa):R:=
 Bg v25 (.bool true) v31 fun v32=>
 Fg v32
 (some (.tuple [.Dx,(.int .i64 20)],h))
 (Adg K v0 v4 v5 v8 h)
def Rf(K:Nat)(base:Nat)(s:DX)(v0 v4 v5 v8 v17 v23:EV)(h:Aa):R:=
 Bg v17 (.bool true) v23 fun v24=>
 Ao (As v24 false)
 (Cs 12 4095 s h (fun h=>(Jl K v0 h)) fun v27 h s=>
 Cs 13 8191 s h (fun h=>(Nw K v27 h)) fun v28 h s=>
 An 2 v4 fun v29=>
 A9 15 18431 base v29 s fun s=>Am v29 h fun v30=>
 Ap La (bin TT .neq 3) v28 v30 fun v31=>
 Mh K base s v0 v4 v5 v8 v24 v31 h)
 (Mh K base s v0 v4 v5 v8 v24 (.tuple []) h)
def Yd(K:Nat)(v0 v1 v2:EV)(h:Aa):R:=
 E3 23 v1 h fun v4 h=>
 E3 72 v2 h fun v5 h=>
 B8 6 v4 h fun v11=>
 Al (X5 K v11 h) fun v12 h=>
 Cq 0 v12 fun v13=>
 Cq 1 v12 fun v14=>
 Gn h fun base s=>
 Ap La (bin TT .neq 28) v14 (.int .i64 0) fun v16=>
 Ao (As v16 false)
 (Cs 4 15 s h (fun h=>(Jl K v0 h)) fun v19 h s=>
 Cs 5 31 s h (fun h=>(J1 K v19 h)) fun v20 h s=>
 A9 6 7 base v4 s fun s=>B8 6 v4 h fun v21=>
 Cs 7 127 s h (fun h=>(J7 K v21 h)) fun v22 h s=>
 Ap La (bin TT .neq 3) v20 v22 fun v23=>
 Rf K base s v0 v4 v5 v13 v16 v23 h)
 (Rf K base s v0 v4 v5 v13 v16 (.tuple []) h)
theorem Alb(H:Au disp)(hd:5<=d)(v0 v1 v2:EV)(h:Aa):Af TT disp K d false 25 [v0,v1,v2] h=Yd K v0 v1 v2 h:=
 C9 (H.bare (by kernel_rfl)) hd (by kernel_rfl) (fun d hd=>(W1 (Aog H (lq hd rfl)) (W1 (Aaq H (lq hd rfl)) (W1 (Qz H (lq hd rfl)) (W1 (P6 H (lq hd rfl)) (W1 (Abe H (lq hd rfl)) rfl)))))) (fun d c r=>rfl) (fun d c r=>by kernel_rfl)
end
end Go.Ev
