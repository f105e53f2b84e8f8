import Derived.Test.YtpkcfamminlmaaaGreatFun
set_option linter.unusedVariables false
set_option linter.unusedSimpArgs false
set_option linter.unusedSectionVars false
namespace Go.Ev
open Go.Proofs
set_option maxRecDepth 100000
set_option maxHeartbeats 4000000
noncomputable section
variable {disp:Nat->Option FT}{K d:Nat}
def Cy(K:Nat)(v0:EV)(h:Aa):R:=
 Bg v0 fun v4=>
 Ap 263 v4 fun v5=>
 Ao v5 h fun v6=>
 some (v6,h)
theorem Qk(H:An disp)(hd:1<=d)(v0:EV)(h:Aa):Ad TT disp K d false 14 [v0] h=Cy K v0 h:=
 Cp (H.bare (by kernel_rfl)) hd (by kernel_rfl) (fun d hd=>rfl) (fun d c r=>rfl) (fun d c r=>by kernel_rfl)
def Fc(K:Nat)(v0:EV)(h:Aa):R:=
 Kn (.cells [(.int .i64 0),(.int .i64 0),(.int .i64 0),(.int .i64 0),(.int .i64 0),(.int .i64 0)] 23) h fun v2 h=>
 Bg v0 fun v4=>
 Ap 1 v4 fun v5=>
 Ck 6 v5 h fun v6=>
 I9 6 v2 v6 h fun h=>
 Iz TT [.c v2 23] h
theorem Pr(H:An disp)(hd:1<=d)(v0:EV)(h:Aa):Ad TT disp K d false 30 [v0] h=Fc K v0 h:=
 Cp (H.bare (by kernel_rfl)) hd (by kernel_rfl) (fun d hd=>rfl) (fun d c r=>rfl) (fun d c r=>by kernel_rfl)
def Bx(K:Nat)(v0:EV)(h:Aa):R:=
 Bg v0 fun v4=>
 Ap 0 v4 fun v5=>
 Ao v5 h fun v6=>
 some (v6,h)
theorem Kj(H:An disp)(hd:1<=d)(v0:EV)(h:Aa):Ad TT disp K d false 31 [v0] h=Bx K v0 h:=
 Cp (H.bare (by kernel_rfl)) hd (by kernel_rfl) (fun d hd=>rfl) (fun d c r=>rfl) (fun d c r=>by kernel_rfl)
def Gb(K:Nat)(v0:EV)(h:Aa):R:=
 Kn (.cells (List.replicate 256 (.int .u32 0)) 72) h fun v2 h=>
 Bg v0 fun v4=>
 Ap 7 v4 fun v5=>
 Ck 256 v5 h fun v6=>
 I9 256 v2 v6 h fun h=>
 Iz TT [.c v2 72] h
theorem Ym(H:An disp)(hd:1<=d)(v0:EV)(h:Aa):Ad TT disp K d false 32 [v0] h=Gb K v0 h:=
 Cp (H.bare (by kernel_rfl)) hd (by kernel_rfl) (fun d hd=>rfl) (fun d c r=>rfl) (fun d c r=>by kernel_rfl)
def Cw(K:Nat)(v0:EV)(h:Aa):R:=
 Bg v0 fun v4=>
 Ap 0 v4 fun v5=>
 Ao v5 h fun v6=>
 some (v6,h)
theorem Ly(H:An disp)(hd:1<=d)(v0:EV)(h:Aa):Ad TT disp K d false 36 [v0] h=Cw K v0 h:=
 Cp (H.bare (by kernel_rfl)) hd (by kernel_rfl) (fun d hd=>rfl) (fun d c r=>rfl) (fun d c r=>by kernel_rfl)
def H5(K:Nat)(v0:EV)(h:Aa):R:=
 Dn 23 v0 h fun v1 h=>
 Ap 0 v1 fun v3=>
 Ao v3 h fun v4=>
 Ap 1 v1 fun v5=>
 Ao v5 h fun v6=>
 Aq Ud (bin TT .mul 3) v4 v6 fun v7=>
 some (v7,h)
theorem Mc(H:An disp)(hd:1<=d)(v0:EV)(h:Aa):Ad TT disp K d false 63 [v0] h=H5 K v0 h:=
 Cp (H.bare (by kernel_rfl)) hd (by kernel_rfl) (fun d hd=>rfl) (fun d c r=>rfl) (fun d c r=>by kernel_rfl)
def E7(K:Nat)(v0:EV)(h:Aa):R:=
 Bg v0 fun v4=>
 Ap 0 v4 fun v5=>
 Ao v5 h fun v6=>
 Aj (Aq5 v6 h) fun v7 h=>
 some (v7,h)
theorem N6(H:An disp)(hd:1<=d)(v0:EV)(h:Aa):Ad TT disp K d false 71 [v0] h=E7 K v0 h:=
 Cp (H.bare (by kernel_rfl)) hd (by kernel_rfl) (fun d hd=>rfl) (fun d c r=>rfl) (fun d c r=>by kernel_rfl)
def Jc(K:Nat)(v0:EV)(h:Aa):R:=
 Bg v0 fun v4=>
 Ap 0 v4 fun v5=>
 Ao v5 h fun v6=>
 H8 v6 fun v7=>
 some (v7,h)
theorem Qz(H:An disp)(hd:1<=d)(v0:EV)(h:Aa):Ad TT disp K d false 74 [v0] h=Jc K v0 h:=
 Cp (H.bare (by kernel_rfl)) hd (by kernel_rfl) (fun d hd=>rfl) (fun d c r=>rfl) (fun d c r=>by kernel_rfl)
def Ig(K:Nat)(v0:EV)(h:Aa):R:=
 Bg v0 fun v4=>
 Ap 1 v4 fun v5=>
 Ao v5 h fun v6=>
 some (v6,h)
theorem Sb(H:An disp)(hd:1<=d)(v0:EV)(h:Aa):Ad TT disp K d false 75 [v0] h=Ig K v0 h:=
 Cp (H.bare (by kernel_rfl)) hd (by kernel_rfl) (fun d hd=>rfl) (fun d c r=>rfl) (fun d c r=>by kernel_rfl)
def Iy(K:Nat)(v3:EV)(h:Aa):R:=
 some (v3,h)
def Nw(K:Nat)(ih1_:EV->EV->EV->Aa->R)(v1 v3 v4:EV)(h:Aa):R:=
 Aq Hj (bin TT .add 3) v4 (.int .i64 2) fun v10=>
 ih1_ v1 v3 v10 h
def Nx(K:Nat)(ih1_:EV->EV->EV->Aa->R)(v1 v3 v4:EV)(h:Aa):R:=
 Aq Hj (bin TT .add 3) v3 (.int .i64 1) fun v12=>
 Nw K ih1_ v1 v12 v4 h
def Cd(K:Nat):Nat->EV->EV->EV->Aa->R
 | 0=>fun _ _ _ _=>none
 | m+1=>fun v1 v3 v4 h=>
  Ap 3 v1 fun v6=>
  Ao v6 h fun v7=>
  Aq Gr (bin TT .lss 3) v4 v7 fun v8=>
  D8 v8
  (Nx K (Cd K m) v1 v3 v4 h)
  (Iy K v3 h)
def H0(K:Nat)(v0:EV)(h:Aa):R:=
 Dn 37 v0 h fun v1 h=>
 Cd K K v1 (.int .i64 1) (.int .i64 0) h
abbrev Xf(K:Nat)(c:Ac):Ac:=c
theorem Uh(c c' r:Ac)(K:Nat)(m:Nat):G2 (fun ih=>Fq TT (Xf K c) c' r K (nOf TT 76) (Eg TT 76) (Ph TT 76 [true,true,false,true,false]) [(0,fun ρ h=>Iy K (ρ 3) h)] ih) m=fun ρ h=>Cd K m (ρ 1) (ρ 3) (ρ 4) h:=
 Cj (E:=fun m ρ h=>Cd K m (ρ 1) (ρ 3) (ρ 4) h) rfl (fun m=>Pm fun ρ h=>by
  show _=Cd K (m+1) (ρ 1) (ρ 3) (ρ 4) h
  rw[Cd];kernel_rfl) m
theorem Vw(H:An disp)(hd:1<=d)(v0:EV)(h:Aa):Ad TT disp K d false 76 [v0] h=H0 K v0 h:=
 Cp (H.bare (by kernel_rfl)) hd (by kernel_rfl) (fun d hd=>rfl) (fun d c r=>(cut [true,true,false,true,false] (Uh (Ad TT disp K d false) c r K K) (by kernel_rfl) (by kernel_rfl) rfl)) (fun d c r=>by kernel_rfl)
def I6(K:Nat)(v0:EV)(h:Aa):R:=
 Dn 23 v0 h fun v1 h=>
 Ap 3 v1 fun v3=>
 Ao v3 h fun v4=>
 Aq Hj (bin TT .add 3) v4 (.int .i64 2) fun v5=>
 Aq Um (bin TT .sub 3) v5 (.int .i64 1) fun v6=>
 Oc (bin TT .quo 3) v6 (.int .i64 2) fun v7=>
 Aq Hj (bin TT .add 3) (.int .i64 1) v7 fun v8=>
 some (v8,h)
theorem T6(H:An disp)(hd:1<=d)(v0:EV)(h:Aa):Ad TT disp K d false 112 [v0] h=I6 K v0 h:=
 Cp (H.bare (by kernel_rfl)) hd (by kernel_rfl) (fun d hd=>rfl) (fun d c r=>rfl) (fun d c r=>by kernel_rfl)
def P5(K:Nat)(v7 v10:EV)(h:Aa):R:=
 Bu v7 v10 (.bool false) fun v11=>
 some (v11,h)
def Pe(K:Nat)(v0 v1:EV)(h:Aa):R:=
 Aq V5 (bin TT .geq 3) v0 (.int .i64 1) fun v6=>
 Ar (Au v6 true)
 (Aq Ahs (bin TT .leq 3) v0 v1 fun v10=>
 P5 K v6 v10 h)
 (P5 K v6 (.tuple []) h)
theorem Ako(H:An disp)(hd:1<=d)(v0 v1:EV)(h:Aa):Ad TT disp K d false 124 [v0,v1] h=Pe K v0 v1 h:=
 Cp (H.bare (by kernel_rfl)) hd (by kernel_rfl) (fun d hd=>rfl) (fun d c r=>rfl) (fun d c r=>by kernel_rfl)
def Oq(K:Nat)(v0:EV)(h:Aa):R:=
 C1 (G3 [(0,1),(1,1),(2,1),(3,1),(4,1)]) [.Af,(.int .i64 0),(.int .i64 0),(.int .i64 0),(.bool false)] [(1,v0)] fun v11=>
 Dn 240 v11 h fun v12 h=>
 some (.tuple [v12,(.int .i64 0)],h)
def Jv(K:Nat)(v0 v6 v8:EV)(h:Aa):R:=
 Bu v6 (.bool true) v8 fun v9=>
 D8 v9
 (some (.tuple [.Db,(.int .i64 13)],h))
 (Oq K v0 h)
def Gt(K:Nat)(v0:EV)(h:Aa):R:=
 Aq Gr (bin TT .lss 3) v0 (.int .i64 1) fun v5=>
 Ar (Au v5 false)
 (Aq Ye (bin TT .gtr 3) v0 (.int .i64 64) fun v8=>
 Jv K v0 v5 v8 h)
 (Jv K v0 v5 (.tuple []) h)
theorem V7(H:An disp)(hd:1<=d)(v0:EV)(h:Aa):Ad TT disp K d false 125 [v0] h=Gt K v0 h:=
 Cp (H.bare (by kernel_rfl)) hd (by kernel_rfl) (fun d hd=>rfl) (fun d c r=>rfl) (fun d c r=>by kernel_rfl)
def Ahj(K:Nat)(v0:EV)(h:Aa):R:=
 Aj (Adx v0 h) fun v11 h=>
 C1 (G3 [(0,1)]) [.Uf] [(0,v11)] fun v12=>
 Dn 218 v12 h fun v13 h=>
 some (.tuple [v13,(.int .i64 0)],h)
def Zr(K:Nat)(v0 v6 v8:EV)(h:Aa):R:=
 Bu v6 (.bool true) v8 fun v9=>
 D8 v9
 (some (.tuple [.Db,(.int .i64 13)],h))
 (Ahj K v0 h)
def Yp(K:Nat)(v0:EV)(h:Aa):R:=
 Aq Gr (bin TT .lss 3) v0 (.int .i64 1) fun v5=>
 Ar (Au v5 false)
 (Aq Ye (bin TT .gtr 3) v0 (.int .i64 4096) fun v8=>
 Zr K v0 v5 v8 h)
 (Zr K v0 v5 (.tuple []) h)
theorem Aob(H:An disp)(hd:1<=d)(v0:EV)(h:Aa):Ad TT disp K d false 126 [v0] h=Yp K v0 h:=
 Cp (H.bare (by kernel_rfl)) hd (by kernel_rfl) (fun d hd=>rfl) (fun d c r=>rfl) (fun d c r=>by kernel_rfl)
def Qt(K:Nat)(v0:EV)(h:Aa):R:=
 Oc (bin TT .quo 3) v0 (.int .i64 2) fun v10=>
 some (v10,h)
def Jz(K:Nat)(v0:EV)(h:Aa):R:=
 Aq Gr (bin TT .lss 3) v0 (.int .i64 0) fun v4=>
 D8 v4
 (Aq Um (bin TT .sub 3) (.int .i64 1) v0 fun v6=>
 Oc (bin TT .quo 3) v6 (.int .i64 2) fun v7=>
 Ara v7 fun v8=>
 some (v8,h))
 (Qt K v0 h)
theorem Yq(H:An disp)(hd:1<=d)(v0:EV)(h:Aa):Ad TT disp K d false 127 [v0] h=Jz K v0 h:=
 Cp (H.bare (by kernel_rfl)) hd (by kernel_rfl) (fun d hd=>rfl) (fun d c r=>rfl) (fun d c r=>by kernel_rfl)
def Vy(K:Nat)(v10 v13:EV)(h:Aa):R:=
 Bu v10 v13 (.bool false) fun v14=>
 some (v14,h)
def Hd(K:Nat)(v0 v1 v2:EV)(h:Aa):R:=
 Aq V5 (bin TT .geq 3) v0 v1 fun v9=>
 Ar (Au v9 true)
 (Aq Ahs (bin TT .leq 3) v0 v2 fun v13=>
 Vy K v9 v13 h)
 (Vy K v9 (.tuple []) h)
theorem Aai(H:An disp)(hd:1<=d)(v0 v1 v2:EV)(h:Aa):Ad TT disp K d false 140 [v0,v1,v2] h=Hd K v0 v1 v2 h:=
 Cp (H.bare (by kernel_rfl)) hd (by kernel_rfl) (fun d hd=>rfl) (fun d c r=>rfl) (fun d c r=>by kernel_rfl)
def Md(K:Nat)(v0:EV)(h:Aa):R:=
 Dn 23 v0 h fun v1 h=>
 Ap 0 v1 fun v3=>
 Ao v3 h fun v4=>
 Ap 4 v1 fun v5=>
 Ao v5 h fun v6=>
 Aq Ud (bin TT .mul 3) v4 v6 fun v7=>
 Aq Hj (bin TT .add 3) v7 (.int .i64 4) fun v8=>
 some (v8,h)
theorem Aa2(H:An disp)(hd:1<=d)(v0:EV)(h:Aa):Ad TT disp K d false 159 [v0] h=Md K v0 h:=
 Cp (H.bare (by kernel_rfl)) hd (by kernel_rfl) (fun d hd=>rfl) (fun d c r=>rfl) (fun d c r=>by kernel_rfl)
def U5(K:Nat)(v0 v1:EV)(h:Aa):R:=
 Bg v0 fun v17=>
 Ap 6 v17 fun v18=>
 Ao v18 h fun v19=>
 Ib 1 v19 v1 fun v21=>
 Ao v21 h fun v22=>
 Aj (E7 K v22 h) fun v23 h=>
 some (v23,h)
def Kt(K:Nat)(v0 v1 v7 v14:EV)(h:Aa):R:=
 Bu v7 (.bool true) v14 fun v15=>
 D8 v15
 (some ((.int .i64 0),h))
 (U5 K v0 v1 h)
def I7(K:Nat)(v0 v1:EV)(h:Aa):R:=
 Aq Gr (bin TT .lss 3) v1 (.int .i64 0) fun v6=>
 Ar (Au v6 false)
 (Bg v0 fun v10=>
 Ap 6 v10 fun v11=>
 Ao v11 h fun v12=>
 H8 v12 fun v13=>
 Aq V5 (bin TT .geq 3) v1 v13 fun v14=>
 Kt K v0 v1 v6 v14 h)
 (Kt K v0 v1 v6 (.tuple []) h)
theorem Aem(H:An disp)(hd:2<=d)(v0 v1:EV)(h:Aa):Ad TT disp K d false 22 [v0,v1] h=I7 K v0 v1 h:=
 Cp (H.bare (by kernel_rfl)) hd (by kernel_rfl) (fun d hd=>(W1 (N6 H (lq hd rfl)) rfl)) (fun d c r=>rfl) (fun d c r=>by kernel_rfl)
def Abu(K:Nat)(v8:EV)(h:Aa):R:=
 some (.tuple [v8,(.int .i64 0)],h)
def Aji(K:Nat)(ih1_:EV->EV->EV->EV->Aa->R)(v1 v8 v23 v24:EV)(h:Aa):R:=
 Aq Hj (bin TT .add 3) v24 (.int .i64 1) fun v44=>
 ih1_ v1 v8 v23 v44 h
def Akb(K:Nat)(ih1_:EV->EV->EV->EV->Aa->R)(v1 v8 v9 v23 v24:EV)(h:Aa):R:=
 Bg v8 fun v36=>
 Ap 0 v36 fun v37=>
 Ao v37 h fun v38=>
 Aj (B3 [.Db] 180 1 1 [(0,v9)] h) fun v40 h=>
 Aj (Da 180 1 v38 v40 h) fun v41 h=>
 Bg v8 fun v42=>
 Ap 0 v42 fun v43=>
 I9 1 v43 v41 h fun h=>
 Aji K ih1_ v1 v8 v23 v24 h
def Aj0(K:Nat)(ih1_:EV->EV->EV->EV->Aa->R)(v1 v8 v23 v24:EV)(h:Aa):R:=
 Aj (Gt K v1 h) fun v28 h=>
 C9 0 v28 fun v29=>
 C9 1 v28 fun v30=>
 Aq Ka (bin TT .neq 28) v30 (.int .i64 0) fun v32=>
 D8 v32
 (some (.tuple [.Db,v30],h))
 (Akb K ih1_ v1 v8 v29 v23 v24 h)
def Ks(K:Nat):Nat->EV->EV->EV->EV->Aa->R
 | 0=>fun _ _ _ _ _=>none
 | m+1=>fun v1 v8 v23 v24 h=>
  Aq Gr (bin TT .lss 3) v24 v23 fun v25=>
  D8 v25
  (Aj0 K (Ks K m) v1 v8 v23 v24 h)
  (Abu K v8 h)
def Ajw(K:Nat)(v0 v1 v2:EV)(h:Aa):R:=
 C1 (G3 [(0,1),(1,1),(2,1),(3,1),(4,1)]) [.Af,(.int .i64 0),(.int .i64 0),(.int .i64 0),(.bool false)] [(1,v1),(2,v2)] fun v21=>
 Dn 183 v21 h fun v22 h=>
 Ks K K v1 v22 v0 (.int .i64 0) h
def Abt(K:Nat)(v0 v1 v2 v14 v17:EV)(h:Aa):R:=
 Bu v14 (.bool true) v17 fun v18=>
 D8 v18
 (some (.tuple [.Db,(.int .i64 13)],h))
 (Ajw K v0 v1 v2 h)
def Ags(K:Nat)(v0 v1 v2:EV)(h:Aa):R:=
 Aj (Pe K v0 (.int .i64 512) h) fun v12 h=>
 Lf v12 fun v13=>
 Ar (Au v13 false)
 (Aj (Pe K v2 (.int .i64 64) h) fun v16 h=>
 Lf v16 fun v17=>
 Abt K v0 v1 v2 v13 v17 h)
 (Abt K v0 v1 v2 v13 (.tuple []) h)
abbrev Aux(K:Nat)(c:Ac):Ac:=(w2 124 (Pe K) (w1 125 (Gt K) c))
theorem Ans(c c' r:Ac)(K:Nat)(m:Nat):G2 (fun ih=>Fq TT (Aux K c) c' r K (nOf TT 72) (Eg TT 72) (Ph TT 72 [true,true,true,false,true,false]) [(0,fun ρ h=>Abu K (ρ 8) h)] ih) m=fun ρ h=>Ks K m (ρ 1) (ρ 8) (ρ 23) (ρ 24) h:=
 Cj (E:=fun m ρ h=>Ks K m (ρ 1) (ρ 8) (ρ 23) (ρ 24) h) rfl (fun m=>Pm fun ρ h=>by
  show _=Ks K (m+1) (ρ 1) (ρ 8) (ρ 23) (ρ 24) h
  rw[Ks];kernel_rfl) m
theorem Apz(H:An disp)(hd:2<=d)(v0 v1 v2:EV)(h:Aa):Ad TT disp K d false 72 [v0,v1,v2] h=Ags K v0 v1 v2 h:=
 Cp (H.bare (by kernel_rfl)) hd (by kernel_rfl) (fun d hd=>(W2 (Ako H (lq hd rfl)) (W1 (V7 H (lq hd rfl)) rfl))) (fun d c r=>(cut [true,true,true,false,true,false] (Ans (Ad TT disp K d false) c r K K) (by kernel_rfl) (by kernel_rfl) rfl)) (fun d c r=>by kernel_rfl)
def E9(K:Nat)(v1 v5:EV)(h:Aa):R:=
 Gs h fun base s=>
 Ct 1 1 s h (fun h=>(Jz K v5 h)) fun v40 h s=>
 Aq Um (bin TT .sub 3) v40 (.int .i64 1) fun v41=>
 Ap 0 v1 fun v42=>
 Bn 4 8 base v42 s fun s=>Ao v42 h fun v43=>
 Ap 4 v1 fun v44=>
 Bn 6 32 base v44 s fun s=>Ao v44 h fun v45=>
 Aq Ud (bin TT .mul 3) v43 v45 fun v46=>
 Aq Um (bin TT .sub 3) v41 v46 fun v47=>
 some (v47,h)
def Gl(K:Nat)(v0:EV)(h:Aa):R:=
 Dn 37 v0 h fun v1 h=>
 Ap 1 v1 fun v7=>
 Ao v7 h fun v8=>
 Ap 4 v1 fun v9=>
 Ao v9 h fun v10=>
 Aq Um (bin TT .sub 3) v8 v10 fun v11=>
 Aq Um (bin TT .sub 3) v11 (.int .i64 2) fun v12=>
 Ap 0 v1 fun v13=>
 Ao v13 h fun v14=>
 Ap 4 v1 fun v15=>
 Ao v15 h fun v16=>
 Aq Ud (bin TT .mul 3) v14 v16 fun v17=>
 Aq Hj (bin TT .add 3) v17 (.int .i64 4) fun v18=>
 Ap 0 v1 fun v19=>
 Ao v19 h fun v20=>
 Aq Um (bin TT .sub 3) v20 (.int .i64 1) fun v21=>
 Aq Ud (bin TT .mul 3) v21 v12 fun v23=>
 Aq Um (bin TT .sub 3) v23 v18 fun v25=>
 Aq Hj (bin TT .add 3) v25 (.int .i64 1) fun v26=>
 Ap 0 v1 fun v27=>
 Ao v27 h fun v28=>
 Aq Ud (bin TT .mul 3) v28 v12 fun v30=>
 Aq Ud (bin TT .mul 3) (.int .i64 2) v18 fun v32=>
 Aq Um (bin TT .sub 3) v30 v32 fun v33=>
 Aq Hj (bin TT .add 3) v33 (.int .i64 1) fun v34=>
 Aq Gr (bin TT .lss 3) v34 v26 fun v37=>
 D8 v37
 (E9 K v1 v34 h)
 (E9 K v1 v26 h)
theorem Sp(H:An disp)(hd:2<=d)(v0:EV)(h:Aa):Ad TT disp K d false 77 [v0] h=Gl K v0 h:=
 Cp (H.bare (by kernel_rfl)) hd (by kernel_rfl) (fun d hd=>(W1 (Yq H (lq hd rfl)) rfl)) (fun d c r=>rfl) (fun d c r=>by kernel_rfl)
def Ec(K:Nat)(v26 v29:EV)(h:Aa):R:=
 Bu v26 v29 (.bool false) fun v30=>
 some (v30,h)
def Eh(K:Nat)(v1 v21 v24:EV)(h:Aa):R:=
 Bu v21 v24 (.bool false) fun v25=>
 Ar (Au v25 true)
 (Ap 5 v1 fun v27=>
 Ao v27 h fun v28=>
 Aj (Hd K v28 (.int .i64 4) (.int .i64 64) h) fun v29 h=>
 Ec K v25 v29 h)
 (Ec K v25 (.tuple []) h)
def D9(K:Nat)(v1 v16 v19:EV)(h:Aa):R:=
 Bu v16 v19 (.bool false) fun v20=>
 Ar (Au v20 true)
 (Ap 4 v1 fun v22=>
 Ao v22 h fun v23=>
 Aj (Hd K v23 (.int .i64 0) (.int .i64 4) h) fun v24 h=>
 Eh K v1 v20 v24 h)
 (Eh K v1 v20 (.tuple []) h)
def Eb(K:Nat)(v1 v11 v14:EV)(h:Aa):R:=
 Bu v11 v14 (.bool false) fun v15=>
 Ar (Au v15 true)
 (Ap 3 v1 fun v17=>
 Ao v17 h fun v18=>
 Aj (Hd K v18 (.int .i64 1) (.int .i64 256) h) fun v19 h=>
 D9 K v1 v15 v19 h)
 (D9 K v1 v15 (.tuple []) h)
def Ef(K:Nat)(v1 v6 v9:EV)(h:Aa):R:=
 Bu v6 v9 (.bool false) fun v10=>
 Ar (Au v10 true)
 (Ap 2 v1 fun v12=>
 Ao v12 h fun v13=>
 Aj (Hd K v13 (.int .i64 4) (.int .i64 64) h) fun v14 h=>
 Eb K v1 v10 v14 h)
 (Eb K v1 v10 (.tuple []) h)
def Ow(K:Nat)(v0:EV)(h:Aa):R:=
 Dn 23 v0 h fun v1 h=>
 Ap 0 v1 fun v3=>
 Ao v3 h fun v4=>
 Aj (Hd K v4 (.int .i64 3) (.int .i64 8) h) fun v5 h=>
 Ar (Au v5 true)
 (Ap 1 v1 fun v7=>
 Ao v7 h fun v8=>
 Aj (Hd K v8 (.int .i64 1) (.int .i64 64) h) fun v9 h=>
 Ef K v1 v5 v9 h)
 (Ef K v1 v5 (.tuple []) h)
theorem Aeb(H:An disp)(hd:2<=d)(v0:EV)(h:Aa):Ad TT disp K d false 111 [v0] h=Ow K v0 h:=
 Cp (H.bare (by kernel_rfl)) hd (by kernel_rfl) (fun d hd=>(W3 (Aai H (lq hd rfl)) rfl)) (fun d c r=>rfl) (fun d c r=>by kernel_rfl)
def K2(K:Nat)(v0:EV)(h:Aa):R:=
 Dn 23 v0 h fun v1 h=>
 Gs h fun base s=>
 Ap 1 v1 fun v6=>
 Bn 1 1 base v6 s fun s=>Ao v6 h fun v7=>
 Ap 4 v1 fun v8=>
 Bn 3 4 base v8 s fun s=>Ao v8 h fun v9=>
 Aq Um (bin TT .sub 3) v7 v9 fun v10=>
 Aq Um (bin TT .sub 3) v10 (.int .i64 2) fun v11=>
 Bn 6 0 base v1 s fun s=>Ck 6 v1 h fun v12=>
 Ct 7 64 s h (fun h=>(Md K v12 h)) fun v13 h s=>
 Ap 0 v1 fun v14=>
 Ao v14 h fun v15=>
 Aq Um (bin TT .sub 3) v15 (.int .i64 1) fun v16=>
 Aq Ud (bin TT .mul 3) v16 v11 fun v18=>
 Aq Um (bin TT .sub 3) v18 v13 fun v20=>
 Aq Hj (bin TT .add 3) v20 (.int .i64 1) fun v21=>
 Ap 0 v1 fun v22=>
 Ao v22 h fun v23=>
 Aq Ud (bin TT .mul 3) v23 v11 fun v25=>
 Aq Ud (bin TT .mul 3) (.int .i64 2) v13 fun v27=>
 Aq Um (bin TT .sub 3) v25 v27 fun v28=>
 Aq Hj (bin TT .add 3) v28 (.int .i64 1) fun v29=>
 Aj (builtin TT .min #[3,3] [v21,v29] h) fun v30 h=>
 Oc (bin TT .shr 3) v30 (.int .u64 1) fun v32=>
 Aq Um (bin TT .sub 3) v32 (.int .i64 1) fun v33=>
 Ap 0 v1 fun v34=>
 Ao v34 h fun v35=>
 Ap 4 v1 fun v36=>
 Ao v36 h fun v37=>
 Aq Ud (bin TT .mul 3) v35 v37 fun v38=>
 Aq Um (bin TT .sub 3) v33 v38 fun v39=>
 some (v39,h)
theorem Z8(H:An disp)(hd:2<=d)(v0:EV)(h:Aa):Ad TT disp K d false 113 [v0] h=K2 K v0 h:=
 Cp (H.bare (by kernel_rfl)) hd (by kernel_rfl) (fun d hd=>(W1 (Aa2 H (lq hd rfl)) rfl)) (fun d c r=>rfl) (fun d c r=>by kernel_rfl)
def Ajp(K:Nat)(v8:EV)(h:Aa):R:=
 Aj (Ain h) fun v21 h=>
 C1 (G3 [(0,1),(1,1),(2,1),(3,1)]) [.Db,.Af,.Af,.Z9] [(0,v8),(3,v21)] fun v22=>
 Dn 166 v22 h fun v23 h=>
 some (.tuple [v23,(.int .i64 0)],h)
def Ag2(K:Nat)(v0 v1 v2:EV)(h:Aa):R:=
 Aj (Ags K v0 v1 v2 h) fun v14 h=>
 C9 0 v14 fun v15=>
 C9 1 v14 fun v16=>
 Aq Ka (bin TT .neq 28) v16 (.int .i64 0) fun v18=>
 D8 v18
 (some (.tuple [.Db,v16],h))
 (Ajp K v15 h)
theorem Ap0(H:An disp)(hd:3<=d)(v0 v1 v2:EV)(h:Aa):Ad TT disp K d false 24 [v0,v1,v2] h=Ag2 K v0 v1 v2 h:=
 Cp (H.bare (by kernel_rfl)) hd (by kernel_rfl) (fun d hd=>(W3 (Apz H (lq hd rfl)) rfl)) (fun d c r=>rfl) (fun d c r=>by kernel_rfl)
def Gp(K:Nat)(base:Nat)(s:DX)(v66 v75:EV)(h:Aa):R:=
 Bu v66 v75 (.bool false) fun v76=>
 some (v76,h)
def Nu(K:Nat)(v1:EV)(h:Aa):R:=
 Gs h fun base s=>
 Bn 0 0 base v1 s fun s=>Ck 6 v1 h fun v61=>
 Ct 1 1 s h (fun h=>(H0 K v61 h)) fun v62 h s=>
 Ap 2 v1 fun v63=>
 Bn 3 4 base v63 s fun s=>Ao v63 h fun v64=>
 Aq Ahs (bin TT .leq 3) v62 v64 fun v65=>
 Ar (Au v65 true)
 (Ap 3 v1 fun v67=>
 Bn 7 127 base v67 s fun s=>Ao v67 h fun v68=>
 Aq Ud (bin TT .mul 3) (.int .i64 2) v68 fun v69=>
 Ap 2 v1 fun v70=>
 Bn 10 575 base v70 s fun s=>Ao v70 h fun v71=>
 Bn 11 63 base v1 s fun s=>Ck 6 v1 h fun v72=>
 Ct 12 2111 s h (fun h=>(Gl K v72 h)) fun v73 h s=>
 Aq Ud (bin TT .mul 3) v71 v73 fun v74=>
 Aq Ahs (bin TT .leq 3) v69 v74 fun v75=>
 Gp K base s v65 v75 h)
 (Gp K base s v65 (.tuple []) h)
def A6(K:Nat)(v1 v56 v59:EV)(h:Aa):R:=
 Bu v56 (.bool true) v59 fun v60=>
 D8 v60
 (some ((.bool false),h))
 (Nu K v1 h)
def Be(K:Nat)(v1 v51 v54:EV)(h:Aa):R:=
 Bu v51 (.bool true) v54 fun v55=>
 Ar (Au v55 false)
 (Ap 5 v1 fun v57=>
 Ao v57 h fun v58=>
 Aq Ye (bin TT .gtr 3) v58 (.int .i64 64) fun v59=>
 A6 K v1 v55 v59 h)
 (A6 K v1 v55 (.tuple []) h)
def Bi(K:Nat)(v1 v46 v49:EV)(h:Aa):R:=
 Bu v46 (.bool true) v49 fun v50=>
 Ar (Au v50 false)
 (Ap 5 v1 fun v52=>
 Ao v52 h fun v53=>
 Aq Gr (bin TT .lss 3) v53 (.int .i64 4) fun v54=>
 Be K v1 v50 v54 h)
 (Be K v1 v50 (.tuple []) h)
def Bp(K:Nat)(v1 v41 v44:EV)(h:Aa):R:=
 Bu v41 (.bool true) v44 fun v45=>
 Ar (Au v45 false)
 (Ap 4 v1 fun v47=>
 Ao v47 h fun v48=>
 Aq Ye (bin TT .gtr 3) v48 (.int .i64 4) fun v49=>
 Bi K v1 v45 v49 h)
 (Bi K v1 v45 (.tuple []) h)
def Bt(K:Nat)(v1 v36 v39:EV)(h:Aa):R:=
 Bu v36 (.bool true) v39 fun v40=>
 Ar (Au v40 false)
 (Ap 4 v1 fun v42=>
 Ao v42 h fun v43=>
 Aq Gr (bin TT .lss 3) v43 (.int .i64 0) fun v44=>
 Bp K v1 v40 v44 h)
 (Bp K v1 v40 (.tuple []) h)
def B1(K:Nat)(v1 v31 v34:EV)(h:Aa):R:=
 Bu v31 (.bool true) v34 fun v35=>
 Ar (Au v35 false)
 (Ap 3 v1 fun v37=>
 Ao v37 h fun v38=>
 Aq Ye (bin TT .gtr 3) v38 (.int .i64 256) fun v39=>
 Bt K v1 v35 v39 h)
 (Bt K v1 v35 (.tuple []) h)
def Cc(K:Nat)(v1 v26 v29:EV)(h:Aa):R:=
 Bu v26 (.bool true) v29 fun v30=>
 Ar (Au v30 false)
 (Ap 3 v1 fun v32=>
 Ao v32 h fun v33=>
 Aq Gr (bin TT .lss 3) v33 (.int .i64 1) fun v34=>
 B1 K v1 v30 v34 h)
 (B1 K v1 v30 (.tuple []) h)
def Cs(K:Nat)(v1 v21 v24:EV)(h:Aa):R:=
 Bu v21 (.bool true) v24 fun v25=>
 Ar (Au v25 false)
 (Ap 2 v1 fun v27=>
 Ao v27 h fun v28=>
 Aq Ye (bin TT .gtr 3) v28 (.int .i64 64) fun v29=>
 Cc K v1 v25 v29 h)
 (Cc K v1 v25 (.tuple []) h)
def C6(K:Nat)(v1 v16 v19:EV)(h:Aa):R:=
 Bu v16 (.bool true) v19 fun v20=>
 Ar (Au v20 false)
 (Ap 2 v1 fun v22=>
 Ao v22 h fun v23=>
 Aq Gr (bin TT .lss 3) v23 (.int .i64 4) fun v24=>
 Cs K v1 v20 v24 h)
 (Cs K v1 v20 (.tuple []) h)
def Ei(K:Nat)(v1 v11 v14:EV)(h:Aa):R:=
 Bu v11 (.bool true) v14 fun v15=>
 Ar (Au v15 false)
 (Ap 1 v1 fun v17=>
 Ao v17 h fun v18=>
 Aq Ye (bin TT .gtr 3) v18 (.int .i64 64) fun v19=>
 C6 K v1 v15 v19 h)
 (C6 K v1 v15 (.tuple []) h)
def F9(K:Nat)(v1 v6 v9:EV)(h:Aa):R:=
 Bu v6 (.bool true) v9 fun v10=>
 Ar (Au v10 false)
 (Ap 1 v1 fun v12=>
 Ao v12 h fun v13=>
 Aq Gr (bin TT .lss 3) v13 (.int .i64 1) fun v14=>
 Ei K v1 v10 v14 h)
 (Ei K v1 v10 (.tuple []) h)
def Hv(K:Nat)(v0:EV)(h:Aa):R:=
 Dn 37 v0 h fun v1 h=>
 Ap 0 v1 fun v3=>
 Ao v3 h fun v4=>
 Aq Gr (bin TT .lss 3) v4 (.int .i64 3) fun v5=>
 Ar (Au v5 false)
 (Ap 0 v1 fun v7=>
 Ao v7 h fun v8=>
 Aq Ye (bin TT .gtr 3) v8 (.int .i64 8) fun v9=>
 F9 K v1 v5 v9 h)
 (F9 K v1 v5 (.tuple []) h)
theorem U6(H:An disp)(hd:3<=d)(v0:EV)(h:Aa):Ad TT disp K d false 27 [v0] h=Hv K v0 h:=
 Cp (H.bare (by kernel_rfl)) hd (by kernel_rfl) (fun d hd=>(W1 (Vw H (lq hd rfl)) (W1 (Sp H (lq hd rfl)) rfl))) (fun d c r=>rfl) (fun d c r=>by kernel_rfl)
def Ik(K:Nat)(base:Nat)(s:DX)(v12 v21:EV)(h:Aa):R:=
 Bu v12 v21 (.bool false) fun v22=>
 some (v22,h)
def K1(K:Nat)(base:Nat)(s:DX)(v1 v5 v10:EV)(h:Aa):R:=
 Bu v5 v10 (.bool false) fun v11=>
 Ar (Au v11 true)
 (Ap 3 v1 fun v13=>
 Bn 11 2047 base v13 s fun s=>Ao v13 h fun v14=>
 Aq Ud (bin TT .mul 3) (.int .i64 2) v14 fun v15=>
 Ap 2 v1 fun v16=>
 Bn 14 9215 base v16 s fun s=>Ao v16 h fun v17=>
 Bn 15 1023 base v1 s fun s=>Ck 6 v1 h fun v18=>
 Ct 16 33791 s h (fun h=>(K2 K v18 h)) fun v19 h s=>
 Aq Ud (bin TT .mul 3) v17 v19 fun v20=>
 Aq Ahs (bin TT .leq 3) v15 v20 fun v21=>
 Ik K base s v11 v21 h)
 (Ik K base s v11 (.tuple []) h)
def Hr(K:Nat)(v0:EV)(h:Aa):R:=
 Dn 23 v0 h fun v1 h=>
 Gs h fun base s=>
 Bn 0 0 base v1 s fun s=>Ck 6 v1 h fun v3=>
 Ct 1 1 s h (fun h=>(Ow K v3 h)) fun v4 h s=>
 Ar (Au v4 true)
 (Bn 3 7 base v1 s fun s=>Ck 6 v1 h fun v6=>
 Ct 4 15 s h (fun h=>(I6 K v6 h)) fun v7 h s=>
 Ap 2 v1 fun v8=>
 Bn 6 39 base v8 s fun s=>Ao v8 h fun v9=>
 Aq Ahs (bin TT .leq 3) v7 v9 fun v10=>
 K1 K base s v1 v4 v10 h)
 (K1 K base s v1 v4 (.tuple []) h)
theorem Ob(H:An disp)(hd:3<=d)(v0:EV)(h:Aa):Ad TT disp K d false 62 [v0] h=Hr K v0 h:=
 Cp (H.bare (by kernel_rfl)) hd (by kernel_rfl) (fun d hd=>(W1 (Aeb H (lq hd rfl)) (W1 (T6 H (lq hd rfl)) (W1 (Z8 H (lq hd rfl)) rfl)))) (fun d c r=>rfl) (fun d c r=>by kernel_rfl)
def Ads(K:Nat)(v4:EV)(h:Aa):R:=
 some (.tuple [v4,(.int .i64 0)],h)
def Ajs(K:Nat)(ih1_:EV->EV->EV->EV->Aa->R)(v1 v4 v14 v15:EV)(h:Aa):R:=
 Aq Hj (bin TT .add 3) v15 (.int .i64 1) fun v36=>
 ih1_ v1 v4 v14 v36 h
def Ajz(K:Nat)(ih1_:EV->EV->EV->EV->Aa->R)(v1 v4 v5 v14 v15:EV)(h:Aa):R:=
 Bg v4 fun v28=>
 Ap 6 v28 fun v29=>
 Ao v29 h fun v30=>
 Aj (B3 [.Db] 153 1 1 [(0,v5)] h) fun v32 h=>
 Aj (Da 153 1 v30 v32 h) fun v33 h=>
 Bg v4 fun v34=>
 Ap 6 v34 fun v35=>
 I9 1 v35 v33 h fun h=>
 Ajs K ih1_ v1 v4 v14 v15 h
def Ajv(K:Nat)(ih1_:EV->EV->EV->EV->Aa->R)(v1 v4 v14 v15:EV)(h:Aa):R:=
 Ap 1 v1 fun v18=>
 Ao v18 h fun v19=>
 Aj (Yp K v19 h) fun v20 h=>
 C9 0 v20 fun v21=>
 C9 1 v20 fun v22=>
 Aq Ka (bin TT .neq 28) v22 (.int .i64 0) fun v24=>
 D8 v24
 (some (.tuple [.Db,v22],h))
 (Ajz K ih1_ v1 v4 v21 v14 v15 h)
def Kr(K:Nat):Nat->EV->EV->EV->EV->Aa->R
 | 0=>fun _ _ _ _ _=>none
 | m+1=>fun v1 v4 v14 v15 h=>
  Aq Gr (bin TT .lss 3) v15 v14 fun v16=>
  D8 v16
  (Ajv K (Kr K m) v1 v4 v14 v15 h)
  (Ads K v4 h)
def Ajn(K:Nat)(v1:EV)(h:Aa):R:=
 Ck 6 v1 h fun v10=>
 C1 (G3 [(0,6),(6,1)]) [(.int .i64 0),(.int .i64 0),(.int .i64 0),(.int .i64 0),(.int .i64 0),(.int .i64 0),.Af] [(0,v10)] fun v11=>
 Dn 152 v11 h fun v12 h=>
 Ap 0 v1 fun v13=>
 Ao v13 h fun v14=>
 Kr K K v1 v12 v14 (.int .i64 0) h
def Xx(K:Nat)(v0:EV)(h:Aa):R:=
 Dn 23 v0 h fun v1 h=>
 Ck 6 v1 h fun v7=>
 Aj (Hr K v7 h) fun v8 h=>
 Lf v8 fun v9=>
 D8 v9
 (some (.tuple [.Db,(.int .i64 20)],h))
 (Ajn K v1 h)
abbrev Aum(K:Nat)(c:Ac):Ac:=(w1 62 (Hr K) (w1 126 (Yp K) c))
theorem Aoe(c c' r:Ac)(K:Nat)(m:Nat):G2 (fun ih=>Fq TT (Aum K c) c' r K (nOf TT 73) (Eg TT 73) (Ph TT 73 [true,true,true,false,true,false]) [(0,fun ρ h=>Ads K (ρ 4) h)] ih) m=fun ρ h=>Kr K m (ρ 1) (ρ 4) (ρ 14) (ρ 15) h:=
 Cj (E:=fun m ρ h=>Kr K m (ρ 1) (ρ 4) (ρ 14) (ρ 15) h) rfl (fun m=>Pm fun ρ h=>by
  show _=Kr K (m+1) (ρ 1) (ρ 4) (ρ 14) (ρ 15) h
  rw[Kr];kernel_rfl) m
theorem Aq3(H:An disp)(hd:4<=d)(v0:EV)(h:Aa):Ad TT disp K d false 73 [v0] h=Xx K v0 h:=
 Cp (H.bare (by kernel_rfl)) hd (by kernel_rfl) (fun d hd=>(W1 (Ob H (lq hd rfl)) (W1 (Aob H (lq hd rfl)) rfl))) (fun d c r=>(cut [true,true,true,false,true,false] (Aoe (Ad TT disp K d false) c r K K) (by kernel_rfl) (by kernel_rfl) rfl)) (fun d c r=>by kernel_rfl)
def Aey(K:Nat)(v0 v4 v5 v8:EV)(h:Aa):R:=
 Gs h fun base s=>
 Bn 1 0 base v4 s fun s=>Ck 6 v4 h fun v34=>
 Bn 2 0 base v5 s fun s=>Ck 256 v5 h fun v35=>
 Bn 4 0 base v4 s fun s=>Ck 6 v4 h fun v37=>
 Ct 5 16 s h (fun h=>(H5 K v37 h)) fun v38 h s=>
 Adm 6 h s fun s=>Aj (O4 [(.int .i64 0)] 3 v38 v38 h) fun v39 h=>
 C1 (G3 [(0,1),(1,6),(7,256),(263,1),(264,1),(265,1),(266,1),(267,1)]) ([.Db]++List.replicate 6 (.int .i64 0)++List.replicate 256 (.int .u32 0)++[.Db]++[.Af]++List.replicate 3 (.int .i64 0)) [(0,v0),(1,v34),(2,v35),(3,v8),(4,v39),(5,(.int .i64 (-1))),(6,(.int .i64 (-1)))] fun v40=>
 Adm 8 h s fun s=>Dn 149 v40 h fun v41 h=>
 some (.tuple [v41,(.int .i64 0)],h)
def Ln(K:Nat)(base:Nat)(s:DX)(v0 v4 v5 v8 v25 v31:EV)(h:Aa):R:=
 Bu v25 (.bool true) v31 fun v32=>
 D8 v32
 (some (.tuple [.Db,(.int .i64 20)],h))
 (Aey K v0 v4 v5 v8 h)
def Rl(K:Nat)(base:Nat)(s:DX)(v0 v4 v5 v8 v17 v23:EV)(h:Aa):R:=
 Bu v17 (.bool true) v23 fun v24=>
 Ar (Au v24 false)
 (Ct 12 4095 s h (fun h=>(Cw K v0 h)) fun v27 h s=>
 Ct 13 8191 s h (fun h=>(Ig K v27 h)) fun v28 h s=>
 Ap 2 v4 fun v29=>
 Bn 15 18431 base v29 s fun s=>Ao v29 h fun v30=>
 Aq Ka (bin TT .neq 3) v28 v30 fun v31=>
 Ln K base s v0 v4 v5 v8 v24 v31 h)
 (Ln K base s v0 v4 v5 v8 v24 (.tuple []) h)
def Yu(K:Nat)(v0 v1 v2:EV)(h:Aa):R:=
 Dn 23 v1 h fun v4 h=>
 Dn 72 v2 h fun v5 h=>
 Ck 6 v4 h fun v11=>
 Aj (Xx K v11 h) fun v12 h=>
 C9 0 v12 fun v13=>
 C9 1 v12 fun v14=>
 Gs h fun base s=>
 Aq Ka (bin TT .neq 28) v14 (.int .i64 0) fun v16=>
 Ar (Au v16 false)
 (Ct 4 15 s h (fun h=>(Cw K v0 h)) fun v19 h s=>
 Ct 5 31 s h (fun h=>(Jc K v19 h)) fun v20 h s=>
 Bn 6 7 base v4 s fun s=>Ck 6 v4 h fun v21=>
 Ct 7 127 s h (fun h=>(H5 K v21 h)) fun v22 h s=>
 Aq Ka (bin TT .neq 3) v20 v22 fun v23=>
 Rl K base s v0 v4 v5 v13 v16 v23 h)
 (Rl K base s v0 v4 v5 v13 v16 (.tuple []) h)
theorem Al3(H:An disp)(hd:5<=d)(v0 v1 v2:EV)(h:Aa):Ad TT disp K d false 25 [v0,v1,v2] h=Yu K v0 v1 v2 h:=
 Cp (H.bare (by kernel_rfl)) hd (by kernel_rfl) (fun d hd=>(W1 (Aq3 H (lq hd rfl)) (W1 (Ly H (lq hd rfl)) (W1 (Qz H (lq hd rfl)) (W1 (Mc H (lq hd rfl)) (W1 (Sb H (lq hd rfl)) rfl)))))) (fun d c r=>rfl) (fun d c r=>by kernel_rfl)
end
end Go.Ev
