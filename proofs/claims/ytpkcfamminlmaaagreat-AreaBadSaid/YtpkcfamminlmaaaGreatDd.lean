import Derived.Test.YtpkcfamminlmaaaGreatDc
set_option linter.unusedVariables false
set_option linter.unusedSimpArgs false
set_option linter.unusedSectionVars false
namespace Go.Ev
open Go.Proofs
set_option maxRecDepth 100000
set_option maxHeartbeats 4000000
noncomputable section
variable {disp:Nat->Option FT}{K d:Nat}
def Acq(K:Nat)(v3:EV)(h:Aa):R:=
 some (v3,h)
def Ajt(K:Nat)(ih1_:EV->EV->Aa->R)(v3 v8:EV)(h:Aa):R:=
 Aq Hj (bin TT .add 3) v8 (.int .i64 1) fun v17=>
 ih1_ v3 v17 h
def Ajr(K:Nat)(ih1_:EV->EV->Aa->R)(v3 v8:EV)(h:Aa):R:=
 C1 (G3 [(0,1),(1,1)]) [(.int .i64 0),(.int .i64 0)] [(0,(.int .i64 (-1))),(1,(.int .i64 (-1)))] fun v13=>
 Bg v3 fun v14=>
 Ap 1 v14 fun v15=>
 Aa7 3 2 v15 v8 fun v16=>
 I9 2 v16 v13 h fun h=>
 Ajt K ih1_ v3 v8 h
def H6(K:Nat):Nat->EV->EV->Aa->R
 | 0=>fun _ _ _=>none
 | m+1=>fun v3 v8 h=>
  Aq Gr (bin TT .lss 3) v8 (.int .i64 3) fun v9=>
  D8 v9
  (Ajr K (H6 K m) v3 v8 h)
  (Acq K v3 h)
def Ahy(K:Nat)(v0:EV)(h:Aa):R:=
 C1 (G3 [(0,1),(1,6)]) [.Db,(.int .i64 0),(.int .i64 0),(.int .i64 0),(.int .i64 0),(.int .i64 0),(.int .i64 0)] [(0,v0)] fun v6=>
 Dn 147 v6 h fun v7 h=>
 H6 K K v7 (.int .i64 0) h
abbrev Av0(K:Nat)(c:Ac):Ac:=c
theorem An3(c c' r:Ac)(K:Nat)(m:Nat):G2 (fun ih=>Fq TT (Av0 K c) c' r K (nOf TT 56) (Eg TT 56) (Ph TT 56 [true,true,false,true,false]) [(0,fun ρ h=>Acq K (ρ 3) h)] ih) m=fun ρ h=>H6 K m (ρ 3) (ρ 8) h:=
 Cj (E:=fun m ρ h=>H6 K m (ρ 3) (ρ 8) h) rfl (fun m=>Pm fun ρ h=>by
  show _=H6 K (m+1) (ρ 3) (ρ 8) h
  rw[H6];kernel_rfl) m
theorem Apk(H:An disp)(hd:1<=d)(v0:EV)(h:Aa):Ad TT disp K d false 56 [v0] h=Ahy K v0 h:=
 Cp (H.bare (by kernel_rfl)) hd (by kernel_rfl) (fun d hd=>rfl) (fun d c r=>(cut [true,true,false,true,false] (An3 (Ad TT disp K d false) c r K K) (by kernel_rfl) (by kernel_rfl) rfl)) (fun d c r=>by kernel_rfl)
def Kw(K:Nat)(v0:EV)(h:Aa):R:=
 Dn 42 v0 h fun v1 h=>
 Kn (.cells ([.Af]++List.replicate 3 (.int .i64 0)++[(.bool false)]++List.replicate 2 .Af++List.replicate 8 (.int .i64 0)++List.replicate 2 .Af++List.replicate 9 (.int .i64 0)) 45) h fun v2 h=>
 Ck 20 v1 h fun v3=>
 C1 (Aex 1) [(.int .i64 0),(.int .i64 0),(.int .i64 0)] [(0,(.int .i64 (-1))),(1,(.int .i64 (-1))),(2,(.int .i64 (-1)))] fun v4=>
 C1 (Aex 1) [(.int .i64 0),(.int .i64 0),(.int .i64 0)] [(0,(.int .i64 (-1))),(1,(.int .i64 (-1))),(2,(.int .i64 (-1)))] fun v5=>
 C1 (G3 [(0,20),(20,3),(23,3)]) ([.Af]++List.replicate 3 (.int .i64 0)++[(.bool false)]++List.replicate 2 .Af++List.replicate 8 (.int .i64 0)++List.replicate 2 .Af++List.replicate 9 (.int .i64 0)) [(0,v3),(1,v4),(2,v5)] fun v6=>
 I9 26 v2 v6 h fun h=>
 Iz TT [.c v2 45] h
theorem Y8(H:An disp)(hd:1<=d)(v0:EV)(h:Aa):Ad TT disp K d false 57 [v0] h=Kw K v0 h:=
 Cp (H.bare (by kernel_rfl)) hd (by kernel_rfl) (fun d hd=>rfl) (fun d c r=>rfl) (fun d c r=>by kernel_rfl)
def Adg(K:Nat)(v5 v7:EV)(h:Aa):R:=
 Bu v5 v7 (.bool false) fun v8=>
 some (v8,h)
def Aim(K:Nat)(v0:EV)(h:Aa):R:=
 Aq V5 (bin TT .geq 3) v0 (.int .i64 0) fun v4=>
 Ar (Au v4 true)
 (Aq Gr (bin TT .lss 3) v0 (.int .i64 3) fun v7=>
 Adg K v4 v7 h)
 (Adg K v4 (.tuple []) h)
theorem Arr(H:An disp)(hd:1<=d)(v0:EV)(h:Aa):Ad TT disp K d false 58 [v0] h=Aim K v0 h:=
 Cp (H.bare (by kernel_rfl)) hd (by kernel_rfl) (fun d hd=>rfl) (fun d c r=>rfl) (fun d c r=>by kernel_rfl)
def G8(K:Nat)(v0:EV)(h:Aa):R:=
 Kn (.cells [(.int .i64 0),(.int .i64 0),(.int .i64 0),(.int .i64 0),(.int .i64 0),(.int .i64 0)] 23) h fun v2 h=>
 Bg v0 fun v4=>
 Ap 0 v4 fun v5=>
 Ck 6 v5 h fun v6=>
 I9 6 v2 v6 h fun h=>
 Iz TT [.c v2 23] h
theorem Qc(H:An disp)(hd:1<=d)(v0:EV)(h:Aa):Ad TT disp K d false 65 [v0] h=G8 K v0 h:=
 Cp (H.bare (by kernel_rfl)) hd (by kernel_rfl) (fun d hd=>rfl) (fun d c r=>rfl) (fun d c r=>by kernel_rfl)
def V2(K:Nat)(v0:EV)(h:Aa):R:=
 Dn 30 v0 h fun v1 h=>
 some ((.func 120 [] [v1]),h)
theorem Afb(H:An disp)(hd:1<=d)(v0:EV)(h:Aa):Ad TT disp K d false 68 [v0] h=V2 K v0 h:=
 Cp (H.bare (by kernel_rfl)) hd (by kernel_rfl) (fun d hd=>rfl) (fun d c r=>rfl) (fun d c r=>by kernel_rfl)
def U1(K:Nat)(v7 v10:EV)(h:Aa):R:=
 Bu v7 v10 (.bool false) fun v11=>
 some (v11,h)
def Pc(K:Nat)(v0 v1:EV)(h:Aa):R:=
 Aq V5 (bin TT .geq 3) v0 (.int .i64 1) fun v6=>
 Ar (Au v6 true)
 (Aq Ahs (bin TT .leq 3) v0 v1 fun v10=>
 U1 K v6 v10 h)
 (U1 K v6 (.tuple []) h)
theorem Ta(H:An disp)(hd:1<=d)(v0 v1:EV)(h:Aa):Ad TT disp K d false 114 [v0,v1] h=Pc K v0 v1 h:=
 Cp (H.bare (by kernel_rfl)) hd (by kernel_rfl) (fun d hd=>rfl) (fun d c r=>rfl) (fun d c r=>by kernel_rfl)
def Hu(c r:Ac)(K:Nat)(ih0_:EV->EV->EV->Aa->R)(v0 v10 v11:EV)(h:Aa):R:=
 Aq Hj (bin TT .add 3) v11 (.int .i64 1) fun v31=>
 ih0_ v0 v10 v31 h
def Of(c r:Ac)(K:Nat)(ih0_:EV->EV->EV->Aa->R)(ih2_:EV->EV->EV->EV->EV->Aa->R)(v0 v10 v11 v18 v19:EV)(h:Aa):R:=
 Aq Hj (bin TT .add 3) v19 (.int .i64 1) fun v30=>
 ih2_ v0 v10 v11 v18 v30 h
def Ey(c r:Ac)(K:Nat)(ih0_:EV->EV->EV->Aa->R)(ih2_:EV->EV->EV->EV->EV->Aa->R)(v0 v10 v11 v18 v19 v24 v28:EV)(h:Aa):R:=
 Bu v24 v28 (.bool false) fun v29=>
 D8 v29
 (some (.tuple [],h))
 (Of c r K ih0_ ih2_ v0 v10 v11 v18 v19 h)
def To(c r:Ac)(K:Nat)(ih0_:EV->EV->EV->Aa->R)(ih2_:EV->EV->EV->EV->EV->Aa->R)(v0 v10 v11 v18 v19:EV)(h:Aa):R:=
 Ari 2 1 false 1 v18 v19 fun v21=>
 Aq Ka (bin TT .neq 3) v21 (.int .i64 (-1)) fun v23=>
 Ar (Au v23 true)
 (Aj (P0 c r v0 [v21] h) fun v27 h=>
 Lf v27 fun v28=>
 Ey c r K ih0_ ih2_ v0 v10 v11 v18 v19 v23 v28 h)
 (Ey c r K ih0_ ih2_ v0 v10 v11 v18 v19 v23 (.tuple []) h)
def Ce(c r:Ac)(K:Nat)(ih0_:EV->EV->EV->Aa->R):Nat->EV->EV->EV->EV->EV->Aa->R
 | 0=>fun _ _ _ _ _ _=>none
 | m+1=>fun v0 v10 v11 v18 v19 h=>
  Aq Gr (bin TT .lss 3) v19 (.int .i64 2) fun v20=>
  D8 v20
  (To c r K ih0_ (Ce c r K ih0_ m) v0 v10 v11 v18 v19 h)
  (Hu c r K ih0_ v0 v10 v11 h)
def Tv(c r:Ac)(K:Nat)(ih0_:EV->EV->EV->Aa->R)(v0 v10 v11:EV)(h:Aa):R:=
 Ari 3 2 true 2 v10 v11 fun v13=>
 Kn (.cells [(.int .i64 0),(.int .i64 0)] 144) h fun v4 h=>
 I9 2 v4 v13 h fun h=>
 Ap 0 v4 fun v14=>
 Ao v14 h fun v15=>
 Ap 1 v4 fun v16=>
 Ao v16 h fun v17=>
 C1 (Aex 1) [(.int .i64 0),(.int .i64 0)] [(0,v15),(1,v17)] fun v18=>
 Ce c r K ih0_ K v0 v10 v11 v18 (.int .i64 0) h
def C5(c r:Ac)(K:Nat):Nat->EV->EV->EV->Aa->R
 | 0=>fun _ _ _ _=>none
 | m+1=>fun v0 v10 v11 h=>
  Aq Gr (bin TT .lss 3) v11 (.int .i64 3) fun v12=>
  D8 v12
  (Tv c r K (C5 c r K m) v0 v10 v11 h)
  (some (.tuple [],h))
def Xu(c r:Ac)(K:Nat)(v0 v1:EV)(h:Aa):R:=
 Ao v1 h fun v7=>
 Bg v7 fun v8=>
 Ap 1 v8 fun v9=>
 Ck 6 v9 h fun v10=>
 C5 c r K K v0 v10 (.int .i64 0) h
abbrev Vc(K:Nat)(c:Ac):Ac:=c
theorem Aa3(c r:Ac)(K:Nat)(ih0_:EV->EV->EV->Aa->R)(m:Nat):G2 (fun ih=>Fq TT (Vc K c) c r K (nOf TT 120) (Eg TT 120) (Ph TT 120 [true,false,false,true,true,false,false,true,true,false]) [(2,fun ρ h=>Hu c r K ih0_ (ρ 0) (ρ 10) (ρ 11) h),(1,fun ρ h=>Hu c r K ih0_ (ρ 0) (ρ 10) (ρ 11) h),(0,Eg TT 120)] ih) m=fun ρ h=>Ce c r K ih0_ m (ρ 0) (ρ 10) (ρ 11) (ρ 18) (ρ 19) h:=
 Cj (E:=fun m ρ h=>Ce c r K ih0_ m (ρ 0) (ρ 10) (ρ 11) (ρ 18) (ρ 19) h) rfl (fun m=>Pm fun ρ h=>by
  show _=Ce c r K ih0_ (m+1) (ρ 0) (ρ 10) (ρ 11) (ρ 18) (ρ 19) h
  rw[Ce];kernel_rfl) m
theorem Aa1(c r:Ac)(K:Nat)(m:Nat):G2 (fun ih=>Fq TT (Vc K c) c r K (nOf TT 120) (Eg TT 120) (Ph TT 120 [true,false]) [(0,Eg TT 120)] ih) m=fun ρ h=>C5 c r K m (ρ 0) (ρ 10) (ρ 11) h:=
 A7f (E:=fun m ρ h=>C5 c r K m (ρ 0) (ρ 10) (ρ 11) h) rfl (fun m=>(cut [true,true,false,false,true,true,false] (Aa3 c r K (C5 c r K m) K) (by kernel_rfl) (by kernel_rfl) rfl)) (fun m=>Pm fun ρ h=>by
  show _=C5 c r K (m+1) (ρ 0) (ρ 10) (ρ 11) h
  rw[C5];kernel_rfl) m
theorem Adt(H:An disp)(hd:0<=d)(v0 v1:EV)(h:Aa):Ad TT disp K (d+1) false 120 [v0,v1] h=Xu (Ad TT disp K d false) (Ad TT disp K d true) K v0 v1 h:=
 Rc (H.bare (by kernel_rfl)) (by kernel_rfl) rfl (cut [true,false] (Aa1 (Ad TT disp K d false) (Ad TT disp K d true) K K) (by kernel_rfl) (by kernel_rfl) rfl) (by kernel_rfl)
def Fo(K:Nat)(v0:EV)(h:Aa):R:=
 Dn 95 v0 h fun v1 h=>
 some ((.func 201 [] [v1]),h)
theorem Nm(H:An disp)(hd:1<=d)(v0:EV)(h:Aa):Ad TT disp K d false 160 [v0] h=Fo K v0 h:=
 Cp (H.bare (by kernel_rfl)) hd (by kernel_rfl) (fun d hd=>rfl) (fun d c r=>rfl) (fun d c r=>by kernel_rfl)
def Aap(K:Nat)(v0 v1 v4:EV)(h:Aa):R:=
 Bg v0 fun v19=>
 Ap 6 v19 fun v20=>
 Ao v20 h fun v21=>
 Ib 6 v21 v1 fun v23=>
 Ck 6 v23 h fun v24=>
 I9 6 v4 v24 h fun h=>
 Iz TT [.c v4 83,.v (.int .i64 0)] h
def Td(K:Nat)(v0 v1 v4 v8 v15:EV)(h:Aa):R:=
 Bu v8 (.bool true) v15 fun v16=>
 D8 v16
 (C1 (G3 [(0,1),(1,1),(2,1),(3,1),(4,1),(5,1)]) [(.int .i64 0),(.int .i64 0),(.int .i64 0),(.int .i64 0),(.int .i64 0),(.int .i64 0)] [] fun v17=>
 I9 6 v4 v17 h fun h=>
 Iz TT [.c v4 83,.v (.int .i64 13)] h)
 (Aap K v0 v1 v4 h)
def Py(K:Nat)(v0 v1:EV)(h:Aa):R:=
 Kn (.cells [(.int .i64 0),(.int .i64 0),(.int .i64 0),(.int .i64 0),(.int .i64 0),(.int .i64 0)] 83) h fun v4 h=>
 Aq Gr (bin TT .lss 3) v1 (.int .i64 0) fun v7=>
 Ar (Au v7 false)
 (Bg v0 fun v11=>
 Ap 6 v11 fun v12=>
 Ao v12 h fun v13=>
 H8 v13 fun v14=>
 Aq V5 (bin TT .geq 3) v1 v14 fun v15=>
 Td K v0 v1 v4 v7 v15 h)
 (Td K v0 v1 v4 v7 (.tuple []) h)
theorem Ajf(H:An disp)(hd:1<=d)(v0 v1:EV)(h:Aa):Ad TT disp K d false 184 [v0,v1] h=Py K v0 v1 h:=
 Cp (H.bare (by kernel_rfl)) hd (by kernel_rfl) (fun d hd=>rfl) (fun d c r=>rfl) (fun d c r=>by kernel_rfl)
def Ur(K:Nat)(v0:EV)(h:Aa):R:=
 Kn (.cells (List.replicate 44 (.int .u8 0)) 118) h fun v2 h=>
 Kn (.cells (List.replicate 44 (.int .u8 0)) 118) h fun v3 h=>
 Aj (Lr K v0 h) fun v8 h=>
 C9 0 v8 fun v9=>
 C9 1 v8 fun v10=>
 Acs 44 1 v3 none none none fun v11=>
 Aj (builtin TT .copy #[174,174] [v11,v9] h) fun v13 h=>
 Ck 44 v3 h fun v14=>
 I9 44 v2 v14 h fun h=>
 Iz TT [.c v2 118] h
theorem Ae8(H:An disp)(hd:2<=d)(v0:EV)(h:Aa):Ad TT disp K d false 199 [v0] h=Ur K v0 h:=
 Cp (H.bare (by kernel_rfl)) hd (by kernel_rfl) (fun d hd=>(W1 (Wq H (lq hd rfl)) rfl)) (fun d c r=>rfl) (fun d c r=>by kernel_rfl)
def Hc(c r:Ac)(K:Nat)(ih0_:EV->EV->EV->EV->Aa->R)(v0 v5 v6 v7:EV)(h:Aa):R:=
 Aq Hj (bin TT .add 3) v7 (.int .i64 1) fun v17=>
 ih0_ v0 v5 v6 v17 h
def Hg(c r:Ac)(K:Nat)(ih0_:EV->EV->EV->EV->Aa->R)(v0 v5 v6 v7:EV)(h:Aa):R:=
 Ib 6 v5 v7 fun v10=>
 Ck 6 v10 h fun v11=>
 Kn (.cells [(.int .i64 0),(.int .i64 0),(.int .i64 0),(.int .i64 0),(.int .i64 0),(.int .i64 0)] 83) h fun v4 h=>
 I9 6 v4 v11 h fun h=>
 Ck 6 v4 h fun v14=>
 Aj (P0 c r v0 [v7,v14] h) fun v15 h=>
 Lf v15 fun v16=>
 D8 v16
 (some (.tuple [],h))
 (Hc c r K ih0_ v0 v5 v6 v7 h)
def Bb(c r:Ac)(K:Nat):Nat->EV->EV->EV->EV->Aa->R
 | 0=>fun _ _ _ _ _=>none
 | m+1=>fun v0 v5 v6 v7 h=>
  Aq Gr (bin TT .lss 3) v7 v6 fun v8=>
  D8 v8
  (Hg c r K (Bb c r K m) v0 v5 v6 v7 h)
  (some (.tuple [],h))
def H7(c r:Ac)(K:Nat)(v0 v1:EV)(h:Aa):R:=
 Ao v1 h fun v5=>
 H8 v5 fun v6=>
 Bb c r K K v0 v5 v6 (.int .i64 0) h
abbrev No(K:Nat)(c:Ac):Ac:=c
theorem L0(c r:Ac)(K:Nat)(m:Nat):G2 (fun ih=>Fq TT (No K c) c r K (nOf TT 201) (Eg TT 201) (Ph TT 201 [true,false]) [(0,Eg TT 201)] ih) m=fun ρ h=>Bb c r K m (ρ 0) (ρ 5) (ρ 6) (ρ 7) h:=
 Cj (E:=fun m ρ h=>Bb c r K m (ρ 0) (ρ 5) (ρ 6) (ρ 7) h) rfl (fun m=>Pm fun ρ h=>by
  show _=Bb c r K (m+1) (ρ 0) (ρ 5) (ρ 6) (ρ 7) h
  rw[Bb];kernel_rfl) m
theorem Mj(H:An disp)(hd:0<=d)(v0 v1:EV)(h:Aa):Ad TT disp K (d+1) false 201 [v0,v1] h=H7 (Ad TT disp K d false) (Ad TT disp K d true) K v0 v1 h:=
 Rc (H.bare (by kernel_rfl)) (by kernel_rfl) rfl (cut [true,false] (L0 (Ad TT disp K d false) (Ad TT disp K d true) K K) (by kernel_rfl) (by kernel_rfl) rfl) (by kernel_rfl)
def T5(c r:Ac)(K:Nat)(v6:EV)(h:Aa):R:=
 some (.tuple [v6,(.int .i64 0)],h)
def Ub(c r:Ac)(K:Nat)(v6:EV)(h:Aa):R:=
 Aq Gr (bin TT .lss 3) v6 (.int .i64 2) fun v52=>
 D8 v52
 (some (.tuple [v6,(.int .i64 40)],h))
 (T5 c r K v6 h)
def N5(c r:Ac)(K:Nat)(v0 v6:EV)(h:Aa):R:=
 Bg v0 fun v43=>
 Ap 0 v43 fun v44=>
 Ao v44 h fun v45=>
 Aj (Bx K v45 h) fun v46 h=>
 Aj (c 67 [v46] h) fun v47 h=>
 Aq Ka (bin TT .neq 28) v47 (.int .i64 0) fun v49=>
 D8 v49
 (some (.tuple [(.int .i64 0),v47],h))
 (Ub c r K v6 h)
def J4(c r:Ac)(K:Nat)(ih3_:EV->EV->EV->EV->Aa->R)(v0 v3 v6 v25:EV)(h:Aa):R:=
 Aq Hj (bin TT .add 3) v25 (.int .i64 1) fun v41=>
 ih3_ v0 v3 v6 v41 h
def Tx(c r:Ac)(K:Nat)(ih3_:EV->EV->EV->EV->Aa->R)(v0 v3 v6 v8 v25:EV)(h:Aa):R:=
 D8 v8
 (Aq Hj (bin TT .add 3) v6 (.int .i64 1) fun v40=>
 J4 c r K ih3_ v0 v3 v40 v25 h)
 (J4 c r K ih3_ v0 v3 v6 v25 h)
def Tq(c r:Ac)(K:Nat)(ih3_:EV->EV->EV->EV->Aa->R)(v0 v3 v6 v25:EV)(h:Aa):R:=
 Ck 4 v3 h fun v31=>
 Aj (c 66 [v0,v25,v31] h) fun v32 h=>
 C9 0 v32 fun v33=>
 C9 1 v32 fun v34=>
 Aq Ka (bin TT .neq 28) v34 (.int .i64 0) fun v36=>
 D8 v36
 (some (.tuple [(.int .i64 0),v34],h))
 (Tx c r K ih3_ v0 v3 v6 v33 v25 h)
def C4(c r:Ac)(K:Nat):Nat->EV->EV->EV->EV->Aa->R
 | 0=>fun _ _ _ _ _=>none
 | m+1=>fun v0 v3 v6 v25 h=>
  Aq Gr (bin TT .lss 3) v25 (.int .i64 3) fun v26=>
  D8 v26
  (Tq c r K (C4 c r K m) v0 v3 v6 v25 h)
  (N5 c r K v0 v6 h)
def Ts(c r:Ac)(K:Nat)(v0 v3:EV)(h:Aa):R:=
 C4 c r K K v0 v3 (.int .i64 0) (.int .i64 0) h
def Og(c r:Ac)(K:Nat)(base:Nat)(s:DX)(v0 v3 v14 v23:EV)(h:Aa):R:=
 Bu v14 (.bool true) v23 fun v24=>
 D8 v24
 (some (.tuple [(.int .i64 0),(.int .i64 10)],h))
 (Ts c r K v0 v3 h)
def X0(c r:Ac)(K:Nat)(v0 v1:EV)(h:Aa):R:=
 Dn 60 v1 h fun v3 h=>
 Gs h fun base s=>
 Bn 0 0 base v3 s fun s=>Ck 4 v3 h fun v11=>
 Ct 1 1 s h (fun h=>(c 64 [v11] h)) fun v12 h s=>
 Lf v12 fun v13=>
 Ar (Au v13 false)
 (Ap 3 v3 fun v15=>
 Bn 5 31 base v15 s fun s=>Ao v15 h fun v16=>
 Ct 6 63 s h (fun h=>(G8 K v16 h)) fun v17 h s=>
 Bg v0 fun v19=>
 Ap 0 v19 fun v20=>
 Bn 10 911 base v20 s fun s=>Ao v20 h fun v21=>
 Ct 11 2047 s h (fun h=>(Fc K v21 h)) fun v22 h s=>
 Aq Ka (bin TT .neq 23) v17 v22 fun v23=>
 Og c r K base s v0 v3 v13 v23 h)
 (Og c r K base s v0 v3 v13 (.tuple []) h)
abbrev Aff(K:Nat)(c:Ac):Ac:=(w1 65 (G8 K) (w1 30 (Fc K) (w1 31 (Bx K) c)))
theorem Abj(c r:Ac)(K:Nat)(m:Nat):G2 (fun ih=>Fq TT (Aff K c) c r K (nOf TT 18) (Eg TT 18) (Ph TT 18 [true,true,true,false,true,false]) [(0,fun ρ h=>N5 c r K (ρ 0) (ρ 6) h)] ih) m=fun ρ h=>C4 c r K m (ρ 0) (ρ 3) (ρ 6) (ρ 25) h:=
 Cj (E:=fun m ρ h=>C4 c r K m (ρ 0) (ρ 3) (ρ 6) (ρ 25) h) rfl (fun m=>Pm fun ρ h=>by
  show _=C4 c r K (m+1) (ρ 0) (ρ 3) (ρ 6) (ρ 25) h
  rw[C4];kernel_rfl) m
theorem Ac8(H:An disp)(hd:1<=d)(v0 v1:EV)(h:Aa):Ad TT disp K (d+1) false 18 [v0,v1] h=X0 (Ad TT disp K d false) (Ad TT disp K d true) K v0 v1 h:=
 Rc (H.bare (by kernel_rfl)) (by kernel_rfl) (W1 (Qc H (lq hd rfl)) (W1 (Pr H (lq hd rfl)) (W1 (Kj H (lq hd rfl)) rfl))) (cut [true,true,true,false,true,false] (Abj (Ad TT disp K d false) (Ad TT disp K d true) K K) (by kernel_rfl) (by kernel_rfl) rfl) (by kernel_rfl)
theorem Tl:(B8 TT 19 0).1=.tmp 7:=by kernel_rfl
def Jh(c r:Ac)(K:Nat)(tm:Ag)(v4:EV)(h:Aa)(ds:List Nat):R:=
 I9 1 v4 (.bool false) h fun h=>
 D3 ds h fun h=>Iz TT [.c v4 4] h
theorem Aeo(H:An disp)(hd:1<=d)(tm:Ag)(h:Aa)(ds:List Nat):Aw6 (Ad TT disp K d false) (Ad TT disp K d true) K tm h ds=Jh (Ad TT disp K d false) (Ad TT disp K d true) K tm (tmp tm 4) h ds:=by
 simp only[Aw6,Jh,Aq4,dd,↓reduceIte,Nat.reduceEqDiff,Int.reduceOfNat,Int.reduceNegSucc,Nat.reduceAdd,tt0]
def U4(c r:Ac)(K:Nat)(v0 v1:EV)(h:Aa):R:=
 (fun(tm:Ag) (ds:List Nat)=>
 Dn 3 v1 h fun v3 h=>
 Kn (.cells [(.bool false)] 4) h fun v4 h=>
 Aj (V2 K v0 h) fun v7 h=>
 Xj c TT 19 12 0 v7 ((((tm.put 3 (some v3)).put 4 (some v4)).put 6 (some v0)).put 7 (some v7)) h ds (fun h ds=>
 Jh c r K ((((tm.put 3 (some v3)).put 4 (some v4)).put 6 (some v0)).put 7 (some v7)) v4 h ds) (fun id h ds=>
 Ar (Nat.beq 0 id) (Jh c r K ((((tm.put 3 (some v3)).put 4 (some v4)).put 6 (some v0)).put 7 (some v7)) v4 h ds) (none)) (fun h ds=>
 D3 ds h fun h=>Iz TT [.c v4 4] h)) ((Tr.nil.put 0 (some v0)).put 1 (some v1)) []
theorem Af5(H:An disp)(hd:1<=d)(v0 v1:EV)(h:Aa):Ad TT disp K (d+1) false 19 [v0,v1] h=U4 (Ad TT disp K d false) (Ad TT disp K d true) K v0 v1 h:=by
 rw[Xy ((H.plain 19 rfl).trans (show Aew 19=some F19 by kernel_rfl))]
 unfold F19
 rw[Ak2 (by simp)]
 simp only[U4,Aq4,dd,↓reduceIte,Nat.reduceEqDiff,Int.reduceOfNat,Int.reduceNegSucc,Nat.reduceAdd,Aeo H hd,Afb H (lq hd rfl),tt0,Agt Tl,Ady Tl,Zi,Y1,X2,Agp]
def Iv(c r:Ac)(K:Nat)(l:Nat)(v3:EV)(v4:EV)(v5:EV)(h:Aa):R:=
 Ao v3 h fun v10=>
 Aq G7 (bin TT .eql 3) v5 v10 fun v11=>
 D8 v11
 (I9 1 v4 (.bool true) h fun h=>
 Aip l false .done (some .ret) h)
 (Aip l true .ready none h)
theorem Yi(H:An disp)(hd:1<=d){l:Nat}(tm:Ag)(h:Aa):Ai0 (Ad TT disp K d false) (Ad TT disp K d true) K l tm h []=Iv (Ad TT disp K d false) (Ad TT disp K d true) K l (tmp tm 3) (tmp tm 4) (tmp tm 5) h:=by
 simp only[Ai0,Iv,dd,↓reduceIte,Nat.reduceEqDiff,Int.reduceOfNat,Int.reduceNegSucc,Nat.reduceAdd,tt0]
def Mg(c r:Ac)(K:Nat)(l:Nat)(v3:EV)(v4:EV)(v8:EV)(h:Aa):R:=
 Fm l h fun h=>Iv c r K l v3 v4 v8 h
theorem Aef(H:An disp)(hd:1<=d){l:Nat}(tm:Ag)(h:Aa):A2p (Ad TT disp K d false) (Ad TT disp K d true) K l tm h []=Mg (Ad TT disp K d false) (Ad TT disp K d true) K l (tmp tm 3) (tmp tm 4) (tmp tm 8) h:=by
 simp only[A2p,Mg,dd,↓reduceIte,Nat.reduceEqDiff,Int.reduceOfNat,Int.reduceNegSucc,Nat.reduceAdd,Yi H hd,tt0]
theorem Aay(H:An disp)(hd:1<=d){l:Nat}(tm:Ag)(h:Aa)(x8:EV){st:LoopState}{p:Option Code}{d0:Nat}(hg:h.get l=some (.loop st p 19 12 tm [8] (B8 TT 19 0).2.2.1 (B8 TT 19 0).2.2.2 d0)):
 Ad TT disp K (d+1) true l [x8] h=Mg (Ad TT disp K d false) (Ad TT disp K d true) K l (tmp tm 3) (tmp tm 4) x8 h:=by
 rw[W8,Zt hg (show Kh [8] [x8] 12 tm=some (tm.put 8 (some x8)) from rfl),A0t,Aef H hd]
 simp only[dd,↓reduceIte,Nat.reduceEqDiff,Int.reduceOfNat,Int.reduceNegSucc,Nat.reduceAdd]
def Y5(K:Nat)(v0:EV)(h:Aa):R:=
 Bg v0 fun v4=>
 Ap 6 v4 fun v5=>
 Ao v5 h fun v6=>
 Aj (Fo K v6 h) fun v7 h=>
 some (v7,h)
theorem Ajh(H:An disp)(hd:2<=d)(v0:EV)(h:Aa):Ad TT disp K d false 115 [v0] h=Y5 K v0 h:=
 Cp (H.bare (by kernel_rfl)) hd (by kernel_rfl) (fun d hd=>(W1 (Nm H (lq hd rfl)) rfl)) (fun d c r=>rfl) (fun d c r=>by kernel_rfl)
def Uw(c r:Ac)(K:Nat)(v0 v2:EV)(h:Aa):R:=
 Bg v0 fun v73=>
 Ap 0 v73 fun v74=>
 Ao v74 h fun v75=>
 Aj (Bx K v75 h) fun v76 h=>
 Aj (c 165 [v76,v2] h) fun v78 h=>
 some (v78,h)
def O1(c r:Ac)(K:Nat)(v0 v2:EV)(h:Aa):R:=
 Bg v0 fun v64=>
 Ap 0 v64 fun v65=>
 Ao v65 h fun v66=>
 Aj (Bx K v66 h) fun v67 h=>
 Aj (Cw K v67 h) fun v68 h=>
 Aj (F4 K v68 v2 h) fun v70 h=>
 Aq G7 (bin TT .eql 3) v70 (.int .i64 2) fun v71=>
 D8 v71
 (some ((.int .i64 0),h))
 (Uw c r K v0 v2 h)
def V1(c r:Ac)(K:Nat)(ih2_:EV->EV->EV->EV->EV->Aa->R)(v0 v2 v34 v35 v36:EV)(h:Aa):R:=
 Aq Hj (bin TT .add 3) v36 (.int .i64 1) fun v62=>
 ih2_ v0 v2 v34 v35 v62 h
def O5(c r:Ac)(K:Nat)(ih2_:EV->EV->EV->EV->EV->Aa->R)(v0 v2 v13 v34 v35 v36:EV)(h:Aa):R:=
 Aq Ka (bin TT .neq 28) v13 (.int .i64 0) fun v60=>
 D8 v60
 (some (v13,h))
 (V1 c r K ih2_ v0 v2 v34 v35 v36 h)
def O0(c r:Ac)(K:Nat)(ih2_:EV->EV->EV->EV->EV->Aa->R)(v0 v2 v13 v34 v35 v36 v54 v57:EV)(h:Aa):R:=
 Bu v54 v57 (.bool false) fun v58=>
 D8 v58
 (O5 c r K ih2_ v0 v2 (.int .i64 30) v34 v35 v36 h)
 (O5 c r K ih2_ v0 v2 v13 v34 v35 v36 h)
def Vm(c r:Ac)(K:Nat)(ih2_:EV->EV->EV->EV->EV->Aa->R)(v0 v2 v34 v35 v36:EV)(h:Aa):R:=
 Ib 64 v34 v36 fun v39=>
 Ck 64 v39 h fun v40=>
 Kn (.cells (List.replicate 64 (.int .u8 0)) 103) h fun v11 h=>
 I9 64 v11 v40 h fun h=>
 Gs h fun base s=>
 Bg v0 fun v43=>
 Ap 0 v43 fun v44=>
 Bn 3 7 base v44 s fun s=>Ao v44 h fun v45=>
 Ct 4 15 s h (fun h=>(Bx K v45 h)) fun v46 h s=>
 Bn 6 0 base v11 s fun s=>Ck 64 v11 h fun v48=>
 Ct 7 127 s h (fun h=>(c 164 [v46,v2,v48] h)) fun v49 h s=>
 C9 0 v49 fun v50=>
 C9 1 v49 fun v51=>
 Aq G7 (bin TT .eql 28) v51 (.int .i64 0) fun v53=>
 Ar (Au v53 true)
 (Aq Ka (bin TT .neq 3) v50 v36 fun v57=>
 O0 c r K ih2_ v0 v2 v51 v34 v35 v36 v53 v57 h)
 (O0 c r K ih2_ v0 v2 v51 v34 v35 v36 v53 (.tuple []) h)
def Ek(c r:Ac)(K:Nat):Nat->EV->EV->EV->EV->EV->Aa->R
 | 0=>fun _ _ _ _ _ _=>none
 | m+1=>fun v0 v2 v34 v35 v36 h=>
  Aq Gr (bin TT .lss 3) v36 v35 fun v37=>
  D8 v37
  (Vm c r K (Ek c r K m) v0 v2 v34 v35 v36 h)
  (O1 c r K v0 v2 h)
def U9(c r:Ac)(K:Nat)(v0 v2 v7:EV)(h:Aa):R:=
 H8 v7 fun v35=>
 Ek c r K K v0 v2 v7 v35 (.int .i64 0) h
def Vp(c r:Ac)(K:Nat)(v0 v2 v7:EV)(h:Aa):R:=
 Aj (c 163 [v0,v2] h) fun v30 h=>
 Aq Ka (bin TT .neq 28) v30 (.int .i64 0) fun v32=>
 D8 v32
 (some (v30,h))
 (U9 c r K v0 v2 v7 h)
def Aav(c r:Ac)(K:Nat)(v0 v1 v2:EV)(h:Aa):R:=
 Dn 60 v1 h fun v4 h=>
 Gs h fun base s=>
 Bg v0 fun v16=>
 Ap 0 v16 fun v17=>
 Bn 3 7 base v17 s fun s=>Ao v17 h fun v18=>
 Ct 4 15 s h (fun h=>(Gb K v18 h)) fun v19 h s=>
 Bn 5 0 base v4 s fun s=>Ck 4 v4 h fun v20=>
 Ct 7 127 s h (fun h=>(c 162 [v19,v20,v2] h)) fun v22 h s=>
 C9 0 v22 fun v23=>
 C9 1 v22 fun v24=>
 Aq Ka (bin TT .neq 28) v24 (.int .i64 0) fun v26=>
 D8 v26
 (some (v24,h))
 (Vp c r K v0 v2 v23 h)
abbrev Ahh(K:Nat)(c:Ac):Ac:=(w1 32 (Gb K) (w1 31 (Bx K) (w1 36 (Cw K) (w2 37 (F4 K) c))))
theorem Ab6(c r:Ac)(K:Nat)(m:Nat):G2 (fun ih=>Fq TT (Ahh K c) c r K (nOf TT 117) (Eg TT 117) (Ph TT 117 [true,true,true,true,false,true,false]) [(0,fun ρ h=>O1 c r K (ρ 0) (ρ 2) h)] ih) m=fun ρ h=>Ek c r K m (ρ 0) (ρ 2) (ρ 34) (ρ 35) (ρ 36) h:=
 Cj (E:=fun m ρ h=>Ek c r K m (ρ 0) (ρ 2) (ρ 34) (ρ 35) (ρ 36) h) rfl (fun m=>Pm fun ρ h=>by
  show _=Ek c r K (m+1) (ρ 0) (ρ 2) (ρ 34) (ρ 35) (ρ 36) h
  rw[Ek];kernel_rfl) m
theorem Aee(H:An disp)(hd:2<=d)(v0 v1 v2:EV)(h:Aa):Ad TT disp K (d+1) false 117 [v0,v1,v2] h=Aav (Ad TT disp K d false) (Ad TT disp K d true) K v0 v1 v2 h:=
 Rc (H.bare (by kernel_rfl)) (by kernel_rfl) (W1 (Ym H (lq hd rfl)) (W1 (Kj H (lq hd rfl)) (W1 (Ly H (lq hd rfl)) (W2 (Qy H (lq hd rfl)) rfl)))) (cut [true,true,true,true,false,true,false] (Ab6 (Ad TT disp K d false) (Ad TT disp K d true) K K) (by kernel_rfl) (by kernel_rfl) rfl) (by kernel_rfl)
def Tm(c r:Ac)(K:Nat)(v0 v1:EV)(h:Aa):R:=
 Bg v0 fun v15=>
 Ap 0 v15 fun v16=>
 Ao v16 h fun v17=>
 Aj (Bx K v17 h) fun v18 h=>
 Aj (c 202 [v18,v1] h) fun v20 h=>
 some (v20,h)
def Xw(c r:Ac)(K:Nat)(v0 v1:EV)(h:Aa):R:=
 Bg v0 fun v6=>
 Ap 0 v6 fun v7=>
 Ao v7 h fun v8=>
 Aj (Bx K v8 h) fun v9 h=>
 Aj (Cw K v9 h) fun v10 h=>
 Aj (F4 K v10 v1 h) fun v12 h=>
 Aq G7 (bin TT .eql 3) v12 (.int .i64 0) fun v13=>
 D8 v13
 (some ((.int .i64 0),h))
 (Tm c r K v0 v1 h)
theorem Ab7(H:An disp)(hd:2<=d)(v0 v1:EV)(h:Aa):Ad TT disp K (d+1) false 163 [v0,v1] h=Xw (Ad TT disp K d false) (Ad TT disp K d true) K v0 v1 h:=
 Rc (H.bare (by kernel_rfl)) (by kernel_rfl) (W1 (Kj H (lq hd rfl)) (W1 (Ly H (lq hd rfl)) (W2 (Qy H (lq hd rfl)) rfl))) rfl (by kernel_rfl)
def Ac6(K:Nat)(v0 v1:EV)(h:Aa):R:=
 Dn 83 v1 h fun v3 h=>
 Ap 0 v3 fun v5=>
 Ao v5 h fun v6=>
 Aj (Bf K v0 (.int .i64 1) v6 h) fun v7 h=>
 Ap 1 v3 fun v9=>
 Ao v9 h fun v10=>
 Aj (Bf K v0 (.int .i64 2) v10 h) fun v11 h=>
 Ap 2 v3 fun v13=>
 Ao v13 h fun v14=>
 Aj (Bf K v0 (.int .i64 2) v14 h) fun v15 h=>
 Ap 3 v3 fun v17=>
 Ao v17 h fun v18=>
 Aj (Bf K v0 (.int .i64 1) v18 h) fun v19 h=>
 Ap 4 v3 fun v21=>
 Ao v21 h fun v22=>
 Aj (Bf K v0 (.int .i64 6) v22 h) fun v23 h=>
 Ap 5 v3 fun v25=>
 Ao v25 h fun v26=>
 Aj (Bf K v0 (.int .i64 4) v26 h) fun v27 h=>
 some (.tuple [],h)
theorem Aqk(H:An disp)(hd:3<=d)(v0 v1:EV)(h:Aa):Ad TT disp K d false 200 [v0,v1] h=Ac6 K v0 v1 h:=
 Cp (H.bare (by kernel_rfl)) hd (by kernel_rfl) (fun d hd=>(W3 (L9 H (lq hd rfl)) rfl)) (fun d c r=>rfl) (fun d c r=>by kernel_rfl)
def Jw(K:Nat)(v0:EV)(h:Aa):R:=
 Bg v0 fun v13=>
 Ap 0 v13 fun v14=>
 I9 1 v14 .Af h fun h=>
 Bg v0 fun v15=>
 Ap 2 v15 fun v16=>
 I9 1 v16 (.int .i64 0) h fun h=>
 Bg v0 fun v17=>
 Ap 3 v17 fun v18=>
 I9 1 v18 (.int .i64 0) h fun h=>
 Bg v0 fun v19=>
 Ap 4 v19 fun v20=>
 I9 1 v20 (.bool false) h fun h=>
 some ((.int .i64 0),h)
def E8(K:Nat)(v0:EV)(h:Aa):R:=
 Aj (Co K v0 h) fun v5 h=>
 Aq Ka (bin TT .neq 28) v5 (.int .i64 0) fun v7=>
 D8 v7
 (some (v5,h))
 (Jw K v0 h)
theorem Qb(H:An disp)(hd:2<=d)(v0:EV)(h:Aa):Ad TT disp K d false 236 [v0] h=E8 K v0 h:=
 Cp (H.bare (by kernel_rfl)) hd (by kernel_rfl) (fun d hd=>(W1 (Fk H (lq hd rfl)) rfl)) (fun d c r=>rfl) (fun d c r=>by kernel_rfl)
def Kv(K:Nat)(v9 v18:EV)(h:Aa):R:=
 Bu v9 (.bool true) v18 fun v19=>
 some (v19,h)
def Lg(K:Nat)(v0 v1 v2:EV)(h:Aa):R:=
 Aq G7 (bin TT .eql 3) v2 (.int .i64 (-1)) fun v8=>
 Ar (Au v8 false)
 (Bg v0 fun v11=>
 Ap 0 v11 fun v12=>
 Ao v12 h fun v13=>
 Aj (Fc K v13 h) fun v14 h=>
 Aj (Fg K v14 v2 h) fun v16 h=>
 Aq G7 (bin TT .eql 3) v16 v1 fun v18=>
 Kv K v8 v18 h)
 (Kv K v8 (.tuple []) h)
theorem Aei(H:An disp)(hd:3<=d)(v0 v1 v2:EV)(h:Aa):Ad TT disp K d false 59 [v0,v1,v2] h=Lg K v0 v1 v2 h:=
 Cp (H.bare (by kernel_rfl)) hd (by kernel_rfl) (fun d hd=>(W1 (Pr H (lq hd rfl)) (W2 (Hf H (lq hd rfl)) rfl))) (fun d c r=>rfl) (fun d c r=>by kernel_rfl)
theorem Sk:(B8 TT 64 0).1=.tmp 28:=by kernel_rfl
def Iq(c r:Ac)(K:Nat)(tm:Ag)(v2:EV)(h:Aa)(ds:List Nat):R:=
 I9 1 v2 (.bool true) h fun h=>
 D3 ds h fun h=>Iz TT [.c v2 4] h
theorem Adi(H:An disp)(hd:2<=d)(tm:Ag)(h:Aa)(ds:List Nat):Awj (Ad TT disp K d false) (Ad TT disp K d true) K tm h ds=Iq (Ad TT disp K d false) (Ad TT disp K d true) K tm (tmp tm 2) h ds:=by
 simp only[Awj,Iq,Y4,dd,↓reduceIte,Nat.reduceEqDiff,Int.reduceOfNat,Int.reduceNegSucc,Nat.reduceAdd,tt0,tt1]
def Ii(c r:Ac)(K:Nat)(tm:Ag)(v1:EV)(v2:EV)(h:Aa)(ds:List Nat):R:=
 Ap 3 v1 fun v26=>
 Ao v26 h fun v27=>
 Aj (Y5 K v27 h) fun v28 h=>
 Xj c TT 64 36 0 v28 (((tm.put 26 (some v26)).put 27 (some v27)).put 28 (some v28)) h ds (fun h ds=>
 Iq c r K (((tm.put 26 (some v26)).put 27 (some v27)).put 28 (some v28)) v2 h ds) (fun id h ds=>
 Ar (Nat.beq 0 id) (Iq c r K (((tm.put 26 (some v26)).put 27 (some v27)).put 28 (some v28)) v2 h ds) (none)) (fun h ds=>
 D3 ds h fun h=>Iz TT [.c v2 4] h)
theorem Acp(H:An disp)(hd:2<=d)(tm:Ag)(h:Aa)(ds:List Nat):A18 (Ad TT disp K d false) (Ad TT disp K d true) K tm h ds=Ii (Ad TT disp K d false) (Ad TT disp K d true) K tm (tmp tm 1) (tmp tm 2) h ds:=by
 simp only[A18,Ii,Y4,dd,↓reduceIte,Nat.reduceEqDiff,Int.reduceOfNat,Int.reduceNegSucc,Nat.reduceAdd,Adi H hd,Ajh H (lq hd rfl),tt0,tt1,Agt Sk,Ady Sk,Zi,Y1,X2,Agp]
def Il(c r:Ac)(K:Nat)(tm:Ag)(v1:EV)(v2:EV)(v20:EV)(v24:EV)(h:Aa)(ds:List Nat):R:=
 Bu v20 (.bool true) v24 fun v25=>
 D8 v25
 (I9 1 v2 (.bool false) h fun h=>
 D3 ds h fun h=>Iz TT [.c v2 4] h)
 (Ii c r K (tm.put 25 (some v25)) v1 v2 h ds)
theorem Adp(H:An disp)(hd:2<=d)(tm:Ag)(h:Aa)(ds:List Nat):Awa (Ad TT disp K d false) (Ad TT disp K d true) K tm h ds=Il (Ad TT disp K d false) (Ad TT disp K d true) K tm (tmp tm 1) (tmp tm 2) (tmp tm 20) (tmp tm 24) h ds:=by
 simp only[Awa,Il,Y4,dd,↓reduceIte,Nat.reduceEqDiff,Int.reduceOfNat,Int.reduceNegSucc,Nat.reduceAdd,Acp H hd,tt0,tt1]
def Ir(c r:Ac)(K:Nat)(tm:Ag)(v1:EV)(v2:EV)(v14:EV)(v18:EV)(h:Aa)(ds:List Nat):R:=
 Bu v14 (.bool true) v18 fun v19=>
 Ar (Au v19 false)
 (Ap 2 v1 fun v21=>
 Ao v21 h fun v22=>
 Aj (Pc K v22 (.int .i64 281474976710655) h) fun v23 h=>
 Lf v23 fun v24=>
 Il c r K ((((((tm.put 19 (some v19)).put 20 (some v19)).put 21 (some v21)).put 22 (some v22)).put 23 (some v23)).put 24 (some v24)) v1 v2 v19 v24 h ds)
 (Il c r K ((((((tm.put 19 (some v19)).put 20 (some v19)).put 21 (some (.tuple []))).put 22 (some (.tuple []))).put 23 (some (.tuple []))).put 24 (some (.tuple []))) v1 v2 v19 (.tuple []) h ds)
theorem Adb(H:An disp)(hd:2<=d)(tm:Ag)(h:Aa)(ds:List Nat):Axe (Ad TT disp K d false) (Ad TT disp K d true) K tm h ds=Ir (Ad TT disp K d false) (Ad TT disp K d true) K tm (tmp tm 1) (tmp tm 2) (tmp tm 14) (tmp tm 18) h ds:=by
 simp only[Axe,Ir,Y4,dd,↓reduceIte,Nat.reduceEqDiff,Int.reduceOfNat,Int.reduceNegSucc,Nat.reduceAdd,Adp H hd,Ta H (lq hd rfl),tt0,tt1]
def Im(c r:Ac)(K:Nat)(tm:Ag)(v1:EV)(v2:EV)(v8:EV)(v12:EV)(h:Aa)(ds:List Nat):R:=
 Bu v8 (.bool true) v12 fun v13=>
 Ar (Au v13 false)
 (Ap 1 v1 fun v15=>
 Ao v15 h fun v16=>
 Aj (Pc K v16 (.int .i64 4294967295) h) fun v17 h=>
 Lf v17 fun v18=>
 Ir c r K ((((((tm.put 13 (some v13)).put 14 (some v13)).put 15 (some v15)).put 16 (some v16)).put 17 (some v17)).put 18 (some v18)) v1 v2 v13 v18 h ds)
 (Ir c r K ((((((tm.put 13 (some v13)).put 14 (some v13)).put 15 (some (.tuple []))).put 16 (some (.tuple []))).put 17 (some (.tuple []))).put 18 (some (.tuple []))) v1 v2 v13 (.tuple []) h ds)
theorem Ac7(H:An disp)(hd:2<=d)(tm:Ag)(h:Aa)(ds:List Nat):Aw3 (Ad TT disp K d false) (Ad TT disp K d true) K tm h ds=Im (Ad TT disp K d false) (Ad TT disp K d true) K tm (tmp tm 1) (tmp tm 2) (tmp tm 8) (tmp tm 12) h ds:=by
 simp only[Aw3,Im,Y4,dd,↓reduceIte,Nat.reduceEqDiff,Int.reduceOfNat,Int.reduceNegSucc,Nat.reduceAdd,Adb H hd,Ta H (lq hd rfl),tt0,tt1]
def Tg(c r:Ac)(K:Nat)(v0:EV)(h:Aa):R:=
 (fun(tm:Ag) (ds:List Nat)=>
 Dn 60 v0 h fun v1 h=>
 Kn (.cells [(.bool false)] 4) h fun v2 h=>
 Ap 3 v1 fun v5=>
 Ao v5 h fun v6=>
 Aq G7 (bin TT .eql 52) v6 .Db fun v7=>
 Ar (Au v7 false)
 (Ap 0 v1 fun v9=>
 Ao v9 h fun v10=>
 Aj (Pc K v10 (.int .i64 281474976710655) h) fun v11 h=>
 Lf v11 fun v12=>
 Im c r K ((((((((((tm.put 1 (some v1)).put 2 (some v2)).put 5 (some v5)).put 6 (some v6)).put 7 (some v7)).put 8 (some v7)).put 9 (some v9)).put 10 (some v10)).put 11 (some v11)).put 12 (some v12)) v1 v2 v7 v12 h ds)
 (Im c r K ((((((((((tm.put 1 (some v1)).put 2 (some v2)).put 5 (some v5)).put 6 (some v6)).put 7 (some v7)).put 8 (some v7)).put 9 (some (.tuple []))).put 10 (some (.tuple []))).put 11 (some (.tuple []))).put 12 (some (.tuple []))) v1 v2 v7 (.tuple []) h ds)) (Tr.nil.put 0 (some v0)) []
theorem Aes(H:An disp)(hd:2<=d)(v0:EV)(h:Aa):Ad TT disp K (d+1) false 64 [v0] h=Tg (Ad TT disp K d false) (Ad TT disp K d true) K v0 h:=by
 rw[Xy ((H.plain 64 rfl).trans (show Aew 64=some F64 by kernel_rfl))]
 unfold F64
 rw[Ak2 (by simp)]
 simp only[Tg,Y4,dd,↓reduceIte,Nat.reduceEqDiff,Int.reduceOfNat,Int.reduceNegSucc,Nat.reduceAdd,Ac7 H hd,Ta H (lq hd rfl),tt0,tt1]
def H2(c r:Ac)(K:Nat)(l:Nat)(v1:EV)(v2:EV)(v4:EV)(h:Aa):R:=
 Ap 4 v4 fun v31=>
 Ao v31 h fun v32=>
 Ap 2 v1 fun v33=>
 Ao v33 h fun v34=>
 Aq V5 (bin TT .geq 3) v32 v34 fun v35=>
 D8 v35
 (I9 1 v2 (.bool false) h fun h=>
 Aip l false .done (some .ret) h)
 (Aip l true .ready none h)
theorem Xd(H:An disp)(hd:2<=d){l:Nat}(tm:Ag)(h:Aa):Ai9 (Ad TT disp K d false) (Ad TT disp K d true) K l tm h []=H2 (Ad TT disp K d false) (Ad TT disp K d true) K l (tmp tm 1) (tmp tm 2) (tmp tm 4) h:=by
 simp only[Ai9,H2,dd,↓reduceIte,Nat.reduceEqDiff,Int.reduceOfNat,Int.reduceNegSucc,Nat.reduceAdd,tt0,tt1]
def Kz(c r:Ac)(K:Nat)(l:Nat)(v1:EV)(v2:EV)(v30:EV)(h:Aa):R:=
 Kn (.cells [(.int .i64 0),(.int .i64 0),(.int .i64 0),(.int .i64 0),(.int .i64 0),(.int .i64 0)] 83) h fun v4 h=>
 I9 6 v4 v30 h fun h=>
 Fm l h fun h=>H2 c r K l v1 v2 v4 h
theorem Abq(H:An disp)(hd:2<=d){l:Nat}(tm:Ag)(h:Aa):A1c (Ad TT disp K d false) (Ad TT disp K d true) K l tm h []=Kz (Ad TT disp K d false) (Ad TT disp K d true) K l (tmp tm 1) (tmp tm 2) (tmp tm 30) h:=by
 simp only[A1c,Kz,dd,↓reduceIte,Nat.reduceEqDiff,Int.reduceOfNat,Int.reduceNegSucc,Nat.reduceAdd,Xd H hd,tt0,tt1]
theorem Zg(H:An disp)(hd:2<=d){l:Nat}(tm:Ag)(h:Aa)(x29:EV)(x30:EV){st:LoopState}{p:Option Code}{d0:Nat}(hg:h.get l=some (.loop st p 64 36 tm [29,30] (B8 TT 64 0).2.2.1 (B8 TT 64 0).2.2.2 d0)):
 Ad TT disp K (d+1) true l [x29,x30] h=Kz (Ad TT disp K d false) (Ad TT disp K d true) K l (tmp tm 1) (tmp tm 2) x30 h:=by
 rw[W8,Zt hg (show Kh [29,30] [x29,x30] 36 tm=some ((tm.put 29 (some x29)).put 30 (some x30)) from rfl),A2d,Abq H hd]
 simp only[dd,↓reduceIte,Nat.reduceEqDiff,Int.reduceOfNat,Int.reduceNegSucc,Nat.reduceAdd]
def R8(K:Nat)(v5:EV)(h:Aa):R:=
 some (v5,h)
def M0(K:Nat)(v0 v1:EV)(h:Aa):R:=
 Bg v0 fun v34=>
 Ap 0 v34 fun v35=>
 Ao v35 h fun v36=>
 Aj (Cy K v36 h) fun v37 h=>
 Aj (Mw K v37 v1 h) fun v39 h=>
 C9 0 v39 fun v40=>
 C9 1 v39 fun v41=>
 Aq Ka (bin TT .neq 28) v41 (.int .i64 0) fun v43=>
 D8 v43
 (some ((.int .i64 (-1)),h))
 (R8 K v40 h)
def Hi(K:Nat)(v0 v1 v5 v22 v29:EV)(h:Aa):R:=
 Bu v22 v29 (.bool false) fun v30=>
 D8 v30
 (some (v5,h))
 (M0 K v0 v1 h)
def Jj(K:Nat)(v0 v1:EV)(h:Aa):R:=
 Bg v0 fun v9=>
 Ap 1 v9 fun v10=>
 Aa7 3 2 v10 v1 fun v11=>
 Ap 1 v11 fun v12=>
 Ao v12 h fun v13=>
 Bg v0 fun v16=>
 Ap 1 v16 fun v17=>
 Aa7 3 2 v17 v1 fun v18=>
 Ap 1 v18 fun v19=>
 I9 1 v19 (.int .i64 (-1)) h fun h=>
 Aq Ka (bin TT .neq 3) v13 (.int .i64 (-1)) fun v21=>
 Ar (Au v21 true)
 (Bg v0 fun v24=>
 Ap 0 v24 fun v25=>
 Ao v25 h fun v26=>
 Aj (E3 K v26 v13 h) fun v28 h=>
 Lf v28 fun v29=>
 Hi K v0 v1 v13 v21 v29 h)
 (Hi K v0 v1 v13 v21 (.tuple []) h)
theorem Aa6(H:An disp)(hd:4<=d)(v0 v1:EV)(h:Aa):Ad TT disp K d false 116 [v0,v1] h=Jj K v0 v1 h:=
 Cp (H.bare (by kernel_rfl)) hd (by kernel_rfl) (fun d hd=>(W2 (Iu H (lq hd rfl)) (W1 (Qk H (lq hd rfl)) (W2 (Afs H (lq hd rfl)) rfl)))) (fun d c r=>rfl) (fun d c r=>by kernel_rfl)
def Xv(K:Nat)(v0:EV)(h:Aa):R:=
 Dn 60 v0 h fun v1 h=>
 Kn (.cells (List.replicate 44 (.int .u8 0)) 118) h fun v2 h=>
 Ap 3 v1 fun v5=>
 Ao v5 h fun v6=>
 Aj (G8 K v6 h) fun v7 h=>
 Kn (.cells [(.int .i64 0),(.int .i64 0),(.int .i64 0),(.int .i64 0),(.int .i64 0),(.int .i64 0)] 23) h fun v3 h=>
 I9 6 v3 v7 h fun h=>
 C1 (G3 [(0,1),(1,1)]) [.Af,(.bool false)] [] fun v8=>
 Dn 278 v8 h fun v9 h=>
 Ap 2 v1 fun v11=>
 Ao v11 h fun v12=>
 Aj (Bf K v9 (.int .i64 6) v12 h) fun v13 h=>
 Ap 0 v3 fun v15=>
 Ao v15 h fun v16=>
 Aj (Bf K v9 (.int .i64 1) v16 h) fun v17 h=>
 Ap 1 v3 fun v19=>
 Ao v19 h fun v20=>
 Aj (Bf K v9 (.int .i64 1) v20 h) fun v21 h=>
 Ap 2 v3 fun v23=>
 Ao v23 h fun v24=>
 Aj (Bf K v9 (.int .i64 1) v24 h) fun v25 h=>
 Ap 3 v3 fun v27=>
 Ao v27 h fun v28=>
 Aj (Bf K v9 (.int .i64 2) v28 h) fun v29 h=>
 Ap 4 v3 fun v31=>
 Ao v31 h fun v32=>
 Aj (Bf K v9 (.int .i64 1) v32 h) fun v33 h=>
 Ap 5 v3 fun v35=>
 Ao v35 h fun v36=>
 Aj (Bf K v9 (.int .i64 1) v36 h) fun v37 h=>
 Aj (Ur K v9 h) fun v39 h=>
 I9 44 v2 v39 h fun h=>
 Iz TT [.c v2 118] h
theorem Aod(H:An disp)(hd:3<=d)(v0:EV)(h:Aa):Ad TT disp K d false 157 [v0] h=Xv K v0 h:=
 Cp (H.bare (by kernel_rfl)) hd (by kernel_rfl) (fun d hd=>(W1 (Qc H (lq hd rfl)) (W3 (L9 H (lq hd rfl)) (W1 (Ae8 H (lq hd rfl)) rfl)))) (fun d c r=>rfl) (fun d c r=>by kernel_rfl)
def Yy(K:Nat)(v4 v5:EV)(h:Aa):R:=
 Aj (Ur K v5 h) fun v33 h=>
 I9 44 v4 v33 h fun h=>
 Iz TT [.c v4 118] h
def Ahr(K:Nat)(ih1_:EV->EV->EV->EV->EV->Aa->R)(v1 v2 v4 v5 v14:EV)(h:Aa):R:=
 Aq Hj (bin TT .add 3) v14 (.int .i64 1) fun v31=>
 ih1_ v1 v2 v4 v5 v31 h
def Ah3(K:Nat)(ih1_:EV->EV->EV->EV->EV->Aa->R)(v1 v2 v4 v5 v14:EV)(h:Aa):R:=
 Ap 3 v2 fun v18=>
 Ao v18 h fun v19=>
 Aq Um (bin TT .sub 3) v1 (.int .i64 1) fun v21=>
 Aq Ud (bin TT .mul 3) (.int .i64 2) v21 fun v22=>
 Aq Hj (bin TT .add 3) v22 v14 fun v24=>
 Aj (Py K v19 v24 h) fun v25 h=>
 C9 0 v25 fun v26=>
 C9 1 v25 fun v27=>
 Kn (.cells [(.int .i64 0),(.int .i64 0),(.int .i64 0),(.int .i64 0),(.int .i64 0),(.int .i64 0)] 83) h fun v7 h=>
 I9 6 v7 v26 h fun h=>
 Ck 6 v7 h fun v29=>
 Aj (Ac6 K v5 v29 h) fun v30 h=>
 Ahr K ih1_ v1 v2 v4 v5 v14 h
def Jl(K:Nat):Nat->EV->EV->EV->EV->EV->Aa->R
 | 0=>fun _ _ _ _ _ _=>none
 | m+1=>fun v1 v2 v4 v5 v14 h=>
  Aq Gr (bin TT .lss 3) v14 (.int .i64 2) fun v15=>
  D8 v15
  (Ah3 K (Jl K m) v1 v2 v4 v5 v14 h)
  (Yy K v4 v5 h)
def Yh(K:Nat)(v0 v1:EV)(h:Aa):R:=
 Dn 60 v0 h fun v2 h=>
 Kn (.cells (List.replicate 44 (.int .u8 0)) 118) h fun v4 h=>
 C1 (G3 [(0,1),(1,1)]) [.Af,(.bool false)] [] fun v9=>
 Dn 278 v9 h fun v10 h=>
 Aj (Bf K v10 (.int .i64 1) v1 h) fun v13 h=>
 Jl K K v1 v2 v4 v10 (.int .i64 0) h
abbrev Atr(K:Nat)(c:Ac):Ac:=(w3 173 (Bf K) (w1 199 (Ur K) (w2 184 (Py K) (w2 200 (Ac6 K) c))))
theorem Amu(c c' r:Ac)(K:Nat)(m:Nat):G2 (fun ih=>Fq TT (Atr K c) c' r K (nOf TT 158) (Eg TT 158) (Ph TT 158 [true,true,true,false,true,false]) [(0,fun ρ h=>Yy K (ρ 4) (ρ 5) h)] ih) m=fun ρ h=>Jl K m (ρ 1) (ρ 2) (ρ 4) (ρ 5) (ρ 14) h:=
 Cj (E:=fun m ρ h=>Jl K m (ρ 1) (ρ 2) (ρ 4) (ρ 5) (ρ 14) h) rfl (fun m=>Pm fun ρ h=>by
  show _=Jl K (m+1) (ρ 1) (ρ 2) (ρ 4) (ρ 5) (ρ 14) h
  rw[Jl];kernel_rfl) m
theorem Anw(H:An disp)(hd:4<=d)(v0 v1:EV)(h:Aa):Ad TT disp K d false 158 [v0,v1] h=Yh K v0 v1 h:=
 Cp (H.bare (by kernel_rfl)) hd (by kernel_rfl) (fun d hd=>(W3 (L9 H (lq hd rfl)) (W1 (Ae8 H (lq hd rfl)) (W2 (Ajf H (lq hd rfl)) (W2 (Aqk H (lq hd rfl)) rfl))))) (fun d c r=>(cut [true,true,true,false,true,false] (Amu (Ad TT disp K d false) c r K K) (by kernel_rfl) (by kernel_rfl) rfl)) (fun d c r=>by kernel_rfl)
def Rz(K:Nat)(v0 v1:EV)(h:Aa):R:=
 Bg v0 fun v13=>
 Ap 0 v13 fun v14=>
 Ao v14 h fun v15=>
 Ib 1 v15 v1 fun v17=>
 Ao v17 h fun v18=>
 Aj (E8 K v18 h) fun v19 h=>
 some (v19,h)
def Mh(K:Nat)(v0 v1:EV)(h:Aa):R:=
 Aj (Hl K v0 v1 h) fun v8 h=>
 Aq Ka (bin TT .neq 28) v8 (.int .i64 0) fun v10=>
 D8 v10
 (some (v8,h))
 (Rz K v0 v1 h)
theorem Aa4(H:An disp)(hd:3<=d)(v0 v1:EV)(h:Aa):Ad TT disp K d false 221 [v0,v1] h=Mh K v0 v1 h:=
 Cp (H.bare (by kernel_rfl)) hd (by kernel_rfl) (fun d hd=>(W2 (Lx H (lq hd rfl)) (W1 (Qb H (lq hd rfl)) rfl))) (fun d c r=>rfl) (fun d c r=>by kernel_rfl)
def Wo(K:Nat)(v0 v1 v2 v3:EV)(h:Aa):R:=
 C1 (G3 [(0,1),(1,1)]) [(.int .i64 0),(.int .i64 0)] [(0,v2),(1,v3)] fun v39=>
 Bg v0 fun v40=>
 Ap 1 v40 fun v41=>
 Aa7 3 2 v41 v1 fun v42=>
 I9 2 v42 v39 h fun h=>
 some ((.int .i64 0),h)
def P6(K:Nat)(v0 v1 v2 v3 v26 v33:EV)(h:Aa):R:=
 Bu v26 (.bool true) v33 fun v34=>
 D8 v34
 (some ((.int .i64 13),h))
 (Wo K v0 v1 v2 v3 h)
def Qd(K:Nat)(v0 v1 v2 v3 v26 v30 v32:EV)(h:Aa):R:=
 Ar (Au v26 false)
 (Bu v30 v32 (.bool false) fun v33=>
 P6 K v0 v1 v2 v3 v26 v33 h)
 (P6 K v0 v1 v2 v3 v26 (.tuple []) h)
def P7(K:Nat)(v0 v1 v2 v3 v26 v30:EV)(h:Aa):R:=
 Ar (Au v30 true)
 (Aq Ka (bin TT .neq 3) v2 (.int .i64 (-1)) fun v32=>
 Qd K v0 v1 v2 v3 v26 v30 v32 h)
 (Qd K v0 v1 v2 v3 v26 v30 (.tuple []) h)
def Pq(K:Nat)(v0 v1 v2 v3 v19 v24:EV)(h:Aa):R:=
 Bu v19 (.bool true) v24 fun v25=>
 Ar (Au v25 false)
 (Aq G7 (bin TT .eql 3) v2 v3 fun v29=>
 P7 K v0 v1 v2 v3 v25 v29 h)
 (P7 K v0 v1 v2 v3 v25 (.tuple []) h)
def Qu(K:Nat)(v0 v1 v2 v3 v12 v17:EV)(h:Aa):R:=
 Bu v12 (.bool true) v17 fun v18=>
 Ar (Au v18 false)
 (Aj (Lg K v0 v1 v3 h) fun v23 h=>
 Lf v23 fun v24=>
 Pq K v0 v1 v2 v3 v18 v24 h)
 (Pq K v0 v1 v2 v3 v18 (.tuple []) h)
def Mt(K:Nat)(v0 v1 v2 v3:EV)(h:Aa):R:=
 Aj (Aim K v1 h) fun v10 h=>
 Lf v10 fun v11=>
 Ar (Au v11 false)
 (Aj (Lg K v0 v1 v2 h) fun v16 h=>
 Lf v16 fun v17=>
 Qu K v0 v1 v2 v3 v11 v17 h)
 (Qu K v0 v1 v2 v3 v11 (.tuple []) h)
theorem Agd(H:An disp)(hd:4<=d)(v0 v1 v2 v3:EV)(h:Aa):Ad TT disp K d false 13 [v0,v1,v2,v3] h=Mt K v0 v1 v2 v3 h:=
 Cp (H.bare (by kernel_rfl)) hd (by kernel_rfl) (fun d hd=>(W1 (Arr H (lq hd rfl)) (W3 (Aei H (lq hd rfl)) rfl))) (fun d c r=>rfl) (fun d c r=>by kernel_rfl)
def Akh(K:Nat)(v1:EV)(h:Aa):R:=
 Gs h fun base s=>
 Bn 0 0 base v1 s fun s=>Ck 6 v1 h fun v7=>
 Ap 3 v1 fun v8=>
 Bn 2 2 base v8 s fun s=>Ao v8 h fun v9=>
 Adm 3 h s fun s=>Aj (O4 [(.int .i64 0),(.int .i64 0),(.int .i64 0),(.int .i64 0),(.int .i64 0),(.int .i64 0)] 83 v9 v9 h) fun v10 h=>
 Bn 4 0 base v1 s fun s=>Ck 6 v1 h fun v11=>
 Ct 5 16 s h (fun h=>(H5 K v11 h)) fun v12 h s=>
 Adm 6 h s fun s=>Aj (O4 [(.int .i64 0)] 3 v12 v12 h) fun v13 h=>
 C1 (G3 [(0,6),(6,1),(7,1)]) [(.int .i64 0),(.int .i64 0),(.int .i64 0),(.int .i64 0),(.int .i64 0),(.int .i64 0),.Af,.Af] [(0,v7),(1,v10),(2,v13)] fun v14=>
 Adm 8 h s fun s=>Dn 155 v14 h fun v15 h=>
 some (.tuple [v15,(.int .i64 0)],h)
def Acy(K:Nat)(v0:EV)(h:Aa):R:=
 Dn 23 v0 h fun v1 h=>
 Ck 6 v1 h fun v4=>
 Aj (Hr K v4 h) fun v5 h=>
 Lf v5 fun v6=>
 D8 v6
 (some (.tuple [.Db,(.int .i64 20)],h))
 (Akh K v1 h)
theorem Apq(H:An disp)(hd:4<=d)(v0:EV)(h:Aa):Ad TT disp K d false 16 [v0] h=Acy K v0 h:=
 Cp (H.bare (by kernel_rfl)) hd (by kernel_rfl) (fun d hd=>(W1 (Ob H (lq hd rfl)) (W1 (Mc H (lq hd rfl)) rfl))) (fun d c r=>rfl) (fun d c r=>by kernel_rfl)
def Ad9(c r:Ac)(K:Nat)(ih0_:EV->EV->EV->Aa->R)(v0 v1 v5 v8:EV)(h:Aa):R:=
 Bg v0 fun v47=>
 Ap 0 v47 fun v48=>
 Ao v48 h fun v49=>
 Aj (c 20 [v49,v8] h) fun v51 h=>
 Aq G7 (bin TT .eql 28) v51 (.int .i64 34) fun v52=>
 D8 v52
 (some (.tuple [(.bool false),(.int .i64 34)],h))
 (ih0_ v0 v1 v5 h)
def Tk(c r:Ac)(K:Nat)(ih0_:EV->EV->EV->Aa->R)(v0 v1 v5 v8:EV)(h:Aa):R:=
 Ck 4 v5 h fun v16=>
 Aj (c 117 [v0,v16,v8] h) fun v18 h=>
 Aq G7 (bin TT .eql 28) v18 (.int .i64 0) fun v21=>
 D8 v21
 (Gs h fun base s=>
 Bg v0 fun v27=>
 Ap 1 v27 fun v28=>
 Aa7 3 2 v28 v1 fun v29=>
 Ap 0 v29 fun v30=>
 Bn 9 504 base v30 s fun s=>Ao v30 h fun v31=>
 C1 (G3 [(0,1),(1,1)]) [(.int .i64 0),(.int .i64 0)] [(0,v8),(1,v31)] fun v32=>
 Bg v0 fun v33=>
 Ap 1 v33 fun v34=>
 Aa7 3 2 v34 v1 fun v35=>
 Ahp 14 16383 v35 s fun s=>I9 2 v35 v32 h fun h=>
 some (.tuple [(.bool true),(.int .i64 0)],h))
 (Aq G7 (bin TT .eql 28) v18 (.int .i64 34) fun v37=>
 D8 v37
 (Bg v0 fun v41=>
 Ap 1 v41 fun v42=>
 Aa7 3 2 v42 v1 fun v43=>
 Ap 1 v43 fun v44=>
 I9 1 v44 v8 h fun h=>
 some (.tuple [(.bool false),v18],h))
 (Ad9 c r K ih0_ v0 v1 v5 v8 h))
def Ez(c r:Ac)(K:Nat):Nat->EV->EV->EV->Aa->R
 | 0=>fun _ _ _ _=>none
 | m+1=>fun v0 v1 v5 h=>
  Aj (Jj K v0 v1 h) fun v12 h=>
  Aq G7 (bin TT .eql 3) v12 (.int .i64 (-1)) fun v14=>
  D8 v14
  (some (.tuple [(.bool false),(.int .i64 0)],h))
  (Tk c r K (Ez c r K m) v0 v1 v5 v12 h)
def X5(c r:Ac)(K:Nat)(v0 v1 v2:EV)(h:Aa):R:=
 Dn 60 v2 h fun v5 h=>
 Ez c r K K v0 v1 v5 h
abbrev Aga(K:Nat)(c:Ac):Ac:=(w2 116 (Jj K) c)
theorem Aa5(c r:Ac)(K:Nat)(m:Nat):G2 (fun ih=>Fq TT (Aga K c) c r K (nOf TT 66) (Eg TT 66) (Ph TT 66 [true,false]) [(0,Eg TT 66)] ih) m=fun ρ h=>Ez c r K m (ρ 0) (ρ 1) (ρ 5) h:=
 Cj (E:=fun m ρ h=>Ez c r K m (ρ 0) (ρ 1) (ρ 5) h) rfl (fun m=>Pm fun ρ h=>by
  show _=Ez c r K (m+1) (ρ 0) (ρ 1) (ρ 5) h
  rw[Ez];kernel_rfl) m
theorem Abo(H:An disp)(hd:4<=d)(v0 v1 v2:EV)(h:Aa):Ad TT disp K (d+1) false 66 [v0,v1,v2] h=X5 (Ad TT disp K d false) (Ad TT disp K d true) K v0 v1 v2 h:=
 Rc (H.bare (by kernel_rfl)) (by kernel_rfl) (W2 (Aa6 H (lq hd rfl)) rfl) (cut [true,false] (Aa5 (Ad TT disp K d false) (Ad TT disp K d true) K K) (by kernel_rfl) (by kernel_rfl) rfl) (by kernel_rfl)
def U7(c r:Ac)(K:Nat)(v7:EV)(h:Aa):R:=
 some (.tuple [v7,(.int .i64 0)],h)
def Acr(c r:Ac)(K:Nat)(ih1_:EV->EV->EV->EV->Aa->R)(v2 v6 v7 v8:EV)(h:Aa):R:=
 Aq Hj (bin TT .add 3) v8 (.int .i64 1) fun v37=>
 ih1_ v2 v6 v7 v37 h
def Acn(c r:Ac)(K:Nat)(ih1_:EV->EV->EV->EV->Aa->R)(v2 v6 v7 v8:EV)(h:Aa):R:=
 Ck 4 v2 h fun v39=>
 Aj (Yh K v39 v8 h) fun v41 h=>
 Ap 0 v6 fun v42=>
 I9 1 v42 (.int .i64 5) h fun h=>
 Ap 2 v6 fun v43=>
 I9 1 v43 v8 h fun h=>
 Ap 5 v6 fun v44=>
 I9 44 v44 v41 h fun h=>
 Ck 49 v6 h fun v46=>
 Aj (B3 (List.replicate 5 (.int .i64 0)++List.replicate 44 (.int .u8 0)) 120 49 1 [(0,v46)] h) fun v47 h=>
 Aj (Da 120 49 v7 v47 h) fun v48 h=>
 Acr c r K ih1_ v2 v6 v48 v8 h
def Hb(c r:Ac)(K:Nat):Nat->EV->EV->EV->EV->Aa->R
 | 0=>fun _ _ _ _ _=>none
 | m+1=>fun v2 v6 v7 v8 h=>
  Ap 3 v2 fun v31=>
  Ao v31 h fun v32=>
  Aj (G8 K v32 h) fun v33 h=>
  Aj (I6 K v33 h) fun v34 h=>
  Aq Gr (bin TT .lss 3) v8 v34 fun v35=>
  D8 v35
  (Acn c r K (Hb c r K m) v2 v6 v7 v8 h)
  (U7 c r K v7 h)
def Adj(c r:Ac)(K:Nat)(v1 v2:EV)(h:Aa):R:=
 Gs h fun base s=>
 Ap 1 v2 fun v21=>
 Bn 2 2 base v21 s fun s=>Ao v21 h fun v22=>
 Ap 0 v2 fun v23=>
 Bn 4 8 base v23 s fun s=>Ao v23 h fun v24=>
 Bn 5 0 base v2 s fun s=>Ck 4 v2 h fun v25=>
 Ct 6 32 s h (fun h=>(Xv K v25 h)) fun v26 h s=>
 C1 (G3 [(0,1),(1,1),(2,1),(3,1),(4,1),(5,44)]) (List.replicate 5 (.int .i64 0)++List.replicate 44 (.int .u8 0)) [(0,(.int .i64 4)),(1,v1),(3,v22),(4,v24),(5,v26)] fun v27=>
 Adm 8 h s fun s=>Kn (.cells (List.replicate 5 (.int .i64 0)++List.replicate 44 (.int .u8 0)) 120) h fun v6 h=>
 Ahp 9 511 v6 s fun s=>I9 49 v6 v27 h fun h=>
 Ck 49 v6 h fun v28=>
 Aj (B3 (List.replicate 5 (.int .i64 0)++List.replicate 44 (.int .u8 0)) 120 49 1 [(0,v28)] h) fun v29 h=>
 Hb c r K K v2 v6 v29 (.int .i64 1) h
def Vh(c r:Ac)(K:Nat)(v1 v2 v12 v18:EV)(h:Aa):R:=
 Bu v12 (.bool true) v18 fun v19=>
 D8 v19
 (some (.tuple [.Af,(.int .i64 10)],h))
 (Adj c r K v1 v2 h)
def Ajy(c r:Ac)(K:Nat)(v0 v1:EV)(h:Aa):R:=
 Dn 60 v0 h fun v2 h=>
 Ck 4 v2 h fun v9=>
 Aj (c 64 [v9] h) fun v10 h=>
 Lf v10 fun v11=>
 Ar (Au v11 false)
 (Ap 3 v2 fun v13=>
 Ao v13 h fun v14=>
 Aj (G8 K v14 h) fun v15 h=>
 Aj (Ld K v15 v1 (.int .i64 0) h) fun v17 h=>
 Lf v17 fun v18=>
 Vh c r K v1 v2 v11 v18 h)
 (Vh c r K v1 v2 v11 (.tuple []) h)
abbrev Ant(K:Nat)(c:Ac):Ac:=(w1 65 (G8 K) (w3 92 (Ld K) (w2 158 (Yh K) (w1 112 (I6 K) (w1 157 (Xv K) c)))))
theorem Ai6(c r:Ac)(K:Nat)(m:Nat):G2 (fun ih=>Fq TT (Ant K c) c r K (nOf TT 110) (Eg TT 110) (Ph TT 110 [true,true,true,true,false,true,false]) [(0,fun ρ h=>U7 c r K (ρ 7) h)] ih) m=fun ρ h=>Hb c r K m (ρ 2) (ρ 6) (ρ 7) (ρ 8) h:=
 Cj (E:=fun m ρ h=>Hb c r K m (ρ 2) (ρ 6) (ρ 7) (ρ 8) h) rfl (fun m=>Pm fun ρ h=>by
  show _=Hb c r K (m+1) (ρ 2) (ρ 6) (ρ 7) (ρ 8) h
  rw[Hb];kernel_rfl) m
theorem Akr(H:An disp)(hd:4<=d)(v0 v1:EV)(h:Aa):Ad TT disp K (d+1) false 110 [v0,v1] h=Ajy (Ad TT disp K d false) (Ad TT disp K d true) K v0 v1 h:=
 Rc (H.bare (by kernel_rfl)) (by kernel_rfl) (W1 (Qc H (lq hd rfl)) (W3 (Aea H (lq hd rfl)) (W2 (Anw H (lq hd rfl)) (W1 (T6 H (lq hd rfl)) (W1 (Aod H (lq hd rfl)) rfl))))) (cut [true,true,true,true,false,true,false] (Ai6 (Ad TT disp K d false) (Ad TT disp K d true) K K) (by kernel_rfl) (by kernel_rfl) rfl) (by kernel_rfl)
def J5(c r:Ac)(K:Nat)(v5:EV)(h:Aa):R:=
 some (v5,h)
def X7(c r:Ac)(K:Nat)(v0 v1:EV)(h:Aa):R:=
 Aj (c 179 [v0,v1] h) fun v8 h=>
 Bg v0 fun v10=>
 Ap 0 v10 fun v11=>
 Ao v11 h fun v12=>
 Aj (Mh K v12 v1 h) fun v14 h=>
 Aq G7 (bin TT .eql 28) v14 (.int .i64 0) fun v16=>
 D8 v16
 (Aj (Qf K v0 v1 (.int .i64 0) h) fun v19 h=>
 J5 c r K v14 h)
 (J5 c r K v14 h)
theorem Adr(H:An disp)(hd:3<=d)(v0 v1:EV)(h:Aa):Ad TT disp K (d+1) false 202 [v0,v1] h=X7 (Ad TT disp K d false) (Ad TT disp K d true) K v0 v1 h:=
 Rc (H.bare (by kernel_rfl)) (by kernel_rfl) (W2 (Aa4 H (lq hd rfl)) (W3 (Abi H (lq hd rfl)) rfl)) rfl (by kernel_rfl)
def Nz(K:Nat)(v1 v4 v7:EV)(h:Aa):R:=
 Gs h fun base s=>
 Ap 0 v1 fun v46=>
 Bn 1 1 base v46 s fun s=>Ao v46 h fun v47=>
 Ap 1 v1 fun v48=>
 Bn 3 4 base v48 s fun s=>Ao v48 h fun v49=>
 Aq Ud (bin TT .mul 3) v47 v49 fun v50=>
 Ap 2 v1 fun v51=>
 Bn 6 32 base v51 s fun s=>Ao v51 h fun v52=>
 Ap 5 v1 fun v53=>
 Bn 8 128 base v53 s fun s=>Ao v53 h fun v54=>
 Ct 9 511 s h (fun h=>(Ku K v50 v52 v54 h)) fun v55 h s=>
 C1 (G3 [(0,5),(5,1),(6,1)]) [.Af,(.int .i64 0),(.int .i64 0),(.int .i64 0),(.bool false),.Af,.Af] [(0,v55)] fun v56=>
 Bn 11 0 base v4 s fun s=>Ck 6 v4 h fun v57=>
 Ct 12 4095 s h (fun h=>(Kx K v56 v57 h)) fun v58 h s=>
 Adm 13 h s fun s=>Kn (.cells ([.Af]++List.replicate 3 (.int .i64 0)++[(.bool false)]++List.replicate 2 .Af++List.replicate 8 (.int .i64 0)++List.replicate 2 .Af++List.replicate 3 (.int .i64 0)) 42) h fun v9 h=>
 Ahp 14 16383 v9 s fun s=>I9 20 v9 v58 h fun h=>
 Gs h fun base s=>
 Bn 0 0 base v1 s fun s=>Ck 6 v1 h fun v59=>
 Ct 3 4 s h (fun h=>(Ahy K v7 h)) fun v62 h s=>
 Bn 4 0 base v9 s fun s=>Ck 20 v9 h fun v63=>
 Ct 5 28 s h (fun h=>(Kw K v63 h)) fun v64 h s=>
 C1 (G3 [(0,6),(6,1),(7,1),(8,26)]) (List.replicate 6 (.int .i64 0)++List.replicate 2 .Db++[.Af]++List.replicate 3 (.int .i64 0)++[(.bool false)]++List.replicate 2 .Af++List.replicate 8 (.int .i64 0)++List.replicate 2 .Af++List.replicate 9 (.int .i64 0)) [(0,v59),(1,v7),(2,v62),(3,v64)] fun v65=>
 Adm 7 h s fun s=>Dn 47 v65 h fun v66 h=>
 some (.tuple [v66,(.bool true)],h)
def N1(K:Nat)(v1 v4 v5:EV)(h:Aa):R:=
 Gs h fun base s=>
 Bn 1 0 base v1 s fun s=>Ck 6 v1 h fun v39=>
 Ct 2 0 s h (fun h=>(Aw2 K h)) fun v40 h s=>
 Ct 3 7 s h (fun h=>(Yu K v5 v39 v40 h)) fun v41 h s=>
 C9 0 v41 fun v42=>
 C9 1 v41 fun v43=>
 Aq Ka (bin TT .neq 28) v43 (.int .i64 0) fun v45=>
 D8 v45
 (some (.tuple [.Db,(.bool false)],h))
 (Nz K v1 v4 v42 h)
def N0(K:Nat)(v1 v4:EV)(h:Aa):R:=
 Ap 0 v1 fun v23=>
 Ao v23 h fun v24=>
 Ap 1 v1 fun v25=>
 Ao v25 h fun v26=>
 Aq Ud (bin TT .mul 3) v24 v26 fun v27=>
 Ap 2 v1 fun v28=>
 Ao v28 h fun v29=>
 Ap 5 v1 fun v30=>
 Ao v30 h fun v31=>
 Aj (Ag2 K v27 v29 v31 h) fun v32 h=>
 C9 0 v32 fun v33=>
 C9 1 v32 fun v34=>
 Aq Ka (bin TT .neq 28) v34 (.int .i64 0) fun v36=>
 D8 v36
 (some (.tuple [.Db,(.bool false)],h))
 (N1 K v1 v4 v33 h)
def Eu(K:Nat)(v1 v4 v14 v20:EV)(h:Aa):R:=
 Bu v14 (.bool true) v20 fun v21=>
 D8 v21
 (some (.tuple [.Db,(.bool false)],h))
 (N0 K v1 v4 h)
def F5(K:Nat)(v0:EV)(h:Aa):R:=
 Dn 23 v0 h fun v1 h=>
 Ck 6 v1 h fun v10=>
 Kn (.cells [(.int .i64 0),(.int .i64 0),(.int .i64 0),(.int .i64 0),(.int .i64 0),(.int .i64 0)] 37) h fun v4 h=>
 I9 6 v4 v10 h fun h=>
 Ck 6 v4 h fun v11=>
 Aj (Hv K v11 h) fun v12 h=>
 Lf v12 fun v13=>
 Ar (Au v13 false)
 (Ap 0 v1 fun v15=>
 Ao v15 h fun v16=>
 Ap 1 v1 fun v17=>
 Ao v17 h fun v18=>
 Aq Ud (bin TT .mul 3) v16 v18 fun v19=>
 Aq Ye (bin TT .gtr 3) v19 (.int .i64 64) fun v20=>
 Eu K v1 v4 v13 v20 h)
 (Eu K v1 v4 v13 (.tuple []) h)
theorem U3(H:An disp)(hd:6<=d)(v0:EV)(h:Aa):Ad TT disp K d false 12 [v0] h=F5 K v0 h:=
 Cp (H.bare (by kernel_rfl)) hd (by kernel_rfl) (fun d hd=>(W1 (U6 H (lq hd rfl)) (W3 (Z6 H (lq hd rfl)) (W2 (Zj H (lq hd rfl)) (W1 (Apk H (lq hd rfl)) (W1 (Y8 H (lq hd rfl)) (W0 (Arx H (lq hd rfl)) (W3 (Al3 H (lq hd rfl)) (W3 (Ap0 H (lq hd rfl)) rfl))))))))) (fun d c r=>rfl) (fun d c r=>by kernel_rfl)
def S9(c r:Ac)(K:Nat)(v10:EV)(h:Aa):R:=
 some (.tuple [v10,(.int .i64 0)],h)
def Aao(c r:Ac)(K:Nat)(ih1_:EV->EV->EV->EV->EV->Aa->R)(v3 v10 v24 v25 v26:EV)(h:Aa):R:=
 Aq Hj (bin TT .add 3) v26 (.int .i64 1) fun v43=>
 ih1_ v3 v10 v24 v25 v43 h
def Aal(c r:Ac)(K:Nat)(ih1_:EV->EV->EV->EV->EV->Aa->R)(v3 v10 v13 v24 v25 v26:EV)(h:Aa):R:=
 Ck 64 v13 h fun v40=>
 Aj (B3 (List.replicate 64 (.int .u8 0)) 103 64 1 [(0,v40)] h) fun v41 h=>
 Aj (Da 103 64 v10 v41 h) fun v42 h=>
 Aao c r K ih1_ v3 v42 v24 v25 v26 h
def Aar(c r:Ac)(K:Nat)(ih1_:EV->EV->EV->EV->EV->Aa->R)(v3 v10 v24 v25 v26:EV)(h:Aa):R:=
 Ib 49 v24 v26 fun v28=>
 Ck 49 v28 h fun v29=>
 Kn (.cells (List.replicate 5 (.int .i64 0)++List.replicate 44 (.int .u8 0)) 120) h fun v12 h=>
 I9 49 v12 v29 h fun h=>
 Ck 256 v3 h fun v31=>
 Ck 49 v12 h fun v32=>
 Aj (Qe K v31 v32 h) fun v33 h=>
 C9 0 v33 fun v34=>
 C9 1 v33 fun v35=>
 Kn (.cells (List.replicate 64 (.int .u8 0)) 103) h fun v13 h=>
 I9 64 v13 v34 h fun h=>
 Aq Ka (bin TT .neq 28) v35 (.int .i64 0) fun v37=>
 D8 v37
 (some (.tuple [.Af,v35],h))
 (Aal c r K ih1_ v3 v10 v13 v24 v25 v26 h)
def Ge(c r:Ac)(K:Nat):Nat->EV->EV->EV->EV->EV->Aa->R
 | 0=>fun _ _ _ _ _ _=>none
 | m+1=>fun v3 v10 v24 v25 v26 h=>
  Aq Gr (bin TT .lss 3) v26 v25 fun v27=>
  D8 v27
  (Aar c r K (Ge c r K m) v3 v10 v24 v25 v26 h)
  (S9 c r K v10 h)
def Aam(c r:Ac)(K:Nat)(v3 v8:EV)(h:Aa):R:=
 H8 v8 fun v25=>
 Ge c r K K v3 .Af v8 v25 (.int .i64 0) h
def Agv(c r:Ac)(K:Nat)(v0 v1 v2:EV)(h:Aa):R:=
 Dn 72 v0 h fun v3 h=>
 Dn 60 v1 h fun v4 h=>
 Ck 4 v4 h fun v16=>
 Aj (c 110 [v16,v2] h) fun v18 h=>
 C9 0 v18 fun v19=>
 C9 1 v18 fun v20=>
 Aq Ka (bin TT .neq 28) v20 (.int .i64 0) fun v22=>
 D8 v22
 (some (.tuple [.Af,v20],h))
 (Aam c r K v3 v19 h)
abbrev Anc(K:Nat)(c:Ac):Ac:=(w2 177 (Qe K) c)
theorem Aij(c r:Ac)(K:Nat)(m:Nat):G2 (fun ih=>Fq TT (Anc K c) c r K (nOf TT 162) (Eg TT 162) (Ph TT 162 [true,true,true,true,false,true,false]) [(0,fun ρ h=>S9 c r K (ρ 10) h)] ih) m=fun ρ h=>Ge c r K m (ρ 3) (ρ 10) (ρ 24) (ρ 25) (ρ 26) h:=
 Cj (E:=fun m ρ h=>Ge c r K m (ρ 3) (ρ 10) (ρ 24) (ρ 25) (ρ 26) h) rfl (fun m=>Pm fun ρ h=>by
  show _=Ge c r K (m+1) (ρ 3) (ρ 10) (ρ 24) (ρ 25) (ρ 26) h
  rw[Ge];kernel_rfl) m
theorem Ai5(H:An disp)(hd:5<=d)(v0 v1 v2:EV)(h:Aa):Ad TT disp K (d+1) false 162 [v0,v1,v2] h=Agv (Ad TT disp K d false) (Ad TT disp K d true) K v0 v1 v2 h:=
 Rc (H.bare (by kernel_rfl)) (by kernel_rfl) (W2 (Aiz H (lq hd rfl)) rfl) (cut [true,true,true,true,false,true,false] (Aij (Ad TT disp K d false) (Ad TT disp K d true) K K) (by kernel_rfl) (by kernel_rfl) rfl) (by kernel_rfl)
end
end Go.Ev

namespace Go.Ev
open Go.Proofs
set_option maxRecDepth 100000
set_option maxHeartbeats 4000000
noncomputable section
variable {disp:Nat->Option FT}{K d:Nat}
def Gj(c r:Ac)(K:Nat)(v140 v146:EV)(h:Aa):R:=
 Bu v140 v146 (.bool false) fun v147=>
 some (v147,h)
def Gk(c r:Ac)(K:Nat)(v140 v143 v145:EV)(h:Aa):R:=
 Ar (Au v140 true)
 (Bu v143 (.bool true) v145 fun v146=>
 Gj c r K v140 v146 h)
 (Gj c r K v140 (.tuple []) h)
def Gq(c r:Ac)(K:Nat)(v19 v140 v143:EV)(h:Aa):R:=
 Ar (Au v143 false)
 (Aq G7 (bin TT .eql 28) v19 (.int .i64 40) fun v145=>
 Gk c r K v140 v143 v145 h)
 (Gk c r K v140 v143 (.tuple []) h)
def Gh(c r:Ac)(K:Nat)(v19 v133 v138:EV)(h:Aa):R:=
 Bu v133 v138 (.bool false) fun v139=>
 Ar (Au v139 true)
 (Aq G7 (bin TT .eql 28) v19 (.int .i64 0) fun v142=>
 Gq c r K v19 v139 v142 h)
 (Gq c r K v19 v139 (.tuple []) h)
def N2(c r:Ac)(K:Nat)(v7 v14 v16:EV)(h:Aa):R:=
 Bg v7 fun v122=>
 Ap 7 v122 fun v123=>
 Ao v123 h fun v124=>
 C1 (G3 [(0,1),(1,1),(2,1),(3,1)]) [(.int .i64 0),(.int .i64 0),(.int .i64 0),.Db] [(0,(.int .i64 1)),(1,(.int .i64 1)),(2,(.int .i64 1)),(3,v16)] fun v126=>
 Aj (c 18 [v124,v126] h) fun v127 h=>
 C9 0 v127 fun v128=>
 C9 1 v127 fun v129=>
 Aq G7 (bin TT .eql 3) v128 v14 fun v132=>
 Ar (Au v132 true)
 (Aq G7 (bin TT .eql 28) v129 (.int .i64 0) fun v135=>
 Aq V5 (bin TT .geq 3) v14 (.int .i64 2) fun v137=>
 Aq G7 (bin TT .eql 4) v135 v137 fun v138=>
 Gh c r K v129 v132 v138 h)
 (Gh c r K v129 v132 (.tuple []) h)
def Es(c r:Ac)(K:Nat)(v3 v7 v14:EV)(h:Aa):R:=
 Ck 6 v3 h fun v114=>
 Aj (Acy K v114 h) fun v115 h=>
 C9 0 v115 fun v116=>
 C9 1 v115 fun v117=>
 Aq Ka (bin TT .neq 28) v117 (.int .i64 0) fun v119=>
 D8 v119
 (some ((.bool false),h))
 (N2 c r K v7 v14 v116 h)
def Di(c r:Ac)(K:Nat)(ih6_:EV->EV->EV->EV->Aa->R)(v3 v7 v14 v87:EV)(h:Aa):R:=
 Aq Hj (bin TT .add 3) v87 (.int .i64 1) fun v112=>
 ih6_ v3 v7 v14 v112 h
def Ex(c r:Ac)(K:Nat)(ih6_:EV->EV->EV->EV->Aa->R)(base:Nat)(s:DX)(v3 v7 v14 v87 v100 v108:EV)(h:Aa):R:=
 Bu v100 (.bool true) v108 fun v109=>
 D8 v109
 (Aq Hj (bin TT .add 3) v14 (.int .i64 1) fun v111=>
 Di c r K ih6_ v3 v7 v111 v87 h)
 (Di c r K ih6_ v3 v7 v14 v87 h)
def Ny(c r:Ac)(K:Nat)(ih6_:EV->EV->EV->EV->Aa->R)(v3 v7 v14 v87:EV)(h:Aa):R:=
 Gs h fun base s=>
 Bg v7 fun v91=>
 Ap 6 v91 fun v92=>
 Bn 3 7 base v92 s fun s=>Ao v92 h fun v93=>
 Ap 1 v3 fun v95=>
 Bn 6 32 base v95 s fun s=>Ao v95 h fun v96=>
 Aq Ud (bin TT .mul 3) v87 v96 fun v97=>
 Ct 8 255 s h (fun h=>(E3 K v93 v97 h)) fun v98 h s=>
 Lf v98 fun v99=>
 Ar (Au v99 false)
 (Bg v7 fun v102=>
 Ap 6 v102 fun v103=>
 Bn 14 16383 base v103 s fun s=>Ao v103 h fun v104=>
 Ct 15 32767 s h (fun h=>(Cy K v104 h)) fun v105 h s=>
 Ct 17 131071 s h (fun h=>(I7 K v105 v87 h)) fun v107 h s=>
 Aq Ye (bin TT .gtr 3) v107 (.int .i64 0) fun v108=>
 Ex c r K ih6_ base s v3 v7 v14 v87 v99 v108 h)
 (Ex c r K ih6_ base s v3 v7 v14 v87 v99 (.tuple []) h)
def Bl(c r:Ac)(K:Nat):Nat->EV->EV->EV->EV->Aa->R
 | 0=>fun _ _ _ _ _=>none
 | m+1=>fun v3 v7 v14 v87 h=>
  Aq Gr (bin TT .lss 3) v87 (.int .i64 3) fun v88=>
  D8 v88
  (Ny c r K (Bl c r K m) v3 v7 v14 v87 h)
  (Es c r K v3 v7 v14 h)
def F1(c r:Ac)(K:Nat)(v3 v7:EV)(h:Aa):R:=
 Bl c r K K v3 v7 (.int .i64 0) (.int .i64 0) h
def Mx(c r:Ac)(K:Nat)(ih12_:EV->EV->EV->EV->EV->Aa->R)(v3 v7 v74 v75 v76:EV)(h:Aa):R:=
 Aq Hj (bin TT .add 3) v76 (.int .i64 1) fun v86=>
 ih12_ v3 v7 v74 v75 v86 h
def Ms(c r:Ac)(K:Nat)(ih12_:EV->EV->EV->EV->EV->Aa->R)(v3 v7 v74 v75 v76:EV)(h:Aa):R:=
 Ib 1 v74 v76 fun v78=>
 Ao v78 h fun v79=>
 Bg v7 fun v81=>
 Ap 6 v81 fun v82=>
 Ao v82 h fun v83=>
 Aj (c 20 [v83,v79] h) fun v85 h=>
 Mx c r K ih12_ v3 v7 v74 v75 v76 h
def B7(c r:Ac)(K:Nat):Nat->EV->EV->EV->EV->EV->Aa->R
 | 0=>fun _ _ _ _ _ _=>none
 | m+1=>fun v3 v7 v74 v75 v76 h=>
  Aq Gr (bin TT .lss 3) v76 v75 fun v77=>
  D8 v77
  (Ms c r K (B7 c r K m) v3 v7 v74 v75 v76 h)
  (F1 c r K v3 v7 h)
def Ga(c r:Ac)(K:Nat)(v1 v3 v7:EV)(h:Aa):R:=
 H8 v1 fun v75=>
 B7 c r K K v3 v7 v1 v75 (.int .i64 0) h
def Fw(c r:Ac)(K:Nat)(ih17_:EV->EV->EV->EV->EV->EV->Aa->R)(v1 v3 v7 v53 v54 v55:EV)(h:Aa):R:=
 Aq Hj (bin TT .add 3) v55 (.int .i64 1) fun v73=>
 ih17_ v1 v3 v7 v53 v54 v73 h
def Mv(c r:Ac)(K:Nat)(ih17_:EV->EV->EV->EV->EV->EV->Aa->R)(v1 v3 v7 v53 v54 v55:EV)(h:Aa):R:=
 Ib 1 v53 v55 fun v57=>
 Ao v57 h fun v58=>
 Bg v7 fun v60=>
 Ap 7 v60 fun v61=>
 Ao v61 h fun v62=>
 Aj (c 19 [v62,v58] h) fun v64 h=>
 Lf v64 fun v65=>
 D8 v65
 (Bg v7 fun v67=>
 Ap 6 v67 fun v68=>
 Ao v68 h fun v69=>
 Aj (Cy K v69 h) fun v70 h=>
 Aj (c 15 [v70,v58] h) fun v72 h=>
 Fw c r K ih17_ v1 v3 v7 v53 v54 v55 h)
 (Fw c r K ih17_ v1 v3 v7 v53 v54 v55 h)
def Bw(c r:Ac)(K:Nat):Nat->EV->EV->EV->EV->EV->EV->Aa->R
 | 0=>fun _ _ _ _ _ _ _=>none
 | m+1=>fun v1 v3 v7 v53 v54 v55 h=>
  Aq Gr (bin TT .lss 3) v55 v54 fun v56=>
  D8 v56
  (Mv c r K (Bw c r K m) v1 v3 v7 v53 v54 v55 h)
  (Ga c r K v1 v3 v7 h)
def F7(c r:Ac)(K:Nat)(v1 v2 v3 v7:EV)(h:Aa):R:=
 H8 v2 fun v54=>
 Bw c r K K v1 v3 v7 v2 v54 (.int .i64 0) h
def Nd(c r:Ac)(K:Nat)(ih22_:EV->EV->EV->EV->EV->Aa->R)(v1 v2 v3 v7 v39:EV)(h:Aa):R:=
 Aq Hj (bin TT .add 3) v39 (.int .i64 1) fun v52=>
 ih22_ v1 v2 v3 v7 v52 h
def Mz(c r:Ac)(K:Nat)(ih22_:EV->EV->EV->EV->EV->Aa->R)(v1 v2 v3 v7 v39:EV)(h:Aa):R:=
 Gs h fun base s=>
 Bg v7 fun v43=>
 Ap 7 v43 fun v44=>
 Bn 3 7 base v44 s fun s=>Ao v44 h fun v45=>
 Ap 1 v3 fun v48=>
 Bn 7 64 base v48 s fun s=>Ao v48 h fun v49=>
 Aq Ud (bin TT .mul 3) v39 v49 fun v50=>
 Ct 9 511 s h (fun h=>(Mt K v45 v39 (.int .i64 (-1)) v50 h)) fun v51 h s=>
 Nd c r K ih22_ v1 v2 v3 v7 v39 h
def B5(c r:Ac)(K:Nat):Nat->EV->EV->EV->EV->EV->Aa->R
 | 0=>fun _ _ _ _ _ _=>none
 | m+1=>fun v1 v2 v3 v7 v39 h=>
  Aq Gr (bin TT .lss 3) v39 (.int .i64 3) fun v40=>
  D8 v40
  (Mz c r K (B5 c r K m) v1 v2 v3 v7 v39 h)
  (F7 c r K v1 v2 v3 v7 h)
def Mq(c r:Ac)(K:Nat)(v1 v2 v3 v7:EV)(h:Aa):R:=
 B5 c r K K v1 v2 v3 v7 (.int .i64 0) h
def Fz(c r:Ac)(K:Nat)(v1 v2 v3 v7 v34 v37:EV)(h:Aa):R:=
 Bu v34 (.bool true) v37 fun v38=>
 D8 v38
 (some ((.bool true),h))
 (Mq c r K v1 v2 v3 v7 h)
def F0(c r:Ac)(K:Nat)(v1 v2 v3 v7 v29 v32:EV)(h:Aa):R:=
 Bu v29 (.bool true) v32 fun v33=>
 Ar (Au v33 false)
 (H8 v2 fun v36=>
 Aq Ye (bin TT .gtr 3) v36 (.int .i64 64) fun v37=>
 Fz c r K v1 v2 v3 v7 v33 v37 h)
 (Fz c r K v1 v2 v3 v7 v33 (.tuple []) h)
def Nb(c r:Ac)(K:Nat)(v1 v2 v3:EV)(h:Aa):R:=
 Ck 6 v3 h fun v23=>
 Aj (F5 K v23 h) fun v24 h=>
 C9 0 v24 fun v25=>
 C9 1 v24 fun v26=>
 Lf v26 fun v28=>
 Ar (Au v28 false)
 (H8 v1 fun v31=>
 Aq Ye (bin TT .gtr 3) v31 (.int .i64 64) fun v32=>
 F0 c r K v1 v2 v3 v25 v28 v32 h)
 (F0 c r K v1 v2 v3 v25 v28 (.tuple []) h)
def K5(c r:Ac)(K:Nat)(v0 v1 v2:EV)(h:Aa):R:=
 Dn 23 v0 h fun v3 h=>
 Aj (c 11 [] h) fun v20 h=>
 Lf v20 fun v21=>
 D8 v21
 (some ((.bool false),h))
 (Nb c r K v1 v2 v3 h)
abbrev G9(K:Nat)(c:Ac):Ac:=(w1 16 (Acy K) (w2 21 (E3 K) (w1 14 (Cy K) (w2 22 (I7 K) (w4 13 (Mt K) (w1 12 (F5 K) c))))))
theorem Te(c r:Ac)(K:Nat)(m:Nat):G2 (fun ih=>Fq TT (G9 K c) c r K (nOf TT 4) (Eg TT 4) (Ph TT 4 [true,true,true,true,true,true,true,true,false,true,false]) [(6,fun ρ h=>Es c r K (ρ 3) (ρ 7) (ρ 14) h)] ih) m=fun ρ h=>Bl c r K m (ρ 3) (ρ 7) (ρ 14) (ρ 87) h:=
 Cj (E:=fun m ρ h=>Bl c r K m (ρ 3) (ρ 7) (ρ 14) (ρ 87) h) rfl (fun m=>Pm fun ρ h=>by
  show _=Bl c r K (m+1) (ρ 3) (ρ 7) (ρ 14) (ρ 87) h
  rw[Bl];kernel_rfl) m
theorem Sx(c r:Ac)(K:Nat)(m:Nat):G2 (fun ih=>Fq TT (G9 K c) c r K (nOf TT 4) (Eg TT 4) (Ph TT 4 [true,true,true,true,true,true,false,true,false]) [(4,fun ρ h=>F1 c r K (ρ 3) (ρ 7) h)] ih) m=fun ρ h=>B7 c r K m (ρ 3) (ρ 7) (ρ 74) (ρ 75) (ρ 76) h:=
 Cj (E:=fun m ρ h=>B7 c r K m (ρ 3) (ρ 7) (ρ 74) (ρ 75) (ρ 76) h) rfl (fun m=>Pm fun ρ h=>by
  show _=B7 c r K (m+1) (ρ 3) (ρ 7) (ρ 74) (ρ 75) (ρ 76) h
  rw[B7];kernel_rfl) m
theorem Tb(c r:Ac)(K:Nat)(m:Nat):G2 (fun ih=>Fq TT (G9 K c) c r K (nOf TT 4) (Eg TT 4) (Ph TT 4 [true,true,true,true,true,false,true,false]) [(2,fun ρ h=>Ga c r K (ρ 1) (ρ 3) (ρ 7) h)] ih) m=fun ρ h=>Bw c r K m (ρ 1) (ρ 3) (ρ 7) (ρ 53) (ρ 54) (ρ 55) h:=
 Cj (E:=fun m ρ h=>Bw c r K m (ρ 1) (ρ 3) (ρ 7) (ρ 53) (ρ 54) (ρ 55) h) rfl (fun m=>Pm fun ρ h=>by
  show _=Bw c r K (m+1) (ρ 1) (ρ 3) (ρ 7) (ρ 53) (ρ 54) (ρ 55) h
  rw[Bw];kernel_rfl) m
theorem S3(c r:Ac)(K:Nat)(m:Nat):G2 (fun ih=>Fq TT (G9 K c) c r K (nOf TT 4) (Eg TT 4) (Ph TT 4 [true,true,true,true,false,true,false]) [(0,fun ρ h=>F7 c r K (ρ 1) (ρ 2) (ρ 3) (ρ 7) h)] ih) m=fun ρ h=>B5 c r K m (ρ 1) (ρ 2) (ρ 3) (ρ 7) (ρ 39) h:=
 Cj (E:=fun m ρ h=>B5 c r K m (ρ 1) (ρ 2) (ρ 3) (ρ 7) (ρ 39) h) rfl (fun m=>Pm fun ρ h=>by
  show _=B5 c r K (m+1) (ρ 1) (ρ 2) (ρ 3) (ρ 7) (ρ 39) h
  rw[B5];kernel_rfl) m
theorem Va(H:An disp)(hd:6<=d)(v0 v1 v2:EV)(h:Aa):Ad TT disp K (d+1) false 4 [v0,v1,v2] h=K5 (Ad TT disp K d false) (Ad TT disp K d true) K v0 v1 v2 h:=
 Rc (H.bare (by kernel_rfl)) (by kernel_rfl) (W1 (Apq H (lq hd rfl)) (W2 (Iu H (lq hd rfl)) (W1 (Qk H (lq hd rfl)) (W2 (Aem H (lq hd rfl)) (W4 (Agd H (lq hd rfl)) (W1 (U3 H (lq hd rfl)) rfl)))))) (cut [true,true,true,true,true,true,true,true,false,true,false] (Te (Ad TT disp K d false) (Ad TT disp K d true) K K) (by kernel_rfl) (by kernel_rfl) (cut [true,true,true,true,true,true,false,true,false] (Sx (Ad TT disp K d false) (Ad TT disp K d true) K K) (by kernel_rfl) (by kernel_rfl) (cut [true,true,true,true,true,false,true,false] (Tb (Ad TT disp K d false) (Ad TT disp K d true) K K) (by kernel_rfl) (by kernel_rfl) (cut [true,true,true,true,false,true,false] (S3 (Ad TT disp K d false) (Ad TT disp K d true) K K) (by kernel_rfl) (by kernel_rfl) rfl)))) (by kernel_rfl)
end
end Go.Ev
