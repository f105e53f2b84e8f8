import Derived.Test.YtpkcfamminlmaaaGreatDc
set_option linter.unusedVariables false
set_option linter.unusedSimpArgs false
set_option linter.unusedSectionVars false
namespace Go.Ev
open Go.Proofs
set_option maxRecDepth 100000
set_option maxHeartbeats 4000000
noncomputable section
variable {disp:Nat->Option FT}{K d:Nat}
def Z8(K:Nat)(v3:EV)(h:Aa):R:=
 some (v3,h)
def Ag5(K:Nat)(ih1_:EV->EV->Aa->R)(v3 v8:EV)(h:Aa):R:=
 Ar Hh (bin TT .add 3) v8 (.int .i64 1) fun v17=>
 ih1_ v3 v17 h
def Ag8(K:Nat)(ih1_:EV->EV->Aa->R)(v3 v8:EV)(h:Aa):R:=
 C4 (Gg [(0,1),(1,1)]) [(.int .i64 0),(.int .i64 0)] [(0,(.int .i64 (-1))),(1,(.int .i64 (-1)))] fun v13=>
 Bp v3 fun v14=>
 Ao 1 v14 fun v15=>
 Uj 3 2 v15 v8 fun v16=>
 Jq 2 v16 v13 h fun h=>
 Ag5 K ih1_ v3 v8 h
def Hn(K:Nat):Nat->EV->EV->Aa->R
 | 0=>fun _ _ _=>none
 | m+1=>fun v3 v8 h=>
  Ar G4 (bin TT .lss 3) v8 (.int .i64 3) fun v9=>
  Et v9
  (Ag8 K (Hn K m) v3 v8 h)
  (Z8 K v3 h)
def Aeu(K:Nat)(v0:EV)(h:Aa):R:=
 C4 (Gg [(0,1),(1,6)]) [.Da,(.int .i64 0),(.int .i64 0),(.int .i64 0),(.int .i64 0),(.int .i64 0),(.int .i64 0)] [(0,v0)] fun v6=>
 Dx 147 v6 h fun v7 h=>
 Hn K K v7 (.int .i64 0) h
abbrev Ato(K:Nat)(c:Ac):Ac:=c
theorem Ak2(c c' r:Ac)(K:Nat)(m:Nat):G9 (fun ih=>F7 TT (Ato K c) c' r K (nOf TT 56) (E1 TT 56) (Pt TT 56 [true,true,false,true,false]) [(0,fun ρ h=>Z8 K (ρ 3) h)] ih) m=fun ρ h=>Hn K m (ρ 3) (ρ 8) h:=
 Cw (E:=fun m ρ h=>Hn K m (ρ 3) (ρ 8) h) rfl (fun m=>P6 fun ρ h=>by
  show _=Hn K (m+1) (ρ 3) (ρ 8) h
  rw[Hn];kernel_rfl) m
theorem An3(H:Ap disp)(hd:1<=d)(v0:EV)(h:Aa):Ad TT disp K d false 56 [v0] h=Aeu K v0 h:=
 Cp (H.bare (by kernel_rfl)) hd (by kernel_rfl) (fun d hd=>rfl) (fun d c r=>(cut [true,true,false,true,false] (Ak2 (Ad TT disp K d false) c r K K) (by kernel_rfl) (by kernel_rfl) rfl)) (fun d c r=>by kernel_rfl)
def Kc(K:Nat)(v0:EV)(h:Aa):R:=
 Dx 42 v0 h fun v1 h=>
 J6 (.cells ([.Af]++List.replicate 3 (.int .i64 0)++[(.bool false)]++List.replicate 2 .Af++List.replicate 8 (.int .i64 0)++List.replicate 2 .Af++List.replicate 9 (.int .i64 0)) 45) h fun v2 h=>
 Cm 20 v1 h fun v3=>
 C4 (Aec 1) [(.int .i64 0),(.int .i64 0),(.int .i64 0)] [(0,(.int .i64 (-1))),(1,(.int .i64 (-1))),(2,(.int .i64 (-1)))] fun v4=>
 C4 (Aec 1) [(.int .i64 0),(.int .i64 0),(.int .i64 0)] [(0,(.int .i64 (-1))),(1,(.int .i64 (-1))),(2,(.int .i64 (-1)))] fun v5=>
 C4 (Gg [(0,20),(20,3),(23,3)]) ([.Af]++List.replicate 3 (.int .i64 0)++[(.bool false)]++List.replicate 2 .Af++List.replicate 8 (.int .i64 0)++List.replicate 2 .Af++List.replicate 9 (.int .i64 0)) [(0,v3),(1,v4),(2,v5)] fun v6=>
 Jq 26 v2 v6 h fun h=>
 Jh TT [.c v2 45] h
theorem X5(H:Ap disp)(hd:1<=d)(v0:EV)(h:Aa):Ad TT disp K d false 57 [v0] h=Kc K v0 h:=
 Cp (H.bare (by kernel_rfl)) hd (by kernel_rfl) (fun d hd=>rfl) (fun d c r=>rfl) (fun d c r=>by kernel_rfl)
def Abf(K:Nat)(v5 v7:EV)(h:Aa):R:=
 B2 v5 v7 (.bool false) fun v8=>
 some (v8,h)
def Aar(K:Nat)(v0:EV)(h:Aa):R:=
 Ar Wa (bin TT .geq 3) v0 (.int .i64 0) fun v4=>
 An (Au v4 true)
 (Ar G4 (bin TT .lss 3) v0 (.int .i64 3) fun v7=>
 Abf K v4 v7 h)
 (Abf K v4 (.tuple []) h)
theorem Aeg(H:Ap disp)(hd:1<=d)(v0:EV)(h:Aa):Ad TT disp K d false 58 [v0] h=Aar K v0 h:=
 Cp (H.bare (by kernel_rfl)) hd (by kernel_rfl) (fun d hd=>rfl) (fun d c r=>rfl) (fun d c r=>by kernel_rfl)
def Gn(K:Nat)(v0:EV)(h:Aa):R:=
 J6 (.cells [(.int .i64 0),(.int .i64 0),(.int .i64 0),(.int .i64 0),(.int .i64 0),(.int .i64 0)] 23) h fun v2 h=>
 Bp v0 fun v4=>
 Ao 0 v4 fun v5=>
 Cm 6 v5 h fun v6=>
 Jq 6 v2 v6 h fun h=>
 Jh TT [.c v2 23] h
theorem Oj(H:Ap disp)(hd:1<=d)(v0:EV)(h:Aa):Ad TT disp K d false 65 [v0] h=Gn K v0 h:=
 Cp (H.bare (by kernel_rfl)) hd (by kernel_rfl) (fun d hd=>rfl) (fun d c r=>rfl) (fun d c r=>by kernel_rfl)
def Tn(K:Nat)(v7 v10:EV)(h:Aa):R:=
 B2 v7 v10 (.bool false) fun v11=>
 some (v11,h)
def Oa(K:Nat)(v0 v1:EV)(h:Aa):R:=
 Ar Wa (bin TT .geq 3) v0 (.int .i64 1) fun v6=>
 An (Au v6 true)
 (Ar Ad9 (bin TT .leq 3) v0 v1 fun v10=>
 Tn K v6 v10 h)
 (Tn K v6 (.tuple []) h)
theorem Ry(H:Ap disp)(hd:1<=d)(v0 v1:EV)(h:Aa):Ad TT disp K d false 114 [v0,v1] h=Oa K v0 v1 h:=
 Cp (H.bare (by kernel_rfl)) hd (by kernel_rfl) (fun d hd=>rfl) (fun d c r=>rfl) (fun d c r=>by kernel_rfl)
def Ff(K:Nat)(v0:EV)(h:Aa):R:=
 Dx 95 v0 h fun v1 h=>
 some ((.func 201 [] [v1]),h)
theorem Mm(H:Ap disp)(hd:1<=d)(v0:EV)(h:Aa):Ad TT disp K d false 160 [v0] h=Ff K v0 h:=
 Cp (H.bare (by kernel_rfl)) hd (by kernel_rfl) (fun d hd=>rfl) (fun d c r=>rfl) (fun d c r=>by kernel_rfl)
def Yq(K:Nat)(v0 v1 v4:EV)(h:Aa):R:=
 Bp v0 fun v19=>
 Ao 6 v19 fun v20=>
 Aq v20 h fun v21=>
 I5 6 v21 v1 fun v23=>
 Cm 6 v23 h fun v24=>
 Jq 6 v4 v24 h fun h=>
 Jh TT [.c v4 83,.v (.int .i64 0)] h
def Rz(K:Nat)(v0 v1 v4 v8 v15:EV)(h:Aa):R:=
 B2 v8 (.bool true) v15 fun v16=>
 Et v16
 (C4 (Gg [(0,1),(1,1),(2,1),(3,1),(4,1),(5,1)]) [(.int .i64 0),(.int .i64 0),(.int .i64 0),(.int .i64 0),(.int .i64 0),(.int .i64 0)] [] fun v17=>
 Jq 6 v4 v17 h fun h=>
 Jh TT [.c v4 83,.v (.int .i64 13)] h)
 (Yq K v0 v1 v4 h)
def Pa(K:Nat)(v0 v1:EV)(h:Aa):R:=
 J6 (.cells [(.int .i64 0),(.int .i64 0),(.int .i64 0),(.int .i64 0),(.int .i64 0),(.int .i64 0)] 83) h fun v4 h=>
 Ar G4 (bin TT .lss 3) v1 (.int .i64 0) fun v7=>
 An (Au v7 false)
 (Bp v0 fun v11=>
 Ao 6 v11 fun v12=>
 Aq v12 h fun v13=>
 I4 v13 fun v14=>
 Ar Wa (bin TT .geq 3) v1 v14 fun v15=>
 Rz K v0 v1 v4 v7 v15 h)
 (Rz K v0 v1 v4 v7 (.tuple []) h)
theorem Age(H:Ap disp)(hd:1<=d)(v0 v1:EV)(h:Aa):Ad TT disp K d false 184 [v0,v1] h=Pa K v0 v1 h:=
 Cp (H.bare (by kernel_rfl)) hd (by kernel_rfl) (fun d hd=>rfl) (fun d c r=>rfl) (fun d c r=>by kernel_rfl)
def Tb(K:Nat)(v0:EV)(h:Aa):R:=
 J6 (.cells (List.replicate 44 (.int .u8 0)) 118) h fun v2 h=>
 J6 (.cells (List.replicate 44 (.int .u8 0)) 118) h fun v3 h=>
 Aj (Kz K v0 h) fun v8 h=>
 Cy 0 v8 fun v9=>
 Cy 1 v8 fun v10=>
 Zj 44 1 v3 none none none fun v11=>
 Aj (builtin TT .copy #[174,174] [v11,v9] h) fun v13 h=>
 Cm 44 v3 h fun v14=>
 Jq 44 v2 v14 h fun h=>
 Jh TT [.c v2 118] h
theorem Acq(H:Ap disp)(hd:2<=d)(v0:EV)(h:Aa):Ad TT disp K d false 199 [v0] h=Tb K v0 h:=
 Cp (H.bare (by kernel_rfl)) hd (by kernel_rfl) (fun d hd=>(W1 (U6 H (lq hd rfl)) rfl)) (fun d c r=>rfl) (fun d c r=>by kernel_rfl)
def Gq(c r:Ac)(K:Nat)(ih0_:EV->EV->EV->EV->Aa->R)(v0 v5 v6 v7:EV)(h:Aa):R:=
 Ar Hh (bin TT .add 3) v7 (.int .i64 1) fun v17=>
 ih0_ v0 v5 v6 v17 h
def Gt(c r:Ac)(K:Nat)(ih0_:EV->EV->EV->EV->Aa->R)(v0 v5 v6 v7:EV)(h:Aa):R:=
 I5 6 v5 v7 fun v10=>
 Cm 6 v10 h fun v11=>
 J6 (.cells [(.int .i64 0),(.int .i64 0),(.int .i64 0),(.int .i64 0),(.int .i64 0),(.int .i64 0)] 83) h fun v4 h=>
 Jq 6 v4 v11 h fun h=>
 Cm 6 v4 h fun v14=>
 Aj (Uq c r v0 [v7,v14] h) fun v15 h=>
 Mp v15 fun v16=>
 Et v16
 (some (.tuple [],h))
 (Gq c r K ih0_ v0 v5 v6 v7 h)
def A8(c r:Ac)(K:Nat):Nat->EV->EV->EV->EV->Aa->R
 | 0=>fun _ _ _ _ _=>none
 | m+1=>fun v0 v5 v6 v7 h=>
  Ar G4 (bin TT .lss 3) v7 v6 fun v8=>
  Et v8
  (Gt c r K (A8 c r K m) v0 v5 v6 v7 h)
  (some (.tuple [],h))
def Hl(c r:Ac)(K:Nat)(v0 v1:EV)(h:Aa):R:=
 Aq v1 h fun v5=>
 I4 v5 fun v6=>
 A8 c r K K v0 v5 v6 (.int .i64 0) h
abbrev Ml(K:Nat)(c:Ac):Ac:=c
theorem Lb(c r:Ac)(K:Nat)(m:Nat):G9 (fun ih=>F7 TT (Ml K c) c r K (nOf TT 201) (E1 TT 201) (Pt TT 201 [true,false]) [(0,E1 TT 201)] ih) m=fun ρ h=>A8 c r K m (ρ 0) (ρ 5) (ρ 6) (ρ 7) h:=
 Cw (E:=fun m ρ h=>A8 c r K m (ρ 0) (ρ 5) (ρ 6) (ρ 7) h) rfl (fun m=>P6 fun ρ h=>by
  show _=A8 c r K (m+1) (ρ 0) (ρ 5) (ρ 6) (ρ 7) h
  rw[A8];kernel_rfl) m
theorem Lv(H:Ap disp)(hd:0<=d)(v0 v1:EV)(h:Aa):Ad TT disp K (d+1) false 201 [v0,v1] h=Hl (Ad TT disp K d false) (Ad TT disp K d true) K v0 v1 h:=
 Vl (H.bare (by kernel_rfl)) (by kernel_rfl) rfl (cut [true,false] (Lb (Ad TT disp K d false) (Ad TT disp K d true) K K) (by kernel_rfl) (by kernel_rfl) rfl) (by kernel_rfl)
def So(K:Nat)(v0 v1:EV)(h:Aa):R:=
 Bp v0 fun v11=>
 Ao 1 v11 fun v12=>
 Uj 3 2 v12 v1 fun v13=>
 Ao 0 v13 fun v14=>
 Aq v14 h fun v15=>
 Bp v0 fun v18=>
 Ao 1 v18 fun v19=>
 Uj 3 2 v19 v1 fun v20=>
 Ao 1 v20 fun v21=>
 Aq v21 h fun v22=>
 some (.tuple [v15,v22],h)
def Hu(K:Nat)(v0 v1:EV)(h:Aa):R:=
 Aj (Aar K v1 h) fun v7 h=>
 Mp v7 fun v8=>
 Et v8
 (some (.tuple [(.int .i64 (-1)),(.int .i64 (-1))],h))
 (So K v0 v1 h)
theorem Zm(H:Ap disp)(hd:2<=d)(v0 v1:EV)(h:Aa):Ad TT disp K d false 17 [v0,v1] h=Hu K v0 v1 h:=
 Cp (H.bare (by kernel_rfl)) hd (by kernel_rfl) (fun d hd=>(W1 (Aeg H (lq hd rfl)) rfl)) (fun d c r=>rfl) (fun d c r=>by kernel_rfl)
def Sf(c r:Ac)(K:Nat)(v6:EV)(h:Aa):R:=
 some (.tuple [v6,(.int .i64 0)],h)
def Se(c r:Ac)(K:Nat)(v6:EV)(h:Aa):R:=
 Ar G4 (bin TT .lss 3) v6 (.int .i64 2) fun v52=>
 Et v52
 (some (.tuple [v6,(.int .i64 40)],h))
 (Sf c r K v6 h)
def Nd(c r:Ac)(K:Nat)(v0 v6:EV)(h:Aa):R:=
 Bp v0 fun v43=>
 Ao 0 v43 fun v44=>
 Aq v44 h fun v45=>
 Aj (Bv K v45 h) fun v46 h=>
 Aj (c 67 [v46] h) fun v47 h=>
 Ar Jr (bin TT .neq 28) v47 (.int .i64 0) fun v49=>
 Et v49
 (some (.tuple [(.int .i64 0),v47],h))
 (Se c r K v6 h)
def Ja(c r:Ac)(K:Nat)(ih3_:EV->EV->EV->EV->Aa->R)(v0 v3 v6 v25:EV)(h:Aa):R:=
 Ar Hh (bin TT .add 3) v25 (.int .i64 1) fun v41=>
 ih3_ v0 v3 v6 v41 h
def R9(c r:Ac)(K:Nat)(ih3_:EV->EV->EV->EV->Aa->R)(v0 v3 v6 v8 v25:EV)(h:Aa):R:=
 Et v8
 (Ar Hh (bin TT .add 3) v6 (.int .i64 1) fun v40=>
 Ja c r K ih3_ v0 v3 v40 v25 h)
 (Ja c r K ih3_ v0 v3 v6 v25 h)
def R5(c r:Ac)(K:Nat)(ih3_:EV->EV->EV->EV->Aa->R)(v0 v3 v6 v25:EV)(h:Aa):R:=
 Cm 4 v3 h fun v31=>
 Aj (c 66 [v0,v25,v31] h) fun v32 h=>
 Cy 0 v32 fun v33=>
 Cy 1 v32 fun v34=>
 Ar Jr (bin TT .neq 28) v34 (.int .i64 0) fun v36=>
 Et v36
 (some (.tuple [(.int .i64 0),v34],h))
 (R9 c r K ih3_ v0 v3 v6 v33 v25 h)
def C2(c r:Ac)(K:Nat):Nat->EV->EV->EV->EV->Aa->R
 | 0=>fun _ _ _ _ _=>none
 | m+1=>fun v0 v3 v6 v25 h=>
  Ar G4 (bin TT .lss 3) v25 (.int .i64 3) fun v26=>
  Et v26
  (R5 c r K (C2 c r K m) v0 v3 v6 v25 h)
  (Nd c r K v0 v6 h)
def Sb(c r:Ac)(K:Nat)(v0 v3:EV)(h:Aa):R:=
 C2 c r K K v0 v3 (.int .i64 0) (.int .i64 0) h
def Mz(c r:Ac)(K:Nat)(base:Nat)(s:DX)(v0 v3 v14 v23:EV)(h:Aa):R:=
 B2 v14 (.bool true) v23 fun v24=>
 Et v24
 (some (.tuple [(.int .i64 0),(.int .i64 10)],h))
 (Sb c r K v0 v3 h)
def V7(c r:Ac)(K:Nat)(v0 v1:EV)(h:Aa):R:=
 Dx 60 v1 h fun v3 h=>
 Gf h fun base s=>
 Bm 0 0 base v3 s fun s=>Cm 4 v3 h fun v11=>
 Ct 1 1 s h (fun h=>(c 64 [v11] h)) fun v12 h s=>
 Mp v12 fun v13=>
 An (Au v13 false)
 (Ao 3 v3 fun v15=>
 Bm 5 31 base v15 s fun s=>Aq v15 h fun v16=>
 Ct 6 63 s h (fun h=>(Gn K v16 h)) fun v17 h s=>
 Bp v0 fun v19=>
 Ao 0 v19 fun v20=>
 Bm 10 911 base v20 s fun s=>Aq v20 h fun v21=>
 Ct 11 2047 s h (fun h=>(E4 K v21 h)) fun v22 h s=>
 Ar Jr (bin TT .neq 23) v17 v22 fun v23=>
 Mz c r K base s v0 v3 v13 v23 h)
 (Mz c r K base s v0 v3 v13 (.tuple []) h)
abbrev Adj(K:Nat)(c:Ac):Ac:=(w1 65 (Gn K) (w1 30 (E4 K) (w1 31 (Bv K) c)))
theorem Ze(c r:Ac)(K:Nat)(m:Nat):G9 (fun ih=>F7 TT (Adj K c) c r K (nOf TT 18) (E1 TT 18) (Pt TT 18 [true,true,true,false,true,false]) [(0,fun ρ h=>Nd c r K (ρ 0) (ρ 6) h)] ih) m=fun ρ h=>C2 c r K m (ρ 0) (ρ 3) (ρ 6) (ρ 25) h:=
 Cw (E:=fun m ρ h=>C2 c r K m (ρ 0) (ρ 3) (ρ 6) (ρ 25) h) rfl (fun m=>P6 fun ρ h=>by
  show _=C2 c r K (m+1) (ρ 0) (ρ 3) (ρ 6) (ρ 25) h
  rw[C2];kernel_rfl) m
theorem Aa3(H:Ap disp)(hd:1<=d)(v0 v1:EV)(h:Aa):Ad TT disp K (d+1) false 18 [v0,v1] h=V7 (Ad TT disp K d false) (Ad TT disp K d true) K v0 v1 h:=
 Vl (H.bare (by kernel_rfl)) (by kernel_rfl) (W1 (Oj H (lq hd rfl)) (W1 (Ow H (lq hd rfl)) (W1 (Jn H (lq hd rfl)) rfl))) (cut [true,true,true,false,true,false] (Ze (Ad TT disp K d false) (Ad TT disp K d true) K K) (by kernel_rfl) (by kernel_rfl) rfl) (by kernel_rfl)
def Yd(K:Nat)(v0:EV)(h:Aa):R:=
 Bp v0 fun v4=>
 Ao 6 v4 fun v5=>
 Aq v5 h fun v6=>
 Aj (Ff K v6 h) fun v7 h=>
 some (v7,h)
theorem Af8(H:Ap disp)(hd:2<=d)(v0:EV)(h:Aa):Ad TT disp K d false 115 [v0] h=Yd K v0 h:=
 Cp (H.bare (by kernel_rfl)) hd (by kernel_rfl) (fun d hd=>(W1 (Mm H (lq hd rfl)) rfl)) (fun d c r=>rfl) (fun d c r=>by kernel_rfl)
def Tc(c r:Ac)(K:Nat)(v0 v2:EV)(h:Aa):R:=
 Bp v0 fun v73=>
 Ao 0 v73 fun v74=>
 Aq v74 h fun v75=>
 Aj (Bv K v75 h) fun v76 h=>
 Aj (c 165 [v76,v2] h) fun v78 h=>
 some (v78,h)
def Nu(c r:Ac)(K:Nat)(v0 v2:EV)(h:Aa):R:=
 Bp v0 fun v64=>
 Ao 0 v64 fun v65=>
 Aq v65 h fun v66=>
 Aj (Bv K v66 h) fun v67 h=>
 Aj (Cq K v67 h) fun v68 h=>
 Aj (Fp K v68 v2 h) fun v70 h=>
 Ar Jg (bin TT .eql 3) v70 (.int .i64 2) fun v71=>
 Et v71
 (some ((.int .i64 0),h))
 (Tc c r K v0 v2 h)
def Tg(c r:Ac)(K:Nat)(ih2_:EV->EV->EV->EV->EV->Aa->R)(v0 v2 v34 v35 v36:EV)(h:Aa):R:=
 Ar Hh (bin TT .add 3) v36 (.int .i64 1) fun v62=>
 ih2_ v0 v2 v34 v35 v62 h
def Nz(c r:Ac)(K:Nat)(ih2_:EV->EV->EV->EV->EV->Aa->R)(v0 v2 v13 v34 v35 v36:EV)(h:Aa):R:=
 Ar Jr (bin TT .neq 28) v13 (.int .i64 0) fun v60=>
 Et v60
 (some (v13,h))
 (Tg c r K ih2_ v0 v2 v34 v35 v36 h)
def Nt(c r:Ac)(K:Nat)(ih2_:EV->EV->EV->EV->EV->Aa->R)(v0 v2 v13 v34 v35 v36 v54 v57:EV)(h:Aa):R:=
 B2 v54 v57 (.bool false) fun v58=>
 Et v58
 (Nz c r K ih2_ v0 v2 (.int .i64 30) v34 v35 v36 h)
 (Nz c r K ih2_ v0 v2 v13 v34 v35 v36 h)
def Tl(c r:Ac)(K:Nat)(ih2_:EV->EV->EV->EV->EV->Aa->R)(v0 v2 v34 v35 v36:EV)(h:Aa):R:=
 I5 64 v34 v36 fun v39=>
 Cm 64 v39 h fun v40=>
 J6 (.cells (List.replicate 64 (.int .u8 0)) 103) h fun v11 h=>
 Jq 64 v11 v40 h fun h=>
 Gf h fun base s=>
 Bp v0 fun v43=>
 Ao 0 v43 fun v44=>
 Bm 3 7 base v44 s fun s=>Aq v44 h fun v45=>
 Ct 4 15 s h (fun h=>(Bv K v45 h)) fun v46 h s=>
 Bm 6 0 base v11 s fun s=>Cm 64 v11 h fun v48=>
 Ct 7 127 s h (fun h=>(c 164 [v46,v2,v48] h)) fun v49 h s=>
 Cy 0 v49 fun v50=>
 Cy 1 v49 fun v51=>
 Ar Jg (bin TT .eql 28) v51 (.int .i64 0) fun v53=>
 An (Au v53 true)
 (Ar Jr (bin TT .neq 3) v50 v36 fun v57=>
 Nt c r K ih2_ v0 v2 v51 v34 v35 v36 v53 v57 h)
 (Nt c r K ih2_ v0 v2 v51 v34 v35 v36 v53 (.tuple []) h)
def D6(c r:Ac)(K:Nat):Nat->EV->EV->EV->EV->EV->Aa->R
 | 0=>fun _ _ _ _ _ _=>none
 | m+1=>fun v0 v2 v34 v35 v36 h=>
  Ar G4 (bin TT .lss 3) v36 v35 fun v37=>
  Et v37
  (Tl c r K (D6 c r K m) v0 v2 v34 v35 v36 h)
  (Nu c r K v0 v2 h)
def Ua(c r:Ac)(K:Nat)(v0 v2 v7:EV)(h:Aa):R:=
 I4 v7 fun v35=>
 D6 c r K K v0 v2 v7 v35 (.int .i64 0) h
def Ts(c r:Ac)(K:Nat)(v0 v2 v7:EV)(h:Aa):R:=
 Aj (c 163 [v0,v2] h) fun v30 h=>
 Ar Jr (bin TT .neq 28) v30 (.int .i64 0) fun v32=>
 Et v32
 (some (v30,h))
 (Ua c r K v0 v2 v7 h)
def Ym(c r:Ac)(K:Nat)(v0 v1 v2:EV)(h:Aa):R:=
 Dx 60 v1 h fun v4 h=>
 Gf h fun base s=>
 Bp v0 fun v16=>
 Ao 0 v16 fun v17=>
 Bm 3 7 base v17 s fun s=>Aq v17 h fun v18=>
 Ct 4 15 s h (fun h=>(Fx K v18 h)) fun v19 h s=>
 Bm 5 0 base v4 s fun s=>Cm 4 v4 h fun v20=>
 Ct 7 127 s h (fun h=>(c 162 [v19,v20,v2] h)) fun v22 h s=>
 Cy 0 v22 fun v23=>
 Cy 1 v22 fun v24=>
 Ar Jr (bin TT .neq 28) v24 (.int .i64 0) fun v26=>
 Et v26
 (some (v24,h))
 (Ts c r K v0 v2 v23 h)
abbrev Afb(K:Nat)(c:Ac):Ac:=(w1 32 (Fx K) (w1 31 (Bv K) (w1 36 (Cq K) (w2 37 (Fp K) c))))
theorem Aba(c r:Ac)(K:Nat)(m:Nat):G9 (fun ih=>F7 TT (Afb K c) c r K (nOf TT 117) (E1 TT 117) (Pt TT 117 [true,true,true,true,false,true,false]) [(0,fun ρ h=>Nu c r K (ρ 0) (ρ 2) h)] ih) m=fun ρ h=>D6 c r K m (ρ 0) (ρ 2) (ρ 34) (ρ 35) (ρ 36) h:=
 Cw (E:=fun m ρ h=>D6 c r K m (ρ 0) (ρ 2) (ρ 34) (ρ 35) (ρ 36) h) rfl (fun m=>P6 fun ρ h=>by
  show _=D6 c r K (m+1) (ρ 0) (ρ 2) (ρ 34) (ρ 35) (ρ 36) h
  rw[D6];kernel_rfl) m
theorem Ach(H:Ap disp)(hd:2<=d)(v0 v1 v2:EV)(h:Aa):Ad TT disp K (d+1) false 117 [v0,v1,v2] h=Ym (Ad TT disp K d false) (Ad TT disp K d true) K v0 v1 v2 h:=
 Vl (H.bare (by kernel_rfl)) (by kernel_rfl) (W1 (V8 H (lq hd rfl)) (W1 (Jn H (lq hd rfl)) (W1 (K9 H (lq hd rfl)) (W2 (Ph H (lq hd rfl)) rfl)))) (cut [true,true,true,true,false,true,false] (Aba (Ad TT disp K d false) (Ad TT disp K d true) K K) (by kernel_rfl) (by kernel_rfl) rfl) (by kernel_rfl)
def Sh(c r:Ac)(K:Nat)(v0 v1:EV)(h:Aa):R:=
 Bp v0 fun v15=>
 Ao 0 v15 fun v16=>
 Aq v16 h fun v17=>
 Aj (Bv K v17 h) fun v18 h=>
 Aj (c 202 [v18,v1] h) fun v20 h=>
 some (v20,h)
def V2(c r:Ac)(K:Nat)(v0 v1:EV)(h:Aa):R:=
 Bp v0 fun v6=>
 Ao 0 v6 fun v7=>
 Aq v7 h fun v8=>
 Aj (Bv K v8 h) fun v9 h=>
 Aj (Cq K v9 h) fun v10 h=>
 Aj (Fp K v10 v1 h) fun v12 h=>
 Ar Jg (bin TT .eql 3) v12 (.int .i64 0) fun v13=>
 Et v13
 (some ((.int .i64 0),h))
 (Sh c r K v0 v1 h)
theorem Abl(H:Ap disp)(hd:2<=d)(v0 v1:EV)(h:Aa):Ad TT disp K (d+1) false 163 [v0,v1] h=V2 (Ad TT disp K d false) (Ad TT disp K d true) K v0 v1 h:=
 Vl (H.bare (by kernel_rfl)) (by kernel_rfl) (W1 (Jn H (lq hd rfl)) (W1 (K9 H (lq hd rfl)) (W2 (Ph H (lq hd rfl)) rfl))) rfl (by kernel_rfl)
def Z7(K:Nat)(v0 v1:EV)(h:Aa):R:=
 Dx 83 v1 h fun v3 h=>
 Ao 0 v3 fun v5=>
 Aq v5 h fun v6=>
 Aj (Bb K v0 (.int .i64 1) v6 h) fun v7 h=>
 Ao 1 v3 fun v9=>
 Aq v9 h fun v10=>
 Aj (Bb K v0 (.int .i64 2) v10 h) fun v11 h=>
 Ao 2 v3 fun v13=>
 Aq v13 h fun v14=>
 Aj (Bb K v0 (.int .i64 2) v14 h) fun v15 h=>
 Ao 3 v3 fun v17=>
 Aq v17 h fun v18=>
 Aj (Bb K v0 (.int .i64 1) v18 h) fun v19 h=>
 Ao 4 v3 fun v21=>
 Aq v21 h fun v22=>
 Aj (Bb K v0 (.int .i64 6) v22 h) fun v23 h=>
 Ao 5 v3 fun v25=>
 Aq v25 h fun v26=>
 Aj (Bb K v0 (.int .i64 4) v26 h) fun v27 h=>
 some (.tuple [],h)
theorem Aom(H:Ap disp)(hd:3<=d)(v0 v1:EV)(h:Aa):Ad TT disp K d false 200 [v0,v1] h=Z7 K v0 v1 h:=
 Cp (H.bare (by kernel_rfl)) hd (by kernel_rfl) (fun d hd=>(W3 (Lj H (lq hd rfl)) rfl)) (fun d c r=>rfl) (fun d c r=>by kernel_rfl)
def I3(K:Nat)(v0:EV)(h:Aa):R:=
 Bp v0 fun v13=>
 Ao 0 v13 fun v14=>
 Jq 1 v14 .Af h fun h=>
 Bp v0 fun v15=>
 Ao 2 v15 fun v16=>
 Jq 1 v16 (.int .i64 0) h fun h=>
 Bp v0 fun v17=>
 Ao 3 v17 fun v18=>
 Jq 1 v18 (.int .i64 0) h fun h=>
 Bp v0 fun v19=>
 Ao 4 v19 fun v20=>
 Jq 1 v20 (.bool false) h fun h=>
 some ((.int .i64 0),h)
def Ey(K:Nat)(v0:EV)(h:Aa):R:=
 Aj (Ci K v0 h) fun v5 h=>
 Ar Jr (bin TT .neq 28) v5 (.int .i64 0) fun v7=>
 Et v7
 (some (v5,h))
 (I3 K v0 h)
theorem Oi(H:Ap disp)(hd:2<=d)(v0:EV)(h:Aa):Ad TT disp K d false 236 [v0] h=Ey K v0 h:=
 Cp (H.bare (by kernel_rfl)) hd (by kernel_rfl) (fun d hd=>(W1 (Fc H (lq hd rfl)) rfl)) (fun d c r=>rfl) (fun d c r=>by kernel_rfl)
def Kb(K:Nat)(v9 v18:EV)(h:Aa):R:=
 B2 v9 (.bool true) v18 fun v19=>
 some (v19,h)
def Ke(K:Nat)(v0 v1 v2:EV)(h:Aa):R:=
 Ar Jg (bin TT .eql 3) v2 (.int .i64 (-1)) fun v8=>
 An (Au v8 false)
 (Bp v0 fun v11=>
 Ao 0 v11 fun v12=>
 Aq v12 h fun v13=>
 Aj (E4 K v13 h) fun v14 h=>
 Aj (Hv K v14 v2 h) fun v16 h=>
 Ar Jg (bin TT .eql 3) v16 v1 fun v18=>
 Kb K v8 v18 h)
 (Kb K v8 (.tuple []) h)
theorem Ack(H:Ap disp)(hd:3<=d)(v0 v1 v2:EV)(h:Aa):Ad TT disp K d false 59 [v0,v1,v2] h=Ke K v0 v1 v2 h:=
 Cp (H.bare (by kernel_rfl)) hd (by kernel_rfl) (fun d hd=>(W1 (Ow H (lq hd rfl)) (W2 (L0 H (lq hd rfl)) rfl))) (fun d c r=>rfl) (fun d c r=>by kernel_rfl)
theorem Re:(Cs TT 64 0).1=.tmp 28:=by kernel_rfl
def H3(c r:Ac)(K:Nat)(tm:Ag)(v2:EV)(h:Aa)(ds:List Nat):R:=
 Jq 1 v2 (.bool true) h fun h=>
 Eh ds h fun h=>Jh TT [.c v2 4] h
theorem Aaf(H:Ap disp)(hd:2<=d)(tm:Ag)(h:Aa)(ds:List Nat):Aub (Ad TT disp K d false) (Ad TT disp K d true) K tm h ds=H3 (Ad TT disp K d false) (Ad TT disp K d true) K tm (tmp tm 2) h ds:=by
 simp only[Aub,H3,Xc,dd,↓reduceIte,Nat.reduceEqDiff,Int.reduceOfNat,Int.reduceNegSucc,Nat.reduceAdd,tt0,tt1]
def Hw(c r:Ac)(K:Nat)(tm:Ag)(v1:EV)(v2:EV)(h:Aa)(ds:List Nat):R:=
 Ao 3 v1 fun v26=>
 Aq v26 h fun v27=>
 Aj (Yd K v27 h) fun v28 h=>
 Xd c TT 64 36 0 v28 (((tm.put 26 (some v26)).put 27 (some v27)).put 28 (some v28)) h ds (fun h ds=>
 H3 c r K (((tm.put 26 (some v26)).put 27 (some v27)).put 28 (some v28)) v2 h ds) (fun id h ds=>
 An (Nat.beq 0 id) (H3 c r K (((tm.put 26 (some v26)).put 27 (some v27)).put 28 (some v28)) v2 h ds) (none)) (fun h ds=>
 Eh ds h fun h=>Jh TT [.c v2 4] h)
theorem Zi(H:Ap disp)(hd:2<=d)(tm:Ag)(h:Aa)(ds:List Nat):Axq (Ad TT disp K d false) (Ad TT disp K d true) K tm h ds=Hw (Ad TT disp K d false) (Ad TT disp K d true) K tm (tmp tm 1) (tmp tm 2) h ds:=by
 simp only[Axq,Hw,Xc,dd,↓reduceIte,Nat.reduceEqDiff,Int.reduceOfNat,Int.reduceNegSucc,Nat.reduceAdd,Aaf H hd,Af8 H (lq hd rfl),tt0,tt1,Akh Re,Agc Re,Adr,Ada,Abz,Aj0]
def H0(c r:Ac)(K:Nat)(tm:Ag)(v1:EV)(v2:EV)(v20:EV)(v24:EV)(h:Aa)(ds:List Nat):R:=
 B2 v20 (.bool true) v24 fun v25=>
 Et v25
 (Jq 1 v2 (.bool false) h fun h=>
 Eh ds h fun h=>Jh TT [.c v2 4] h)
 (Hw c r K (tm.put 25 (some v25)) v1 v2 h ds)
theorem Aae(H:Ap disp)(hd:2<=d)(tm:Ag)(h:Aa)(ds:List Nat):Aur (Ad TT disp K d false) (Ad TT disp K d true) K tm h ds=H0 (Ad TT disp K d false) (Ad TT disp K d true) K tm (tmp tm 1) (tmp tm 2) (tmp tm 20) (tmp tm 24) h ds:=by
 simp only[Aur,H0,Xc,dd,↓reduceIte,Nat.reduceEqDiff,Int.reduceOfNat,Int.reduceNegSucc,Nat.reduceAdd,Zi H hd,tt0,tt1]
def H5(c r:Ac)(K:Nat)(tm:Ag)(v1:EV)(v2:EV)(v14:EV)(v18:EV)(h:Aa)(ds:List Nat):R:=
 B2 v14 (.bool true) v18 fun v19=>
 An (Au v19 false)
 (Ao 2 v1 fun v21=>
 Aq v21 h fun v22=>
 Aj (Oa K v22 (.int .i64 281474976710655) h) fun v23 h=>
 Mp v23 fun v24=>
 H0 c r K ((((((tm.put 19 (some v19)).put 20 (some v19)).put 21 (some v21)).put 22 (some v22)).put 23 (some v23)).put 24 (some v24)) v1 v2 v19 v24 h ds)
 (H0 c r K ((((((tm.put 19 (some v19)).put 20 (some v19)).put 21 (some (.tuple []))).put 22 (some (.tuple []))).put 23 (some (.tuple []))).put 24 (some (.tuple []))) v1 v2 v19 (.tuple []) h ds)
theorem Aac(H:Ap disp)(hd:2<=d)(tm:Ag)(h:Aa)(ds:List Nat):Au2 (Ad TT disp K d false) (Ad TT disp K d true) K tm h ds=H5 (Ad TT disp K d false) (Ad TT disp K d true) K tm (tmp tm 1) (tmp tm 2) (tmp tm 14) (tmp tm 18) h ds:=by
 simp only[Au2,H5,Xc,dd,↓reduceIte,Nat.reduceEqDiff,Int.reduceOfNat,Int.reduceNegSucc,Nat.reduceAdd,Aae H hd,Ry H (lq hd rfl),tt0,tt1]
def H4(c r:Ac)(K:Nat)(tm:Ag)(v1:EV)(v2:EV)(v8:EV)(v12:EV)(h:Aa)(ds:List Nat):R:=
 B2 v8 (.bool true) v12 fun v13=>
 An (Au v13 false)
 (Ao 1 v1 fun v15=>
 Aq v15 h fun v16=>
 Aj (Oa K v16 (.int .i64 4294967295) h) fun v17 h=>
 Mp v17 fun v18=>
 H5 c r K ((((((tm.put 13 (some v13)).put 14 (some v13)).put 15 (some v15)).put 16 (some v16)).put 17 (some v17)).put 18 (some v18)) v1 v2 v13 v18 h ds)
 (H5 c r K ((((((tm.put 13 (some v13)).put 14 (some v13)).put 15 (some (.tuple []))).put 16 (some (.tuple []))).put 17 (some (.tuple []))).put 18 (some (.tuple []))) v1 v2 v13 (.tuple []) h ds)
theorem Zr(H:Ap disp)(hd:2<=d)(tm:Ag)(h:Aa)(ds:List Nat):Auq (Ad TT disp K d false) (Ad TT disp K d true) K tm h ds=H4 (Ad TT disp K d false) (Ad TT disp K d true) K tm (tmp tm 1) (tmp tm 2) (tmp tm 8) (tmp tm 12) h ds:=by
 simp only[Auq,H4,Xc,dd,↓reduceIte,Nat.reduceEqDiff,Int.reduceOfNat,Int.reduceNegSucc,Nat.reduceAdd,Aac H hd,Ry H (lq hd rfl),tt0,tt1]
def R1(c r:Ac)(K:Nat)(v0:EV)(h:Aa):R:=
 (fun(tm:Ag) (ds:List Nat)=>
 Dx 60 v0 h fun v1 h=>
 J6 (.cells [(.bool false)] 4) h fun v2 h=>
 Ao 3 v1 fun v5=>
 Aq v5 h fun v6=>
 Ar Jg (bin TT .eql 52) v6 .Da fun v7=>
 An (Au v7 false)
 (Ao 0 v1 fun v9=>
 Aq v9 h fun v10=>
 Aj (Oa K v10 (.int .i64 281474976710655) h) fun v11 h=>
 Mp v11 fun v12=>
 H4 c r K ((((((((((tm.put 1 (some v1)).put 2 (some v2)).put 5 (some v5)).put 6 (some v6)).put 7 (some v7)).put 8 (some v7)).put 9 (some v9)).put 10 (some v10)).put 11 (some v11)).put 12 (some v12)) v1 v2 v7 v12 h ds)
 (H4 c r K ((((((((((tm.put 1 (some v1)).put 2 (some v2)).put 5 (some v5)).put 6 (some v6)).put 7 (some v7)).put 8 (some v7)).put 9 (some (.tuple []))).put 10 (some (.tuple []))).put 11 (some (.tuple []))).put 12 (some (.tuple []))) v1 v2 v7 (.tuple []) h ds)) (Tr.nil.put 0 (some v0)) []
theorem Aca(H:Ap disp)(hd:2<=d)(v0:EV)(h:Aa):Ad TT disp K (d+1) false 64 [v0] h=R1 (Ad TT disp K d false) (Ad TT disp K d true) K v0 h:=by
 rw[Abk ((H.plain 64 rfl).trans (show Aft 64=some F64 by kernel_rfl))]
 unfold F64
 rw[Anr (by simp)]
 simp only[R1,Xc,dd,↓reduceIte,Nat.reduceEqDiff,Int.reduceOfNat,Int.reduceNegSucc,Nat.reduceAdd,Zr H hd,Ry H (lq hd rfl),tt0,tt1]
def He(c r:Ac)(K:Nat)(l:Nat)(v1:EV)(v2:EV)(v4:EV)(h:Aa):R:=
 Ao 4 v4 fun v31=>
 Aq v31 h fun v32=>
 Ao 2 v1 fun v33=>
 Aq v33 h fun v34=>
 Ar Wa (bin TT .geq 3) v32 v34 fun v35=>
 Et v35
 (Jq 1 v2 (.bool false) h fun h=>
 Ajt l false .done (some .ret) h)
 (Ajt l true .ready none h)
theorem Vs(H:Ap disp)(hd:2<=d){l:Nat}(tm:Ag)(h:Aa):Agj (Ad TT disp K d false) (Ad TT disp K d true) K l tm h []=He (Ad TT disp K d false) (Ad TT disp K d true) K l (tmp tm 1) (tmp tm 2) (tmp tm 4) h:=by
 simp only[Agj,He,dd,↓reduceIte,Nat.reduceEqDiff,Int.reduceOfNat,Int.reduceNegSucc,Nat.reduceAdd,tt0,tt1]
def J4(c r:Ac)(K:Nat)(l:Nat)(v1:EV)(v2:EV)(v30:EV)(h:Aa):R:=
 J6 (.cells [(.int .i64 0),(.int .i64 0),(.int .i64 0),(.int .i64 0),(.int .i64 0),(.int .i64 0)] 83) h fun v4 h=>
 Jq 6 v4 v30 h fun h=>
 Fj l h fun h=>He c r K l v1 v2 v4 h
theorem Abc(H:Ap disp)(hd:2<=d){l:Nat}(tm:Ag)(h:Aa):Aya (Ad TT disp K d false) (Ad TT disp K d true) K l tm h []=J4 (Ad TT disp K d false) (Ad TT disp K d true) K l (tmp tm 1) (tmp tm 2) (tmp tm 30) h:=by
 simp only[Aya,J4,dd,↓reduceIte,Nat.reduceEqDiff,Int.reduceOfNat,Int.reduceNegSucc,Nat.reduceAdd,Vs H hd,tt0,tt1]
theorem Ww(H:Ap disp)(hd:2<=d){l:Nat}(tm:Ag)(h:Aa)(x29:EV)(x30:EV){st:LoopState}{p:Option Code}{d0:Nat}(hg:h.get l=some (.loop st p 64 36 tm [29,30] (Cs TT 64 0).2.2.1 (Cs TT 64 0).2.2.2 d0)):
 Ad TT disp K (d+1) true l [x29,x30] h=J4 (Ad TT disp K d false) (Ad TT disp K d true) K l (tmp tm 1) (tmp tm 2) x30 h:=by
 rw[Abd,Adz hg (show K0 [29,30] [x29,x30] 36 tm=some ((tm.put 29 (some x29)).put 30 (some x30)) from rfl),A0h,Abc H hd]
 simp only[dd,↓reduceIte,Nat.reduceEqDiff,Int.reduceOfNat,Int.reduceNegSucc,Nat.reduceAdd]
def Q3(K:Nat)(v5:EV)(h:Aa):R:=
 some (v5,h)
def Mf(K:Nat)(v0 v1:EV)(h:Aa):R:=
 Bp v0 fun v34=>
 Ao 0 v34 fun v35=>
 Aq v35 h fun v36=>
 Aj (D4 K v36 h) fun v37 h=>
 Aj (L6 K v37 v1 h) fun v39 h=>
 Cy 0 v39 fun v40=>
 Cy 1 v39 fun v41=>
 Ar Jr (bin TT .neq 28) v41 (.int .i64 0) fun v43=>
 Et v43
 (some ((.int .i64 (-1)),h))
 (Q3 K v40 h)
def Gx(K:Nat)(v0 v1 v5 v22 v29:EV)(h:Aa):R:=
 B2 v22 v29 (.bool false) fun v30=>
 Et v30
 (some (v5,h))
 (Mf K v0 v1 h)
def Iv(K:Nat)(v0 v1:EV)(h:Aa):R:=
 Bp v0 fun v9=>
 Ao 1 v9 fun v10=>
 Uj 3 2 v10 v1 fun v11=>
 Ao 1 v11 fun v12=>
 Aq v12 h fun v13=>
 Bp v0 fun v16=>
 Ao 1 v16 fun v17=>
 Uj 3 2 v17 v1 fun v18=>
 Ao 1 v18 fun v19=>
 Jq 1 v19 (.int .i64 (-1)) h fun h=>
 Ar Jr (bin TT .neq 3) v13 (.int .i64 (-1)) fun v21=>
 An (Au v21 true)
 (Bp v0 fun v24=>
 Ao 0 v24 fun v25=>
 Aq v25 h fun v26=>
 Aj (Lp K v26 v13 h) fun v28 h=>
 Mp v28 fun v29=>
 Gx K v0 v1 v13 v21 v29 h)
 (Gx K v0 v1 v13 v21 (.tuple []) h)
theorem Zb(H:Ap disp)(hd:4<=d)(v0 v1:EV)(h:Aa):Ad TT disp K d false 116 [v0,v1] h=Iv K v0 v1 h:=
 Cp (H.bare (by kernel_rfl)) hd (by kernel_rfl) (fun d hd=>(W2 (Zc H (lq hd rfl)) (W1 (Pb H (lq hd rfl)) (W2 (Adf H (lq hd rfl)) rfl)))) (fun d c r=>rfl) (fun d c r=>by kernel_rfl)
def Vy(K:Nat)(v0:EV)(h:Aa):R:=
 Dx 60 v0 h fun v1 h=>
 J6 (.cells (List.replicate 44 (.int .u8 0)) 118) h fun v2 h=>
 Ao 3 v1 fun v5=>
 Aq v5 h fun v6=>
 Aj (Gn K v6 h) fun v7 h=>
 J6 (.cells [(.int .i64 0),(.int .i64 0),(.int .i64 0),(.int .i64 0),(.int .i64 0),(.int .i64 0)] 23) h fun v3 h=>
 Jq 6 v3 v7 h fun h=>
 C4 (Gg [(0,1),(1,1)]) [.Af,(.bool false)] [] fun v8=>
 Dx 278 v8 h fun v9 h=>
 Ao 2 v1 fun v11=>
 Aq v11 h fun v12=>
 Aj (Bb K v9 (.int .i64 6) v12 h) fun v13 h=>
 Ao 0 v3 fun v15=>
 Aq v15 h fun v16=>
 Aj (Bb K v9 (.int .i64 1) v16 h) fun v17 h=>
 Ao 1 v3 fun v19=>
 Aq v19 h fun v20=>
 Aj (Bb K v9 (.int .i64 1) v20 h) fun v21 h=>
 Ao 2 v3 fun v23=>
 Aq v23 h fun v24=>
 Aj (Bb K v9 (.int .i64 1) v24 h) fun v25 h=>
 Ao 3 v3 fun v27=>
 Aq v27 h fun v28=>
 Aj (Bb K v9 (.int .i64 2) v28 h) fun v29 h=>
 Ao 4 v3 fun v31=>
 Aq v31 h fun v32=>
 Aj (Bb K v9 (.int .i64 1) v32 h) fun v33 h=>
 Ao 5 v3 fun v35=>
 Aq v35 h fun v36=>
 Aj (Bb K v9 (.int .i64 1) v36 h) fun v37 h=>
 Aj (Tb K v9 h) fun v39 h=>
 Jq 44 v2 v39 h fun h=>
 Jh TT [.c v2 118] h
theorem Aky(H:Ap disp)(hd:3<=d)(v0:EV)(h:Aa):Ad TT disp K d false 157 [v0] h=Vy K v0 h:=
 Cp (H.bare (by kernel_rfl)) hd (by kernel_rfl) (fun d hd=>(W1 (Oj H (lq hd rfl)) (W3 (Lj H (lq hd rfl)) (W1 (Acq H (lq hd rfl)) rfl)))) (fun d c r=>rfl) (fun d c r=>by kernel_rfl)
def X1(K:Nat)(v4 v5:EV)(h:Aa):R:=
 Aj (Tb K v5 h) fun v33 h=>
 Jq 44 v4 v33 h fun h=>
 Jh TT [.c v4 118] h
def Afy(K:Nat)(ih1_:EV->EV->EV->EV->EV->Aa->R)(v1 v2 v4 v5 v14:EV)(h:Aa):R:=
 Ar Hh (bin TT .add 3) v14 (.int .i64 1) fun v31=>
 ih1_ v1 v2 v4 v5 v31 h
def Afx(K:Nat)(ih1_:EV->EV->EV->EV->EV->Aa->R)(v1 v2 v4 v5 v14:EV)(h:Aa):R:=
 Ao 3 v2 fun v18=>
 Aq v18 h fun v19=>
 Ar Sx (bin TT .sub 3) v1 (.int .i64 1) fun v21=>
 Ar Q4 (bin TT .mul 3) (.int .i64 2) v21 fun v22=>
 Ar Hh (bin TT .add 3) v22 v14 fun v24=>
 Aj (Pa K v19 v24 h) fun v25 h=>
 Cy 0 v25 fun v26=>
 Cy 1 v25 fun v27=>
 J6 (.cells [(.int .i64 0),(.int .i64 0),(.int .i64 0),(.int .i64 0),(.int .i64 0),(.int .i64 0)] 83) h fun v7 h=>
 Jq 6 v7 v26 h fun h=>
 Cm 6 v7 h fun v29=>
 Aj (Z7 K v5 v29 h) fun v30 h=>
 Afy K ih1_ v1 v2 v4 v5 v14 h
def Ii(K:Nat):Nat->EV->EV->EV->EV->EV->Aa->R
 | 0=>fun _ _ _ _ _ _=>none
 | m+1=>fun v1 v2 v4 v5 v14 h=>
  Ar G4 (bin TT .lss 3) v14 (.int .i64 2) fun v15=>
  Et v15
  (Afx K (Ii K m) v1 v2 v4 v5 v14 h)
  (X1 K v4 v5 h)
def V5(K:Nat)(v0 v1:EV)(h:Aa):R:=
 Dx 60 v0 h fun v2 h=>
 J6 (.cells (List.replicate 44 (.int .u8 0)) 118) h fun v4 h=>
 C4 (Gg [(0,1),(1,1)]) [.Af,(.bool false)] [] fun v9=>
 Dx 278 v9 h fun v10 h=>
 Aj (Bb K v10 (.int .i64 1) v1 h) fun v13 h=>
 Ii K K v1 v2 v4 v10 (.int .i64 0) h
abbrev Ap0(K:Nat)(c:Ac):Ac:=(w3 173 (Bb K) (w1 199 (Tb K) (w2 184 (Pa K) (w2 200 (Z7 K) c))))
theorem Ajp(c c' r:Ac)(K:Nat)(m:Nat):G9 (fun ih=>F7 TT (Ap0 K c) c' r K (nOf TT 158) (E1 TT 158) (Pt TT 158 [true,true,true,false,true,false]) [(0,fun ρ h=>X1 K (ρ 4) (ρ 5) h)] ih) m=fun ρ h=>Ii K m (ρ 1) (ρ 2) (ρ 4) (ρ 5) (ρ 14) h:=
 Cw (E:=fun m ρ h=>Ii K m (ρ 1) (ρ 2) (ρ 4) (ρ 5) (ρ 14) h) rfl (fun m=>P6 fun ρ h=>by
  show _=Ii K (m+1) (ρ 1) (ρ 2) (ρ 4) (ρ 5) (ρ 14) h
  rw[Ii];kernel_rfl) m
theorem Alo(H:Ap disp)(hd:4<=d)(v0 v1:EV)(h:Aa):Ad TT disp K d false 158 [v0,v1] h=V5 K v0 v1 h:=
 Cp (H.bare (by kernel_rfl)) hd (by kernel_rfl) (fun d hd=>(W3 (Lj H (lq hd rfl)) (W1 (Acq H (lq hd rfl)) (W2 (Age H (lq hd rfl)) (W2 (Aom H (lq hd rfl)) rfl))))) (fun d c r=>(cut [true,true,true,false,true,false] (Ajp (Ad TT disp K d false) c r K K) (by kernel_rfl) (by kernel_rfl) rfl)) (fun d c r=>by kernel_rfl)
def Qv(K:Nat)(v0 v1:EV)(h:Aa):R:=
 Bp v0 fun v13=>
 Ao 0 v13 fun v14=>
 Aq v14 h fun v15=>
 I5 1 v15 v1 fun v17=>
 Aq v17 h fun v18=>
 Aj (Ey K v18 h) fun v19 h=>
 some (v19,h)
def Lm(K:Nat)(v0 v1:EV)(h:Aa):R:=
 Aj (Gz K v0 v1 h) fun v8 h=>
 Ar Jr (bin TT .neq 28) v8 (.int .i64 0) fun v10=>
 Et v10
 (some (v8,h))
 (Qv K v0 v1 h)
theorem Yv(H:Ap disp)(hd:3<=d)(v0 v1:EV)(h:Aa):Ad TT disp K d false 221 [v0,v1] h=Lm K v0 v1 h:=
 Cp (H.bare (by kernel_rfl)) hd (by kernel_rfl) (fun d hd=>(W2 (Lc H (lq hd rfl)) (W1 (Oi H (lq hd rfl)) rfl))) (fun d c r=>rfl) (fun d c r=>by kernel_rfl)
def U7(K:Nat)(v0 v1 v2 v3:EV)(h:Aa):R:=
 C4 (Gg [(0,1),(1,1)]) [(.int .i64 0),(.int .i64 0)] [(0,v2),(1,v3)] fun v39=>
 Bp v0 fun v40=>
 Ao 1 v40 fun v41=>
 Uj 3 2 v41 v1 fun v42=>
 Jq 2 v42 v39 h fun h=>
 some ((.int .i64 0),h)
def Pf(K:Nat)(v0 v1 v2 v3 v26 v33:EV)(h:Aa):R:=
 B2 v26 (.bool true) v33 fun v34=>
 Et v34
 (some ((.int .i64 13),h))
 (U7 K v0 v1 v2 v3 h)
def Oq(K:Nat)(v0 v1 v2 v3 v26 v30 v32:EV)(h:Aa):R:=
 An (Au v26 false)
 (B2 v30 v32 (.bool false) fun v33=>
 Pf K v0 v1 v2 v3 v26 v33 h)
 (Pf K v0 v1 v2 v3 v26 (.tuple []) h)
def Oz(K:Nat)(v0 v1 v2 v3 v26 v30:EV)(h:Aa):R:=
 An (Au v30 true)
 (Ar Jr (bin TT .neq 3) v2 (.int .i64 (-1)) fun v32=>
 Oq K v0 v1 v2 v3 v26 v30 v32 h)
 (Oq K v0 v1 v2 v3 v26 v30 (.tuple []) h)
def O2(K:Nat)(v0 v1 v2 v3 v19 v24:EV)(h:Aa):R:=
 B2 v19 (.bool true) v24 fun v25=>
 An (Au v25 false)
 (Ar Jg (bin TT .eql 3) v2 v3 fun v29=>
 Oz K v0 v1 v2 v3 v25 v29 h)
 (Oz K v0 v1 v2 v3 v25 (.tuple []) h)
def O8(K:Nat)(v0 v1 v2 v3 v12 v17:EV)(h:Aa):R:=
 B2 v12 (.bool true) v17 fun v18=>
 An (Au v18 false)
 (Aj (Ke K v0 v1 v3 h) fun v23 h=>
 Mp v23 fun v24=>
 O2 K v0 v1 v2 v3 v18 v24 h)
 (O2 K v0 v1 v2 v3 v18 (.tuple []) h)
def Md(K:Nat)(v0 v1 v2 v3:EV)(h:Aa):R:=
 Aj (Aar K v1 h) fun v10 h=>
 Mp v10 fun v11=>
 An (Au v11 false)
 (Aj (Ke K v0 v1 v2 h) fun v16 h=>
 Mp v16 fun v17=>
 O8 K v0 v1 v2 v3 v11 v17 h)
 (O8 K v0 v1 v2 v3 v11 (.tuple []) h)
theorem Ad0(H:Ap disp)(hd:4<=d)(v0 v1 v2 v3:EV)(h:Aa):Ad TT disp K d false 13 [v0,v1,v2,v3] h=Md K v0 v1 v2 v3 h:=
 Cp (H.bare (by kernel_rfl)) hd (by kernel_rfl) (fun d hd=>(W1 (Aeg H (lq hd rfl)) (W3 (Ack H (lq hd rfl)) rfl))) (fun d c r=>rfl) (fun d c r=>by kernel_rfl)
def Ahq(K:Nat)(v1:EV)(h:Aa):R:=
 Gf h fun base s=>
 Bm 0 0 base v1 s fun s=>Cm 6 v1 h fun v7=>
 Ao 3 v1 fun v8=>
 Bm 2 2 base v8 s fun s=>Aq v8 h fun v9=>
 Aax 3 h s fun s=>Aj (Ny [(.int .i64 0),(.int .i64 0),(.int .i64 0),(.int .i64 0),(.int .i64 0),(.int .i64 0)] 83 v9 v9 h) fun v10 h=>
 Bm 4 0 base v1 s fun s=>Cm 6 v1 h fun v11=>
 Ct 5 16 s h (fun h=>(Hm K v11 h)) fun v12 h s=>
 Aax 6 h s fun s=>Aj (Ny [(.int .i64 0)] 3 v12 v12 h) fun v13 h=>
 C4 (Gg [(0,6),(6,1),(7,1)]) [(.int .i64 0),(.int .i64 0),(.int .i64 0),(.int .i64 0),(.int .i64 0),(.int .i64 0),.Af,.Af] [(0,v7),(1,v10),(2,v13)] fun v14=>
 Aax 8 h s fun s=>Dx 155 v14 h fun v15 h=>
 some (.tuple [v15,(.int .i64 0)],h)
def Z0(K:Nat)(v0:EV)(h:Aa):R:=
 Dx 23 v0 h fun v1 h=>
 Cm 6 v1 h fun v4=>
 Aj (G6 K v4 h) fun v5 h=>
 Mp v5 fun v6=>
 Et v6
 (some (.tuple [.Da,(.int .i64 20)],h))
 (Ahq K v1 h)
theorem Ao4(H:Ap disp)(hd:4<=d)(v0:EV)(h:Aa):Ad TT disp K d false 16 [v0] h=Z0 K v0 h:=
 Cp (H.bare (by kernel_rfl)) hd (by kernel_rfl) (fun d hd=>(W1 (M9 H (lq hd rfl)) (W1 (Lq H (lq hd rfl)) rfl))) (fun d c r=>rfl) (fun d c r=>by kernel_rfl)
def Ab7(c r:Ac)(K:Nat)(ih0_:EV->EV->EV->Aa->R)(v0 v1 v5 v8:EV)(h:Aa):R:=
 Bp v0 fun v47=>
 Ao 0 v47 fun v48=>
 Aq v48 h fun v49=>
 Aj (c 20 [v49,v8] h) fun v51 h=>
 Ar Jg (bin TT .eql 28) v51 (.int .i64 34) fun v52=>
 Et v52
 (some (.tuple [(.bool false),(.int .i64 34)],h))
 (ih0_ v0 v1 v5 h)
def R8(c r:Ac)(K:Nat)(ih0_:EV->EV->EV->Aa->R)(v0 v1 v5 v8:EV)(h:Aa):R:=
 Cm 4 v5 h fun v16=>
 Aj (c 117 [v0,v16,v8] h) fun v18 h=>
 Ar Jg (bin TT .eql 28) v18 (.int .i64 0) fun v21=>
 Et v21
 (Gf h fun base s=>
 Bp v0 fun v27=>
 Ao 1 v27 fun v28=>
 Uj 3 2 v28 v1 fun v29=>
 Ao 0 v29 fun v30=>
 Bm 9 504 base v30 s fun s=>Aq v30 h fun v31=>
 C4 (Gg [(0,1),(1,1)]) [(.int .i64 0),(.int .i64 0)] [(0,v8),(1,v31)] fun v32=>
 Bp v0 fun v33=>
 Ao 1 v33 fun v34=>
 Uj 3 2 v34 v1 fun v35=>
 Afl 14 16383 v35 s fun s=>Jq 2 v35 v32 h fun h=>
 some (.tuple [(.bool true),(.int .i64 0)],h))
 (Ar Jg (bin TT .eql 28) v18 (.int .i64 34) fun v37=>
 Et v37
 (Bp v0 fun v41=>
 Ao 1 v41 fun v42=>
 Uj 3 2 v42 v1 fun v43=>
 Ao 1 v43 fun v44=>
 Jq 1 v44 v8 h fun h=>
 some (.tuple [(.bool false),v18],h))
 (Ab7 c r K ih0_ v0 v1 v5 v8 h))
def El(c r:Ac)(K:Nat):Nat->EV->EV->EV->Aa->R
 | 0=>fun _ _ _ _=>none
 | m+1=>fun v0 v1 v5 h=>
  Aj (Iv K v0 v1 h) fun v12 h=>
  Ar Jg (bin TT .eql 3) v12 (.int .i64 (-1)) fun v14=>
  Et v14
  (some (.tuple [(.bool false),(.int .i64 0)],h))
  (R8 c r K (El c r K m) v0 v1 v5 v12 h)
def Wn(c r:Ac)(K:Nat)(v0 v1 v2:EV)(h:Aa):R:=
 Dx 60 v2 h fun v5 h=>
 El c r K K v0 v1 v5 h
abbrev Adv(K:Nat)(c:Ac):Ac:=(w2 116 (Iv K) c)
theorem Zf(c r:Ac)(K:Nat)(m:Nat):G9 (fun ih=>F7 TT (Adv K c) c r K (nOf TT 66) (E1 TT 66) (Pt TT 66 [true,false]) [(0,E1 TT 66)] ih) m=fun ρ h=>El c r K m (ρ 0) (ρ 1) (ρ 5) h:=
 Cw (E:=fun m ρ h=>El c r K m (ρ 0) (ρ 1) (ρ 5) h) rfl (fun m=>P6 fun ρ h=>by
  show _=El c r K (m+1) (ρ 0) (ρ 1) (ρ 5) h
  rw[El];kernel_rfl) m
theorem Abi(H:Ap disp)(hd:4<=d)(v0 v1 v2:EV)(h:Aa):Ad TT disp K (d+1) false 66 [v0,v1,v2] h=Wn (Ad TT disp K d false) (Ad TT disp K d true) K v0 v1 v2 h:=
 Vl (H.bare (by kernel_rfl)) (by kernel_rfl) (W2 (Zb H (lq hd rfl)) rfl) (cut [true,false] (Zf (Ad TT disp K d false) (Ad TT disp K d true) K K) (by kernel_rfl) (by kernel_rfl) rfl) (by kernel_rfl)
def Ue(c r:Ac)(K:Nat)(v7:EV)(h:Aa):R:=
 some (.tuple [v7,(.int .i64 0)],h)
def Zv(c r:Ac)(K:Nat)(ih1_:EV->EV->EV->EV->Aa->R)(v2 v6 v7 v8:EV)(h:Aa):R:=
 Ar Hh (bin TT .add 3) v8 (.int .i64 1) fun v37=>
 ih1_ v2 v6 v7 v37 h
def Z6(c r:Ac)(K:Nat)(ih1_:EV->EV->EV->EV->Aa->R)(v2 v6 v7 v8:EV)(h:Aa):R:=
 Cm 4 v2 h fun v39=>
 Aj (V5 K v39 v8 h) fun v41 h=>
 Ao 0 v6 fun v42=>
 Jq 1 v42 (.int .i64 5) h fun h=>
 Ao 2 v6 fun v43=>
 Jq 1 v43 v8 h fun h=>
 Ao 5 v6 fun v44=>
 Jq 44 v44 v41 h fun h=>
 Cm 49 v6 h fun v46=>
 Aj (B4 (List.replicate 5 (.int .i64 0)++List.replicate 44 (.int .u8 0)) 120 49 1 [(0,v46)] h) fun v47 h=>
 Aj (C8 120 49 v7 v47 h) fun v48 h=>
 Zv c r K ih1_ v2 v6 v48 v8 h
def Gs(c r:Ac)(K:Nat):Nat->EV->EV->EV->EV->Aa->R
 | 0=>fun _ _ _ _ _=>none
 | m+1=>fun v2 v6 v7 v8 h=>
  Ao 3 v2 fun v31=>
  Aq v31 h fun v32=>
  Aj (Gn K v32 h) fun v33 h=>
  Aj (Ic K v33 h) fun v34 h=>
  Ar G4 (bin TT .lss 3) v8 v34 fun v35=>
  Et v35
  (Z6 c r K (Gs c r K m) v2 v6 v7 v8 h)
  (Ue c r K v7 h)
def Zz(c r:Ac)(K:Nat)(v1 v2:EV)(h:Aa):R:=
 Gf h fun base s=>
 Ao 1 v2 fun v21=>
 Bm 2 2 base v21 s fun s=>Aq v21 h fun v22=>
 Ao 0 v2 fun v23=>
 Bm 4 8 base v23 s fun s=>Aq v23 h fun v24=>
 Bm 5 0 base v2 s fun s=>Cm 4 v2 h fun v25=>
 Ct 6 32 s h (fun h=>(Vy K v25 h)) fun v26 h s=>
 C4 (Gg [(0,1),(1,1),(2,1),(3,1),(4,1),(5,44)]) (List.replicate 5 (.int .i64 0)++List.replicate 44 (.int .u8 0)) [(0,(.int .i64 4)),(1,v1),(3,v22),(4,v24),(5,v26)] fun v27=>
 Aax 8 h s fun s=>J6 (.cells (List.replicate 5 (.int .i64 0)++List.replicate 44 (.int .u8 0)) 120) h fun v6 h=>
 Afl 9 511 v6 s fun s=>Jq 49 v6 v27 h fun h=>
 Cm 49 v6 h fun v28=>
 Aj (B4 (List.replicate 5 (.int .i64 0)++List.replicate 44 (.int .u8 0)) 120 49 1 [(0,v28)] h) fun v29 h=>
 Gs c r K K v2 v6 v29 (.int .i64 1) h
def Uc(c r:Ac)(K:Nat)(v1 v2 v12 v18:EV)(h:Aa):R:=
 B2 v12 (.bool true) v18 fun v19=>
 Et v19
 (some (.tuple [.Af,(.int .i64 10)],h))
 (Zz c r K v1 v2 h)
def Ahr(c r:Ac)(K:Nat)(v0 v1:EV)(h:Aa):R:=
 Dx 60 v0 h fun v2 h=>
 Cm 4 v2 h fun v9=>
 Aj (c 64 [v9] h) fun v10 h=>
 Mp v10 fun v11=>
 An (Au v11 false)
 (Ao 3 v2 fun v13=>
 Aq v13 h fun v14=>
 Aj (Gn K v14 h) fun v15 h=>
 Aj (Kt K v15 v1 (.int .i64 0) h) fun v17 h=>
 Mp v17 fun v18=>
 Uc c r K v1 v2 v11 v18 h)
 (Uc c r K v1 v2 v11 (.tuple []) h)
abbrev Aln(K:Nat)(c:Ac):Ac:=(w1 65 (Gn K) (w3 92 (Kt K) (w2 158 (V5 K) (w1 112 (Ic K) (w1 157 (Vy K) c)))))
theorem Ago(c r:Ac)(K:Nat)(m:Nat):G9 (fun ih=>F7 TT (Aln K c) c r K (nOf TT 110) (E1 TT 110) (Pt TT 110 [true,true,true,true,false,true,false]) [(0,fun ρ h=>Ue c r K (ρ 7) h)] ih) m=fun ρ h=>Gs c r K m (ρ 2) (ρ 6) (ρ 7) (ρ 8) h:=
 Cw (E:=fun m ρ h=>Gs c r K m (ρ 2) (ρ 6) (ρ 7) (ρ 8) h) rfl (fun m=>P6 fun ρ h=>by
  show _=Gs c r K (m+1) (ρ 2) (ρ 6) (ρ 7) (ρ 8) h
  rw[Gs];kernel_rfl) m
theorem Aic(H:Ap disp)(hd:4<=d)(v0 v1:EV)(h:Aa):Ad TT disp K (d+1) false 110 [v0,v1] h=Ahr (Ad TT disp K d false) (Ad TT disp K d true) K v0 v1 h:=
 Vl (H.bare (by kernel_rfl)) (by kernel_rfl) (W1 (Oj H (lq hd rfl)) (W3 (Acb H (lq hd rfl)) (W2 (Alo H (lq hd rfl)) (W1 (Sa H (lq hd rfl)) (W1 (Aky H (lq hd rfl)) rfl))))) (cut [true,true,true,true,false,true,false] (Ago (Ad TT disp K d false) (Ad TT disp K d true) K K) (by kernel_rfl) (by kernel_rfl) rfl) (by kernel_rfl)
def Je(c r:Ac)(K:Nat)(v5:EV)(h:Aa):R:=
 some (v5,h)
def Wo(c r:Ac)(K:Nat)(v0 v1:EV)(h:Aa):R:=
 Aj (c 179 [v0,v1] h) fun v8 h=>
 Bp v0 fun v10=>
 Ao 0 v10 fun v11=>
 Aq v11 h fun v12=>
 Aj (Lm K v12 v1 h) fun v14 h=>
 Ar Jg (bin TT .eql 28) v14 (.int .i64 0) fun v16=>
 Et v16
 (Aj (O0 K v0 v1 (.int .i64 0) h) fun v19 h=>
 Je c r K v14 h)
 (Je c r K v14 h)
theorem Aab(H:Ap disp)(hd:3<=d)(v0 v1:EV)(h:Aa):Ad TT disp K (d+1) false 202 [v0,v1] h=Wo (Ad TT disp K d false) (Ad TT disp K d true) K v0 v1 h:=
 Vl (H.bare (by kernel_rfl)) (by kernel_rfl) (W2 (Yv H (lq hd rfl)) (W3 (Y3 H (lq hd rfl)) rfl)) rfl (by kernel_rfl)
def Mt(K:Nat)(v1 v4 v7:EV)(h:Aa):R:=
 Gf h fun base s=>
 Ao 0 v1 fun v46=>
 Bm 1 1 base v46 s fun s=>Aq v46 h fun v47=>
 Ao 1 v1 fun v48=>
 Bm 3 4 base v48 s fun s=>Aq v48 h fun v49=>
 Ar Q4 (bin TT .mul 3) v47 v49 fun v50=>
 Ao 2 v1 fun v51=>
 Bm 6 32 base v51 s fun s=>Aq v51 h fun v52=>
 Ao 5 v1 fun v53=>
 Bm 8 128 base v53 s fun s=>Aq v53 h fun v54=>
 Ct 9 511 s h (fun h=>(J5 K v50 v52 v54 h)) fun v55 h s=>
 C4 (Gg [(0,5),(5,1),(6,1)]) [.Af,(.int .i64 0),(.int .i64 0),(.int .i64 0),(.bool false),.Af,.Af] [(0,v55)] fun v56=>
 Bm 11 0 base v4 s fun s=>Cm 6 v4 h fun v57=>
 Ct 12 4095 s h (fun h=>(J0 K v56 v57 h)) fun v58 h s=>
 Aax 13 h s fun s=>J6 (.cells ([.Af]++List.replicate 3 (.int .i64 0)++[(.bool false)]++List.replicate 2 .Af++List.replicate 8 (.int .i64 0)++List.replicate 2 .Af++List.replicate 3 (.int .i64 0)) 42) h fun v9 h=>
 Afl 14 16383 v9 s fun s=>Jq 20 v9 v58 h fun h=>
 Gf h fun base s=>
 Bm 0 0 base v1 s fun s=>Cm 6 v1 h fun v59=>
 Ct 3 4 s h (fun h=>(Aeu K v7 h)) fun v62 h s=>
 Bm 4 0 base v9 s fun s=>Cm 20 v9 h fun v63=>
 Ct 5 28 s h (fun h=>(Kc K v63 h)) fun v64 h s=>
 C4 (Gg [(0,6),(6,1),(7,1),(8,26)]) (List.replicate 6 (.int .i64 0)++List.replicate 2 .Da++[.Af]++List.replicate 3 (.int .i64 0)++[(.bool false)]++List.replicate 2 .Af++List.replicate 8 (.int .i64 0)++List.replicate 2 .Af++List.replicate 9 (.int .i64 0)) [(0,v59),(1,v7),(2,v62),(3,v64)] fun v65=>
 Aax 7 h s fun s=>Dx 47 v65 h fun v66 h=>
 some (.tuple [v66,(.bool true)],h)
def My(K:Nat)(v1 v4 v5:EV)(h:Aa):R:=
 Gf h fun base s=>
 Bm 1 0 base v1 s fun s=>Cm 6 v1 h fun v39=>
 Ct 2 0 s h (fun h=>(At9 K h)) fun v40 h s=>
 Ct 3 7 s h (fun h=>(Xj K v5 v39 v40 h)) fun v41 h s=>
 Cy 0 v41 fun v42=>
 Cy 1 v41 fun v43=>
 Ar Jr (bin TT .neq 28) v43 (.int .i64 0) fun v45=>
 Et v45
 (some (.tuple [.Da,(.bool false)],h))
 (Mt K v1 v4 v42 h)
def Mw(K:Nat)(v1 v4:EV)(h:Aa):R:=
 Ao 0 v1 fun v23=>
 Aq v23 h fun v24=>
 Ao 1 v1 fun v25=>
 Aq v25 h fun v26=>
 Ar Q4 (bin TT .mul 3) v24 v26 fun v27=>
 Ao 2 v1 fun v28=>
 Aq v28 h fun v29=>
 Ao 5 v1 fun v30=>
 Aq v30 h fun v31=>
 Aj (Aev K v27 v29 v31 h) fun v32 h=>
 Cy 0 v32 fun v33=>
 Cy 1 v32 fun v34=>
 Ar Jr (bin TT .neq 28) v34 (.int .i64 0) fun v36=>
 Et v36
 (some (.tuple [.Da,(.bool false)],h))
 (My K v1 v4 v33 h)
def Ek(K:Nat)(v1 v4 v14 v20:EV)(h:Aa):R:=
 B2 v14 (.bool true) v20 fun v21=>
 Et v21
 (some (.tuple [.Da,(.bool false)],h))
 (Mw K v1 v4 h)
def Fm(K:Nat)(v0:EV)(h:Aa):R:=
 Dx 23 v0 h fun v1 h=>
 Cm 6 v1 h fun v10=>
 J6 (.cells [(.int .i64 0),(.int .i64 0),(.int .i64 0),(.int .i64 0),(.int .i64 0),(.int .i64 0)] 37) h fun v4 h=>
 Jq 6 v4 v10 h fun h=>
 Cm 6 v4 h fun v11=>
 Aj (Hc K v11 h) fun v12 h=>
 Mp v12 fun v13=>
 An (Au v13 false)
 (Ao 0 v1 fun v15=>
 Aq v15 h fun v16=>
 Ao 1 v1 fun v17=>
 Aq v17 h fun v18=>
 Ar Q4 (bin TT .mul 3) v16 v18 fun v19=>
 Ar Y8 (bin TT .gtr 3) v19 (.int .i64 64) fun v20=>
 Ek K v1 v4 v13 v20 h)
 (Ek K v1 v4 v13 (.tuple []) h)
theorem Tx(H:Ap disp)(hd:6<=d)(v0:EV)(h:Aa):Ad TT disp K d false 12 [v0] h=Fm K v0 h:=
 Cp (H.bare (by kernel_rfl)) hd (by kernel_rfl) (fun d hd=>(W1 (Tu H (lq hd rfl)) (W3 (W6 H (lq hd rfl)) (W2 (Xt H (lq hd rfl)) (W1 (An3 H (lq hd rfl)) (W1 (X5 H (lq hd rfl)) (W0 (Arf H (lq hd rfl)) (W3 (Ajb H (lq hd rfl)) (W3 (Aos H (lq hd rfl)) rfl))))))))) (fun d c r=>rfl) (fun d c r=>by kernel_rfl)
def Rs(c r:Ac)(K:Nat)(v10:EV)(h:Aa):R:=
 some (.tuple [v10,(.int .i64 0)],h)
def Yk(c r:Ac)(K:Nat)(ih1_:EV->EV->EV->EV->EV->Aa->R)(v3 v10 v24 v25 v26:EV)(h:Aa):R:=
 Ar Hh (bin TT .add 3) v26 (.int .i64 1) fun v43=>
 ih1_ v3 v10 v24 v25 v43 h
def Yj(c r:Ac)(K:Nat)(ih1_:EV->EV->EV->EV->EV->Aa->R)(v3 v10 v13 v24 v25 v26:EV)(h:Aa):R:=
 Cm 64 v13 h fun v40=>
 Aj (B4 (List.replicate 64 (.int .u8 0)) 103 64 1 [(0,v40)] h) fun v41 h=>
 Aj (C8 103 64 v10 v41 h) fun v42 h=>
 Yk c r K ih1_ v3 v42 v24 v25 v26 h
def Yi(c r:Ac)(K:Nat)(ih1_:EV->EV->EV->EV->EV->Aa->R)(v3 v10 v24 v25 v26:EV)(h:Aa):R:=
 I5 49 v24 v26 fun v28=>
 Cm 49 v28 h fun v29=>
 J6 (.cells (List.replicate 5 (.int .i64 0)++List.replicate 44 (.int .u8 0)) 120) h fun v12 h=>
 Jq 49 v12 v29 h fun h=>
 Cm 256 v3 h fun v31=>
 Cm 49 v12 h fun v32=>
 Aj (O6 K v31 v32 h) fun v33 h=>
 Cy 0 v33 fun v34=>
 Cy 1 v33 fun v35=>
 J6 (.cells (List.replicate 64 (.int .u8 0)) 103) h fun v13 h=>
 Jq 64 v13 v34 h fun h=>
 Ar Jr (bin TT .neq 28) v35 (.int .i64 0) fun v37=>
 Et v37
 (some (.tuple [.Af,v35],h))
 (Yj c r K ih1_ v3 v10 v13 v24 v25 v26 h)
def F0(c r:Ac)(K:Nat):Nat->EV->EV->EV->EV->EV->Aa->R
 | 0=>fun _ _ _ _ _ _=>none
 | m+1=>fun v3 v10 v24 v25 v26 h=>
  Ar G4 (bin TT .lss 3) v26 v25 fun v27=>
  Et v27
  (Yi c r K (F0 c r K m) v3 v10 v24 v25 v26 h)
  (Rs c r K v10 h)
def Yr(c r:Ac)(K:Nat)(v3 v8:EV)(h:Aa):R:=
 I4 v8 fun v25=>
 F0 c r K K v3 .Af v8 v25 (.int .i64 0) h
def Ael(c r:Ac)(K:Nat)(v0 v1 v2:EV)(h:Aa):R:=
 Dx 72 v0 h fun v3 h=>
 Dx 60 v1 h fun v4 h=>
 Cm 4 v4 h fun v16=>
 Aj (c 110 [v16,v2] h) fun v18 h=>
 Cy 0 v18 fun v19=>
 Cy 1 v18 fun v20=>
 Ar Jr (bin TT .neq 28) v20 (.int .i64 0) fun v22=>
 Et v22
 (some (.tuple [.Af,v20],h))
 (Yr c r K v3 v19 h)
abbrev Akm(K:Nat)(c:Ac):Ac:=(w2 177 (O6 K) c)
theorem Aff(c r:Ac)(K:Nat)(m:Nat):G9 (fun ih=>F7 TT (Akm K c) c r K (nOf TT 162) (E1 TT 162) (Pt TT 162 [true,true,true,true,false,true,false]) [(0,fun ρ h=>Rs c r K (ρ 10) h)] ih) m=fun ρ h=>F0 c r K m (ρ 3) (ρ 10) (ρ 24) (ρ 25) (ρ 26) h:=
 Cw (E:=fun m ρ h=>F0 c r K m (ρ 3) (ρ 10) (ρ 24) (ρ 25) (ρ 26) h) rfl (fun m=>P6 fun ρ h=>by
  show _=F0 c r K (m+1) (ρ 3) (ρ 10) (ρ 24) (ρ 25) (ρ 26) h
  rw[F0];kernel_rfl) m
theorem Agr(H:Ap disp)(hd:5<=d)(v0 v1 v2:EV)(h:Aa):Ad TT disp K (d+1) false 162 [v0,v1,v2] h=Ael (Ad TT disp K d false) (Ad TT disp K d true) K v0 v1 v2 h:=
 Vl (H.bare (by kernel_rfl)) (by kernel_rfl) (W2 (Ag1 H (lq hd rfl)) rfl) (cut [true,true,true,true,false,true,false] (Aff (Ad TT disp K d false) (Ad TT disp K d true) K K) (by kernel_rfl) (by kernel_rfl) rfl) (by kernel_rfl)
end
end Go.Ev

namespace Go.Ev
open Go.Proofs
set_option maxRecDepth 100000
set_option maxHeartbeats 4000000
noncomputable section
variable {disp:Nat->Option FT}{K d:Nat}
def Ds(c r:Ac)(K:Nat)(h:Aa):R:=
 some ((.bool true),h)
def Cv(c r:Ac)(K:Nat)(ih1_:EV->EV->EV->EV->EV->Aa->R)(v2 v5 v8 v67 v68:EV)(h:Aa):R:=
 Ar Hh (bin TT .add 3) v68 (.int .i64 1) fun v144=>
 ih1_ v2 v5 v8 v67 v144 h
def Hi(c r:Ac)(K:Nat)(ih1_:EV->EV->EV->EV->EV->Aa->R)(ih3_:EV->EV->EV->EV->EV->EV->EV->Aa->R)(v2 v5 v8 v11 v67 v68 v104:EV)(h:Aa):R:=
 Ar Hh (bin TT .add 3) v104 (.int .i64 1) fun v143=>
 ih3_ v2 v5 v8 v11 v67 v68 v143 h
def Fb(c r:Ac)(K:Nat)(ih1_:EV->EV->EV->EV->EV->Aa->R)(ih3_:EV->EV->EV->EV->EV->EV->EV->Aa->R)(v2 v5 v8 v11 v67 v68 v104 v126 v141:EV)(h:Aa):R:=
 B2 v126 (.bool true) v141 fun v142=>
 Et v142
 (some ((.bool false),h))
 (Hi c r K ih1_ ih3_ v2 v5 v8 v11 v67 v68 v104 h)
def E7(c r:Ac)(K:Nat)(ih1_:EV->EV->EV->EV->EV->Aa->R)(ih3_:EV->EV->EV->EV->EV->EV->EV->Aa->R)(v2 v5 v8 v11 v67 v68 v104 v126 v133 v140:EV)(h:Aa):R:=
 An (Au v126 false)
 (B2 v133 v140 (.bool false) fun v141=>
 Fb c r K ih1_ ih3_ v2 v5 v8 v11 v67 v68 v104 v126 v141 h)
 (Fb c r K ih1_ ih3_ v2 v5 v8 v11 v67 v68 v104 v126 (.tuple []) h)
def Fa(c r:Ac)(K:Nat)(ih1_:EV->EV->EV->EV->EV->Aa->R)(ih3_:EV->EV->EV->EV->EV->EV->EV->Aa->R)(v2 v5 v8 v11 v15 v16 v67 v68 v104 v126 v133:EV)(h:Aa):R:=
 An (Au v133 true)
 (Ao 1 v2 fun v136=>
 Aq v136 h fun v137=>
 Ar Q4 (bin TT .mul 3) v15 v137 fun v138=>
 Ar Hh (bin TT .add 3) v138 (.int .i64 1) fun v139=>
 Ar Jr (bin TT .neq 3) v16 v139 fun v140=>
 E7 c r K ih1_ ih3_ v2 v5 v8 v11 v67 v68 v104 v126 v133 v140 h)
 (E7 c r K ih1_ ih3_ v2 v5 v8 v11 v67 v68 v104 v126 v133 (.tuple []) h)
def Hd(c r:Ac)(K:Nat)(ih1_:EV->EV->EV->EV->EV->Aa->R)(ih3_:EV->EV->EV->EV->EV->EV->EV->Aa->R)(v2 v5 v8 v11 v15 v16 v67 v68 v104 v121 v124:EV)(h:Aa):R:=
 B2 v121 (.bool true) v124 fun v125=>
 An (Au v125 false)
 (Ao 1 v2 fun v129=>
 Aq v129 h fun v130=>
 Ar Q4 (bin TT .mul 3) v15 v130 fun v131=>
 Ar Jr (bin TT .neq 3) v16 v131 fun v132=>
 Fa c r K ih1_ ih3_ v2 v5 v8 v11 v15 v16 v67 v68 v104 v125 v132 h)
 (Fa c r K ih1_ ih3_ v2 v5 v8 v11 v15 v16 v67 v68 v104 v125 (.tuple []) h)
def Ls(c r:Ac)(K:Nat)(ih1_:EV->EV->EV->EV->EV->Aa->R)(ih3_:EV->EV->EV->EV->EV->EV->EV->Aa->R)(v2 v5 v8 v11 v67 v68 v104:EV)(h:Aa):R:=
 Bp v5 fun v109=>
 Ao 7 v109 fun v110=>
 Aq v110 h fun v111=>
 Aj (Hu K v111 v104 h) fun v113 h=>
 Cy 0 v113 fun v114=>
 Cy 1 v113 fun v115=>
 Uj 3 1 v11 v104 fun v118=>
 Aq v118 h fun v119=>
 Ar Jr (bin TT .neq 3) v115 v119 fun v120=>
 An (Au v120 false)
 (Ar Jg (bin TT .eql 3) v114 v115 fun v124=>
 Hd c r K ih1_ ih3_ v2 v5 v8 v11 v104 v114 v67 v68 v104 v120 v124 h)
 (Hd c r K ih1_ ih3_ v2 v5 v8 v11 v104 v114 v67 v68 v104 v120 (.tuple []) h)
def Bq(c r:Ac)(K:Nat)(ih1_:EV->EV->EV->EV->EV->Aa->R):Nat->EV->EV->EV->EV->EV->EV->EV->Aa->R
 | 0=>fun _ _ _ _ _ _ _ _=>none
 | m+1=>fun v2 v5 v8 v11 v67 v68 v104 h=>
  Ar G4 (bin TT .lss 3) v104 (.int .i64 3) fun v105=>
  Et v105
  (Ls c r K ih1_ (Bq c r K ih1_ m) v2 v5 v8 v11 v67 v68 v104 h)
  (Cv c r K ih1_ v2 v5 v8 v67 v68 h)
def Kq(c r:Ac)(K:Nat)(ih1_:EV->EV->EV->EV->EV->Aa->R)(v2 v5 v8 v11 v67 v68:EV)(h:Aa):R:=
 Bq c r K ih1_ K v2 v5 v8 v11 v67 v68 (.int .i64 0) h
def G7(c r:Ac)(K:Nat)(ih1_:EV->EV->EV->EV->EV->Aa->R)(v2 v5 v8 v11 v67 v68 v100 v102:EV)(h:Aa):R:=
 B2 v100 (.bool true) v102 fun v103=>
 Et v103
 (some ((.bool false),h))
 (Kq c r K ih1_ v2 v5 v8 v11 v67 v68 h)
def Eu(c r:Ac)(K:Nat)(ih1_:EV->EV->EV->EV->EV->Aa->R)(v2 v5 v8 v10 v11 v67 v68:EV)(h:Aa):R:=
 Bp v5 fun v88=>
 Ao 7 v88 fun v89=>
 Aq v89 h fun v90=>
 Ar Hh (bin TT .add 3) v10 (.int .i64 1) fun v92=>
 C4 (Gg [(0,1),(1,1),(2,1),(3,1)]) [(.int .i64 0),(.int .i64 0),(.int .i64 0),.Da] [(0,v92),(1,(.int .i64 1)),(2,(.int .i64 1)),(3,v8)] fun v94=>
 Aj (c 18 [v90,v94] h) fun v95 h=>
 Cy 0 v95 fun v96=>
 Cy 1 v95 fun v97=>
 Ar Jr (bin TT .neq 3) v96 (.int .i64 3) fun v99=>
 An (Au v99 false)
 (Ar Jr (bin TT .neq 28) v97 (.int .i64 0) fun v102=>
 G7 c r K ih1_ v2 v5 v8 v11 v67 v68 v99 v102 h)
 (G7 c r K ih1_ v2 v5 v8 v11 v67 v68 v99 (.tuple []) h)
def Kh(c r:Ac)(K:Nat)(ih1_:EV->EV->EV->EV->EV->Aa->R)(ih14_:EV->EV->EV->EV->EV->EV->EV->EV->Aa->R)(v2 v5 v8 v10 v11 v67 v68 v71:EV)(h:Aa):R:=
 Ar Hh (bin TT .add 3) v71 (.int .i64 1) fun v85=>
 ih14_ v2 v5 v8 v10 v11 v67 v68 v85 h
def Ks(c r:Ac)(K:Nat)(ih1_:EV->EV->EV->EV->EV->Aa->R)(ih14_:EV->EV->EV->EV->EV->EV->EV->EV->Aa->R)(v2 v5 v8 v10 v11 v67 v68 v71:EV)(h:Aa):R:=
 Bp v5 fun v77=>
 Ao 7 v77 fun v78=>
 Aq v78 h fun v79=>
 Aj (Hu K v79 v71 h) fun v81 h=>
 Cy 0 v81 fun v82=>
 Cy 1 v81 fun v83=>
 Uj 3 1 v11 v71 fun v84=>
 Jq 1 v84 v82 h fun h=>
 Kh c r K ih1_ ih14_ v2 v5 v8 v10 v11 v67 v68 v71 h
def By(c r:Ac)(K:Nat)(ih1_:EV->EV->EV->EV->EV->Aa->R):Nat->EV->EV->EV->EV->EV->EV->EV->EV->Aa->R
 | 0=>fun _ _ _ _ _ _ _ _ _=>none
 | m+1=>fun v2 v5 v8 v10 v11 v67 v68 v71 h=>
  Ar G4 (bin TT .lss 3) v71 (.int .i64 3) fun v72=>
  Et v72
  (Ks c r K ih1_ (By c r K ih1_ m) v2 v5 v8 v10 v11 v67 v68 v71 h)
  (Eu c r K ih1_ v2 v5 v8 v10 v11 v67 v68 h)
def Kr(c r:Ac)(K:Nat)(ih1_:EV->EV->EV->EV->EV->Aa->R)(v2 v5 v8 v67 v68:EV)(h:Aa):R:=
 J6 (.cells [(.int .i64 0),(.int .i64 0),(.int .i64 0)] 43) h fun v11 h=>
 By c r K ih1_ K v2 v5 v8 v68 v11 v67 v68 (.int .i64 0) h
def Bj(c r:Ac)(K:Nat):Nat->EV->EV->EV->EV->EV->Aa->R
 | 0=>fun _ _ _ _ _ _=>none
 | m+1=>fun v2 v5 v8 v67 v68 h=>
  Ar G4 (bin TT .lss 3) v68 v67 fun v69=>
  Et v69
  (Kr c r K (Bj c r K m) v2 v5 v8 v67 v68 h)
  (Ds c r K h)
def Kj(c r:Ac)(K:Nat)(v1 v2 v5 v8:EV)(h:Aa):R:=
 Bj c r K K v2 v5 v8 v1 (.int .i64 0) h
def Ex(c r:Ac)(K:Nat)(v1 v2 v5:EV)(h:Aa):R:=
 Cm 6 v2 h fun v61=>
 Aj (Z0 K v61 h) fun v62 h=>
 Cy 0 v62 fun v63=>
 Cy 1 v62 fun v64=>
 Ar Jr (bin TT .neq 28) v64 (.int .i64 0) fun v66=>
 Et v66
 (some ((.bool false),h))
 (Kj c r K v1 v2 v5 v63 h)
def Kg(c r:Ac)(K:Nat)(ih22_:EV->EV->EV->EV->Aa->R)(v1 v2 v5 v35:EV)(h:Aa):R:=
 Ar Hh (bin TT .add 3) v35 (.int .i64 1) fun v59=>
 ih22_ v1 v2 v5 v59 h
def Ku(c r:Ac)(K:Nat)(ih22_:EV->EV->EV->EV->Aa->R)(v1 v2 v5 v35:EV)(h:Aa):R:=
 Gf h fun base s=>
 Bp v5 fun v39=>
 Ao 7 v39 fun v40=>
 Bm 3 7 base v40 s fun s=>Aq v40 h fun v41=>
 Ao 1 v2 fun v44=>
 Bm 7 64 base v44 s fun s=>Aq v44 h fun v45=>
 Ar Q4 (bin TT .mul 3) v35 v45 fun v46=>
 Ct 9 511 s h (fun h=>(Md K v41 v35 (.int .i64 (-1)) v46 h)) fun v47 h s=>
 Gf h fun base s=>
 Bp v5 fun v49=>
 Ao 6 v49 fun v50=>
 Bm 3 7 base v50 s fun s=>Aq v50 h fun v51=>
 Ct 4 15 s h (fun h=>(D4 K v51 h)) fun v52 h s=>
 Ao 1 v2 fun v54=>
 Bm 7 64 base v54 s fun s=>Aq v54 h fun v55=>
 Ar Q4 (bin TT .mul 3) v35 v55 fun v56=>
 Ar Hh (bin TT .add 3) v56 (.int .i64 1) fun v57=>
 Ct 10 1023 s h (fun h=>(c 15 [v52,v57] h)) fun v58 h s=>
 Kg c r K ih22_ v1 v2 v5 v35 h
def Bz(c r:Ac)(K:Nat):Nat->EV->EV->EV->EV->Aa->R
 | 0=>fun _ _ _ _ _=>none
 | m+1=>fun v1 v2 v5 v35 h=>
  Ar G4 (bin TT .lss 3) v35 (.int .i64 3) fun v36=>
  Et v36
  (Ku c r K (Bz c r K m) v1 v2 v5 v35 h)
  (Ex c r K v1 v2 v5 h)
def Kx(c r:Ac)(K:Nat)(v1 v2 v5:EV)(h:Aa):R:=
 Bz c r K K v1 v2 v5 (.int .i64 0) h
def Ew(c r:Ac)(K:Nat)(v1 v2 v5 v31 v33:EV)(h:Aa):R:=
 B2 v31 (.bool true) v33 fun v34=>
 Et v34
 (some ((.bool true),h))
 (Kx c r K v1 v2 v5 h)
def Ez(c r:Ac)(K:Nat)(v1 v2 v5 v27 v29:EV)(h:Aa):R:=
 B2 v27 (.bool true) v29 fun v30=>
 An (Au v30 false)
 (Ar Y8 (bin TT .gtr 3) v1 (.int .i64 12) fun v33=>
 Ew c r K v1 v2 v5 v30 v33 h)
 (Ew c r K v1 v2 v5 v30 (.tuple []) h)
def Kn(c r:Ac)(K:Nat)(v1 v2:EV)(h:Aa):R:=
 Cm 6 v2 h fun v21=>
 Aj (Fm K v21 h) fun v22 h=>
 Cy 0 v22 fun v23=>
 Cy 1 v22 fun v24=>
 Mp v24 fun v26=>
 An (Au v26 false)
 (Ar G4 (bin TT .lss 3) v1 (.int .i64 0) fun v29=>
 Ez c r K v1 v2 v23 v26 v29 h)
 (Ez c r K v1 v2 v23 v26 (.tuple []) h)
def Iy(c r:Ac)(K:Nat)(v0 v1:EV)(h:Aa):R:=
 Dx 23 v0 h fun v2 h=>
 Aj (c 11 [] h) fun v18 h=>
 Mp v18 fun v19=>
 Et v19
 (some ((.bool false),h))
 (Kn c r K v1 v2 h)
abbrev Fs(K:Nat)(c:Ac):Ac:=(w2 17 (Hu K) (w1 16 (Z0 K) (w4 13 (Md K) (w1 14 (D4 K) (w1 12 (Fm K) c)))))
theorem Ps(c r:Ac)(K:Nat)(ih1_:EV->EV->EV->EV->EV->Aa->R)(m:Nat):G9 (fun ih=>F7 TT (Fs K c) c r K (nOf TT 3) (E1 TT 3) (Pt TT 3 [true,true,true,true,true,true,true,false,true,false,false,true,true,false,false,true,true,true,true,true,true,false]) [(6,fun ρ h=>Cv c r K ih1_ (ρ 2) (ρ 5) (ρ 8) (ρ 67) (ρ 68) h),(3,fun ρ h=>Cv c r K ih1_ (ρ 2) (ρ 5) (ρ 8) (ρ 67) (ρ 68) h),(2,fun ρ h=>Ds c r K h)] ih) m=fun ρ h=>Bq c r K ih1_ m (ρ 2) (ρ 5) (ρ 8) (ρ 11) (ρ 67) (ρ 68) (ρ 104) h:=
 Cw (E:=fun m ρ h=>Bq c r K ih1_ m (ρ 2) (ρ 5) (ρ 8) (ρ 11) (ρ 67) (ρ 68) (ρ 104) h) rfl (fun m=>P6 fun ρ h=>by
  show _=Bq c r K ih1_ (m+1) (ρ 2) (ρ 5) (ρ 8) (ρ 11) (ρ 67) (ρ 68) (ρ 104) h
  rw[Bq];kernel_rfl) m
theorem P7(c r:Ac)(K:Nat)(ih1_:EV->EV->EV->EV->EV->Aa->R)(m:Nat):G9 (fun ih=>F7 TT (Fs K c) c r K (nOf TT 3) (E1 TT 3) (Pt TT 3 [true,true,true,true,true,true,true,false,true,false,false,true,true,false,false,true,true,false,true,false]) [(4,fun ρ h=>Eu c r K ih1_ (ρ 2) (ρ 5) (ρ 8) (ρ 10) (ρ 11) (ρ 67) (ρ 68) h),(3,fun ρ h=>Cv c r K ih1_ (ρ 2) (ρ 5) (ρ 8) (ρ 67) (ρ 68) h),(2,fun ρ h=>Ds c r K h)] ih) m=fun ρ h=>By c r K ih1_ m (ρ 2) (ρ 5) (ρ 8) (ρ 10) (ρ 11) (ρ 67) (ρ 68) (ρ 71) h:=
 Cw (E:=fun m ρ h=>By c r K ih1_ m (ρ 2) (ρ 5) (ρ 8) (ρ 10) (ρ 11) (ρ 67) (ρ 68) (ρ 71) h) rfl (fun m=>P6 fun ρ h=>by
  show _=By c r K ih1_ (m+1) (ρ 2) (ρ 5) (ρ 8) (ρ 10) (ρ 11) (ρ 67) (ρ 68) (ρ 71) h
  rw[By];kernel_rfl) m
theorem P5(c r:Ac)(K:Nat)(m:Nat):G9 (fun ih=>F7 TT (Fs K c) c r K (nOf TT 3) (E1 TT 3) (Pt TT 3 [true,true,true,true,true,true,true,false,true,false]) [(2,fun ρ h=>Ds c r K h)] ih) m=fun ρ h=>Bj c r K m (ρ 2) (ρ 5) (ρ 8) (ρ 67) (ρ 68) h:=
 A4q (E:=fun m ρ h=>Bj c r K m (ρ 2) (ρ 5) (ρ 8) (ρ 67) (ρ 68) h) rfl (fun m=>(cut [true,true,false,false,true,true,true,true,true,true,false] (Ps c r K (Bj c r K m) K) (by kernel_rfl) (by kernel_rfl) (cut [true,true,false,false,true,true,false,true,false] (P7 c r K (Bj c r K m) K) (by kernel_rfl) (by kernel_rfl) rfl))) (fun m=>P6 fun ρ h=>by
  show _=Bj c r K (m+1) (ρ 2) (ρ 5) (ρ 8) (ρ 67) (ρ 68) h
  rw[Bj];kernel_rfl) m
theorem Pz(c r:Ac)(K:Nat)(m:Nat):G9 (fun ih=>F7 TT (Fs K c) c r K (nOf TT 3) (E1 TT 3) (Pt TT 3 [true,true,true,true,false,true,false]) [(0,fun ρ h=>Ex c r K (ρ 1) (ρ 2) (ρ 5) h)] ih) m=fun ρ h=>Bz c r K m (ρ 1) (ρ 2) (ρ 5) (ρ 35) h:=
 Cw (E:=fun m ρ h=>Bz c r K m (ρ 1) (ρ 2) (ρ 5) (ρ 35) h) rfl (fun m=>P6 fun ρ h=>by
  show _=Bz c r K (m+1) (ρ 1) (ρ 2) (ρ 5) (ρ 35) h
  rw[Bz];kernel_rfl) m
theorem Ru(H:Ap disp)(hd:6<=d)(v0 v1:EV)(h:Aa):Ad TT disp K (d+1) false 3 [v0,v1] h=Iy (Ad TT disp K d false) (Ad TT disp K d true) K v0 v1 h:=
 Vl (H.bare (by kernel_rfl)) (by kernel_rfl) (W2 (Zm H (lq hd rfl)) (W1 (Ao4 H (lq hd rfl)) (W4 (Ad0 H (lq hd rfl)) (W1 (Pb H (lq hd rfl)) (W1 (Tx H (lq hd rfl)) rfl))))) (cut [true,true,true,true,true,true,true,false,true,false] (P5 (Ad TT disp K d false) (Ad TT disp K d true) K K) (by kernel_rfl) (by kernel_rfl) (cut [true,true,true,true,false,true,false] (Pz (Ad TT disp K d false) (Ad TT disp K d true) K K) (by kernel_rfl) (by kernel_rfl) rfl)) (by kernel_rfl)
end
end Go.Ev
