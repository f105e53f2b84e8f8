import Derived.Test.YtpkcfamminlmaaaGreatDb
set_option linter.unusedVariables false
set_option linter.unusedSimpArgs false
set_option linter.unusedSectionVars false
namespace Go.Ev
open Go.Proofs
set_option maxRecDepth 100000
set_option maxHeartbeats 4000000
noncomputable section
variable {disp:Nat->Option FT}{K d:Nat}
def Lo(K:Nat)(v0:EV)(h:Aa):R:=
 Bp v0 fun v3=>
 Ao 4 v3 fun v4=>
 Jq 1 v4 (.bool true) h fun h=>
 some (.tuple [],h)
theorem Yy(H:Ap disp)(hd:1<=d)(v0:EV)(h:Aa):Ad TT disp K d false 39 [v0] h=Lo K v0 h:=
 Cp (H.bare (by kernel_rfl)) hd (by kernel_rfl) (fun d hd=>rfl) (fun d c r=>rfl) (fun d c r=>by kernel_rfl)
def J0(K:Nat)(v0 v1:EV)(h:Aa):R:=
 Dx 36 v0 h fun v2 h=>
 Dx 37 v1 h fun v3 h=>
 J6 (.cells ([.Af]++List.replicate 3 (.int .i64 0)++[(.bool false)]++List.replicate 2 .Af++List.replicate 8 (.int .i64 0)++List.replicate 2 .Af++List.replicate 3 (.int .i64 0)) 42) h fun v4 h=>
 Cm 7 v2 h fun v5=>
 Cm 6 v3 h fun v6=>
 Ao 0 v3 fun v7=>
 Aq v7 h fun v8=>
 Ao 1 v3 fun v9=>
 Aq v9 h fun v10=>
 C4 (Gg [(0,1),(1,1),(2,1)]) [(.int .i64 0),(.int .i64 0),.Af] [(0,v8),(1,v10)] fun v11=>
 C4 (Gg [(0,7),(7,6),(13,3),(16,1),(17,1),(18,1),(19,1)]) ([.Af]++List.replicate 3 (.int .i64 0)++[(.bool false)]++List.replicate 2 .Af++List.replicate 8 (.int .i64 0)++List.replicate 2 .Af++List.replicate 3 (.int .i64 0)) [(0,v5),(1,v6),(2,v11),(4,(.int .i64 (-1))),(5,(.int .i64 (-1)))] fun v12=>
 Jq 20 v4 v12 h fun h=>
 Jh TT [.c v4 42] h
theorem Xt(H:Ap disp)(hd:1<=d)(v0 v1:EV)(h:Aa):Ad TT disp K d false 54 [v0,v1] h=J0 K v0 v1 h:=
 Cp (H.bare (by kernel_rfl)) hd (by kernel_rfl) (fun d hd=>rfl) (fun d c r=>rfl) (fun d c r=>by kernel_rfl)
def Ld(K:Nat)(v6 v7:EV)(h:Aa):R:=
 Cm 5 v7 h fun v23=>
 Jq 5 v6 v23 h fun h=>
 Jh TT [.c v6 33] h
def Pk(K:Nat)(ih1_:EV->EV->EV->EV->Aa->R)(v0 v6 v7 v8:EV)(h:Aa):R:=
 Ar Hh (bin TT .add 3) v8 (.int .i64 1) fun v16=>
 ih1_ v0 v6 v7 v16 h
def Pq(K:Nat)(ih1_:EV->EV->EV->EV->Aa->R)(v0 v6 v7 v8:EV)(h:Aa):R:=
 Ao 0 v7 fun v17=>
 Aq v17 h fun v18=>
 C4 (Gg [(0,1),(1,1),(2,1),(3,1)]) [.Af,(.int .i64 0),(.int .i64 0),(.bool false)] [] fun v19=>
 Aj (B4 [.Af,(.int .i64 0),(.int .i64 0),(.bool false)] 215 4 1 [(0,v19)] h) fun v20 h=>
 Aj (C8 215 4 v18 v20 h) fun v21 h=>
 Ao 0 v7 fun v22=>
 Jq 1 v22 v21 h fun h=>
 Pk K ih1_ v0 v6 v7 v8 h
def C0(K:Nat):Nat->EV->EV->EV->EV->Aa->R
 | 0=>fun _ _ _ _ _=>none
 | m+1=>fun v0 v6 v7 v8 h=>
  Ar G4 (bin TT .lss 3) v8 v0 fun v14=>
  Et v14
  (Pq K (C0 K m) v0 v6 v7 v8 h)
  (Ld K v6 v7 h)
def J5(K:Nat)(v0 v1 v2:EV)(h:Aa):R:=
 J6 (.cells [.Af,(.int .i64 0),(.int .i64 0),(.int .i64 0),(.bool false)] 33) h fun v6 h=>
 C4 (Gg [(0,1),(1,1),(2,1),(3,1),(4,1)]) [.Af,(.int .i64 0),(.int .i64 0),(.int .i64 0),(.bool false)] [(1,v1),(2,v2)] fun v11=>
 J6 (.cells [.Af,(.int .i64 0),(.int .i64 0),(.int .i64 0),(.bool false)] 33) h fun v7 h=>
 Jq 5 v7 v11 h fun h=>
 C0 K K v0 v6 v7 (.int .i64 0) h
abbrev Abb(K:Nat)(c:Ac):Ac:=c
theorem Wm(c c' r:Ac)(K:Nat)(m:Nat):G9 (fun ih=>F7 TT (Abb K c) c' r K (nOf TT 55) (E1 TT 55) (Pt TT 55 [true,true,false,true,false]) [(0,fun ρ h=>Ld K (ρ 6) (ρ 7) h)] ih) m=fun ρ h=>C0 K m (ρ 0) (ρ 6) (ρ 7) (ρ 8) h:=
 Cw (E:=fun m ρ h=>C0 K m (ρ 0) (ρ 6) (ρ 7) (ρ 8) h) rfl (fun m=>P6 fun ρ h=>by
  show _=C0 K (m+1) (ρ 0) (ρ 6) (ρ 7) (ρ 8) h
  rw[C0];kernel_rfl) m
theorem W6(H:Ap disp)(hd:1<=d)(v0 v1 v2:EV)(h:Aa):Ad TT disp K d false 55 [v0,v1,v2] h=J5 K v0 v1 v2 h:=
 Cp (H.bare (by kernel_rfl)) hd (by kernel_rfl) (fun d hd=>rfl) (fun d c r=>(cut [true,true,false,true,false] (Wm (Ad TT disp K d false) c r K K) (by kernel_rfl) (by kernel_rfl) rfl)) (fun d c r=>by kernel_rfl)
def Ka(K:Nat)(v7 v14:EV)(h:Aa):R:=
 B2 v7 v14 (.bool false) fun v15=>
 some (v15,h)
def F1(K:Nat)(v0 v1:EV)(h:Aa):R:=
 Ar Wa (bin TT .geq 3) v1 (.int .i64 0) fun v6=>
 An (Au v6 true)
 (Bp v0 fun v10=>
 Ao 0 v10 fun v11=>
 Aq v11 h fun v12=>
 I4 v12 fun v13=>
 Ar G4 (bin TT .lss 3) v1 v13 fun v14=>
 Ka K v6 v14 h)
 (Ka K v6 (.tuple []) h)
theorem Jc(H:Ap disp)(hd:1<=d)(v0 v1:EV)(h:Aa):Ad TT disp K d false 85 [v0,v1] h=F1 K v0 v1 h:=
 Cp (H.bare (by kernel_rfl)) hd (by kernel_rfl) (fun d hd=>rfl) (fun d c r=>rfl) (fun d c r=>by kernel_rfl)
def B7(K:Nat)(v0:EV)(h:Aa):R:=
 Bp v0 fun v4=>
 Ao 3 v4 fun v5=>
 Aq v5 h fun v6=>
 some (v6,h)
theorem Fw(H:Ap disp)(hd:1<=d)(v0:EV)(h:Aa):Ad TT disp K d false 86 [v0] h=B7 K v0 h:=
 Cp (H.bare (by kernel_rfl)) hd (by kernel_rfl) (fun d hd=>rfl) (fun d c r=>rfl) (fun d c r=>by kernel_rfl)
def Ra(K:Nat)(ih0_:EV->EV->EV->Aa->R)(v0 v1 v6:EV)(h:Aa):R:=
 Ar Hh (bin TT .add 3) v6 (.int .i64 1) fun v16=>
 ih0_ v0 v1 v16 h
def Qr(K:Nat)(ih0_:EV->EV->EV->Aa->R)(v0 v1 v6:EV)(h:Aa):R:=
 Bp v0 fun v18=>
 Ao 3 v18 fun v19=>
 Aq v19 h fun v20=>
 C4 (Gg [(0,1),(1,1)]) [(.int .i64 0),(.int .i64 0)] [(0,v1),(1,v6)] fun v23=>
 Aj (builtin TT .delete #[164,243] [v20,v23] h) fun _ h=>
 Ra K ih0_ v0 v1 v6 h
def De(K:Nat):Nat->EV->EV->EV->Aa->R
 | 0=>fun _ _ _ _=>none
 | m+1=>fun v0 v1 v6 h=>
  Bp v0 fun v10=>
  Ao 0 v10 fun v11=>
  Aq v11 h fun v12=>
  Aj (Hs K v12 h) fun v13 h=>
  Ar G4 (bin TT .lss 3) v6 v13 fun v14=>
  Et v14
  (Qr K (De K m) v0 v1 v6 h)
  (some (.tuple [],h))
def O0(K:Nat)(v0 v1 v2:EV)(h:Aa):R:=
 De K K v0 v1 v2 h
abbrev Acj(K:Nat)(c:Ac):Ac:=(w1 75 (Hs K) c)
theorem Wv(c c' r:Ac)(K:Nat)(m:Nat):G9 (fun ih=>F7 TT (Acj K c) c' r K (nOf TT 88) (E1 TT 88) (Pt TT 88 [true,false]) [(0,E1 TT 88)] ih) m=fun ρ h=>De K m (ρ 0) (ρ 1) (ρ 6) h:=
 Cw (E:=fun m ρ h=>De K m (ρ 0) (ρ 1) (ρ 6) h) rfl (fun m=>P6 fun ρ h=>by
  show _=De K (m+1) (ρ 0) (ρ 1) (ρ 6) h
  rw[De];kernel_rfl) m
theorem Y3(H:Ap disp)(hd:2<=d)(v0 v1 v2:EV)(h:Aa):Ad TT disp K d false 88 [v0,v1,v2] h=O0 K v0 v1 v2 h:=
 Cp (H.bare (by kernel_rfl)) hd (by kernel_rfl) (fun d hd=>(W1 (Q9 H (lq hd rfl)) rfl)) (fun d c r=>(cut [true,false] (Wv (Ad TT disp K d false) c r K K) (by kernel_rfl) (by kernel_rfl) rfl)) (fun d c r=>by kernel_rfl)
def Jk(K:Nat)(v0:EV)(h:Aa):R:=
 Bp v0 fun v4=>
 Ao 4 v4 fun v5=>
 Aq v5 h fun v6=>
 some (v6,h)
theorem Zu(H:Ap disp)(hd:1<=d)(v0:EV)(h:Aa):Ad TT disp K d false 166 [v0] h=Jk K v0 h:=
 Cp (H.bare (by kernel_rfl)) hd (by kernel_rfl) (fun d hd=>rfl) (fun d c r=>rfl) (fun d c r=>by kernel_rfl)
def Io(K:Nat)(v0:EV)(h:Aa):R:=
 Bp v0 fun v4=>
 Ao 3 v4 fun v5=>
 Aq v5 h fun v6=>
 some (v6,h)
theorem Y6(H:Ap disp)(hd:1<=d)(v0:EV)(h:Aa):Ad TT disp K d false 167 [v0] h=Io K v0 h:=
 Cp (H.bare (by kernel_rfl)) hd (by kernel_rfl) (fun d hd=>rfl) (fun d c r=>rfl) (fun d c r=>by kernel_rfl)
def Ef(K:Nat)(v0:EV)(h:Aa):R:=
 Aj (B4 (List.replicate 4 (.int .i64 0)++List.replicate 64 (.int .u8 0)) 105 68 0 [] h) fun v5 h=>
 Aj (C8 105 68 v5 v0 h) fun v7 h=>
 some (v7,h)
def B1(K:Nat)(v0:EV)(h:Aa):R:=
 Ar Jg (bin TT .eql 101) v0 .Af fun v4=>
 Et v4
 (some (.Af,h))
 (Ef K v0 h)
theorem Lu(H:Ap disp)(hd:1<=d)(v0:EV)(h:Aa):Ad TT disp K d false 168 [v0] h=B1 K v0 h:=
 Cp (H.bare (by kernel_rfl)) hd (by kernel_rfl) (fun d hd=>rfl) (fun d c r=>rfl) (fun d c r=>by kernel_rfl)
def Di(K:Nat)(v0:EV)(h:Aa):R:=
 Bp v0 fun v4=>
 Ao 0 v4 fun v5=>
 Aq v5 h fun v6=>
 I4 v6 fun v7=>
 Bp v0 fun v8=>
 Ao 2 v8 fun v9=>
 Jq 1 v9 v7 h fun h=>
 some (.tuple [],h)
theorem On(H:Ap disp)(hd:1<=d)(v0:EV)(h:Aa):Ad TT disp K d false 170 [v0] h=Di K v0 h:=
 Cp (H.bare (by kernel_rfl)) hd (by kernel_rfl) (fun d hd=>rfl) (fun d c r=>rfl) (fun d c r=>by kernel_rfl)
def Ns(K:Nat)(v0 v1:EV)(h:Aa):R:=
 Bp v0 fun v6=>
 Ao 0 v6 fun v7=>
 Aq v7 h fun v8=>
 Aj (C8 5 1 v8 v1 h) fun v10 h=>
 Bp v0 fun v11=>
 Ao 0 v11 fun v12=>
 Jq 1 v12 v10 h fun h=>
 some (.tuple [],h)
theorem Ace(H:Ap disp)(hd:1<=d)(v0 v1:EV)(h:Aa):Ad TT disp K d false 174 [v0,v1] h=Ns K v0 v1 h:=
 Cp (H.bare (by kernel_rfl)) hd (by kernel_rfl) (fun d hd=>rfl) (fun d c r=>rfl) (fun d c r=>by kernel_rfl)
def Wi(K:Nat)(v0:EV)(h:Aa):R:=
 Aj (B4 [(.int .u8 0)] 5 1 0 [] h) fun v8 h=>
 Bp v0 fun v10=>
 Ao 0 v10 fun v11=>
 Aq v11 h fun v12=>
 Aj (C8 5 1 v8 v12 h) fun v13 h=>
 some (.tuple [v13,(.int .i64 0)],h)
def Kz(K:Nat)(v0:EV)(h:Aa):R:=
 Bp v0 fun v5=>
 Ao 1 v5 fun v6=>
 Aq v6 h fun v7=>
 Et v7
 (some (.tuple [.Af,(.int .i64 13)],h))
 (Wi K v0 h)
theorem U6(H:Ap disp)(hd:1<=d)(v0:EV)(h:Aa):Ad TT disp K d false 175 [v0] h=Kz K v0 h:=
 Cp (H.bare (by kernel_rfl)) hd (by kernel_rfl) (fun d hd=>rfl) (fun d c r=>rfl) (fun d c r=>by kernel_rfl)
def Np(K:Nat)(v10 v13:EV)(h:Aa):R:=
 B2 v10 v13 (.bool false) fun v14=>
 some (v14,h)
def It(K:Nat)(v0 v1 v2:EV)(h:Aa):R:=
 Ar Wa (bin TT .geq 3) v0 v1 fun v9=>
 An (Au v9 true)
 (Ar Ad9 (bin TT .leq 3) v0 v2 fun v13=>
 Np K v9 v13 h)
 (Np K v9 (.tuple []) h)
theorem Agt(H:Ap disp)(hd:1<=d)(v0 v1 v2:EV)(h:Aa):Ad TT disp K d false 176 [v0,v1,v2] h=It K v0 v1 v2 h:=
 Cp (H.bare (by kernel_rfl)) hd (by kernel_rfl) (fun d hd=>rfl) (fun d c r=>rfl) (fun d c r=>by kernel_rfl)
def Lx(K:Nat)(v0 v1 v2:EV)(h:Aa):R:=
 Dx 72 v0 h fun v3 h=>
 Ng (bin TT .shr 70) v1 (.int .u64 8) fun v8=>
 Pn .u8 v1 fun v10=>
 Ng (bin TT .xor 5) v10 v2 fun v12=>
 Uj 256 1 v3 v12 fun v13=>
 Aq v13 h fun v14=>
 Ng (bin TT .xor 70) v8 v14 fun v15=>
 some (v15,h)
theorem Ady(H:Ap disp)(hd:1<=d)(v0 v1 v2:EV)(h:Aa):Ad TT disp K d false 178 [v0,v1,v2] h=Lx K v0 v1 v2 h:=
 Cp (H.bare (by kernel_rfl)) hd (by kernel_rfl) (fun d hd=>rfl) (fun d c r=>rfl) (fun d c r=>by kernel_rfl)
def Jd(c r:Ac)(K:Nat)(v0 v6 v13:EV)(h:Aa):R:=
 B2 v6 v13 (.bool false) fun v14=>
 Et v14
 (Aj (c 118 [v0] h) fun v16 h=>
 some (.tuple [],h))
 (some (.tuple [],h))
def Vx(c r:Ac)(K:Nat)(v0 v1:EV)(h:Aa):R:=
 Ar Wa (bin TT .geq 3) v1 (.int .i64 0) fun v5=>
 An (Au v5 true)
 (Bp v0 fun v9=>
 Ao 0 v9 fun v10=>
 Aq v10 h fun v11=>
 Aj (Ih K v11 h) fun v12 h=>
 Ar G4 (bin TT .lss 3) v1 v12 fun v13=>
 Jd c r K v0 v5 v13 h)
 (Jd c r K v0 v5 (.tuple []) h)
theorem Z4(H:Ap disp)(hd:1<=d)(v0 v1:EV)(h:Aa):Ad TT disp K (d+1) false 179 [v0,v1] h=Vx (Ad TT disp K d false) (Ad TT disp K d true) K v0 v1 h:=
 Vl (H.bare (by kernel_rfl)) (by kernel_rfl) (W1 (Pl H (lq hd rfl)) rfl) rfl (by kernel_rfl)
def No(K:Nat)(v5 v7:EV)(h:Aa):R:=
 B2 v5 v7 (.bool false) fun v8=>
 some (v8,h)
def Pc(K:Nat)(v0:EV)(h:Aa):R:=
 Ar Wa (bin TT .geq 3) v0 (.int .i64 1) fun v4=>
 An (Au v4 true)
 (Ar Ad9 (bin TT .leq 3) v0 (.int .i64 7) fun v7=>
 No K v4 v7 h)
 (No K v4 (.tuple []) h)
theorem Agk(H:Ap disp)(hd:1<=d)(v0:EV)(h:Aa):Ad TT disp K d false 209 [v0] h=Pc K v0 h:=
 Cp (H.bare (by kernel_rfl)) hd (by kernel_rfl) (fun d hd=>rfl) (fun d c r=>rfl) (fun d c r=>by kernel_rfl)
def Z5(K:Nat)(v3:EV)(h:Aa):R:=
 some (v3,h)
def Lw(K:Nat)(v3 v13 v15:EV)(h:Aa):R:=
 B2 v13 (.bool true) v15 fun v16=>
 Et v16
 (some ((.int .i64 8),h))
 (Z5 K v3 h)
def Ma(K:Nat)(v0 v3:EV)(h:Aa):R:=
 Ar G4 (bin TT .lss 3) v0 (.int .i64 0) fun v12=>
 An (Au v12 false)
 (Ar Y8 (bin TT .gtr 3) v3 (.int .i64 7) fun v15=>
 Lw K v3 v12 v15 h)
 (Lw K v3 v12 (.tuple []) h)
def Aav(K:Nat)(ih3_:EV->EV->Aa->R)(v0 v3:EV)(h:Aa):R:=
 Ng (bin TT .shr 3) v0 (.int .u64 8) fun v8=>
 Ar Hh (bin TT .add 3) v3 (.int .i64 1) fun v10=>
 ih3_ v8 v10 h
def Er(K:Nat):Nat->EV->EV->Aa->R
 | 0=>fun _ _ _=>none
 | m+1=>fun v0 v3 h=>
  Ng (bin TT .shr 3) v0 (.int .u64 8) fun v5=>
  Ar Y8 (bin TT .gtr 3) v5 (.int .i64 0) fun v6=>
  Et v6
  (Aav K (Er K m) v0 v3 h)
  (Ma K v0 v3 h)
def L7(K:Nat)(v0:EV)(h:Aa):R:=
 Er K K v0 (.int .i64 1) h
abbrev Alm(K:Nat)(c:Ac):Ac:=c
theorem Agu(c c' r:Ac)(K:Nat)(m:Nat):G9 (fun ih=>F7 TT (Alm K c) c' r K (nOf TT 210) (E1 TT 210) (Pt TT 210 [true,true,false,false]) [(0,fun ρ h=>Ma K (ρ 0) (ρ 3) h)] ih) m=fun ρ h=>Er K m (ρ 0) (ρ 3) h:=
 Cw (E:=fun m ρ h=>Er K m (ρ 0) (ρ 3) h) rfl (fun m=>P6 fun ρ h=>by
  show _=Er K (m+1) (ρ 0) (ρ 3) h
  rw[Er];kernel_rfl) m
theorem Aia(H:Ap disp)(hd:1<=d)(v0:EV)(h:Aa):Ad TT disp K d false 210 [v0] h=L7 K v0 h:=
 Cp (H.bare (by kernel_rfl)) hd (by kernel_rfl) (fun d hd=>rfl) (fun d c r=>(cut [true,true,false,false] (Agu (Ad TT disp K d false) c r K K) (by kernel_rfl) (by kernel_rfl) rfl)) (fun d c r=>by kernel_rfl)
def Qx(K:Nat)(v0:EV)(h:Aa):R:=
 Bp v0 fun v16=>
 Ao 3 v16 fun v17=>
 Aq v17 h fun v18=>
 Ar Hh (bin TT .add 3) v18 (.int .i64 1) fun v19=>
 Bp v0 fun v20=>
 Ao 3 v20 fun v21=>
 Jq 1 v21 v19 h fun h=>
 some ((.int .i64 0),h)
def Gz(K:Nat)(v0 v1:EV)(h:Aa):R:=
 Bp v0 fun v7=>
 Ao 4 v7 fun v8=>
 Aq v8 h fun v9=>
 Et v9
 (some ((.int .i64 34),h))
 (Aj (F1 K v0 v1 h) fun v13 h=>
 Mp v13 fun v14=>
 Et v14
 (some ((.int .i64 13),h))
 (Qx K v0 h))
theorem Lc(H:Ap disp)(hd:2<=d)(v0 v1:EV)(h:Aa):Ad TT disp K d false 212 [v0,v1] h=Gz K v0 v1 h:=
 Cp (H.bare (by kernel_rfl)) hd (by kernel_rfl) (fun d hd=>(W2 (Jc H (lq hd rfl)) rfl)) (fun d c r=>rfl) (fun d c r=>by kernel_rfl)
def Le(K:Nat)(v3:EV)(h:Aa):R:=
 some (v3,h)
def H7(K:Nat)(ih1_:EV->EV->EV->EV->Aa->R)(v3 v9 v10 v11:EV)(h:Aa):R:=
 Ar Hh (bin TT .add 3) v11 (.int .i64 1) fun v20=>
 ih1_ v3 v9 v10 v20 h
def Pp(K:Nat)(ih1_:EV->EV->EV->EV->Aa->R)(v3 v9 v10 v11:EV)(h:Aa):R:=
 I5 1 v9 v11 fun v13=>
 Aq v13 h fun v14=>
 Aj (B7 K v14 h) fun v16 h=>
 Ar Jg (bin TT .eql 3) v16 (.int .i64 1) fun v17=>
 Et v17
 (Ar Hh (bin TT .add 3) v3 (.int .i64 1) fun v19=>
 H7 K ih1_ v19 v9 v10 v11 h)
 (H7 K ih1_ v3 v9 v10 v11 h)
def Cz(K:Nat):Nat->EV->EV->EV->EV->Aa->R
 | 0=>fun _ _ _ _ _=>none
 | m+1=>fun v3 v9 v10 v11 h=>
  Ar G4 (bin TT .lss 3) v11 v10 fun v12=>
  Et v12
  (Pp K (Cz K m) v3 v9 v10 v11 h)
  (Le K v3 h)
def Jy(K:Nat)(v0:EV)(h:Aa):R:=
 Bp v0 fun v7=>
 Ao 0 v7 fun v8=>
 Aq v8 h fun v9=>
 I4 v9 fun v10=>
 Cz K K (.int .i64 0) v9 v10 (.int .i64 0) h
abbrev Abe(K:Nat)(c:Ac):Ac:=(w1 86 (B7 K) c)
theorem V1(c c' r:Ac)(K:Nat)(m:Nat):G9 (fun ih=>F7 TT (Abe K c) c' r K (nOf TT 222) (E1 TT 222) (Pt TT 222 [true,true,false,true,false]) [(0,fun ρ h=>Le K (ρ 3) h)] ih) m=fun ρ h=>Cz K m (ρ 3) (ρ 9) (ρ 10) (ρ 11) h:=
 Cw (E:=fun m ρ h=>Cz K m (ρ 3) (ρ 9) (ρ 10) (ρ 11) h) rfl (fun m=>P6 fun ρ h=>by
  show _=Cz K (m+1) (ρ 3) (ρ 9) (ρ 10) (ρ 11) h
  rw[Cz];kernel_rfl) m
theorem Wx(H:Ap disp)(hd:2<=d)(v0:EV)(h:Aa):Ad TT disp K d false 222 [v0] h=Jy K v0 h:=
 Cp (H.bare (by kernel_rfl)) hd (by kernel_rfl) (fun d hd=>(W1 (Fw H (lq hd rfl)) rfl)) (fun d c r=>(cut [true,true,false,true,false] (V1 (Ad TT disp K d false) c r K K) (by kernel_rfl) (by kernel_rfl) rfl)) (fun d c r=>by kernel_rfl)
def Rj(c r:Ac)(K:Nat)(v0 v1 v2 v7:EV)(h:Aa):R:=
 Bp v0 fun v14=>
 Ao 0 v14 fun v15=>
 Aq v15 h fun v16=>
 I5 1 v16 v1 fun v18=>
 Aq v18 h fun v19=>
 Aj (c 238 [v19,v2,(.func 239 [] [v7])] h) fun v22 h=>
 some (v22,h)
def Uy(c r:Ac)(K:Nat)(v0 v1 v2 v3:EV)(h:Aa):R:=
 Dx 103 v3 h fun v7 h=>
 Aj (F1 K v0 v1 h) fun v11 h=>
 Mp v11 fun v12=>
 Et v12
 (some ((.int .i64 13),h))
 (Rj c r K v0 v1 v2 v7 h)
theorem Yx(H:Ap disp)(hd:1<=d)(v0 v1 v2 v3:EV)(h:Aa):Ad TT disp K (d+1) false 225 [v0,v1,v2,v3] h=Uy (Ad TT disp K d false) (Ad TT disp K d true) K v0 v1 v2 v3 h:=
 Vl (H.bare (by kernel_rfl)) (by kernel_rfl) (W2 (Jc H (lq hd rfl)) rfl) rfl (by kernel_rfl)
def M8(K:Nat)(v2 v4:EV)(h:Aa):R:=
 Cm 64 v2 h fun v18=>
 Jq 64 v4 v18 h fun h=>
 Jh TT [.c v4 103] h
def Sp(K:Nat)(ih1_:EV->EV->EV->EV->Aa->R)(v2 v3 v4 v6:EV)(h:Aa):R:=
 Ar Hh (bin TT .add 3) v6 (.int .i64 1) fun v17=>
 ih1_ v2 v3 v4 v17 h
def R3(K:Nat)(ih1_:EV->EV->EV->EV->Aa->R)(v2 v3 v4 v6:EV)(h:Aa):R:=
 Gf h fun base s=>
 Uj 64 1 v2 v6 fun v10=>
 Bm 2 3 base v10 s fun s=>Aq v10 h fun v11=>
 Uj 64 1 v3 v6 fun v13=>
 Bm 5 24 base v13 s fun s=>Aq v13 h fun v14=>
 Ng (bin TT .xor 5) v11 v14 fun v15=>
 Uj 64 1 v2 v6 fun v16=>
 Afl 8 255 v16 s fun s=>Jq 1 v16 v15 h fun h=>
 Sp K ih1_ v2 v3 v4 v6 h
def Dn(K:Nat):Nat->EV->EV->EV->EV->Aa->R
 | 0=>fun _ _ _ _ _=>none
 | m+1=>fun v2 v3 v4 v6 h=>
  Ar G4 (bin TT .lss 3) v6 (.int .i64 64) fun v7=>
  Et v7
  (R3 K (Dn K m) v2 v3 v4 v6 h)
  (M8 K v2 v4 h)
def Jp(K:Nat)(v0 v1:EV)(h:Aa):R:=
 Dx 103 v0 h fun v2 h=>
 Dx 103 v1 h fun v3 h=>
 J6 (.cells (List.replicate 64 (.int .u8 0)) 103) h fun v4 h=>
 Dn K K v2 v3 v4 (.int .i64 0) h
abbrev Adx(K:Nat)(c:Ac):Ac:=c
theorem Y1(c c' r:Ac)(K:Nat)(m:Nat):G9 (fun ih=>F7 TT (Adx K c) c' r K (nOf TT 226) (E1 TT 226) (Pt TT 226 [true,false,true,false]) [(0,fun ρ h=>M8 K (ρ 2) (ρ 4) h)] ih) m=fun ρ h=>Dn K m (ρ 2) (ρ 3) (ρ 4) (ρ 6) h:=
 Cw (E:=fun m ρ h=>Dn K m (ρ 2) (ρ 3) (ρ 4) (ρ 6) h) rfl (fun m=>P6 fun ρ h=>by
  show _=Dn K (m+1) (ρ 2) (ρ 3) (ρ 4) (ρ 6) h
  rw[Dn];kernel_rfl) m
theorem Qq(H:Ap disp)(hd:1<=d)(v0 v1:EV)(h:Aa):Ad TT disp K d false 226 [v0,v1] h=Jp K v0 v1 h:=
 Cp (H.bare (by kernel_rfl)) hd (by kernel_rfl) (fun d hd=>rfl) (fun d c r=>(cut [true,false,true,false] (Y1 (Ad TT disp K d false) c r K K) (by kernel_rfl) (by kernel_rfl) rfl)) (fun d c r=>by kernel_rfl)
def Ce(K:Nat)(v0 v1 v6 v15:EV)(h:Aa):R:=
 B2 v6 (.bool true) v15 fun v16=>
 Et v16
 (Bp v0 fun v19=>
 Ao 3 v19 fun v20=>
 Jq 1 v20 v1 h fun h=>
 some (.tuple [],h))
 (some (.tuple [],h))
def Cd(K:Nat)(v0 v1 v6 v9 v14:EV)(h:Aa):R:=
 An (Au v6 false)
 (B2 v9 v14 (.bool false) fun v15=>
 Ce K v0 v1 v6 v15 h)
 (Ce K v0 v1 v6 (.tuple []) h)
def C5(K:Nat)(v0 v1 v6 v9:EV)(h:Aa):R:=
 An (Au v9 true)
 (Bp v0 fun v11=>
 Ao 3 v11 fun v12=>
 Aq v12 h fun v13=>
 Ar Jr (bin TT .neq 3) v13 (.int .i64 4) fun v14=>
 Cd K v0 v1 v6 v9 v14 h)
 (Cd K v0 v1 v6 v9 (.tuple []) h)
def E9(K:Nat)(v0 v1:EV)(h:Aa):R:=
 Ar Jg (bin TT .eql 3) v1 (.int .i64 4) fun v5=>
 An (Au v5 false)
 (Ar Jg (bin TT .eql 3) v1 (.int .i64 3) fun v8=>
 C5 K v0 v1 v5 v8 h)
 (C5 K v0 v1 v5 (.tuple []) h)
theorem Pg(H:Ap disp)(hd:1<=d)(v0 v1:EV)(h:Aa):Ad TT disp K d false 227 [v0,v1] h=E9 K v0 v1 h:=
 Cp (H.bare (by kernel_rfl)) hd (by kernel_rfl) (fun d hd=>rfl) (fun d c r=>rfl) (fun d c r=>by kernel_rfl)
def Is(K:Nat)(h:Aa):R:=
 some ((.int .i64 0),h)
def Ci(K:Nat)(v0:EV)(h:Aa):R:=
 Bp v0 fun v4=>
 Ao 3 v4 fun v5=>
 Aq v5 h fun v6=>
 Ar Jg (bin TT .eql 3) v6 (.int .i64 4) fun v8=>
 Et v8
 (some ((.int .i64 32),h))
 (Ar Jg (bin TT .eql 3) v6 (.int .i64 3) fun v10=>
 Et v10
 (some ((.int .i64 30),h))
 (Is K h))
theorem Fc(H:Ap disp)(hd:1<=d)(v0:EV)(h:Aa):Ad TT disp K d false 237 [v0] h=Ci K v0 h:=
 Cp (H.bare (by kernel_rfl)) hd (by kernel_rfl) (fun d hd=>rfl) (fun d c r=>rfl) (fun d c r=>by kernel_rfl)
def Ig(c r:Ac)(K:Nat)(v0 v1 v2:EV)(h:Aa):R:=
 Gf h fun base s=>
 Bp v0 fun v19=>
 Ao 0 v19 fun v20=>
 Bm 3 7 base v20 s fun s=>Aq v20 h fun v21=>
 Bp v0 fun v25=>
 Ao 0 v25 fun v26=>
 Bm 9 448 base v26 s fun s=>Aq v26 h fun v27=>
 I5 64 v27 v1 fun v29=>
 Bm 12 4032 base v29 s fun s=>Cm 64 v29 h fun v30=>
 Ct 13 8160 s h (fun h=>(Uq c r v2 [v30] h)) fun v31 h s=>
 I5 64 v21 v1 fun v32=>
 Afl 15 32767 v32 s fun s=>Jq 64 v32 v31 h fun h=>
 some ((.int .i64 0),h)
def Cr(c r:Ac)(K:Nat)(v0 v1 v2 v9 v16:EV)(h:Aa):R:=
 B2 v9 (.bool true) v16 fun v17=>
 Et v17
 (some ((.int .i64 31),h))
 (Ig c r K v0 v1 v2 h)
def Gv(c r:Ac)(K:Nat)(v0 v1 v2:EV)(h:Aa):R:=
 Ar G4 (bin TT .lss 3) v1 (.int .i64 0) fun v8=>
 An (Au v8 false)
 (Bp v0 fun v12=>
 Ao 0 v12 fun v13=>
 Aq v13 h fun v14=>
 I4 v14 fun v15=>
 Ar Wa (bin TT .geq 3) v1 v15 fun v16=>
 Cr c r K v0 v1 v2 v8 v16 h)
 (Cr c r K v0 v1 v2 v8 (.tuple []) h)
theorem Od(H:Ap disp)(hd:0<=d)(v0 v1 v2:EV)(h:Aa):Ad TT disp K (d+1) false 238 [v0,v1,v2] h=Gv (Ad TT disp K d false) (Ad TT disp K d true) K v0 v1 v2 h:=
 Vl (H.bare (by kernel_rfl)) (by kernel_rfl) rfl rfl (by kernel_rfl)
def Sq(K:Nat)(v0 v1:EV)(h:Aa):R:=
 Dx 103 v0 h fun v2 h=>
 J6 (.cells (List.replicate 64 (.int .u8 0)) 103) h fun v3 h=>
 Cm 64 v2 h fun v4=>
 Cm 64 v1 h fun v5=>
 Aj (Jp K v4 v5 h) fun v6 h=>
 Jq 64 v3 v6 h fun h=>
 Jh TT [.c v3 103] h
theorem Wc(H:Ap disp)(hd:2<=d)(v0 v1:EV)(h:Aa):Ad TT disp K d false 239 [v0,v1] h=Sq K v0 v1 h:=
 Cp (H.bare (by kernel_rfl)) hd (by kernel_rfl) (fun d hd=>(W2 (Qq H (lq hd rfl)) rfl)) (fun d c r=>rfl) (fun d c r=>by kernel_rfl)
def Q5(K:Nat)(v0 v1:EV)(h:Aa):R:=
 Bp v0 fun v10=>
 Ao 0 v10 fun v11=>
 Aq v11 h fun v12=>
 I5 1 v12 v1 fun v14=>
 Aq v14 h fun v15=>
 Aj (B7 K v15 h) fun v16 h=>
 some (v16,h)
def Fp(K:Nat)(v0 v1:EV)(h:Aa):R:=
 Aj (F1 K v0 v1 h) fun v7 h=>
 Mp v7 fun v8=>
 Et v8
 (some ((.int .i64 4),h))
 (Q5 K v0 v1 h)
theorem Ph(H:Ap disp)(hd:2<=d)(v0 v1:EV)(h:Aa):Ad TT disp K d false 37 [v0,v1] h=Fp K v0 v1 h:=
 Cp (H.bare (by kernel_rfl)) hd (by kernel_rfl) (fun d hd=>(W2 (Jc H (lq hd rfl)) (W1 (Fw H (lq hd rfl)) rfl))) (fun d c r=>rfl) (fun d c r=>by kernel_rfl)
def Uz(c r:Ac)(K:Nat)(ih0_:EV->Aa->R)(v0:EV)(h:Aa):R:=
 Bp v0 fun v33=>
 Ao 1 v33 fun v34=>
 Aq v34 h fun v35=>
 I5 68 v35 (.int .i64 0) fun v36=>
 Cm 68 v36 h fun v37=>
 J6 (.cells (List.replicate 4 (.int .i64 0)++List.replicate 64 (.int .u8 0)) 105) h fun v2 h=>
 Jq 68 v2 v37 h fun h=>
 Bp v0 fun v40=>
 Ao 1 v40 fun v41=>
 Aq v41 h fun v42=>
 Ao0 68 v42 (some (.int .i64 1)) none none fun v43=>
 Aj (B1 K v43 h) fun v44 h=>
 Bp v0 fun v45=>
 Ao 1 v45 fun v46=>
 Jq 1 v46 v44 h fun h=>
 Cm 68 v2 h fun v48=>
 Aj (c 169 [v0,v48] h) fun v49 h=>
 ih0_ v0 h
def G2(c r:Ac)(K:Nat)(ih0_:EV->Aa->R)(base:Nat)(s:DX)(v0 v17 v30:EV)(h:Aa):R:=
 B2 v17 v30 (.bool false) fun v31=>
 Et v31
 (Uz c r K ih0_ v0 h)
 (some (.tuple [],h))
def Ip(c r:Ac)(K:Nat)(ih0_:EV->Aa->R)(base:Nat)(s:DX)(v0 v9 v15:EV)(h:Aa):R:=
 B2 v9 v15 (.bool false) fun v16=>
 An (Au v16 true)
 (Bp v0 fun v19=>
 Ao 1 v19 fun v20=>
 Bm 18 262143 base v20 s fun s=>Aq v20 h fun v21=>
 I5 68 v21 (.int .i64 0) fun v22=>
 Ao 0 v22 fun v23=>
 Bm 21 2097151 base v23 s fun s=>Aq v23 h fun v24=>
 Bp v0 fun v26=>
 Ao 0 v26 fun v27=>
 Bm 25 29392895 base v27 s fun s=>Aq v27 h fun v28=>
 Ct 26 62947327 s h (fun h=>(Io K v28 h)) fun v29 h s=>
 Ar Ad9 (bin TT .leq 3) v24 v29 fun v30=>
 G2 c r K ih0_ base s v0 v16 v30 h)
 (G2 c r K ih0_ base s v0 v16 (.tuple []) h)
def Du(c r:Ac)(K:Nat):Nat->EV->Aa->R
 | 0=>fun _ _=>none
 | m+1=>fun v0 h=>
  Gf h fun base s=>
  Bp v0 fun v4=>
  Ao 0 v4 fun v5=>
  Bm 3 7 base v5 s fun s=>Aq v5 h fun v6=>
  Ct 4 15 s h (fun h=>(Jk K v6 h)) fun v7 h s=>
  Mp v7 fun v8=>
  An (Au v8 true)
  (Bp v0 fun v11=>
  Ao 1 v11 fun v12=>
  Bm 10 1023 base v12 s fun s=>Aq v12 h fun v13=>
  I4 v13 fun v14=>
  Ar Y8 (bin TT .gtr 3) v14 (.int .i64 0) fun v15=>
  Ip c r K (Du c r K m) base s v0 v8 v15 h)
  (Ip c r K (Du c r K m) base s v0 v8 (.tuple []) h)
def Aj5(c r:Ac)(K:Nat)(v0:EV)(h:Aa):R:=
 Du c r K K v0 h
abbrev Aga(K:Nat)(c:Ac):Ac:=(w1 168 (B1 K) (w1 167 (Io K) (w1 166 (Jk K) c)))
theorem Acd(c r:Ac)(K:Nat)(m:Nat):G9 (fun ih=>F7 TT (Aga K c) c r K (nOf TT 118) (E1 TT 118) (Pt TT 118 [false]) [(0,E1 TT 118)] ih) m=fun ρ h=>Du c r K m (ρ 0) h:=
 Cw (E:=fun m ρ h=>Du c r K m (ρ 0) h) rfl (fun m=>P6 fun ρ h=>by
  show _=Du c r K (m+1) (ρ 0) h
  rw[Du];kernel_rfl) m
theorem Ac9(H:Ap disp)(hd:1<=d)(v0:EV)(h:Aa):Ad TT disp K (d+1) false 118 [v0] h=Aj5 (Ad TT disp K d false) (Ad TT disp K d true) K v0 h:=
 Vl (H.bare (by kernel_rfl)) (by kernel_rfl) (W1 (Lu H (lq hd rfl)) (W1 (Y6 H (lq hd rfl)) (W1 (Zu H (lq hd rfl)) rfl))) (cut [false] (Acd (Ad TT disp K d false) (Ad TT disp K d true) K K) (by kernel_rfl) (by kernel_rfl) rfl) (by kernel_rfl)
def Ly(K:Nat)(h:Aa):R:=
 some ((.int .i64 0),h)
def Rf(K:Nat)(ih1_:EV->EV->EV->Aa->R)(v19 v20 v21:EV)(h:Aa):R:=
 Ar Hh (bin TT .add 3) v21 (.int .i64 1) fun v27=>
 ih1_ v19 v20 v27 h
def Rh(K:Nat)(ih1_:EV->EV->EV->Aa->R)(v19 v20 v21:EV)(h:Aa):R:=
 I5 1 v19 v21 fun v23=>
 Aq v23 h fun v24=>
 Aj (Di K v24 h) fun v26 h=>
 Rf K ih1_ v19 v20 v21 h
def Dd(K:Nat):Nat->EV->EV->EV->Aa->R
 | 0=>fun _ _ _ _=>none
 | m+1=>fun v19 v20 v21 h=>
  Ar G4 (bin TT .lss 3) v21 v20 fun v22=>
  Et v22
  (Rh K (Dd K m) v19 v20 v21 h)
  (Ly K h)
def Q0(K:Nat)(v0:EV)(h:Aa):R:=
 Bp v0 fun v10=>
 Ao 3 v10 fun v11=>
 Aq v11 h fun v12=>
 Ar Hh (bin TT .add 3) v12 (.int .i64 1) fun v13=>
 Bp v0 fun v14=>
 Ao 3 v14 fun v15=>
 Jq 1 v15 v13 h fun h=>
 Bp v0 fun v17=>
 Ao 0 v17 fun v18=>
 Aq v18 h fun v19=>
 I4 v19 fun v20=>
 Dd K K v19 v20 (.int .i64 0) h
def Ll(K:Nat)(v0:EV)(h:Aa):R:=
 Bp v0 fun v6=>
 Ao 4 v6 fun v7=>
 Aq v7 h fun v8=>
 Et v8
 (some ((.int .i64 34),h))
 (Q0 K v0 h)
abbrev Acg(K:Nat)(c:Ac):Ac:=(w1 170 (Di K) c)
theorem W8(c c' r:Ac)(K:Nat)(m:Nat):G9 (fun ih=>F7 TT (Acg K c) c' r K (nOf TT 119) (E1 TT 119) (Pt TT 119 [true,true,true,false,true,false]) [(0,fun ρ h=>Ly K h)] ih) m=fun ρ h=>Dd K m (ρ 19) (ρ 20) (ρ 21) h:=
 Cw (E:=fun m ρ h=>Dd K m (ρ 19) (ρ 20) (ρ 21) h) rfl (fun m=>P6 fun ρ h=>by
  show _=Dd K (m+1) (ρ 19) (ρ 20) (ρ 21) h
  rw[Dd];kernel_rfl) m
theorem Yz(H:Ap disp)(hd:2<=d)(v0:EV)(h:Aa):Ad TT disp K d false 119 [v0] h=Ll K v0 h:=
 Cp (H.bare (by kernel_rfl)) hd (by kernel_rfl) (fun d hd=>(W1 (On H (lq hd rfl)) rfl)) (fun d c r=>(cut [true,true,true,false,true,false] (W8 (Ad TT disp K d false) c r K K) (by kernel_rfl) (by kernel_rfl) rfl)) (fun d c r=>by kernel_rfl)
def D5(K:Nat)(v21 v24:EV)(h:Aa):R:=
 B2 v21 v24 (.bool false) fun v25=>
 some (v25,h)
def E6(K:Nat)(v1 v16 v19:EV)(h:Aa):R:=
 B2 v16 v19 (.bool false) fun v20=>
 An (Au v20 true)
 (Ao 4 v1 fun v22=>
 Aq v22 h fun v23=>
 Aj (It K v23 (.int .i64 0) (.int .i64 281474976710655) h) fun v24 h=>
 D5 K v20 v24 h)
 (D5 K v20 (.tuple []) h)
def Gp(K:Nat)(v1 v11 v14:EV)(h:Aa):R:=
 B2 v11 v14 (.bool false) fun v15=>
 An (Au v15 true)
 (Ao 3 v1 fun v17=>
 Aq v17 h fun v18=>
 Aj (It K v18 (.int .i64 1) (.int .i64 4294967295) h) fun v19 h=>
 E6 K v1 v15 v19 h)
 (E6 K v1 v15 (.tuple []) h)
def Ij(K:Nat)(v1 v6 v9:EV)(h:Aa):R:=
 B2 v6 v9 (.bool false) fun v10=>
 An (Au v10 true)
 (Ao 2 v1 fun v12=>
 Aq v12 h fun v13=>
 Aj (It K v13 (.int .i64 0) (.int .i64 65535) h) fun v14 h=>
 Gp K v1 v10 v14 h)
 (Gp K v1 v10 (.tuple []) h)
def Lr(K:Nat)(v0:EV)(h:Aa):R:=
 Dx 120 v0 h fun v1 h=>
 Ao 0 v1 fun v3=>
 Aq v3 h fun v4=>
 Aj (It K v4 (.int .i64 1) (.int .i64 5) h) fun v5 h=>
 An (Au v5 true)
 (Ao 1 v1 fun v7=>
 Aq v7 h fun v8=>
 Aj (It K v8 (.int .i64 0) (.int .i64 65535) h) fun v9 h=>
 Ij K v1 v5 v9 h)
 (Ij K v1 v5 (.tuple []) h)
theorem Za(H:Ap disp)(hd:2<=d)(v0:EV)(h:Aa):Ad TT disp K d false 129 [v0] h=Lr K v0 h:=
 Cp (H.bare (by kernel_rfl)) hd (by kernel_rfl) (fun d hd=>(W3 (Agt H (lq hd rfl)) rfl)) (fun d c r=>rfl) (fun d c r=>by kernel_rfl)
def Ox(K:Nat)(v1:EV)(h:Aa):R:=
 some (v1,h)
def Va(K:Nat)(ih1_:EV->EV->EV->EV->EV->Aa->R)(v0 v1 v9 v10 v11:EV)(h:Aa):R:=
 Ar Hh (bin TT .add 3) v11 (.int .i64 1) fun v21=>
 ih1_ v0 v1 v9 v10 v21 h
def Us(K:Nat)(ih1_:EV->EV->EV->EV->EV->Aa->R)(v0 v1 v9 v10 v11:EV)(h:Aa):R:=
 I5 1 v9 v11 fun v13=>
 Aq v13 h fun v14=>
 Bp v0 fun v16=>
 Cm 256 v16 h fun v17=>
 Aj (Lx K v17 v1 v14 h) fun v20 h=>
 Va K ih1_ v0 v20 v9 v10 v11 h
def Eo(K:Nat):Nat->EV->EV->EV->EV->EV->Aa->R
 | 0=>fun _ _ _ _ _ _=>none
 | m+1=>fun v0 v1 v9 v10 v11 h=>
  Ar G4 (bin TT .lss 3) v11 v10 fun v12=>
  Et v12
  (Us K (Eo K m) v0 v1 v9 v10 v11 h)
  (Ox K v1 h)
def T9(K:Nat)(v0 v1 v2:EV)(h:Aa):R:=
 I4 v2 fun v10=>
 Eo K K v0 v1 v2 v10 (.int .i64 0) h
abbrev Agd(K:Nat)(c:Ac):Ac:=(w3 178 (Lx K) c)
theorem Ab6(c c' r:Ac)(K:Nat)(m:Nat):G9 (fun ih=>F7 TT (Agd K c) c' r K (nOf TT 132) (E1 TT 132) (Pt TT 132 [true,false,true,false]) [(0,fun ρ h=>Ox K (ρ 1) h)] ih) m=fun ρ h=>Eo K m (ρ 0) (ρ 1) (ρ 9) (ρ 10) (ρ 11) h:=
 Cw (E:=fun m ρ h=>Eo K m (ρ 0) (ρ 1) (ρ 9) (ρ 10) (ρ 11) h) rfl (fun m=>P6 fun ρ h=>by
  show _=Eo K (m+1) (ρ 0) (ρ 1) (ρ 9) (ρ 10) (ρ 11) h
  rw[Eo];kernel_rfl) m
theorem Ac6(H:Ap disp)(hd:2<=d)(v0 v1 v2:EV)(h:Aa):Ad TT disp K d false 132 [v0,v1,v2] h=T9 K v0 v1 v2 h:=
 Cp (H.bare (by kernel_rfl)) hd (by kernel_rfl) (fun d hd=>(W3 (Ady H (lq hd rfl)) rfl)) (fun d c r=>(cut [true,false,true,false] (Ab6 (Ad TT disp K d false) c r K K) (by kernel_rfl) (by kernel_rfl) rfl)) (fun d c r=>by kernel_rfl)
def P0(K:Nat)(ih0_:EV->EV->EV->EV->Aa->R)(v0 v2 v18 v19:EV)(h:Aa):R:=
 Ar Hh (bin TT .add 3) v19 (.int .i64 1) fun v34=>
 ih0_ v0 v2 v18 v34 h
def Qf(K:Nat)(ih0_:EV->EV->EV->EV->Aa->R)(v0 v2 v18 v19:EV)(h:Aa):R:=
 Bp v0 fun v23=>
 Ao 0 v23 fun v24=>
 Aq v24 h fun v25=>
 Pn .u8 v2 fun v27=>
 Aj (B4 [(.int .u8 0)] 5 1 1 [(0,v27)] h) fun v28 h=>
 Aj (C8 5 1 v25 v28 h) fun v29 h=>
 Bp v0 fun v30=>
 Ao 0 v30 fun v31=>
 Jq 1 v31 v29 h fun h=>
 Ng (bin TT .shr 3) v2 (.int .u64 8) fun v33=>
 P0 K ih0_ v0 v33 v18 v19 h
def Dk(K:Nat):Nat->EV->EV->EV->EV->Aa->R
 | 0=>fun _ _ _ _ _=>none
 | m+1=>fun v0 v2 v18 v19 h=>
  Ar G4 (bin TT .lss 3) v19 v18 fun v20=>
  Et v20
  (Qf K (Dk K m) v0 v2 v18 v19 h)
  (some (.tuple [],h))
def P8(K:Nat)(v0 v1 v2:EV)(h:Aa):R:=
 Dk K K v0 v2 v1 (.int .i64 0) h
def Hr(K:Nat)(v0 v1 v2 v9 v13:EV)(h:Aa):R:=
 B2 v9 (.bool true) v13 fun v14=>
 Et v14
 (Bp v0 fun v16=>
 Ao 1 v16 fun v17=>
 Jq 1 v17 (.bool true) h fun h=>
 some (.tuple [],h))
 (P8 K v0 v1 v2 h)
def Bb(K:Nat)(v0 v1 v2:EV)(h:Aa):R:=
 Aj (Pc K v1 h) fun v7 h=>
 Mp v7 fun v8=>
 An (Au v8 false)
 (Aj (L7 K v2 h) fun v11 h=>
 Ar Y8 (bin TT .gtr 3) v11 v1 fun v13=>
 Hr K v0 v1 v2 v8 v13 h)
 (Hr K v0 v1 v2 v8 (.tuple []) h)
abbrev Ah9(K:Nat)(c:Ac):Ac:=(w1 209 (Pc K) (w1 210 (L7 K) c))
theorem Ad2(c c' r:Ac)(K:Nat)(m:Nat):G9 (fun ih=>F7 TT (Ah9 K c) c' r K (nOf TT 173) (E1 TT 173) (Pt TT 173 [true,true,false]) [(0,E1 TT 173)] ih) m=fun ρ h=>Dk K m (ρ 0) (ρ 2) (ρ 18) (ρ 19) h:=
 Cw (E:=fun m ρ h=>Dk K m (ρ 0) (ρ 2) (ρ 18) (ρ 19) h) rfl (fun m=>P6 fun ρ h=>by
  show _=Dk K (m+1) (ρ 0) (ρ 2) (ρ 18) (ρ 19) h
  rw[Dk];kernel_rfl) m
theorem Lj(H:Ap disp)(hd:2<=d)(v0 v1 v2:EV)(h:Aa):Ad TT disp K d false 173 [v0,v1,v2] h=Bb K v0 v1 v2 h:=
 Cp (H.bare (by kernel_rfl)) hd (by kernel_rfl) (fun d hd=>(W1 (Agk H (lq hd rfl)) (W1 (Aia H (lq hd rfl)) rfl))) (fun d c r=>(cut [true,true,false] (Ad2 (Ad TT disp K d false) c r K K) (by kernel_rfl) (by kernel_rfl) rfl)) (fun d c r=>by kernel_rfl)
def Si(c r:Ac)(K:Nat)(v0 v3:EV)(h:Aa):R:=
 Ao 2 v3 fun v18=>
 Aq v18 h fun v19=>
 Ao 3 v3 fun v20=>
 Aq v20 h fun v21=>
 C4 (Gg [(0,1),(1,1)]) [(.int .i64 0),(.int .i64 0)] [(0,v19),(1,v21)] fun v22=>
 J6 (.cells [(.int .i64 0),(.int .i64 0)] 243) h fun v4 h=>
 Jq 2 v4 v22 h fun h=>
 Gf h fun base s=>
 Bp v0 fun v24=>
 Ao 3 v24 fun v25=>
 Bm 3 7 base v25 s fun s=>Aq v25 h fun v26=>
 Bm 4 0 base v4 s fun s=>Cm 2 v4 h fun v27=>
 Ct 5 31 s h (fun h=>(Afd TT 243 320 false v26 v27 h)) fun v28 h s=>
 Aax 6 h s fun s=>J6 (.cells (List.replicate 64 (.int .u8 0)++[(.int .i64 0)]) 320) h fun v5 h=>
 Afl 7 127 v5 s fun s=>Jq 65 v5 v28 h fun h=>
 Gf h fun base s=>
 Bp v0 fun v30=>
 Ao 3 v30 fun v31=>
 Bm 3 7 base v31 s fun s=>Aq v31 h fun v32=>
 Bm 4 0 base v4 s fun s=>Cm 2 v4 h fun v33=>
 Ao 0 v5 fun v34=>
 Bm 6 32 base v34 s fun s=>Cm 64 v34 h fun v35=>
 Ao 4 v3 fun v36=>
 Bm 8 128 base v36 s fun s=>Cm 64 v36 h fun v37=>
 Ct 9 480 s h (fun h=>(Jp K v35 v37 h)) fun v38 h s=>
 Ao 64 v5 fun v39=>
 Bm 11 1024 base v39 s fun s=>Aq v39 h fun v40=>
 Ar Hh (bin TT .add 3) v40 (.int .i64 1) fun v41=>
 C4 (Gg [(0,64),(64,1)]) (List.replicate 64 (.int .u8 0)++[(.int .i64 0)]) [(0,v38),(1,v41)] fun v42=>
 Ct 14 16383 s h (fun h=>(T2 TT 243 v32 v33 v42 h)) fun _ h s=>
 some (.tuple [],h)
def Wl(c r:Ac)(K:Nat)(v0 v1:EV)(h:Aa):R:=
 Dx 105 v1 h fun v3 h=>
 Gf h fun base s=>
 Bp v0 fun v7=>
 Ao 0 v7 fun v8=>
 Bm 3 7 base v8 s fun s=>Aq v8 h fun v9=>
 Ao 2 v3 fun v10=>
 Bm 5 16 base v10 s fun s=>Aq v10 h fun v11=>
 Ao 3 v3 fun v12=>
 Bm 7 64 base v12 s fun s=>Aq v12 h fun v13=>
 Ao 4 v3 fun v14=>
 Bm 9 256 base v14 s fun s=>Cm 64 v14 h fun v15=>
 Ct 10 1023 s h (fun h=>(c 225 [v9,v11,v13,v15] h)) fun v16 h s=>
 Ar Jr (bin TT .neq 28) v16 (.int .i64 0) fun v17=>
 Et v17
 (some (.tuple [],h))
 (Si c r K v0 v3 h)
theorem Aa9(H:Ap disp)(hd:1<=d)(v0 v1:EV)(h:Aa):Ad TT disp K (d+1) false 205 [v0,v1] h=Wl (Ad TT disp K d false) (Ad TT disp K d true) K v0 v1 h:=
 Vl (H.bare (by kernel_rfl)) (by kernel_rfl) (W2 (Qq H (lq hd rfl)) rfl) rfl (by kernel_rfl)
def R4(K:Nat)(v0 v1 v2:EV)(h:Aa):R:=
 Bp v0 fun v12=>
 Ao 0 v12 fun v13=>
 Aq v13 h fun v14=>
 I5 1 v14 v1 fun v16=>
 Aq v16 h fun v17=>
 Aj (E9 K v17 v2 h) fun v19 h=>
 some ((.int .i64 0),h)
def Hp(K:Nat)(v0 v1 v2:EV)(h:Aa):R:=
 Aj (F1 K v0 v1 h) fun v9 h=>
 Mp v9 fun v10=>
 Et v10
 (some ((.int .i64 13),h))
 (R4 K v0 v1 v2 h)
theorem Zp(H:Ap disp)(hd:2<=d)(v0 v1 v2:EV)(h:Aa):Ad TT disp K d false 206 [v0,v1,v2] h=Hp K v0 v1 v2 h:=
 Cp (H.bare (by kernel_rfl)) hd (by kernel_rfl) (fun d hd=>(W2 (Jc H (lq hd rfl)) (W2 (Pg H (lq hd rfl)) rfl))) (fun d c r=>rfl) (fun d c r=>by kernel_rfl)
def Dr(K:Nat)(v0:EV)(h:Aa):R:=
 Bp v0 fun v44=>
 Ao 0 v44 fun v45=>
 Aq v45 h fun v46=>
 I4 v46 fun v47=>
 Ar Sx (bin TT .sub 3) v47 (.int .i64 1) fun v48=>
 some (.tuple [v48,(.int .i64 0)],h)
def Ir(K:Nat)(v0 v3:EV)(h:Aa):R:=
 Gf h fun base s=>
 Bp v0 fun v19=>
 Ao 0 v19 fun v20=>
 Bm 4 14 base v20 s fun s=>Aq v20 h fun v21=>
 Bm 5 0 base v3 s fun s=>Cm 64 v3 h fun v22=>
 Aax 6 h s fun s=>Aj (B4 (List.replicate 64 (.int .u8 0)) 103 64 1 [(0,v22)] h) fun v23 h=>
 Ct 7 126 s h (fun h=>(C8 103 64 v21 v23 h)) fun v24 h s=>
 Bp v0 fun v25=>
 Ao 0 v25 fun v26=>
 Afl 10 1023 v26 s fun s=>Jq 1 v26 v24 h fun h=>
 Bp v0 fun v28=>
 Ao 3 v28 fun v29=>
 Jq 1 v29 (.int .i64 1) h fun h=>
 Bp v0 fun v31=>
 Ao 0 v31 fun v32=>
 Aq v32 h fun v33=>
 I4 v33 fun v34=>
 Bp v0 fun v36=>
 Ao 1 v36 fun v37=>
 Aq v37 h fun v38=>
 Ar Jg (bin TT .eql 3) v34 v38 fun v39=>
 Et v39
 (Bp v0 fun v41=>
 Ao 3 v41 fun v42=>
 Jq 1 v42 (.int .i64 2) h fun h=>
 Dr K v0 h)
 (Dr K v0 h)
def Fq(K:Nat)(v0 v3:EV)(h:Aa):R:=
 Bp v0 fun v13=>
 Ao 3 v13 fun v14=>
 Aq v14 h fun v15=>
 Ar Jg (bin TT .eql 3) v15 (.int .i64 2) fun v16=>
 Et v16
 (some (.tuple [(.int .i64 0),(.int .i64 17)],h))
 (Ir K v0 v3 h)
def Ch(K:Nat)(v0 v1:EV)(h:Aa):R:=
 Dx 103 v1 h fun v3 h=>
 Aj (Ci K v0 h) fun v8 h=>
 Ar Jr (bin TT .neq 28) v8 (.int .i64 0) fun v10=>
 Et v10
 (some (.tuple [(.int .i64 0),v8],h))
 (Fq K v0 v3 h)
theorem Of(H:Ap disp)(hd:2<=d)(v0 v1:EV)(h:Aa):Ad TT disp K d false 223 [v0,v1] h=Ch K v0 v1 h:=
 Cp (H.bare (by kernel_rfl)) hd (by kernel_rfl) (fun d hd=>(W1 (Fc H (lq hd rfl)) rfl)) (fun d c r=>rfl) (fun d c r=>by kernel_rfl)
def Iu(K:Nat)(v0:EV)(h:Aa):R:=
 Bp v0 fun v11=>
 Ao 3 v11 fun v12=>
 Jq 1 v12 (.int .i64 2) h fun h=>
 Bp v0 fun v13=>
 Ao 4 v13 fun v14=>
 Jq 1 v14 (.bool true) h fun h=>
 some ((.int .i64 0),h)
def Ep(K:Nat)(v0:EV)(h:Aa):R:=
 Aj (Ci K v0 h) fun v5 h=>
 Ar Jr (bin TT .neq 28) v5 (.int .i64 0) fun v7=>
 Et v7
 (some (v5,h))
 (Iu K v0 h)
theorem Oe(H:Ap disp)(hd:2<=d)(v0:EV)(h:Aa):Ad TT disp K d false 224 [v0] h=Ep K v0 h:=
 Cp (H.bare (by kernel_rfl)) hd (by kernel_rfl) (fun d hd=>(W1 (Fc H (lq hd rfl)) rfl)) (fun d c r=>rfl) (fun d c r=>by kernel_rfl)
def Ik(K:Nat)(v12 v20:EV)(h:Aa):R:=
 B2 v12 v20 (.bool false) fun v21=>
 some (v21,h)
def Lp(K:Nat)(v0 v1:EV)(h:Aa):R:=
 Bp v0 fun v6=>
 Ao 1 v6 fun v7=>
 Cm 6 v7 h fun v8=>
 Aj (Hv K v8 v1 h) fun v10 h=>
 Ar Wa (bin TT .geq 3) v10 (.int .i64 0) fun v11=>
 An (Au v11 true)
 (Bp v0 fun v14=>
 Ao 264 v14 fun v15=>
 Aq v15 h fun v16=>
 I5 1 v16 v1 fun v18=>
 Aq v18 h fun v19=>
 Ar Jg (bin TT .eql 3) v19 (.int .i64 1) fun v20=>
 Ik K v11 v20 h)
 (Ik K v11 (.tuple []) h)
theorem Zc(H:Ap disp)(hd:3<=d)(v0 v1:EV)(h:Aa):Ad TT disp K d false 21 [v0,v1] h=Lp K v0 v1 h:=
 Cp (H.bare (by kernel_rfl)) hd (by kernel_rfl) (fun d hd=>(W2 (L0 H (lq hd rfl)) rfl)) (fun d c r=>rfl) (fun d c r=>by kernel_rfl)
def V4(c r:Ac)(K:Nat)(v0:EV)(h:Aa):R:=
 Aj (c 118 [v0] h) fun v4 h=>
 Bp v0 fun v6=>
 Ao 0 v6 fun v7=>
 Aq v7 h fun v8=>
 Aj (Ll K v8 h) fun v9 h=>
 some (v9,h)
theorem Zl(H:Ap disp)(hd:2<=d)(v0:EV)(h:Aa):Ad TT disp K (d+1) false 67 [v0] h=V4 (Ad TT disp K d false) (Ad TT disp K d true) K v0 h:=
 Vl (H.bare (by kernel_rfl)) (by kernel_rfl) (W1 (Yz H (lq hd rfl)) rfl) rfl (by kernel_rfl)
def Qn(K:Nat)(v0 v1:EV)(h:Aa):R:=
 Dx 72 v0 h fun v2 h=>
 Aj (T9 K v2 (.int .u32 4294967295) v1 h) fun v6 h=>
 Ng (bin TT .xor 70) v6 (.int .u32 4294967295) fun v7=>
 some (v7,h)
theorem Afk(H:Ap disp)(hd:3<=d)(v0 v1:EV)(h:Aa):Ad TT disp K d false 82 [v0,v1] h=Qn K v0 v1 h:=
 Cp (H.bare (by kernel_rfl)) hd (by kernel_rfl) (fun d hd=>(W3 (Ac6 H (lq hd rfl)) rfl)) (fun d c r=>rfl) (fun d c r=>by kernel_rfl)
def Hz(K:Nat)(v16 v21:EV)(h:Aa):R:=
 B2 v16 v21 (.bool false) fun v22=>
 some (v22,h)
def Hx(K:Nat)(v2 v3 v9 v14:EV)(h:Aa):R:=
 B2 v9 v14 (.bool false) fun v15=>
 An (Au v15 true)
 (Ao 2 v3 fun v18=>
 Aq v18 h fun v19=>
 Ar Sx (bin TT .sub 3) v19 (.int .i64 1) fun v20=>
 Aj (Gr K v2 (.int .i64 0) v20 h) fun v21 h=>
 Hz K v15 v21 h)
 (Hz K v15 (.tuple []) h)
def Kt(K:Nat)(v0 v1 v2:EV)(h:Aa):R:=
 Dx 23 v0 h fun v3 h=>
 Cm 6 v3 h fun v7=>
 Aj (G6 K v7 h) fun v8 h=>
 An (Au v8 true)
 (Cm 6 v3 h fun v11=>
 Aj (Hm K v11 h) fun v12 h=>
 Ar Sx (bin TT .sub 3) v12 (.int .i64 1) fun v13=>
 Aj (Gr K v1 (.int .i64 0) v13 h) fun v14 h=>
 Hx K v2 v3 v8 v14 h)
 (Hx K v2 v3 v8 (.tuple []) h)
theorem Acb(H:Ap disp)(hd:4<=d)(v0 v1 v2:EV)(h:Aa):Ad TT disp K d false 92 [v0,v1,v2] h=Kt K v0 v1 v2 h:=
 Cp (H.bare (by kernel_rfl)) hd (by kernel_rfl) (fun d hd=>(W1 (M9 H (lq hd rfl)) (W1 (Lq H (lq hd rfl)) (W3 (Yh H (lq hd rfl)) rfl)))) (fun d c r=>rfl) (fun d c r=>by kernel_rfl)
def Ur(c r:Ac)(K:Nat)(v0 v1:EV)(h:Aa):R:=
 Dx 105 v1 h fun v3 h=>
 Gf h fun base s=>
 Bp v0 fun v6=>
 Ao 2 v6 fun v7=>
 Bm 4 14 base v7 s fun s=>Aq v7 h fun v8=>
 Bm 5 0 base v3 s fun s=>Cm 68 v3 h fun v9=>
 Aax 6 h s fun s=>Aj (B4 (List.replicate 4 (.int .i64 0)++List.replicate 64 (.int .u8 0)) 105 68 1 [(0,v9)] h) fun v10 h=>
 Ct 7 126 s h (fun h=>(C8 105 68 v8 v10 h)) fun v11 h s=>
 Bp v0 fun v12=>
 Ao 2 v12 fun v13=>
 Afl 10 1023 v13 s fun s=>Jq 1 v13 v11 h fun h=>
 Ao 1 v3 fun v14=>
 Aq v14 h fun v15=>
 Ar Jg (bin TT .eql 3) v15 (.int .i64 1) fun v17=>
 Et v17
 (Cm 68 v3 h fun v19=>
 Aj (c 205 [v0,v19] h) fun v20 h=>
 some (.tuple [],h))
 (Ar Jg (bin TT .eql 3) v15 (.int .i64 2) fun v22=>
 Et v22
 (Gf h fun base s=>
 Bp v0 fun v24=>
 Ao 0 v24 fun v25=>
 Bm 3 7 base v25 s fun s=>Aq v25 h fun v26=>
 Ao 2 v3 fun v27=>
 Bm 5 16 base v27 s fun s=>Aq v27 h fun v28=>
 Ct 6 63 s h (fun h=>(Hp K v26 v28 (.int .i64 3) h)) fun v29 h s=>
 some (.tuple [],h))
 (Ar Jg (bin TT .eql 3) v15 (.int .i64 3) fun v31=>
 Et v31
 (Gf h fun base s=>
 Bp v0 fun v33=>
 Ao 0 v33 fun v34=>
 Bm 3 7 base v34 s fun s=>Aq v34 h fun v35=>
 Ao 2 v3 fun v36=>
 Bm 5 16 base v36 s fun s=>Aq v36 h fun v37=>
 Ct 6 63 s h (fun h=>(Hp K v35 v37 (.int .i64 4) h)) fun v38 h s=>
 some (.tuple [],h))
 (Ar Jg (bin TT .eql 3) v15 (.int .i64 4) fun v40=>
 Et v40
 (Bp v0 fun v42=>
 Ao 0 v42 fun v43=>
 Aq v43 h fun v44=>
 Aj (Lo K v44 h) fun v45 h=>
 some (.tuple [],h))
 (some (.tuple [],h)))))
theorem Yw(H:Ap disp)(hd:2<=d)(v0 v1:EV)(h:Aa):Ad TT disp K (d+1) false 169 [v0,v1] h=Ur (Ad TT disp K d false) (Ad TT disp K d true) K v0 v1 h:=
 Vl (H.bare (by kernel_rfl)) (by kernel_rfl) (W3 (Zp H (lq hd rfl)) (W1 (Yy H (lq hd rfl)) rfl)) rfl (by kernel_rfl)
def Lg(K:Nat)(v0 v1 v5:EV)(h:Aa):R:=
 Gf h fun base s=>
 Bp v0 fun v34=>
 Ao 0 v34 fun v35=>
 Bm 3 7 base v35 s fun s=>Aq v35 h fun v36=>
 I5 1 v36 v1 fun v38=>
 Bm 6 63 base v38 s fun s=>Aq v38 h fun v39=>
 Bm 7 0 base v5 s fun s=>Cm 64 v5 h fun v40=>
 Ct 8 255 s h (fun h=>(Ch K v39 v40 h)) fun v41 h s=>
 Cy 0 v41 fun v42=>
 Cy 1 v41 fun v43=>
 some (.tuple [v42,v43],h)
def H6(K:Nat)(base:Nat)(s:DX)(v0 v1 v5 v24 v31:EV)(h:Aa):R:=
 B2 v24 v31 (.bool false) fun v32=>
 Et v32
 (some (.tuple [(.int .i64 0),(.int .i64 33)],h))
 (Lg K v0 v1 v5 h)
def Pr(K:Nat)(v0 v1 v5:EV)(h:Aa):R:=
 Gf h fun base s=>
 Bp v0 fun v16=>
 Ao 0 v16 fun v17=>
 Bm 3 7 base v17 s fun s=>Aq v17 h fun v18=>
 I5 1 v18 v1 fun v20=>
 Bm 6 63 base v20 s fun s=>Aq v20 h fun v21=>
 Ct 7 127 s h (fun h=>(B7 K v21 h)) fun v22 h s=>
 Ar Jg (bin TT .eql 3) v22 (.int .i64 0) fun v23=>
 An (Au v23 true)
 (Ct 11 2047 s h (fun h=>(Jy K v0 h)) fun v26 h s=>
 Bp v0 fun v28=>
 Ao 2 v28 fun v29=>
 Bm 15 29695 base v29 s fun s=>Aq v29 h fun v30=>
 Ar Wa (bin TT .geq 3) v26 v30 fun v31=>
 H6 K base s v0 v1 v5 v23 v31 h)
 (H6 K base s v0 v1 v5 v23 (.tuple []) h)
def J2(K:Nat)(v0 v1 v2:EV)(h:Aa):R:=
 Dx 103 v2 h fun v5 h=>
 Aj (Gz K v0 v1 h) fun v11 h=>
 Ar Jr (bin TT .neq 28) v11 (.int .i64 0) fun v13=>
 Et v13
 (some (.tuple [(.int .i64 0),v11],h))
 (Pr K v0 v1 v5 h)
theorem X9(H:Ap disp)(hd:3<=d)(v0 v1 v2:EV)(h:Aa):Ad TT disp K d false 203 [v0,v1,v2] h=J2 K v0 v1 v2 h:=
 Cp (H.bare (by kernel_rfl)) hd (by kernel_rfl) (fun d hd=>(W2 (Lc H (lq hd rfl)) (W2 (Of H (lq hd rfl)) (W1 (Fw H (lq hd rfl)) (W1 (Wx H (lq hd rfl)) rfl))))) (fun d c r=>rfl) (fun d c r=>by kernel_rfl)
def Pj(K:Nat)(v0 v1:EV)(h:Aa):R:=
 Bp v0 fun v13=>
 Ao 0 v13 fun v14=>
 Aq v14 h fun v15=>
 I5 1 v15 v1 fun v17=>
 Aq v17 h fun v18=>
 Aj (Ep K v18 h) fun v19 h=>
 some (v19,h)
def J8(K:Nat)(v0 v1:EV)(h:Aa):R:=
 Aj (Gz K v0 v1 h) fun v8 h=>
 Ar Jr (bin TT .neq 28) v8 (.int .i64 0) fun v10=>
 Et v10
 (some (v8,h))
 (Pj K v0 v1 h)
theorem Xi(H:Ap disp)(hd:3<=d)(v0 v1:EV)(h:Aa):Ad TT disp K d false 204 [v0,v1] h=J8 K v0 v1 h:=
 Cp (H.bare (by kernel_rfl)) hd (by kernel_rfl) (fun d hd=>(W2 (Lc H (lq hd rfl)) (W1 (Oe H (lq hd rfl)) rfl))) (fun d c r=>rfl) (fun d c r=>by kernel_rfl)
def O7(K:Nat)(v0 v1:EV)(h:Aa):R:=
 Dx 72 v0 h fun v2 h=>
 Cm 256 v2 h fun v6=>
 Aj (Qn K v6 v1 h) fun v8 h=>
 Aj (B4 [(.int .u8 0)] 5 1 0 [] h) fun v9 h=>
 Aj (C8 5 1 v9 v1 h) fun v11 h=>
 Pn .u8 v8 fun v13=>
 Ng (bin TT .shr 70) v8 (.int .u64 8) fun v15=>
 Pn .u8 v15 fun v16=>
 Ng (bin TT .shr 70) v8 (.int .u64 16) fun v18=>
 Pn .u8 v18 fun v19=>
 Ng (bin TT .shr 70) v8 (.int .u64 24) fun v21=>
 Pn .u8 v21 fun v22=>
 Aj (B4 [(.int .u8 0)] 5 1 4 [(0,v13),(1,v16),(2,v19),(3,v22)] h) fun v23 h=>
 Aj (C8 5 1 v11 v23 h) fun v24 h=>
 some (v24,h)
theorem Adg(H:Ap disp)(hd:4<=d)(v0 v1:EV)(h:Aa):Ad TT disp K d false 211 [v0,v1] h=O7 K v0 v1 h:=
 Cp (H.bare (by kernel_rfl)) hd (by kernel_rfl) (fun d hd=>(W2 (Afk H (lq hd rfl)) rfl)) (fun d c r=>rfl) (fun d c r=>by kernel_rfl)
def Iw(c r:Ac)(K:Nat)(v8 v9:EV)(h:Aa):R:=
 some (.tuple [v8,v9],h)
def U3(c r:Ac)(K:Nat)(v0 v1 v2:EV)(h:Aa):R:=
 Dx 103 v2 h fun v5 h=>
 Aj (c 179 [v0,v1] h) fun v12 h=>
 Gf h fun base s=>
 Bp v0 fun v15=>
 Ao 0 v15 fun v16=>
 Bm 3 7 base v16 s fun s=>Aq v16 h fun v17=>
 Bm 5 0 base v5 s fun s=>Cm 64 v5 h fun v19=>
 Ct 6 63 s h (fun h=>(J2 K v17 v1 v19 h)) fun v20 h s=>
 Cy 0 v20 fun v21=>
 Cy 1 v20 fun v22=>
 Ar Jg (bin TT .eql 28) v22 (.int .i64 0) fun v24=>
 Et v24
 (Bp v0 fun v26=>
 Ao 3 v26 fun v27=>
 Aq v27 h fun v28=>
 C4 (Gg [(0,1),(1,1)]) [(.int .i64 0),(.int .i64 0)] [(0,v1),(1,v21)] fun v31=>
 Aj (builtin TT .delete #[164,243] [v28,v31] h) fun _ h=>
 Iw c r K v21 v22 h)
 (Iw c r K v21 v22 h)
theorem Zh(H:Ap disp)(hd:3<=d)(v0 v1 v2:EV)(h:Aa):Ad TT disp K (d+1) false 164 [v0,v1,v2] h=U3 (Ad TT disp K d false) (Ad TT disp K d true) K v0 v1 v2 h:=
 Vl (H.bare (by kernel_rfl)) (by kernel_rfl) (W3 (X9 H (lq hd rfl)) rfl) rfl (by kernel_rfl)
def U4(c r:Ac)(K:Nat)(v0 v1:EV)(h:Aa):R:=
 Aj (c 179 [v0,v1] h) fun v7 h=>
 Bp v0 fun v9=>
 Ao 0 v9 fun v10=>
 Aq v10 h fun v11=>
 Aj (J8 K v11 v1 h) fun v13 h=>
 some (v13,h)
theorem Y7(H:Ap disp)(hd:3<=d)(v0 v1:EV)(h:Aa):Ad TT disp K (d+1) false 165 [v0,v1] h=U4 (Ad TT disp K d false) (Ad TT disp K d true) K v0 v1 h:=
 Vl (H.bare (by kernel_rfl)) (by kernel_rfl) (W2 (Xi H (lq hd rfl)) rfl) rfl (by kernel_rfl)
def Yt(K:Nat)(v2 v4 v7:EV)(h:Aa):R:=
 Cm 256 v2 h fun v40=>
 Aj (O7 K v40 v7 h) fun v42 h=>
 Afa 64 v42 fun v43=>
 Cm 64 v43 h fun v44=>
 Jq 64 v4 v44 h fun h=>
 Jh TT [.c v4 103,.v (.int .i64 0)] h
def Yg(K:Nat)(v2 v3 v4:EV)(h:Aa):R:=
 J6 (.cells [.Af,(.bool false)] 278) h fun v6 h=>
 Ao 0 v3 fun v13=>
 Aq v13 h fun v14=>
 Aj (Bb K v6 (.int .i64 1) v14 h) fun v15 h=>
 Aj (Bb K v6 (.int .i64 1) (.int .i64 1) h) fun v16 h=>
 Ao 1 v3 fun v17=>
 Aq v17 h fun v18=>
 Aj (Bb K v6 (.int .i64 2) v18 h) fun v19 h=>
 Ao 2 v3 fun v20=>
 Aq v20 h fun v21=>
 Aj (Bb K v6 (.int .i64 2) v21 h) fun v22 h=>
 Ao 3 v3 fun v23=>
 Aq v23 h fun v24=>
 Aj (Bb K v6 (.int .i64 4) v24 h) fun v25 h=>
 Ao 4 v3 fun v26=>
 Aq v26 h fun v27=>
 Aj (Bb K v6 (.int .i64 6) v27 h) fun v28 h=>
 Ao 5 v3 fun v29=>
 Zj 44 1 v29 none none none fun v30=>
 Aj (Ns K v6 v30 h) fun v31 h=>
 Aj (Kz K v6 h) fun v33 h=>
 Cy 0 v33 fun v34=>
 Cy 1 v33 fun v35=>
 Ar Jr (bin TT .neq 28) v35 (.int .i64 0) fun v37=>
 Et v37
 (C4 (Aec 1) (List.replicate 64 (.int .u8 0)) [] fun v38=>
 Jq 64 v4 v38 h fun h=>
 Jh TT [.c v4 103,.v v35] h)
 (Yt K v2 v4 v34 h)
def O6(K:Nat)(v0 v1:EV)(h:Aa):R:=
 Dx 72 v0 h fun v2 h=>
 Dx 120 v1 h fun v3 h=>
 J6 (.cells (List.replicate 64 (.int .u8 0)) 103) h fun v4 h=>
 Cm 49 v3 h fun v9=>
 Aj (Lr K v9 h) fun v10 h=>
 Mp v10 fun v11=>
 Et v11
 (C4 (Aec 1) (List.replicate 64 (.int .u8 0)) [] fun v12=>
 Jq 64 v4 v12 h fun h=>
 Jh TT [.c v4 103,.v (.int .i64 10)] h)
 (Yg K v2 v3 v4 h)
theorem Ag1(H:Ap disp)(hd:5<=d)(v0 v1:EV)(h:Aa):Ad TT disp K d false 177 [v0,v1] h=O6 K v0 v1 h:=
 Cp (H.bare (by kernel_rfl)) hd (by kernel_rfl) (fun d hd=>(W1 (Za H (lq hd rfl)) (W2 (Adg H (lq hd rfl)) (W3 (Lj H (lq hd rfl)) (W2 (Ace H (lq hd rfl)) (W1 (U6 H (lq hd rfl)) rfl)))))) (fun d c r=>rfl) (fun d c r=>by kernel_rfl)
end
end Go.Ev
