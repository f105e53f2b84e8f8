import Derived.Test.YtpkcfamminlmaaaGreatDb
set_option linter.unusedVariables false
set_option linter.unusedSimpArgs false
set_option linter.unusedSectionVars false
namespace Go.Ev
open Go.Proofs
set_option maxRecDepth 100000
set_option maxHeartbeats 4000000
noncomputable section
variable {disp:Nat->Option FT}{K d:Nat}
def Wy(K:Nat)(v2 v3:EV)(h:Aa):R:=
 B8 32 v3 h fun v12=>
 Jf 32 v2 v12 h fun h=>
 H3 TT [.c v2 87] h
def Adj(K:Nat)(ih1_:EV->EV->EV->EV->Aa->R)(v0 v2 v3 v5:EV)(h:Aa):R:=
 Ap Ip (bin TT .add 3) v5 (.int .i64 1) fun v11=>
 ih1_ v0 v2 v3 v11 h
def Ade(K:Nat)(ih1_:EV->EV->EV->EV->Aa->R)(v0 v2 v3 v5:EV)(h:Aa):R:=
 Aiw 32 1 v3 v5 fun v10=>
 Jf 1 v10 v0 h fun h=>
 Adj K ih1_ v0 v2 v3 v5 h
def Ij(K:Nat):Nat->EV->EV->EV->EV->Aa->R
 | 0=>fun _ _ _ _ _=>none
 | m+1=>fun v0 v2 v3 v5 h=>
  Ap Ih (bin TT .lss 3) v5 (.int .i64 32) fun v6=>
  Fg v6
  (Ade K (Ij K m) v0 v2 v3 v5 h)
  (Wy K v2 v3 h)
def Uk(K:Nat)(v0:EV)(h:Aa):R:=
 Mo (.cells (List.replicate 32 (.int .u8 0)) 87) h fun v2 h=>
 Mo (.cells (List.replicate 32 (.int .u8 0)) 87) h fun v3 h=>
 Ij K K v0 v2 v3 (.int .i64 0) h
abbrev Aoh(K:Nat)(c:Ac):Ac:=c
theorem Aij(c c' r:Ac)(K:Nat)(m:Nat):Jb (fun ih=>Ht TT (Aoh K c) c' r K (nOf TT 38) (Gy TT 38) (Tx TT 38 [true,true,false,true,false]) [(0,fun ρ h=>Wy K (ρ 2) (ρ 3) h)] ih) m=fun ρ h=>Ij K m (ρ 0) (ρ 2) (ρ 3) (ρ 5) h:=
 Dl (E:=fun m ρ h=>Ij K m (ρ 0) (ρ 2) (ρ 3) (ρ 5) h) rfl (fun m=>To fun ρ h=>by
  show _=Ij K (m+1) (ρ 0) (ρ 2) (ρ 3) (ρ 5) h
  rw[Ij];kernel_rfl) m
theorem Ak9(H:Au disp)(hd:1<=d)(v0:EV)(h:Aa):Af TT disp K d false 38 [v0] h=Uk K v0 h:=
 C9 (H.bare (by kernel_rfl)) hd (by kernel_rfl) (fun d hd=>rfl) (fun d c r=>(cut [true,true,false,true,false] (Aij (Af TT disp K d false) c r K K) (by kernel_rfl) (by kernel_rfl) rfl)) (fun d c r=>by kernel_rfl)
def Mu(K:Nat)(v0:EV)(h:Aa):R:=
 Bj v0 fun v3=>
 An 4 v3 fun v4=>
 Jf 1 v4 (.bool true) h fun h=>
 some (.tuple [],h)
theorem Aaj(H:Au disp)(hd:1<=d)(v0:EV)(h:Aa):Af TT disp K d false 39 [v0] h=Mu K v0 h:=
 C9 (H.bare (by kernel_rfl)) hd (by kernel_rfl) (fun d hd=>rfl) (fun d c r=>rfl) (fun d c r=>by kernel_rfl)
def Ll(K:Nat)(v0 v1:EV)(h:Aa):R:=
 E3 36 v0 h fun v2 h=>
 E3 37 v1 h fun v3 h=>
 Mo (.cells ([.Ag]++List.replicate 3 (.int .i64 0)++[(.bool false)]++List.replicate 2 .Ag++List.replicate 8 (.int .i64 0)++List.replicate 2 .Ag++List.replicate 3 (.int .i64 0)) 42) h fun v4 h=>
 B8 7 v2 h fun v5=>
 B8 6 v3 h fun v6=>
 An 0 v3 fun v7=>
 Am v7 h fun v8=>
 An 1 v3 fun v9=>
 Am v9 h fun v10=>
 C0 (Gk [(0,1),(1,1),(2,1)]) [(.int .i64 0),(.int .i64 0),.Ag] [(0,v8),(1,v10)] fun v11=>
 C0 (Gk [(0,7),(7,6),(13,3),(16,1),(17,1),(18,1),(19,1)]) ([.Ag]++List.replicate 3 (.int .i64 0)++[(.bool false)]++List.replicate 2 .Ag++List.replicate 8 (.int .i64 0)++List.replicate 2 .Ag++List.replicate 3 (.int .i64 0)) [(0,v5),(1,v6),(2,v11),(4,(.int .i64 (-1))),(5,(.int .i64 (-1)))] fun v12=>
 Jf 20 v4 v12 h fun h=>
 H3 TT [.c v4 42] h
theorem Yg(H:Au disp)(hd:1<=d)(v0 v1:EV)(h:Aa):Af TT disp K d false 54 [v0,v1] h=Ll K v0 v1 h:=
 C9 (H.bare (by kernel_rfl)) hd (by kernel_rfl) (fun d hd=>rfl) (fun d c r=>rfl) (fun d c r=>by kernel_rfl)
def Mq(K:Nat)(v6 v7:EV)(h:Aa):R:=
 B8 5 v7 h fun v23=>
 Jf 5 v6 v23 h fun h=>
 H3 TT [.c v6 33] h
def Qw(K:Nat)(ih1_:EV->EV->EV->EV->Aa->R)(v0 v6 v7 v8:EV)(h:Aa):R:=
 Ap Ip (bin TT .add 3) v8 (.int .i64 1) fun v16=>
 ih1_ v0 v6 v7 v16 h
def Qt(K:Nat)(ih1_:EV->EV->EV->EV->Aa->R)(v0 v6 v7 v8:EV)(h:Aa):R:=
 An 0 v7 fun v17=>
 Am v17 h fun v18=>
 C0 (Gk [(0,1),(1,1),(2,1),(3,1)]) [.Ag,(.int .i64 0),(.int .i64 0),(.bool false)] [] fun v19=>
 Al (B3 [.Ag,(.int .i64 0),(.int .i64 0),(.bool false)] 215 4 1 [(0,v19)] h) fun v20 h=>
 Al (D5 215 4 v18 v20 h) fun v21 h=>
 An 0 v7 fun v22=>
 Jf 1 v22 v21 h fun h=>
 Qw K ih1_ v0 v6 v7 v8 h
def Cy(K:Nat):Nat->EV->EV->EV->EV->Aa->R
 | 0=>fun _ _ _ _ _=>none
 | m+1=>fun v0 v6 v7 v8 h=>
  Ap Ih (bin TT .lss 3) v8 v0 fun v14=>
  Fg v14
  (Qt K (Cy K m) v0 v6 v7 v8 h)
  (Mq K v6 v7 h)
def Lj(K:Nat)(v0 v1 v2:EV)(h:Aa):R:=
 Mo (.cells [.Ag,(.int .i64 0),(.int .i64 0),(.int .i64 0),(.bool false)] 33) h fun v6 h=>
 C0 (Gk [(0,1),(1,1),(2,1),(3,1),(4,1)]) [.Ag,(.int .i64 0),(.int .i64 0),(.int .i64 0),(.bool false)] [(1,v1),(2,v2)] fun v11=>
 Mo (.cells [.Ag,(.int .i64 0),(.int .i64 0),(.int .i64 0),(.bool false)] 33) h fun v7 h=>
 Jf 5 v7 v11 h fun h=>
 Cy K K v0 v6 v7 (.int .i64 0) h
abbrev Abq(K:Nat)(c:Ac):Ac:=c
theorem Xx(c c' r:Ac)(K:Nat)(m:Nat):Jb (fun ih=>Ht TT (Abq K c) c' r K (nOf TT 55) (Gy TT 55) (Tx TT 55 [true,true,false,true,false]) [(0,fun ρ h=>Mq K (ρ 6) (ρ 7) h)] ih) m=fun ρ h=>Cy K m (ρ 0) (ρ 6) (ρ 7) (ρ 8) h:=
 Dl (E:=fun m ρ h=>Cy K m (ρ 0) (ρ 6) (ρ 7) (ρ 8) h) rfl (fun m=>To fun ρ h=>by
  show _=Cy K (m+1) (ρ 0) (ρ 6) (ρ 7) (ρ 8) h
  rw[Cy];kernel_rfl) m
theorem Y7(H:Au disp)(hd:1<=d)(v0 v1 v2:EV)(h:Aa):Af TT disp K d false 55 [v0,v1,v2] h=Lj K v0 v1 v2 h:=
 C9 (H.bare (by kernel_rfl)) hd (by kernel_rfl) (fun d hd=>rfl) (fun d c r=>(cut [true,true,false,true,false] (Xx (Af TT disp K d false) c r K K) (by kernel_rfl) (by kernel_rfl) rfl)) (fun d c r=>by kernel_rfl)
def Ib(c r:Ac)(K:Nat)(v6:EV)(h:Aa):R:=
 some (v6,h)
def Te(c r:Ac)(K:Nat)(v0:EV)(h:Aa):R:=
 Bj v0 fun v9=>
 An 265 v9 fun v10=>
 Am v10 h fun v11=>
 Bj v0 fun v13=>
 An 266 v13 fun v14=>
 Am v14 h fun v15=>
 Bj v0 fun v17=>
 An 267 v17 fun v18=>
 Am v18 h fun v19=>
 Bj v0 fun v23=>
 An 265 v23 fun v24=>
 Jf 1 v24 (.int .i64 (-1)) h fun h=>
 Bj v0 fun v25=>
 An 266 v25 fun v26=>
 Jf 1 v26 (.int .i64 (-1)) h fun h=>
 Bj v0 fun v27=>
 An 267 v27 fun v28=>
 Jf 1 v28 (.int .i64 0) h fun h=>
 Al (c 123 [v0,v11,v19] h) fun v32 h=>
 Al (c 123 [v0,v15,v19] h) fun v36 h=>
 Ap Gj (bin TT .eql 28) v32 (.int .i64 0) fun v38=>
 Fg v38
 (Ib c r K v36 h)
 (Ib c r K v32 h)
theorem Xn(H:Au disp)(hd:0<=d)(v0:EV)(h:Aa):Af TT disp K (d+1) false 70 [v0] h=Te (Af TT disp K d false) (Af TT disp K d true) K v0 h:=
 Vb (H.bare (by kernel_rfl)) (by kernel_rfl) rfl rfl (by kernel_rfl)
def Qq(c r:Ac)(K:Nat)(v0 v2 v3 v5 v10 v11:EV)(h:Aa):R:=
 B8 38 v5 h fun v34=>
 Al (c 131 [v0,v34,v11,v10,v2,v3] h) fun v39 h=>
 some (.tuple [v11,v39],h)
def Ue(c r:Ac)(K:Nat)(v0 v1 v2 v3:EV)(h:Aa):R:=
 E3 89 v1 h fun v5 h=>
 Bj v0 fun v14=>
 An 265 v14 fun v15=>
 Am v15 h fun v16=>
 Bj v0 fun v18=>
 An 266 v18 fun v19=>
 Am v19 h fun v20=>
 B8 38 v5 h fun v22=>
 Al (c 131 [v0,v22,v16,v20,v2,v3] h) fun v27 h=>
 Ap La (bin TT .neq 28) v27 (.int .i64 0) fun v29=>
 Fg v29
 (some (.tuple [v16,v27],h))
 (Qq c r K v0 v2 v3 v5 v16 v20 h)
theorem Y4(H:Au disp)(hd:0<=d)(v0 v1 v2 v3:EV)(h:Aa):Af TT disp K (d+1) false 81 [v0,v1,v2,v3] h=Ue (Af TT disp K d false) (Af TT disp K d true) K v0 v1 v2 v3 h:=
 Vb (H.bare (by kernel_rfl)) (by kernel_rfl) rfl rfl (by kernel_rfl)
def Lk(K:Nat)(v7 v14:EV)(h:Aa):R:=
 Bg v7 v14 (.bool false) fun v15=>
 some (v15,h)
def Hz(K:Nat)(v0 v1:EV)(h:Aa):R:=
 Ap Vj (bin TT .geq 3) v1 (.int .i64 0) fun v6=>
 Ao (As v6 true)
 (Bj v0 fun v10=>
 An 0 v10 fun v11=>
 Am v11 h fun v12=>
 Ho v12 fun v13=>
 Ap Ih (bin TT .lss 3) v1 v13 fun v14=>
 Lk K v6 v14 h)
 (Lk K v6 (.tuple []) h)
theorem Ol(H:Au disp)(hd:1<=d)(v0 v1:EV)(h:Aa):Af TT disp K d false 85 [v0,v1] h=Hz K v0 v1 h:=
 C9 (H.bare (by kernel_rfl)) hd (by kernel_rfl) (fun d hd=>rfl) (fun d c r=>rfl) (fun d c r=>by kernel_rfl)
def Co(K:Nat)(v0:EV)(h:Aa):R:=
 Bj v0 fun v4=>
 An 3 v4 fun v5=>
 Am v5 h fun v6=>
 some (v6,h)
theorem Ji(H:Au disp)(hd:1<=d)(v0:EV)(h:Aa):Af TT disp K d false 86 [v0] h=Co K v0 h:=
 C9 (H.bare (by kernel_rfl)) hd (by kernel_rfl) (fun d hd=>rfl) (fun d c r=>rfl) (fun d c r=>by kernel_rfl)
def H7(K:Nat)(v11 v14:EV)(h:Aa):R:=
 Bg v11 v14 (.bool false) fun v15=>
 some (v15,h)
def Ki(K:Nat)(v1 v6 v9:EV)(h:Aa):R:=
 Bg v6 v9 (.bool false) fun v10=>
 Ao (As v10 true)
 (An 1 v1 fun v12=>
 Am v12 h fun v13=>
 Ap Aab (bin TT .leq 3) v13 (.int .i64 4) fun v14=>
 H7 K v10 v14 h)
 (H7 K v10 (.tuple []) h)
def Kt(K:Nat)(v0:EV)(h:Aa):R:=
 E3 105 v0 h fun v1 h=>
 An 0 v1 fun v3=>
 Am v3 h fun v4=>
 Ap Vj (bin TT .geq 3) v4 (.int .i64 0) fun v5=>
 Ao (As v5 true)
 (An 1 v1 fun v7=>
 Am v7 h fun v8=>
 Ap Vj (bin TT .geq 3) v8 (.int .i64 1) fun v9=>
 Ki K v1 v5 v9 h)
 (Ki K v1 v5 (.tuple []) h)
theorem Acg(H:Au disp)(hd:1<=d)(v0:EV)(h:Aa):Af TT disp K d false 90 [v0] h=Kt K v0 h:=
 C9 (H.bare (by kernel_rfl)) hd (by kernel_rfl) (fun d hd=>rfl) (fun d c r=>rfl) (fun d c r=>by kernel_rfl)
def Kw(K:Nat)(v0:EV)(h:Aa):R:=
 Bj v0 fun v4=>
 An 4 v4 fun v5=>
 Am v5 h fun v6=>
 some (v6,h)
theorem Ach(H:Au disp)(hd:1<=d)(v0:EV)(h:Aa):Af TT disp K d false 166 [v0] h=Kw K v0 h:=
 C9 (H.bare (by kernel_rfl)) hd (by kernel_rfl) (fun d hd=>rfl) (fun d c r=>rfl) (fun d c r=>by kernel_rfl)
def J5(K:Nat)(v0:EV)(h:Aa):R:=
 Bj v0 fun v4=>
 An 3 v4 fun v5=>
 Am v5 h fun v6=>
 some (v6,h)
theorem Aac(H:Au disp)(hd:1<=d)(v0:EV)(h:Aa):Af TT disp K d false 167 [v0] h=J5 K v0 h:=
 C9 (H.bare (by kernel_rfl)) hd (by kernel_rfl) (fun d hd=>rfl) (fun d c r=>rfl) (fun d c r=>by kernel_rfl)
def Eg(K:Nat)(v0:EV)(h:Aa):R:=
 Al (B3 (List.replicate 4 (.int .i64 0)++List.replicate 64 (.int .u8 0)) 105 68 0 [] h) fun v5 h=>
 Al (D5 105 68 v5 v0 h) fun v7 h=>
 some (v7,h)
def Bz(K:Nat)(v0:EV)(h:Aa):R:=
 Ap Gj (bin TT .eql 101) v0 .Ag fun v4=>
 Fg v4
 (some (.Ag,h))
 (Eg K v0 h)
theorem My(H:Au disp)(hd:1<=d)(v0:EV)(h:Aa):Af TT disp K d false 168 [v0] h=Bz K v0 h:=
 C9 (H.bare (by kernel_rfl)) hd (by kernel_rfl) (fun d hd=>rfl) (fun d c r=>rfl) (fun d c r=>by kernel_rfl)
def Dk(K:Nat)(v0:EV)(h:Aa):R:=
 Bj v0 fun v4=>
 An 0 v4 fun v5=>
 Am v5 h fun v6=>
 Ho v6 fun v7=>
 Bj v0 fun v8=>
 An 2 v8 fun v9=>
 Jf 1 v9 v7 h fun h=>
 some (.tuple [],h)
theorem Pm(H:Au disp)(hd:1<=d)(v0:EV)(h:Aa):Af TT disp K d false 170 [v0] h=Dk K v0 h:=
 C9 (H.bare (by kernel_rfl)) hd (by kernel_rfl) (fun d hd=>rfl) (fun d c r=>rfl) (fun d c r=>by kernel_rfl)
def Lv(K:Nat)(v0 v1:EV)(h:Aa):R:=
 Bj v0 fun v6=>
 An 0 v6 fun v7=>
 Am v7 h fun v8=>
 Al (D5 5 1 v8 v1 h) fun v10 h=>
 Bj v0 fun v11=>
 An 0 v11 fun v12=>
 Jf 1 v12 v10 h fun h=>
 some (.tuple [],h)
theorem Tk(H:Au disp)(hd:1<=d)(v0 v1:EV)(h:Aa):Af TT disp K d false 174 [v0,v1] h=Lv K v0 v1 h:=
 C9 (H.bare (by kernel_rfl)) hd (by kernel_rfl) (fun d hd=>rfl) (fun d c r=>rfl) (fun d c r=>by kernel_rfl)
def Xe(K:Nat)(v0:EV)(h:Aa):R:=
 Al (B3 [(.int .u8 0)] 5 1 0 [] h) fun v8 h=>
 Bj v0 fun v10=>
 An 0 v10 fun v11=>
 Am v11 h fun v12=>
 Al (D5 5 1 v8 v12 h) fun v13 h=>
 some (.tuple [v13,(.int .i64 0)],h)
def Mj(K:Nat)(v0:EV)(h:Aa):R:=
 Bj v0 fun v5=>
 An 1 v5 fun v6=>
 Am v6 h fun v7=>
 Fg v7
 (some (.tuple [.Ag,(.int .i64 13)],h))
 (Xe K v0 h)
theorem Wc(H:Au disp)(hd:1<=d)(v0:EV)(h:Aa):Af TT disp K d false 175 [v0] h=Mj K v0 h:=
 C9 (H.bare (by kernel_rfl)) hd (by kernel_rfl) (fun d hd=>rfl) (fun d c r=>rfl) (fun d c r=>by kernel_rfl)
def Oy(K:Nat)(v10 v13:EV)(h:Aa):R:=
 Bg v10 v13 (.bool false) fun v14=>
 some (v14,h)
def J3(K:Nat)(v0 v1 v2:EV)(h:Aa):R:=
 Ap Vj (bin TT .geq 3) v0 v1 fun v9=>
 Ao (As v9 true)
 (Ap Aab (bin TT .leq 3) v0 v2 fun v13=>
 Oy K v9 v13 h)
 (Oy K v9 (.tuple []) h)
theorem Ahj(H:Au disp)(hd:1<=d)(v0 v1 v2:EV)(h:Aa):Af TT disp K d false 176 [v0,v1,v2] h=J3 K v0 v1 v2 h:=
 C9 (H.bare (by kernel_rfl)) hd (by kernel_rfl) (fun d hd=>rfl) (fun d c r=>rfl) (fun d c r=>by kernel_rfl)
def Nh(K:Nat)(v0 v1 v2:EV)(h:Aa):R:=
 E3 72 v0 h fun v3 h=>
 N1 (bin TT .shr 70) v1 (.int .u64 8) fun v8=>
 O7 .u8 v1 fun v10=>
 N1 (bin TT .xor 5) v10 v2 fun v12=>
 Aiw 256 1 v3 v12 fun v13=>
 Am v13 h fun v14=>
 N1 (bin TT .xor 70) v8 v14 fun v15=>
 some (v15,h)
theorem Adw(H:Au disp)(hd:1<=d)(v0 v1 v2:EV)(h:Aa):Af TT disp K d false 178 [v0,v1,v2] h=Nh K v0 v1 v2 h:=
 C9 (H.bare (by kernel_rfl)) hd (by kernel_rfl) (fun d hd=>rfl) (fun d c r=>rfl) (fun d c r=>by kernel_rfl)
def Kj(c r:Ac)(K:Nat)(v0 v6 v13:EV)(h:Aa):R:=
 Bg v6 v13 (.bool false) fun v14=>
 Fg v14
 (Al (c 118 [v0] h) fun v16 h=>
 some (.tuple [],h))
 (some (.tuple [],h))
def X3(c r:Ac)(K:Nat)(v0 v1:EV)(h:Aa):R:=
 Ap Vj (bin TT .geq 3) v1 (.int .i64 0) fun v5=>
 Ao (As v5 true)
 (Bj v0 fun v9=>
 An 0 v9 fun v10=>
 Am v10 h fun v11=>
 Al (J1 K v11 h) fun v12 h=>
 Ap Ih (bin TT .lss 3) v1 v12 fun v13=>
 Kj c r K v0 v5 v13 h)
 (Kj c r K v0 v5 (.tuple []) h)
theorem Abp(H:Au disp)(hd:1<=d)(v0 v1:EV)(h:Aa):Af TT disp K (d+1) false 179 [v0,v1] h=X3 (Af TT disp K d false) (Af TT disp K d true) K v0 v1 h:=
 Vb (H.bare (by kernel_rfl)) (by kernel_rfl) (W1 (Qz H (lq hd rfl)) rfl) rfl (by kernel_rfl)
def O0(K:Nat)(v10 v13:EV)(h:Aa):R:=
 Bg v10 v13 (.bool false) fun v14=>
 some (v14,h)
def Jp(K:Nat)(v0 v1 v2:EV)(h:Aa):R:=
 Ap Vj (bin TT .geq 3) v0 v1 fun v9=>
 Ao (As v9 true)
 (Ap Aab (bin TT .leq 3) v0 v2 fun v13=>
 O0 K v9 v13 h)
 (O0 K v9 (.tuple []) h)
theorem Xk(H:Au disp)(hd:1<=d)(v0 v1 v2:EV)(h:Aa):Af TT disp K d false 207 [v0,v1,v2] h=Jp K v0 v1 v2 h:=
 C9 (H.bare (by kernel_rfl)) hd (by kernel_rfl) (fun d hd=>rfl) (fun d c r=>rfl) (fun d c r=>by kernel_rfl)
def Qy(K:Nat)(h:Aa):R:=
 some ((.bool false),h)
def I4(K:Nat)(v10 v13:EV)(h:Aa):R:=
 Bg v10 v13 (.bool false) fun v14=>
 some (v14,h)
def Gx(K:Nat)(v28 v32:EV)(h:Aa):R:=
 Bg v28 v32 (.bool false) fun v33=>
 some (v33,h)
def I5(K:Nat)(v1 v20 v26:EV)(h:Aa):R:=
 Bg v20 v26 (.bool false) fun v27=>
 Ao (As v27 true)
 (An 6 v1 fun v29=>
 B8 32 v29 h fun v30=>
 C0 (Aie 1) (List.replicate 32 (.int .u8 0)) [] fun v31=>
 Ap Gj (bin TT .eql 87) v30 v31 fun v32=>
 Gx K v27 v32 h)
 (Gx K v27 (.tuple []) h)
def I2(K:Nat)(v39 v42:EV)(h:Aa):R:=
 Bg v39 v42 (.bool false) fun v43=>
 some (v43,h)
def Lf(K:Nat)(v0:EV)(h:Aa):R:=
 E3 89 v0 h fun v1 h=>
 An 0 v1 fun v3=>
 Am v3 h fun v4=>
 Ap Gj (bin TT .eql 3) v4 (.int .i64 1) fun v6=>
 Fg v6
 (An 2 v1 fun v7=>
 Am v7 h fun v8=>
 Al (Jp K v8 (.int .i64 1) (.int .i64 4) h) fun v9 h=>
 Ao (As v9 true)
 (An 4 v1 fun v11=>
 Am v11 h fun v12=>
 Ap Gj (bin TT .eql 3) v12 (.int .i64 0) fun v13=>
 I4 K v9 v13 h)
 (I4 K v9 (.tuple []) h))
 (Ap Gj (bin TT .eql 3) v4 (.int .i64 2) fun v16=>
 Fg v16
 (An 2 v1 fun v17=>
 Am v17 h fun v18=>
 Ap Gj (bin TT .eql 3) v18 (.int .i64 1) fun v19=>
 Ao (As v19 true)
 (An 4 v1 fun v21=>
 Am v21 h fun v22=>
 An 3 v1 fun v23=>
 Am v23 h fun v24=>
 Ap Qn (bin TT .sub 3) (.int .i64 256) v24 fun v25=>
 Al (Jp K v22 (.int .i64 1) v25 h) fun v26 h=>
 I5 K v1 v19 v26 h)
 (I5 K v1 v19 (.tuple []) h))
 (Ap Gj (bin TT .eql 3) v4 (.int .i64 3) fun v35=>
 Fg v35
 (An 2 v1 fun v36=>
 Am v36 h fun v37=>
 Ap Gj (bin TT .eql 3) v37 (.int .i64 1) fun v38=>
 Ao (As v38 true)
 (An 4 v1 fun v40=>
 Am v40 h fun v41=>
 Ap Gj (bin TT .eql 3) v41 (.int .i64 0) fun v42=>
 I2 K v38 v42 h)
 (I2 K v38 (.tuple []) h))
 (Qy K h)))
theorem Zm(H:Au disp)(hd:2<=d)(v0:EV)(h:Aa):Af TT disp K d false 208 [v0] h=Lf K v0 h:=
 C9 (H.bare (by kernel_rfl)) hd (by kernel_rfl) (fun d hd=>(W3 (Xk H (lq hd rfl)) rfl)) (fun d c r=>rfl) (fun d c r=>by kernel_rfl)
def Ox(K:Nat)(v5 v7:EV)(h:Aa):R:=
 Bg v5 v7 (.bool false) fun v8=>
 some (v8,h)
def Pv(K:Nat)(v0:EV)(h:Aa):R:=
 Ap Vj (bin TT .geq 3) v0 (.int .i64 1) fun v4=>
 Ao (As v4 true)
 (Ap Aab (bin TT .leq 3) v0 (.int .i64 7) fun v7=>
 Ox K v4 v7 h)
 (Ox K v4 (.tuple []) h)
theorem Aha(H:Au disp)(hd:1<=d)(v0:EV)(h:Aa):Af TT disp K d false 209 [v0] h=Pv K v0 h:=
 C9 (H.bare (by kernel_rfl)) hd (by kernel_rfl) (fun d hd=>rfl) (fun d c r=>rfl) (fun d c r=>by kernel_rfl)
def Ab9(K:Nat)(v3:EV)(h:Aa):R:=
 some (v3,h)
def Nb(K:Nat)(v3 v13 v15:EV)(h:Aa):R:=
 Bg v13 (.bool true) v15 fun v16=>
 Fg v16
 (some ((.int .i64 8),h))
 (Ab9 K v3 h)
def Na(K:Nat)(v0 v3:EV)(h:Aa):R:=
 Ap Ih (bin TT .lss 3) v0 (.int .i64 0) fun v12=>
 Ao (As v12 false)
 (Ap Tz (bin TT .gtr 3) v3 (.int .i64 7) fun v15=>
 Nb K v3 v12 v15 h)
 (Nb K v3 v12 (.tuple []) h)
def Abn(K:Nat)(ih3_:EV->EV->Aa->R)(v0 v3:EV)(h:Aa):R:=
 N1 (bin TT .shr 3) v0 (.int .u64 8) fun v8=>
 Ap Ip (bin TT .add 3) v3 (.int .i64 1) fun v10=>
 ih3_ v8 v10 h
def Fj(K:Nat):Nat->EV->EV->Aa->R
 | 0=>fun _ _ _=>none
 | m+1=>fun v0 v3 h=>
  N1 (bin TT .shr 3) v0 (.int .u64 8) fun v5=>
  Ap Tz (bin TT .gtr 3) v5 (.int .i64 0) fun v6=>
  Fg v6
  (Abn K (Fj K m) v0 v3 h)
  (Na K v0 v3 h)
def Ng(K:Nat)(v0:EV)(h:Aa):R:=
 Fj K K v0 (.int .i64 1) h
abbrev Alp(K:Nat)(c:Ac):Ac:=c
theorem Ahc(c c' r:Ac)(K:Nat)(m:Nat):Jb (fun ih=>Ht TT (Alp K c) c' r K (nOf TT 210) (Gy TT 210) (Tx TT 210 [true,true,false,false]) [(0,fun ρ h=>Na K (ρ 0) (ρ 3) h)] ih) m=fun ρ h=>Fj K m (ρ 0) (ρ 3) h:=
 Dl (E:=fun m ρ h=>Fj K m (ρ 0) (ρ 3) h) rfl (fun m=>To fun ρ h=>by
  show _=Fj K (m+1) (ρ 0) (ρ 3) h
  rw[Fj];kernel_rfl) m
theorem Aii(H:Au disp)(hd:1<=d)(v0:EV)(h:Aa):Af TT disp K d false 210 [v0] h=Ng K v0 h:=
 C9 (H.bare (by kernel_rfl)) hd (by kernel_rfl) (fun d hd=>rfl) (fun d c r=>(cut [true,true,false,false] (Ahc (Af TT disp K d false) c r K K) (by kernel_rfl) (by kernel_rfl) rfl)) (fun d c r=>by kernel_rfl)
def Sb(K:Nat)(v0:EV)(h:Aa):R:=
 Bj v0 fun v16=>
 An 3 v16 fun v17=>
 Am v17 h fun v18=>
 Ap Ip (bin TT .add 3) v18 (.int .i64 1) fun v19=>
 Bj v0 fun v20=>
 An 3 v20 fun v21=>
 Jf 1 v21 v19 h fun h=>
 some ((.int .i64 0),h)
def J6(K:Nat)(v0 v1:EV)(h:Aa):R:=
 Bj v0 fun v7=>
 An 4 v7 fun v8=>
 Am v8 h fun v9=>
 Fg v9
 (some ((.int .i64 34),h))
 (Al (Hz K v0 v1 h) fun v13 h=>
 Sz v13 fun v14=>
 Fg v14
 (some ((.int .i64 13),h))
 (Sb K v0 h))
theorem Qr(H:Au disp)(hd:2<=d)(v0 v1:EV)(h:Aa):Af TT disp K d false 212 [v0,v1] h=J6 K v0 v1 h:=
 C9 (H.bare (by kernel_rfl)) hd (by kernel_rfl) (fun d hd=>(W2 (Ol H (lq hd rfl)) rfl)) (fun d c r=>rfl) (fun d c r=>by kernel_rfl)
def Ml(K:Nat)(v3:EV)(h:Aa):R:=
 some (v3,h)
def I3(K:Nat)(ih1_:EV->EV->EV->EV->Aa->R)(v3 v9 v10 v11:EV)(h:Aa):R:=
 Ap Ip (bin TT .add 3) v11 (.int .i64 1) fun v20=>
 ih1_ v3 v9 v10 v20 h
def Qs(K:Nat)(ih1_:EV->EV->EV->EV->Aa->R)(v3 v9 v10 v11:EV)(h:Aa):R:=
 Ix 1 v9 v11 fun v13=>
 Am v13 h fun v14=>
 Al (Co K v14 h) fun v16 h=>
 Ap Gj (bin TT .eql 3) v16 (.int .i64 1) fun v17=>
 Fg v17
 (Ap Ip (bin TT .add 3) v3 (.int .i64 1) fun v19=>
 I3 K ih1_ v19 v9 v10 v11 h)
 (I3 K ih1_ v3 v9 v10 v11 h)
def Cw(K:Nat):Nat->EV->EV->EV->EV->Aa->R
 | 0=>fun _ _ _ _ _=>none
 | m+1=>fun v3 v9 v10 v11 h=>
  Ap Ih (bin TT .lss 3) v11 v10 fun v12=>
  Fg v12
  (Qs K (Cw K m) v3 v9 v10 v11 h)
  (Ml K v3 h)
def Lm(K:Nat)(v0:EV)(h:Aa):R:=
 Bj v0 fun v7=>
 An 0 v7 fun v8=>
 Am v8 h fun v9=>
 Ho v9 fun v10=>
 Cw K K (.int .i64 0) v9 v10 (.int .i64 0) h
abbrev Abw(K:Nat)(c:Ac):Ac:=(w1 86 (Co K) c)
theorem X2(c c' r:Ac)(K:Nat)(m:Nat):Jb (fun ih=>Ht TT (Abw K c) c' r K (nOf TT 222) (Gy TT 222) (Tx TT 222 [true,true,false,true,false]) [(0,fun ρ h=>Ml K (ρ 3) h)] ih) m=fun ρ h=>Cw K m (ρ 3) (ρ 9) (ρ 10) (ρ 11) h:=
 Dl (E:=fun m ρ h=>Cw K m (ρ 3) (ρ 9) (ρ 10) (ρ 11) h) rfl (fun m=>To fun ρ h=>by
  show _=Cw K (m+1) (ρ 3) (ρ 9) (ρ 10) (ρ 11) h
  rw[Cw];kernel_rfl) m
theorem Yu(H:Au disp)(hd:2<=d)(v0:EV)(h:Aa):Af TT disp K d false 222 [v0] h=Lm K v0 h:=
 C9 (H.bare (by kernel_rfl)) hd (by kernel_rfl) (fun d hd=>(W1 (Ji H (lq hd rfl)) rfl)) (fun d c r=>(cut [true,true,false,true,false] (X2 (Af TT disp K d false) c r K K) (by kernel_rfl) (by kernel_rfl) rfl)) (fun d c r=>by kernel_rfl)
def Rn(c r:Ac)(K:Nat)(v0 v1 v2 v7:EV)(h:Aa):R:=
 Bj v0 fun v14=>
 An 0 v14 fun v15=>
 Am v15 h fun v16=>
 Ix 1 v16 v1 fun v18=>
 Am v18 h fun v19=>
 Al (c 238 [v19,v2,(.func 239 [] [v7])] h) fun v22 h=>
 some (v22,h)
def Vw(c r:Ac)(K:Nat)(v0 v1 v2 v3:EV)(h:Aa):R:=
 E3 103 v3 h fun v7 h=>
 Al (Hz K v0 v1 h) fun v11 h=>
 Sz v11 fun v12=>
 Fg v12
 (some ((.int .i64 13),h))
 (Rn c r K v0 v1 v2 v7 h)
theorem Aaa(H:Au disp)(hd:1<=d)(v0 v1 v2 v3:EV)(h:Aa):Af TT disp K (d+1) false 225 [v0,v1,v2,v3] h=Vw (Af TT disp K d false) (Af TT disp K d true) K v0 v1 v2 v3 h:=
 Vb (H.bare (by kernel_rfl)) (by kernel_rfl) (W2 (Ol H (lq hd rfl)) rfl) rfl (by kernel_rfl)
def Oi(K:Nat)(v2 v4:EV)(h:Aa):R:=
 B8 64 v2 h fun v18=>
 Jf 64 v4 v18 h fun h=>
 H3 TT [.c v4 103] h
def S8(K:Nat)(ih1_:EV->EV->EV->EV->Aa->R)(v2 v3 v4 v6:EV)(h:Aa):R:=
 Ap Ip (bin TT .add 3) v6 (.int .i64 1) fun v17=>
 ih1_ v2 v3 v4 v17 h
def Tc(K:Nat)(ih1_:EV->EV->EV->EV->Aa->R)(v2 v3 v4 v6:EV)(h:Aa):R:=
 Gn h fun base s=>
 Aiw 64 1 v2 v6 fun v10=>
 A9 2 3 base v10 s fun s=>Am v10 h fun v11=>
 Aiw 64 1 v3 v6 fun v13=>
 A9 5 24 base v13 s fun s=>Am v13 h fun v14=>
 N1 (bin TT .xor 5) v11 v14 fun v15=>
 Aiw 64 1 v2 v6 fun v16=>
 Ac3 8 255 v16 s fun s=>Jf 1 v16 v15 h fun h=>
 S8 K ih1_ v2 v3 v4 v6 h
def Ds(K:Nat):Nat->EV->EV->EV->EV->Aa->R
 | 0=>fun _ _ _ _ _=>none
 | m+1=>fun v2 v3 v4 v6 h=>
  Ap Ih (bin TT .lss 3) v6 (.int .i64 64) fun v7=>
  Fg v7
  (Tc K (Ds K m) v2 v3 v4 v6 h)
  (Oi K v2 v4 h)
def Ku(K:Nat)(v0 v1:EV)(h:Aa):R:=
 E3 103 v0 h fun v2 h=>
 E3 103 v1 h fun v3 h=>
 Mo (.cells (List.replicate 64 (.int .u8 0)) 103) h fun v4 h=>
 Ds K K v2 v3 v4 (.int .i64 0) h
abbrev Ad0(K:Nat)(c:Ac):Ac:=c
theorem Aai(c c' r:Ac)(K:Nat)(m:Nat):Jb (fun ih=>Ht TT (Ad0 K c) c' r K (nOf TT 226) (Gy TT 226) (Tx TT 226 [true,false,true,false]) [(0,fun ρ h=>Oi K (ρ 2) (ρ 4) h)] ih) m=fun ρ h=>Ds K m (ρ 2) (ρ 3) (ρ 4) (ρ 6) h:=
 Dl (E:=fun m ρ h=>Ds K m (ρ 2) (ρ 3) (ρ 4) (ρ 6) h) rfl (fun m=>To fun ρ h=>by
  show _=Ds K (m+1) (ρ 2) (ρ 3) (ρ 4) (ρ 6) h
  rw[Ds];kernel_rfl) m
theorem Rs(H:Au disp)(hd:1<=d)(v0 v1:EV)(h:Aa):Af TT disp K d false 226 [v0,v1] h=Ku K v0 v1 h:=
 C9 (H.bare (by kernel_rfl)) hd (by kernel_rfl) (fun d hd=>rfl) (fun d c r=>(cut [true,false,true,false] (Aai (Af TT disp K d false) c r K K) (by kernel_rfl) (by kernel_rfl) rfl)) (fun d c r=>by kernel_rfl)
def Ca(K:Nat)(v0 v1 v6 v15:EV)(h:Aa):R:=
 Bg v6 (.bool true) v15 fun v16=>
 Fg v16
 (Bj v0 fun v19=>
 An 3 v19 fun v20=>
 Jf 1 v20 v1 h fun h=>
 some (.tuple [],h))
 (some (.tuple [],h))
def Cc(K:Nat)(v0 v1 v6 v9 v14:EV)(h:Aa):R:=
 Ao (As v6 false)
 (Bg v9 v14 (.bool false) fun v15=>
 Ca K v0 v1 v6 v15 h)
 (Ca K v0 v1 v6 (.tuple []) h)
def C5(K:Nat)(v0 v1 v6 v9:EV)(h:Aa):R:=
 Ao (As v9 true)
 (Bj v0 fun v11=>
 An 3 v11 fun v12=>
 Am v12 h fun v13=>
 Ap La (bin TT .neq 3) v13 (.int .i64 4) fun v14=>
 Cc K v0 v1 v6 v9 v14 h)
 (Cc K v0 v1 v6 v9 (.tuple []) h)
def F2(K:Nat)(v0 v1:EV)(h:Aa):R:=
 Ap Gj (bin TT .eql 3) v1 (.int .i64 4) fun v5=>
 Ao (As v5 false)
 (Ap Gj (bin TT .eql 3) v1 (.int .i64 3) fun v8=>
 C5 K v0 v1 v5 v8 h)
 (C5 K v0 v1 v5 (.tuple []) h)
theorem Qm(H:Au disp)(hd:1<=d)(v0 v1:EV)(h:Aa):Af TT disp K d false 227 [v0,v1] h=F2 K v0 v1 h:=
 C9 (H.bare (by kernel_rfl)) hd (by kernel_rfl) (fun d hd=>rfl) (fun d c r=>rfl) (fun d c r=>by kernel_rfl)
def Jv(K:Nat)(h:Aa):R:=
 some ((.int .i64 0),h)
def Da(K:Nat)(v0:EV)(h:Aa):R:=
 Bj v0 fun v4=>
 An 3 v4 fun v5=>
 Am v5 h fun v6=>
 Ap Gj (bin TT .eql 3) v6 (.int .i64 4) fun v8=>
 Fg v8
 (some ((.int .i64 32),h))
 (Ap Gj (bin TT .eql 3) v6 (.int .i64 3) fun v10=>
 Fg v10
 (some ((.int .i64 30),h))
 (Jv K h))
theorem Ja(H:Au disp)(hd:1<=d)(v0:EV)(h:Aa):Af TT disp K d false 237 [v0] h=Da K v0 h:=
 C9 (H.bare (by kernel_rfl)) hd (by kernel_rfl) (fun d hd=>rfl) (fun d c r=>rfl) (fun d c r=>by kernel_rfl)
def Js(c r:Ac)(K:Nat)(v0 v1 v2:EV)(h:Aa):R:=
 Gn h fun base s=>
 Bj v0 fun v19=>
 An 0 v19 fun v20=>
 A9 3 7 base v20 s fun s=>Am v20 h fun v21=>
 Bj v0 fun v25=>
 An 0 v25 fun v26=>
 A9 9 448 base v26 s fun s=>Am v26 h fun v27=>
 Ix 64 v27 v1 fun v29=>
 A9 12 4032 base v29 s fun s=>B8 64 v29 h fun v30=>
 Cs 13 8160 s h (fun h=>(V2 c r v2 [v30] h)) fun v31 h s=>
 Ix 64 v21 v1 fun v32=>
 Ac3 15 32767 v32 s fun s=>Jf 64 v32 v31 h fun h=>
 some ((.int .i64 0),h)
def Cp(c r:Ac)(K:Nat)(v0 v1 v2 v9 v16:EV)(h:Aa):R:=
 Bg v9 (.bool true) v16 fun v17=>
 Fg v17
 (some ((.int .i64 31),h))
 (Js c r K v0 v1 v2 h)
def Hl(c r:Ac)(K:Nat)(v0 v1 v2:EV)(h:Aa):R:=
 Ap Ih (bin TT .lss 3) v1 (.int .i64 0) fun v8=>
 Ao (As v8 false)
 (Bj v0 fun v12=>
 An 0 v12 fun v13=>
 Am v13 h fun v14=>
 Ho v14 fun v15=>
 Ap Vj (bin TT .geq 3) v1 v15 fun v16=>
 Cp c r K v0 v1 v2 v8 v16 h)
 (Cp c r K v0 v1 v2 v8 (.tuple []) h)
theorem Ph(H:Au disp)(hd:0<=d)(v0 v1 v2:EV)(h:Aa):Af TT disp K (d+1) false 238 [v0,v1,v2] h=Hl (Af TT disp K d false) (Af TT disp K d true) K v0 v1 v2 h:=
 Vb (H.bare (by kernel_rfl)) (by kernel_rfl) rfl rfl (by kernel_rfl)
def S4(K:Nat)(v0 v1:EV)(h:Aa):R:=
 E3 103 v0 h fun v2 h=>
 Mo (.cells (List.replicate 64 (.int .u8 0)) 103) h fun v3 h=>
 B8 64 v2 h fun v4=>
 B8 64 v1 h fun v5=>
 Al (Ku K v4 v5 h) fun v6 h=>
 Jf 64 v3 v6 h fun h=>
 H3 TT [.c v3 103] h
theorem Xz(H:Au disp)(hd:2<=d)(v0 v1:EV)(h:Aa):Af TT disp K d false 239 [v0,v1] h=S4 K v0 v1 h:=
 C9 (H.bare (by kernel_rfl)) hd (by kernel_rfl) (fun d hd=>(W2 (Rs H (lq hd rfl)) rfl)) (fun d c r=>rfl) (fun d c r=>by kernel_rfl)
def Lt(c r:Ac)(K:Nat)(v0 v3 v5:EV)(h:Aa):R:=
 Gn h fun base s=>
 Bj v0 fun v42=>
 An 1 v42 fun v43=>
 A9 4 14 base v43 s fun s=>Am v43 h fun v44=>
 A9 6 0 base v3 s fun s=>B8 68 v3 h fun v46=>
 Ad6 7 h s fun s=>Al (B3 (List.replicate 4 (.int .i64 0)++List.replicate 64 (.int .u8 0)) 105 68 1 [(0,v46)] h) fun v47 h=>
 Cs 8 254 s h (fun h=>(c 91 [v44,v5,v47] h)) fun v48 h s=>
 Bj v0 fun v49=>
 An 1 v49 fun v50=>
 Ac3 11 2047 v50 s fun s=>Jf 1 v50 v48 h fun h=>
 some ((.int .i64 0),h)
def Ui(c r:Ac)(K:Nat)(ih1_:EV->EV->EV->Aa->R)(v0 v3 v5:EV)(h:Aa):R:=
 Ap Qn (bin TT .sub 3) v5 (.int .i64 1) fun v39=>
 ih1_ v0 v3 v39 h
def Le(c r:Ac)(K:Nat)(ih1_:EV->EV->EV->Aa->R)(v0 v3 v5 v24 v36:EV)(h:Aa):R:=
 Bg v24 v36 (.bool false) fun v37=>
 Fg v37
 (Ui c r K ih1_ v0 v3 v5 h)
 (Lt c r K v0 v3 v5 h)
def Di(c r:Ac)(K:Nat):Nat->EV->EV->EV->Aa->R
 | 0=>fun _ _ _ _=>none
 | m+1=>fun v0 v3 v5 h=>
  Ap Tz (bin TT .gtr 3) v5 (.int .i64 0) fun v23=>
  Ao (As v23 true)
  (Bj v0 fun v26=>
  An 1 v26 fun v27=>
  Am v27 h fun v28=>
  Ap Qn (bin TT .sub 3) v5 (.int .i64 1) fun v30=>
  Ix 68 v28 v30 fun v31=>
  An 0 v31 fun v32=>
  Am v32 h fun v33=>
  An 0 v3 fun v34=>
  Am v34 h fun v35=>
  Ap Tz (bin TT .gtr 3) v33 v35 fun v36=>
  Le c r K (Di c r K m) v0 v3 v5 v23 v36 h)
  (Le c r K (Di c r K m) v0 v3 v5 v23 (.tuple []) h)
def Ua(c r:Ac)(K:Nat)(v0 v3:EV)(h:Aa):R:=
 Bj v0 fun v18=>
 An 1 v18 fun v19=>
 Am v19 h fun v20=>
 Ho v20 fun v21=>
 Di c r K K v0 v3 v21 h
def Z0(c r:Ac)(K:Nat)(v0 v1:EV)(h:Aa):R:=
 E3 105 v1 h fun v3 h=>
 B8 68 v3 h fun v7=>
 Al (Kt K v7 h) fun v8 h=>
 Sz v8 fun v9=>
 Fg v9
 (some ((.int .i64 10),h))
 (Bj v0 fun v12=>
 An 1 v12 fun v13=>
 Am v13 h fun v14=>
 Ho v14 fun v15=>
 Ap Vj (bin TT .geq 3) v15 (.int .i64 256) fun v16=>
 Fg v16
 (some ((.int .i64 17),h))
 (Ua c r K v0 v3 h))
abbrev Aga(K:Nat)(c:Ac):Ac:=(w1 90 (Kt K) c)
theorem Aa6(c r:Ac)(K:Nat)(m:Nat):Jb (fun ih=>Ht TT (Aga K c) c r K (nOf TT 42) (Gy TT 42) (Tx TT 42 [true,true,true,false,false]) [(1,fun ρ h=>Lt c r K (ρ 0) (ρ 3) (ρ 5) h)] ih) m=fun ρ h=>Di c r K m (ρ 0) (ρ 3) (ρ 5) h:=
 Dl (E:=fun m ρ h=>Di c r K m (ρ 0) (ρ 3) (ρ 5) h) rfl (fun m=>To fun ρ h=>by
  show _=Di c r K (m+1) (ρ 0) (ρ 3) (ρ 5) h
  rw[Di];kernel_rfl) m
theorem Ac4(H:Au disp)(hd:1<=d)(v0 v1:EV)(h:Aa):Af TT disp K (d+1) false 42 [v0,v1] h=Z0 (Af TT disp K d false) (Af TT disp K d true) K v0 v1 h:=
 Vb (H.bare (by kernel_rfl)) (by kernel_rfl) (W1 (Acg H (lq hd rfl)) rfl) (cut [true,true,true,false,false] (Aa6 (Af TT disp K d false) (Af TT disp K d true) K K) (by kernel_rfl) (by kernel_rfl) rfl) (by kernel_rfl)
def Wj(c r:Ac)(K:Nat)(ih0_:EV->Aa->R)(v0:EV)(h:Aa):R:=
 Bj v0 fun v33=>
 An 1 v33 fun v34=>
 Am v34 h fun v35=>
 Ix 68 v35 (.int .i64 0) fun v36=>
 B8 68 v36 h fun v37=>
 Mo (.cells (List.replicate 4 (.int .i64 0)++List.replicate 64 (.int .u8 0)) 105) h fun v2 h=>
 Jf 68 v2 v37 h fun h=>
 Bj v0 fun v40=>
 An 1 v40 fun v41=>
 Am v41 h fun v42=>
 Apa 68 v42 (some (.int .i64 1)) none none fun v43=>
 Al (Bz K v43 h) fun v44 h=>
 Bj v0 fun v45=>
 An 1 v45 fun v46=>
 Jf 1 v46 v44 h fun h=>
 B8 68 v2 h fun v48=>
 Al (c 169 [v0,v48] h) fun v49 h=>
 ih0_ v0 h
def Hp(c r:Ac)(K:Nat)(ih0_:EV->Aa->R)(base:Nat)(s:DX)(v0 v17 v30:EV)(h:Aa):R:=
 Bg v17 v30 (.bool false) fun v31=>
 Fg v31
 (Wj c r K ih0_ v0 h)
 (some (.tuple [],h))
def Jo(c r:Ac)(K:Nat)(ih0_:EV->Aa->R)(base:Nat)(s:DX)(v0 v9 v15:EV)(h:Aa):R:=
 Bg v9 v15 (.bool false) fun v16=>
 Ao (As v16 true)
 (Bj v0 fun v19=>
 An 1 v19 fun v20=>
 A9 18 262143 base v20 s fun s=>Am v20 h fun v21=>
 Ix 68 v21 (.int .i64 0) fun v22=>
 An 0 v22 fun v23=>
 A9 21 2097151 base v23 s fun s=>Am v23 h fun v24=>
 Bj v0 fun v26=>
 An 0 v26 fun v27=>
 A9 25 29392895 base v27 s fun s=>Am v27 h fun v28=>
 Cs 26 62947327 s h (fun h=>(J5 K v28 h)) fun v29 h s=>
 Ap Aab (bin TT .leq 3) v24 v29 fun v30=>
 Hp c r K ih0_ base s v0 v16 v30 h)
 (Hp c r K ih0_ base s v0 v16 (.tuple []) h)
def D2(c r:Ac)(K:Nat):Nat->EV->Aa->R
 | 0=>fun _ _=>none
 | m+1=>fun v0 h=>
  Gn h fun base s=>
  Bj v0 fun v4=>
  An 0 v4 fun v5=>
  A9 3 7 base v5 s fun s=>Am v5 h fun v6=>
  Cs 4 15 s h (fun h=>(Kw K v6 h)) fun v7 h s=>
  Sz v7 fun v8=>
  Ao (As v8 true)
  (Bj v0 fun v11=>
  An 1 v11 fun v12=>
  A9 10 1023 base v12 s fun s=>Am v12 h fun v13=>
  Ho v13 fun v14=>
  Ap Tz (bin TT .gtr 3) v14 (.int .i64 0) fun v15=>
  Jo c r K (D2 c r K m) base s v0 v8 v15 h)
  (Jo c r K (D2 c r K m) base s v0 v8 (.tuple []) h)
def Akq(c r:Ac)(K:Nat)(v0:EV)(h:Aa):R:=
 D2 c r K K v0 h
abbrev Agx(K:Nat)(c:Ac):Ac:=(w1 168 (Bz K) (w1 167 (J5 K) (w1 166 (Kw K) c)))
theorem Acy(c r:Ac)(K:Nat)(m:Nat):Jb (fun ih=>Ht TT (Agx K c) c r K (nOf TT 118) (Gy TT 118) (Tx TT 118 [false]) [(0,Gy TT 118)] ih) m=fun ρ h=>D2 c r K m (ρ 0) h:=
 Dl (E:=fun m ρ h=>D2 c r K m (ρ 0) h) rfl (fun m=>To fun ρ h=>by
  show _=D2 c r K (m+1) (ρ 0) h
  rw[D2];kernel_rfl) m
theorem Aej(H:Au disp)(hd:1<=d)(v0:EV)(h:Aa):Af TT disp K (d+1) false 118 [v0] h=Akq (Af TT disp K d false) (Af TT disp K d true) K v0 h:=
 Vb (H.bare (by kernel_rfl)) (by kernel_rfl) (W1 (My H (lq hd rfl)) (W1 (Aac H (lq hd rfl)) (W1 (Ach H (lq hd rfl)) rfl))) (cut [false] (Acy (Af TT disp K d false) (Af TT disp K d true) K K) (by kernel_rfl) (by kernel_rfl) rfl) (by kernel_rfl)
def Nd(K:Nat)(h:Aa):R:=
 some ((.int .i64 0),h)
def Rm(K:Nat)(ih1_:EV->EV->EV->Aa->R)(v19 v20 v21:EV)(h:Aa):R:=
 Ap Ip (bin TT .add 3) v21 (.int .i64 1) fun v27=>
 ih1_ v19 v20 v27 h
def Sg(K:Nat)(ih1_:EV->EV->EV->Aa->R)(v19 v20 v21:EV)(h:Aa):R:=
 Ix 1 v19 v21 fun v23=>
 Am v23 h fun v24=>
 Al (Dk K v24 h) fun v26 h=>
 Rm K ih1_ v19 v20 v21 h
def Dc(K:Nat):Nat->EV->EV->EV->Aa->R
 | 0=>fun _ _ _ _=>none
 | m+1=>fun v19 v20 v21 h=>
  Ap Ih (bin TT .lss 3) v21 v20 fun v22=>
  Fg v22
  (Sg K (Dc K m) v19 v20 v21 h)
  (Nd K h)
def Rz(K:Nat)(v0:EV)(h:Aa):R:=
 Bj v0 fun v10=>
 An 3 v10 fun v11=>
 Am v11 h fun v12=>
 Ap Ip (bin TT .add 3) v12 (.int .i64 1) fun v13=>
 Bj v0 fun v14=>
 An 3 v14 fun v15=>
 Jf 1 v15 v13 h fun h=>
 Bj v0 fun v17=>
 An 0 v17 fun v18=>
 Am v18 h fun v19=>
 Ho v19 fun v20=>
 Dc K K v19 v20 (.int .i64 0) h
def Mx(K:Nat)(v0:EV)(h:Aa):R:=
 Bj v0 fun v6=>
 An 4 v6 fun v7=>
 Am v7 h fun v8=>
 Fg v8
 (some ((.int .i64 34),h))
 (Rz K v0 h)
abbrev Ac7(K:Nat)(c:Ac):Ac:=(w1 170 (Dk K) c)
theorem Y0(c c' r:Ac)(K:Nat)(m:Nat):Jb (fun ih=>Ht TT (Ac7 K c) c' r K (nOf TT 119) (Gy TT 119) (Tx TT 119 [true,true,true,false,true,false]) [(0,fun ρ h=>Nd K h)] ih) m=fun ρ h=>Dc K m (ρ 19) (ρ 20) (ρ 21) h:=
 Dl (E:=fun m ρ h=>Dc K m (ρ 19) (ρ 20) (ρ 21) h) rfl (fun m=>To fun ρ h=>by
  show _=Dc K (m+1) (ρ 19) (ρ 20) (ρ 21) h
  rw[Dc];kernel_rfl) m
theorem Aaf(H:Au disp)(hd:2<=d)(v0:EV)(h:Aa):Af TT disp K d false 119 [v0] h=Mx K v0 h:=
 C9 (H.bare (by kernel_rfl)) hd (by kernel_rfl) (fun d hd=>(W1 (Pm H (lq hd rfl)) rfl)) (fun d c r=>(cut [true,true,true,false,true,false] (Y0 (Af TT disp K d false) c r K K) (by kernel_rfl) (by kernel_rfl) rfl)) (fun d c r=>by kernel_rfl)
def D6(K:Nat)(v21 v24:EV)(h:Aa):R:=
 Bg v21 v24 (.bool false) fun v25=>
 some (v25,h)
def Fv(K:Nat)(v1 v16 v19:EV)(h:Aa):R:=
 Bg v16 v19 (.bool false) fun v20=>
 Ao (As v20 true)
 (An 4 v1 fun v22=>
 Am v22 h fun v23=>
 Al (J3 K v23 (.int .i64 0) (.int .i64 281474976710655) h) fun v24 h=>
 D6 K v20 v24 h)
 (D6 K v20 (.tuple []) h)
def Hd(K:Nat)(v1 v11 v14:EV)(h:Aa):R:=
 Bg v11 v14 (.bool false) fun v15=>
 Ao (As v15 true)
 (An 3 v1 fun v17=>
 Am v17 h fun v18=>
 Al (J3 K v18 (.int .i64 1) (.int .i64 4294967295) h) fun v19 h=>
 Fv K v1 v15 v19 h)
 (Fv K v1 v15 (.tuple []) h)
def J0(K:Nat)(v1 v6 v9:EV)(h:Aa):R:=
 Bg v6 v9 (.bool false) fun v10=>
 Ao (As v10 true)
 (An 2 v1 fun v12=>
 Am v12 h fun v13=>
 Al (J3 K v13 (.int .i64 0) (.int .i64 65535) h) fun v14 h=>
 Hd K v1 v10 v14 h)
 (Hd K v1 v10 (.tuple []) h)
def Jx(K:Nat)(v0:EV)(h:Aa):R:=
 E3 120 v0 h fun v1 h=>
 An 0 v1 fun v3=>
 Am v3 h fun v4=>
 Al (J3 K v4 (.int .i64 1) (.int .i64 5) h) fun v5 h=>
 Ao (As v5 true)
 (An 1 v1 fun v7=>
 Am v7 h fun v8=>
 Al (J3 K v8 (.int .i64 0) (.int .i64 65535) h) fun v9 h=>
 J0 K v1 v5 v9 h)
 (J0 K v1 v5 (.tuple []) h)
theorem Qx(H:Au disp)(hd:2<=d)(v0:EV)(h:Aa):Af TT disp K d false 129 [v0] h=Jx K v0 h:=
 C9 (H.bare (by kernel_rfl)) hd (by kernel_rfl) (fun d hd=>(W3 (Ahj H (lq hd rfl)) rfl)) (fun d c r=>rfl) (fun d c r=>by kernel_rfl)
def Qk(K:Nat)(v1:EV)(h:Aa):R:=
 some (v1,h)
def V6(K:Nat)(ih1_:EV->EV->EV->EV->EV->Aa->R)(v0 v1 v9 v10 v11:EV)(h:Aa):R:=
 Ap Ip (bin TT .add 3) v11 (.int .i64 1) fun v21=>
 ih1_ v0 v1 v9 v10 v21 h
def Vs(K:Nat)(ih1_:EV->EV->EV->EV->EV->Aa->R)(v0 v1 v9 v10 v11:EV)(h:Aa):R:=
 Ix 1 v9 v11 fun v13=>
 Am v13 h fun v14=>
 Bj v0 fun v16=>
 B8 256 v16 h fun v17=>
 Al (Nh K v17 v1 v14 h) fun v20 h=>
 V6 K ih1_ v0 v20 v9 v10 v11 h
def Fa(K:Nat):Nat->EV->EV->EV->EV->EV->Aa->R
 | 0=>fun _ _ _ _ _ _=>none
 | m+1=>fun v0 v1 v9 v10 v11 h=>
  Ap Ih (bin TT .lss 3) v11 v10 fun v12=>
  Fg v12
  (Vs K (Fa K m) v0 v1 v9 v10 v11 h)
  (Qk K v1 h)
def Ug(K:Nat)(v0 v1 v2:EV)(h:Aa):R:=
 Ho v2 fun v10=>
 Fa K K v0 v1 v2 v10 (.int .i64 0) h
abbrev Agy(K:Nat)(c:Ac):Ac:=(w3 178 (Nh K) c)
theorem Acz(c c' r:Ac)(K:Nat)(m:Nat):Jb (fun ih=>Ht TT (Agy K c) c' r K (nOf TT 132) (Gy TT 132) (Tx TT 132 [true,false,true,false]) [(0,fun ρ h=>Qk K (ρ 1) h)] ih) m=fun ρ h=>Fa K m (ρ 0) (ρ 1) (ρ 9) (ρ 10) (ρ 11) h:=
 Dl (E:=fun m ρ h=>Fa K m (ρ 0) (ρ 1) (ρ 9) (ρ 10) (ρ 11) h) rfl (fun m=>To fun ρ h=>by
  show _=Fa K (m+1) (ρ 0) (ρ 1) (ρ 9) (ρ 10) (ρ 11) h
  rw[Fa];kernel_rfl) m
theorem Ael(H:Au disp)(hd:2<=d)(v0 v1 v2:EV)(h:Aa):Af TT disp K d false 132 [v0,v1,v2] h=Ug K v0 v1 v2 h:=
 C9 (H.bare (by kernel_rfl)) hd (by kernel_rfl) (fun d hd=>(W3 (Adw H (lq hd rfl)) rfl)) (fun d c r=>(cut [true,false,true,false] (Acz (Af TT disp K d false) c r K K) (by kernel_rfl) (by kernel_rfl) rfl)) (fun d c r=>by kernel_rfl)
def Fx(K:Nat)(v16 v18:EV)(h:Aa):R:=
 Bg v16 v18 (.bool false) fun v19=>
 some (v19,h)
def Hg(K:Nat)(v1 v11 v14:EV)(h:Aa):R:=
 Bg v11 v14 (.bool false) fun v15=>
 Ao (As v15 true)
 (B8 38 v1 h fun v17=>
 Al (Lf K v17 h) fun v18 h=>
 Fx K v15 v18 h)
 (Fx K v15 (.tuple []) h)
def J4(K:Nat)(v1 v6 v9:EV)(h:Aa):R:=
 Bg v6 v9 (.bool false) fun v10=>
 Ao (As v10 true)
 (An 5 v1 fun v12=>
 Am v12 h fun v13=>
 Al (Jp K v13 (.int .i64 0) (.int .i64 65535) h) fun v14 h=>
 Hg K v1 v10 v14 h)
 (Hg K v1 v10 (.tuple []) h)
def Ms(K:Nat)(v0:EV)(h:Aa):R:=
 E3 89 v0 h fun v1 h=>
 An 1 v1 fun v3=>
 Am v3 h fun v4=>
 Al (Jp K v4 (.int .i64 0) (.int .i64 281474976710655) h) fun v5 h=>
 Ao (As v5 true)
 (An 3 v1 fun v7=>
 Am v7 h fun v8=>
 Al (Jp K v8 (.int .i64 0) (.int .i64 255) h) fun v9 h=>
 J4 K v1 v5 v9 h)
 (J4 K v1 v5 (.tuple []) h)
theorem Z7(H:Au disp)(hd:3<=d)(v0:EV)(h:Aa):Af TT disp K d false 172 [v0] h=Ms K v0 h:=
 C9 (H.bare (by kernel_rfl)) hd (by kernel_rfl) (fun d hd=>(W3 (Xk H (lq hd rfl)) (W1 (Zm H (lq hd rfl)) rfl))) (fun d c r=>rfl) (fun d c r=>by kernel_rfl)
def Xf(K:Nat)(ih0_:EV->EV->EV->EV->Aa->R)(v0 v2 v18 v19:EV)(h:Aa):R:=
 Ap Ip (bin TT .add 3) v19 (.int .i64 1) fun v34=>
 ih0_ v0 v2 v18 v34 h
def Xq(K:Nat)(ih0_:EV->EV->EV->EV->Aa->R)(v0 v2 v18 v19:EV)(h:Aa):R:=
 Bj v0 fun v23=>
 An 0 v23 fun v24=>
 Am v24 h fun v25=>
 O7 .u8 v2 fun v27=>
 Al (B3 [(.int .u8 0)] 5 1 1 [(0,v27)] h) fun v28 h=>
 Al (D5 5 1 v25 v28 h) fun v29 h=>
 Bj v0 fun v30=>
 An 0 v30 fun v31=>
 Jf 1 v31 v29 h fun h=>
 N1 (bin TT .shr 3) v2 (.int .u64 8) fun v33=>
 Xf K ih0_ v0 v33 v18 v19 h
def Fw(K:Nat):Nat->EV->EV->EV->EV->Aa->R
 | 0=>fun _ _ _ _ _=>none
 | m+1=>fun v0 v2 v18 v19 h=>
  Ap Ih (bin TT .lss 3) v19 v18 fun v20=>
  Fg v20
  (Xq K (Fw K m) v0 v2 v18 v19 h)
  (some (.tuple [],h))
def Xo(K:Nat)(v0 v1 v2:EV)(h:Aa):R:=
 Fw K K v0 v2 v1 (.int .i64 0) h
def Kx(K:Nat)(v0 v1 v2 v9 v13:EV)(h:Aa):R:=
 Bg v9 (.bool true) v13 fun v14=>
 Fg v14
 (Bj v0 fun v16=>
 An 1 v16 fun v17=>
 Jf 1 v17 (.bool true) h fun h=>
 some (.tuple [],h))
 (Xo K v0 v1 v2 h)
def C7(K:Nat)(v0 v1 v2:EV)(h:Aa):R:=
 Al (Pv K v1 h) fun v7 h=>
 Sz v7 fun v8=>
 Ao (As v8 false)
 (Al (Ng K v2 h) fun v11 h=>
 Ap Tz (bin TT .gtr 3) v11 v1 fun v13=>
 Kx K v0 v1 v2 v8 v13 h)
 (Kx K v0 v1 v2 v8 (.tuple []) h)
abbrev Aiu(K:Nat)(c:Ac):Ac:=(w1 209 (Pv K) (w1 210 (Ng K) c))
theorem Aek(c c' r:Ac)(K:Nat)(m:Nat):Jb (fun ih=>Ht TT (Aiu K c) c' r K (nOf TT 173) (Gy TT 173) (Tx TT 173 [true,true,false]) [(0,Gy TT 173)] ih) m=fun ρ h=>Fw K m (ρ 0) (ρ 2) (ρ 18) (ρ 19) h:=
 Dl (E:=fun m ρ h=>Fw K m (ρ 0) (ρ 2) (ρ 18) (ρ 19) h) rfl (fun m=>To fun ρ h=>by
  show _=Fw K (m+1) (ρ 0) (ρ 2) (ρ 18) (ρ 19) h
  rw[Fw];kernel_rfl) m
theorem Wi(H:Au disp)(hd:2<=d)(v0 v1 v2:EV)(h:Aa):Af TT disp K d false 173 [v0,v1,v2] h=C7 K v0 v1 v2 h:=
 C9 (H.bare (by kernel_rfl)) hd (by kernel_rfl) (fun d hd=>(W1 (Aha H (lq hd rfl)) (W1 (Aii H (lq hd rfl)) rfl))) (fun d c r=>(cut [true,true,false] (Aek (Af TT disp K d false) c r K K) (by kernel_rfl) (by kernel_rfl) rfl)) (fun d c r=>by kernel_rfl)
def Th(c r:Ac)(K:Nat)(v0 v3:EV)(h:Aa):R:=
 An 2 v3 fun v18=>
 Am v18 h fun v19=>
 An 3 v3 fun v20=>
 Am v20 h fun v21=>
 C0 (Gk [(0,1),(1,1)]) [(.int .i64 0),(.int .i64 0)] [(0,v19),(1,v21)] fun v22=>
 Mo (.cells [(.int .i64 0),(.int .i64 0)] 243) h fun v4 h=>
 Jf 2 v4 v22 h fun h=>
 Gn h fun base s=>
 Bj v0 fun v24=>
 An 3 v24 fun v25=>
 A9 3 7 base v25 s fun s=>Am v25 h fun v26=>
 A9 4 0 base v4 s fun s=>B8 2 v4 h fun v27=>
 Cs 5 31 s h (fun h=>(Afd TT 243 320 false v26 v27 h)) fun v28 h s=>
 Ad6 6 h s fun s=>Mo (.cells (List.replicate 64 (.int .u8 0)++[(.int .i64 0)]) 320) h fun v5 h=>
 Ac3 7 127 v5 s fun s=>Jf 65 v5 v28 h fun h=>
 Gn h fun base s=>
 Bj v0 fun v30=>
 An 3 v30 fun v31=>
 A9 3 7 base v31 s fun s=>Am v31 h fun v32=>
 A9 4 0 base v4 s fun s=>B8 2 v4 h fun v33=>
 An 0 v5 fun v34=>
 A9 6 32 base v34 s fun s=>B8 64 v34 h fun v35=>
 An 4 v3 fun v36=>
 A9 8 128 base v36 s fun s=>B8 64 v36 h fun v37=>
 Cs 9 480 s h (fun h=>(Ku K v35 v37 h)) fun v38 h s=>
 An 64 v5 fun v39=>
 A9 11 1024 base v39 s fun s=>Am v39 h fun v40=>
 Ap Ip (bin TT .add 3) v40 (.int .i64 1) fun v41=>
 C0 (Gk [(0,64),(64,1)]) (List.replicate 64 (.int .u8 0)++[(.int .i64 0)]) [(0,v38),(1,v41)] fun v42=>
 Cs 14 16383 s h (fun h=>(U7 TT 243 v32 v33 v42 h)) fun _ h s=>
 some (.tuple [],h)
def Xh(c r:Ac)(K:Nat)(v0 v1:EV)(h:Aa):R:=
 E3 105 v1 h fun v3 h=>
 Gn h fun base s=>
 Bj v0 fun v7=>
 An 0 v7 fun v8=>
 A9 3 7 base v8 s fun s=>Am v8 h fun v9=>
 An 2 v3 fun v10=>
 A9 5 16 base v10 s fun s=>Am v10 h fun v11=>
 An 3 v3 fun v12=>
 A9 7 64 base v12 s fun s=>Am v12 h fun v13=>
 An 4 v3 fun v14=>
 A9 9 256 base v14 s fun s=>B8 64 v14 h fun v15=>
 Cs 10 1023 s h (fun h=>(c 225 [v9,v11,v13,v15] h)) fun v16 h s=>
 Ap La (bin TT .neq 28) v16 (.int .i64 0) fun v17=>
 Fg v17
 (some (.tuple [],h))
 (Th c r K v0 v3 h)
theorem Ab8(H:Au disp)(hd:1<=d)(v0 v1:EV)(h:Aa):Af TT disp K (d+1) false 205 [v0,v1] h=Xh (Af TT disp K d false) (Af TT disp K d true) K v0 v1 h:=
 Vb (H.bare (by kernel_rfl)) (by kernel_rfl) (W2 (Rs H (lq hd rfl)) rfl) rfl (by kernel_rfl)
def S9(K:Nat)(v0 v1 v2:EV)(h:Aa):R:=
 Bj v0 fun v12=>
 An 0 v12 fun v13=>
 Am v13 h fun v14=>
 Ix 1 v14 v1 fun v16=>
 Am v16 h fun v17=>
 Al (F2 K v17 v2 h) fun v19 h=>
 some ((.int .i64 0),h)
def Il(K:Nat)(v0 v1 v2:EV)(h:Aa):R:=
 Al (Hz K v0 v1 h) fun v9 h=>
 Sz v9 fun v10=>
 Fg v10
 (some ((.int .i64 13),h))
 (S9 K v0 v1 v2 h)
theorem Aax(H:Au disp)(hd:2<=d)(v0 v1 v2:EV)(h:Aa):Af TT disp K d false 206 [v0,v1,v2] h=Il K v0 v1 v2 h:=
 C9 (H.bare (by kernel_rfl)) hd (by kernel_rfl) (fun d hd=>(W2 (Ol H (lq hd rfl)) (W2 (Qm H (lq hd rfl)) rfl))) (fun d c r=>rfl) (fun d c r=>by kernel_rfl)
def Dy(K:Nat)(v0:EV)(h:Aa):R:=
 Bj v0 fun v44=>
 An 0 v44 fun v45=>
 Am v45 h fun v46=>
 Ho v46 fun v47=>
 Ap Qn (bin TT .sub 3) v47 (.int .i64 1) fun v48=>
 some (.tuple [v48,(.int .i64 0)],h)
def Jt(K:Nat)(v0 v3:EV)(h:Aa):R:=
 Gn h fun base s=>
 Bj v0 fun v19=>
 An 0 v19 fun v20=>
 A9 4 14 base v20 s fun s=>Am v20 h fun v21=>
 A9 5 0 base v3 s fun s=>B8 64 v3 h fun v22=>
 Ad6 6 h s fun s=>Al (B3 (List.replicate 64 (.int .u8 0)) 103 64 1 [(0,v22)] h) fun v23 h=>
 Cs 7 126 s h (fun h=>(D5 103 64 v21 v23 h)) fun v24 h s=>
 Bj v0 fun v25=>
 An 0 v25 fun v26=>
 Ac3 10 1023 v26 s fun s=>Jf 1 v26 v24 h fun h=>
 Bj v0 fun v28=>
 An 3 v28 fun v29=>
 Jf 1 v29 (.int .i64 1) h fun h=>
 Bj v0 fun v31=>
 An 0 v31 fun v32=>
 Am v32 h fun v33=>
 Ho v33 fun v34=>
 Bj v0 fun v36=>
 An 1 v36 fun v37=>
 Am v37 h fun v38=>
 Ap Gj (bin TT .eql 3) v34 v38 fun v39=>
 Fg v39
 (Bj v0 fun v41=>
 An 3 v41 fun v42=>
 Jf 1 v42 (.int .i64 2) h fun h=>
 Dy K v0 h)
 (Dy K v0 h)
def Gg(K:Nat)(v0 v3:EV)(h:Aa):R:=
 Bj v0 fun v13=>
 An 3 v13 fun v14=>
 Am v14 h fun v15=>
 Ap Gj (bin TT .eql 3) v15 (.int .i64 2) fun v16=>
 Fg v16
 (some (.tuple [(.int .i64 0),(.int .i64 17)],h))
 (Jt K v0 v3 h)
def Cj(K:Nat)(v0 v1:EV)(h:Aa):R:=
 E3 103 v1 h fun v3 h=>
 Al (Da K v0 h) fun v8 h=>
 Ap La (bin TT .neq 28) v8 (.int .i64 0) fun v10=>
 Fg v10
 (some (.tuple [(.int .i64 0),v8],h))
 (Gg K v0 v3 h)
theorem Pk(H:Au disp)(hd:2<=d)(v0 v1:EV)(h:Aa):Af TT disp K d false 223 [v0,v1] h=Cj K v0 v1 h:=
 C9 (H.bare (by kernel_rfl)) hd (by kernel_rfl) (fun d hd=>(W1 (Ja H (lq hd rfl)) rfl)) (fun d c r=>rfl) (fun d c r=>by kernel_rfl)
def J2(K:Nat)(v0:EV)(h:Aa):R:=
 Bj v0 fun v11=>
 An 3 v11 fun v12=>
 Jf 1 v12 (.int .i64 2) h fun h=>
 Bj v0 fun v13=>
 An 4 v13 fun v14=>
 Jf 1 v14 (.bool true) h fun h=>
 some ((.int .i64 0),h)
def Fe(K:Nat)(v0:EV)(h:Aa):R:=
 Al (Da K v0 h) fun v5 h=>
 Ap La (bin TT .neq 28) v5 (.int .i64 0) fun v7=>
 Fg v7
 (some (v5,h))
 (J2 K v0 h)
theorem Pj(H:Au disp)(hd:2<=d)(v0:EV)(h:Aa):Af TT disp K d false 224 [v0] h=Fe K v0 h:=
 C9 (H.bare (by kernel_rfl)) hd (by kernel_rfl) (fun d hd=>(W1 (Ja H (lq hd rfl)) rfl)) (fun d c r=>rfl) (fun d c r=>by kernel_rfl)
def Jk(K:Nat)(v12 v20:EV)(h:Aa):R:=
 Bg v12 v20 (.bool false) fun v21=>
 some (v21,h)
def Ff(K:Nat)(v0 v1:EV)(h:Aa):R:=
 Bj v0 fun v6=>
 An 1 v6 fun v7=>
 B8 6 v7 h fun v8=>
 Al (Ej K v8 v1 h) fun v10 h=>
 Ap Vj (bin TT .geq 3) v10 (.int .i64 0) fun v11=>
 Ao (As v11 true)
 (Bj v0 fun v14=>
 An 264 v14 fun v15=>
 Am v15 h fun v16=>
 Ix 1 v16 v1 fun v18=>
 Am v18 h fun v19=>
 Ap Gj (bin TT .eql 3) v19 (.int .i64 1) fun v20=>
 Jk K v11 v20 h)
 (Jk K v11 (.tuple []) h)
theorem Mp(H:Au disp)(hd:3<=d)(v0 v1:EV)(h:Aa):Af TT disp K d false 21 [v0,v1] h=Ff K v0 v1 h:=
 C9 (H.bare (by kernel_rfl)) hd (by kernel_rfl) (fun d hd=>(W2 (Hj H (lq hd rfl)) rfl)) (fun d c r=>rfl) (fun d c r=>by kernel_rfl)
def Xj(c r:Ac)(K:Nat)(v0:EV)(h:Aa):R:=
 Al (c 118 [v0] h) fun v4 h=>
 Bj v0 fun v6=>
 An 0 v6 fun v7=>
 Am v7 h fun v8=>
 Al (Mx K v8 h) fun v9 h=>
 some (v9,h)
theorem Abg(H:Au disp)(hd:2<=d)(v0:EV)(h:Aa):Af TT disp K (d+1) false 67 [v0] h=Xj (Af TT disp K d false) (Af TT disp K d true) K v0 h:=
 Vb (H.bare (by kernel_rfl)) (by kernel_rfl) (W1 (Aaf H (lq hd rfl)) rfl) rfl (by kernel_rfl)
def Mg(K:Nat)(v0 v1:EV)(h:Aa):R:=
 E3 72 v0 h fun v2 h=>
 Al (Ug K v2 (.int .u32 4294967295) v1 h) fun v6 h=>
 N1 (bin TT .xor 70) v6 (.int .u32 4294967295) fun v7=>
 some (v7,h)
theorem Vp(H:Au disp)(hd:3<=d)(v0 v1:EV)(h:Aa):Af TT disp K d false 82 [v0,v1] h=Mg K v0 v1 h:=
 C9 (H.bare (by kernel_rfl)) hd (by kernel_rfl) (fun d hd=>(W3 (Ael H (lq hd rfl)) rfl)) (fun d c r=>rfl) (fun d c r=>by kernel_rfl)
def It(K:Nat)(v16 v21:EV)(h:Aa):R:=
 Bg v16 v21 (.bool false) fun v22=>
 some (v22,h)
def Iu(K:Nat)(v2 v3 v9 v14:EV)(h:Aa):R:=
 Bg v9 v14 (.bool false) fun v15=>
 Ao (As v15 true)
 (An 2 v3 fun v18=>
 Am v18 h fun v19=>
 Ap Qn (bin TT .sub 3) v19 (.int .i64 1) fun v20=>
 Al (Hi K v2 (.int .i64 0) v20 h) fun v21 h=>
 It K v15 v21 h)
 (It K v15 (.tuple []) h)
def L8(K:Nat)(v0 v1 v2:EV)(h:Aa):R:=
 E3 23 v0 h fun v3 h=>
 B8 6 v3 h fun v7=>
 Al (Jg K v7 h) fun v8 h=>
 Ao (As v8 true)
 (B8 6 v3 h fun v11=>
 Al (J7 K v11 h) fun v12 h=>
 Ap Qn (bin TT .sub 3) v12 (.int .i64 1) fun v13=>
 Al (Hi K v1 (.int .i64 0) v13 h) fun v14 h=>
 Iu K v2 v3 v8 v14 h)
 (Iu K v2 v3 v8 (.tuple []) h)
theorem Acw(H:Au disp)(hd:4<=d)(v0 v1 v2:EV)(h:Aa):Af TT disp K d false 92 [v0,v1,v2] h=L8 K v0 v1 v2 h:=
 C9 (H.bare (by kernel_rfl)) hd (by kernel_rfl) (fun d hd=>(W1 (Tf H (lq hd rfl)) (W1 (P6 H (lq hd rfl)) (W3 (Zt H (lq hd rfl)) rfl)))) (fun d c r=>rfl) (fun d c r=>by kernel_rfl)
def Qf(c r:Ac)(K:Nat)(v0 v1:EV)(h:Aa):R:=
 Bj v0 fun v34=>
 An 0 v34 fun v35=>
 Am v35 h fun v36=>
 Al (c 165 [v36,v1] h) fun v38 h=>
 some (v38,h)
def Ex(c r:Ac)(K:Nat)(v0 v1 v2 v15 v22:EV)(h:Aa):R:=
 Bg v15 (.bool true) v22 fun v23=>
 Fg v23
 (some ((.int .i64 0),h))
 (Ap Gj (bin TT .eql 3) v2 (.int .i64 0) fun v26=>
 Fg v26
 (Bj v0 fun v28=>
 An 263 v28 fun v29=>
 Am v29 h fun v30=>
 Al (c 15 [v30,v1] h) fun v32 h=>
 some (v32,h))
 (Qf c r K v0 v1 h))
def Gf(c r:Ac)(K:Nat)(v0 v1 v2 v10 v13:EV)(h:Aa):R:=
 Bg v10 (.bool true) v13 fun v14=>
 Ao (As v14 false)
 (Bj v0 fun v18=>
 An 1 v18 fun v19=>
 An 2 v19 fun v20=>
 Am v20 h fun v21=>
 Ap Gj (bin TT .eql 3) v2 v21 fun v22=>
 Ex c r K v0 v1 v2 v14 v22 h)
 (Ex c r K v0 v1 v2 v14 (.tuple []) h)
def S0(c r:Ac)(K:Nat)(v0 v1 v2:EV)(h:Aa):R:=
 Ap Gj (bin TT .eql 3) v1 (.int .i64 (-1)) fun v9=>
 Ao (As v9 false)
 (Al (Ff K v0 v1 h) fun v13 h=>
 Gf c r K v0 v1 v2 v9 v13 h)
 (Gf c r K v0 v1 v2 v9 (.tuple []) h)
theorem Xv(H:Au disp)(hd:3<=d)(v0 v1 v2:EV)(h:Aa):Af TT disp K (d+1) false 123 [v0,v1,v2] h=S0 (Af TT disp K d false) (Af TT disp K d true) K v0 v1 v2 h:=
 Vb (H.bare (by kernel_rfl)) (by kernel_rfl) (W2 (Mp H (lq hd rfl)) rfl) rfl (by kernel_rfl)
def Td(K:Nat)(v1 v2 v4:EV)(h:Aa):R:=
 Mo (.cells [.Ag,(.bool false)] 278) h fun v5 h=>
 An 1 v1 fun v12=>
 Am v12 h fun v13=>
 Al (C7 K v5 (.int .i64 6) v13 h) fun v14 h=>
 An 2 v1 fun v15=>
 Am v15 h fun v16=>
 Al (C7 K v5 (.int .i64 1) v16 h) fun v17 h=>
 An 3 v1 fun v18=>
 Am v18 h fun v19=>
 Al (C7 K v5 (.int .i64 1) v19 h) fun v20 h=>
 An 4 v1 fun v21=>
 Am v21 h fun v22=>
 Al (C7 K v5 (.int .i64 2) v22 h) fun v23 h=>
 An 5 v1 fun v24=>
 Am v24 h fun v25=>
 Al (C7 K v5 (.int .i64 2) v25 h) fun v26 h=>
 An 6 v1 fun v27=>
 Us 32 1 v27 none none none fun v28=>
 Al (Lv K v5 v28 h) fun v29 h=>
 Al (Mj K v5 h) fun v31 h=>
 Cq 0 v31 fun v32=>
 Cq 1 v31 fun v33=>
 Us 44 1 v4 none none none fun v34=>
 Al (builtin TT .copy #[174,174] [v34,v32] h) fun v36 h=>
 B8 44 v4 h fun v37=>
 Jf 44 v2 v37 h fun h=>
 H3 TT [.c v2 118,.v v33] h
def N0(K:Nat)(v0:EV)(h:Aa):R:=
 E3 89 v0 h fun v1 h=>
 Mo (.cells (List.replicate 44 (.int .u8 0)) 118) h fun v2 h=>
 Mo (.cells (List.replicate 44 (.int .u8 0)) 118) h fun v4 h=>
 B8 38 v1 h fun v8=>
 Al (Ms K v8 h) fun v9 h=>
 Sz v9 fun v10=>
 Fg v10
 (B8 44 v4 h fun v11=>
 Jf 44 v2 v11 h fun h=>
 H3 TT [.c v2 118,.v (.int .i64 10)] h)
 (Td K v1 v2 v4 h)
theorem Abo(H:Au disp)(hd:4<=d)(v0:EV)(h:Aa):Af TT disp K d false 128 [v0] h=N0 K v0 h:=
 C9 (H.bare (by kernel_rfl)) hd (by kernel_rfl) (fun d hd=>(W1 (Z7 H (lq hd rfl)) (W3 (Wi H (lq hd rfl)) (W2 (Tk H (lq hd rfl)) (W1 (Wc H (lq hd rfl)) rfl))))) (fun d c r=>rfl) (fun d c r=>by kernel_rfl)
def V9(c r:Ac)(K:Nat)(v0 v1:EV)(h:Aa):R:=
 E3 105 v1 h fun v3 h=>
 Gn h fun base s=>
 Bj v0 fun v6=>
 An 2 v6 fun v7=>
 A9 4 14 base v7 s fun s=>Am v7 h fun v8=>
 A9 5 0 base v3 s fun s=>B8 68 v3 h fun v9=>
 Ad6 6 h s fun s=>Al (B3 (List.replicate 4 (.int .i64 0)++List.replicate 64 (.int .u8 0)) 105 68 1 [(0,v9)] h) fun v10 h=>
 Cs 7 126 s h (fun h=>(D5 105 68 v8 v10 h)) fun v11 h s=>
 Bj v0 fun v12=>
 An 2 v12 fun v13=>
 Ac3 10 1023 v13 s fun s=>Jf 1 v13 v11 h fun h=>
 An 1 v3 fun v14=>
 Am v14 h fun v15=>
 Ap Gj (bin TT .eql 3) v15 (.int .i64 1) fun v17=>
 Fg v17
 (B8 68 v3 h fun v19=>
 Al (c 205 [v0,v19] h) fun v20 h=>
 some (.tuple [],h))
 (Ap Gj (bin TT .eql 3) v15 (.int .i64 2) fun v22=>
 Fg v22
 (Gn h fun base s=>
 Bj v0 fun v24=>
 An 0 v24 fun v25=>
 A9 3 7 base v25 s fun s=>Am v25 h fun v26=>
 An 2 v3 fun v27=>
 A9 5 16 base v27 s fun s=>Am v27 h fun v28=>
 Cs 6 63 s h (fun h=>(Il K v26 v28 (.int .i64 3) h)) fun v29 h s=>
 some (.tuple [],h))
 (Ap Gj (bin TT .eql 3) v15 (.int .i64 3) fun v31=>
 Fg v31
 (Gn h fun base s=>
 Bj v0 fun v33=>
 An 0 v33 fun v34=>
 A9 3 7 base v34 s fun s=>Am v34 h fun v35=>
 An 2 v3 fun v36=>
 A9 5 16 base v36 s fun s=>Am v36 h fun v37=>
 Cs 6 63 s h (fun h=>(Il K v35 v37 (.int .i64 4) h)) fun v38 h s=>
 some (.tuple [],h))
 (Ap Gj (bin TT .eql 3) v15 (.int .i64 4) fun v40=>
 Fg v40
 (Bj v0 fun v42=>
 An 0 v42 fun v43=>
 Am v43 h fun v44=>
 Al (Mu K v44 h) fun v45 h=>
 some (.tuple [],h))
 (some (.tuple [],h)))))
theorem Aan(H:Au disp)(hd:2<=d)(v0 v1:EV)(h:Aa):Af TT disp K (d+1) false 169 [v0,v1] h=V9 (Af TT disp K d false) (Af TT disp K d true) K v0 v1 h:=
 Vb (H.bare (by kernel_rfl)) (by kernel_rfl) (W3 (Aax H (lq hd rfl)) (W1 (Aaj H (lq hd rfl)) rfl)) rfl (by kernel_rfl)
def Mm(K:Nat)(v0 v1 v5:EV)(h:Aa):R:=
 Gn h fun base s=>
 Bj v0 fun v34=>
 An 0 v34 fun v35=>
 A9 3 7 base v35 s fun s=>Am v35 h fun v36=>
 Ix 1 v36 v1 fun v38=>
 A9 6 63 base v38 s fun s=>Am v38 h fun v39=>
 A9 7 0 base v5 s fun s=>B8 64 v5 h fun v40=>
 Cs 8 255 s h (fun h=>(Cj K v39 v40 h)) fun v41 h s=>
 Cq 0 v41 fun v42=>
 Cq 1 v41 fun v43=>
 some (.tuple [v42,v43],h)
def I7(K:Nat)(base:Nat)(s:DX)(v0 v1 v5 v24 v31:EV)(h:Aa):R:=
 Bg v24 v31 (.bool false) fun v32=>
 Fg v32
 (some (.tuple [(.int .i64 0),(.int .i64 33)],h))
 (Mm K v0 v1 v5 h)
def Q0(K:Nat)(v0 v1 v5:EV)(h:Aa):R:=
 Gn h fun base s=>
 Bj v0 fun v16=>
 An 0 v16 fun v17=>
 A9 3 7 base v17 s fun s=>Am v17 h fun v18=>
 Ix 1 v18 v1 fun v20=>
 A9 6 63 base v20 s fun s=>Am v20 h fun v21=>
 Cs 7 127 s h (fun h=>(Co K v21 h)) fun v22 h s=>
 Ap Gj (bin TT .eql 3) v22 (.int .i64 0) fun v23=>
 Ao (As v23 true)
 (Cs 11 2047 s h (fun h=>(Lm K v0 h)) fun v26 h s=>
 Bj v0 fun v28=>
 An 2 v28 fun v29=>
 A9 15 29695 base v29 s fun s=>Am v29 h fun v30=>
 Ap Vj (bin TT .geq 3) v26 v30 fun v31=>
 I7 K base s v0 v1 v5 v23 v31 h)
 (I7 K base s v0 v1 v5 v23 (.tuple []) h)
def Lu(K:Nat)(v0 v1 v2:EV)(h:Aa):R:=
 E3 103 v2 h fun v5 h=>
 Al (J6 K v0 v1 h) fun v11 h=>
 Ap La (bin TT .neq 28) v11 (.int .i64 0) fun v13=>
 Fg v13
 (some (.tuple [(.int .i64 0),v11],h))
 (Q0 K v0 v1 v5 h)
theorem Y2(H:Au disp)(hd:3<=d)(v0 v1 v2:EV)(h:Aa):Af TT disp K d false 203 [v0,v1,v2] h=Lu K v0 v1 v2 h:=
 C9 (H.bare (by kernel_rfl)) hd (by kernel_rfl) (fun d hd=>(W2 (Qr H (lq hd rfl)) (W2 (Pk H (lq hd rfl)) (W1 (Ji H (lq hd rfl)) (W1 (Yu H (lq hd rfl)) rfl))))) (fun d c r=>rfl) (fun d c r=>by kernel_rfl)
def Qo(K:Nat)(v0 v1:EV)(h:Aa):R:=
 Bj v0 fun v13=>
 An 0 v13 fun v14=>
 Am v14 h fun v15=>
 Ix 1 v15 v1 fun v17=>
 Am v17 h fun v18=>
 Al (Fe K v18 h) fun v19 h=>
 some (v19,h)
def Ls(K:Nat)(v0 v1:EV)(h:Aa):R:=
 Al (J6 K v0 v1 h) fun v8 h=>
 Ap La (bin TT .neq 28) v8 (.int .i64 0) fun v10=>
 Fg v10
 (some (v8,h))
 (Qo K v0 v1 h)
theorem Yn(H:Au disp)(hd:3<=d)(v0 v1:EV)(h:Aa):Af TT disp K d false 204 [v0,v1] h=Ls K v0 v1 h:=
 C9 (H.bare (by kernel_rfl)) hd (by kernel_rfl) (fun d hd=>(W2 (Qr H (lq hd rfl)) (W1 (Pj H (lq hd rfl)) rfl))) (fun d c r=>rfl) (fun d c r=>by kernel_rfl)
def Px(K:Nat)(v0 v1:EV)(h:Aa):R:=
 E3 72 v0 h fun v2 h=>
 B8 256 v2 h fun v6=>
 Al (Mg K v6 v1 h) fun v8 h=>
 Al (B3 [(.int .u8 0)] 5 1 0 [] h) fun v9 h=>
 Al (D5 5 1 v9 v1 h) fun v11 h=>
 O7 .u8 v8 fun v13=>
 N1 (bin TT .shr 70) v8 (.int .u64 8) fun v15=>
 O7 .u8 v15 fun v16=>
 N1 (bin TT .shr 70) v8 (.int .u64 16) fun v18=>
 O7 .u8 v18 fun v19=>
 N1 (bin TT .shr 70) v8 (.int .u64 24) fun v21=>
 O7 .u8 v21 fun v22=>
 Al (B3 [(.int .u8 0)] 5 1 4 [(0,v13),(1,v16),(2,v19),(3,v22)] h) fun v23 h=>
 Al (D5 5 1 v11 v23 h) fun v24 h=>
 some (v24,h)
theorem Adu(H:Au disp)(hd:4<=d)(v0 v1:EV)(h:Aa):Af TT disp K d false 211 [v0,v1] h=Px K v0 v1 h:=
 C9 (H.bare (by kernel_rfl)) hd (by kernel_rfl) (fun d hd=>(W2 (Vp H (lq hd rfl)) rfl)) (fun d c r=>rfl) (fun d c r=>by kernel_rfl)
def Mv(c r:Ac)(K:Nat)(h:Aa):R:=
 some ((.int .i64 0),h)
def Ie(c r:Ac)(K:Nat)(v0:EV)(h:Aa):R:=
 Al (c 70 [v0] h) fun v44 h=>
 Ap Gj (bin TT .eql 28) v44 (.int .i64 34) fun v45=>
 Fg v45
 (some ((.int .i64 34),h))
 (Mv c r K h)
def F3(c r:Ac)(K:Nat)(v0 v35 v41:EV)(h:Aa):R:=
 Bg v35 v41 (.bool false) fun v42=>
 Fg v42
 (some ((.int .i64 0),h))
 (Ie c r K v0 h)
def Mr(c r:Ac)(K:Nat)(v0 v1:EV)(h:Aa):R:=
 Bj v0 fun v18=>
 An 264 v18 fun v19=>
 Am v19 h fun v20=>
 Ix 1 v20 v1 fun v22=>
 Jf 1 v22 (.int .i64 1) h fun h=>
 Bj v0 fun v24=>
 An 263 v24 fun v25=>
 Am v25 h fun v26=>
 Al (c 69 [v26,v1] h) fun v28 h=>
 Bj v0 fun v31=>
 An 265 v31 fun v32=>
 Am v32 h fun v33=>
 Ap La (bin TT .neq 3) v1 v33 fun v34=>
 Ao (As v34 true)
 (Bj v0 fun v38=>
 An 266 v38 fun v39=>
 Am v39 h fun v40=>
 Ap La (bin TT .neq 3) v1 v40 fun v41=>
 F3 c r K v0 v34 v41 h)
 (F3 c r K v0 v34 (.tuple []) h)
def Oo(c r:Ac)(K:Nat)(v0 v1:EV)(h:Aa):R:=
 Bj v0 fun v7=>
 An 1 v7 fun v8=>
 B8 6 v8 h fun v9=>
 Al (Ej K v9 v1 h) fun v11 h=>
 Ap Ih (bin TT .lss 3) v11 (.int .i64 0) fun v12=>
 Fg v12
 (some ((.int .i64 13),h))
 (Al (Ff K v0 v1 h) fun v16 h=>
 Fg v16
 (some ((.int .i64 16),h))
 (Mr c r K v0 v1 h))
theorem Ss(H:Au disp)(hd:3<=d)(v0 v1:EV)(h:Aa):Af TT disp K (d+1) false 20 [v0,v1] h=Oo (Af TT disp K d false) (Af TT disp K d true) K v0 v1 h:=
 Vb (H.bare (by kernel_rfl)) (by kernel_rfl) (W2 (Hj H (lq hd rfl)) (W2 (Mp H (lq hd rfl)) rfl)) rfl (by kernel_rfl)
def N6(K:Nat)(v1 v3 v5 v8:EV)(h:Aa):R:=
 Gn h fun base s=>
 An 0 v1 fun v54=>
 A9 2 2 base v54 s fun s=>Am v54 h fun v55=>
 An 1 v1 fun v56=>
 A9 4 8 base v56 s fun s=>Am v56 h fun v57=>
 Ap Wz (bin TT .mul 3) v55 v57 fun v58=>
 An 2 v1 fun v59=>
 A9 7 64 base v59 s fun s=>Am v59 h fun v60=>
 An 5 v1 fun v61=>
 A9 9 256 base v61 s fun s=>Am v61 h fun v62=>
 Cs 10 1022 s h (fun h=>(Lj K v58 v60 v62 h)) fun v63 h s=>
 C0 (Gk [(0,5),(5,1),(6,1)]) [.Ag,(.int .i64 0),(.int .i64 0),(.int .i64 0),(.bool false),.Ag,.Ag] [(0,v63)] fun v64=>
 A9 12 0 base v5 s fun s=>B8 6 v5 h fun v65=>
 Cs 13 8190 s h (fun h=>(Ll K v64 v65 h)) fun v66 h s=>
 Ac3 15 32767 v3 s fun s=>Jf 20 v3 v66 h fun h=>
 H3 TT [.v v8,.c v3 42,.v (.bool true)] h
def Jc(K:Nat)(v1 v3 v5 v8 v48 v50:EV)(h:Aa):R:=
 Bg v48 (.bool true) v50 fun v51=>
 Fg v51
 (C0 (Gk [(0,7),(7,6),(13,3),(16,1),(17,1),(18,1),(19,1)]) ([.Ag]++List.replicate 3 (.int .i64 0)++[(.bool false)]++List.replicate 2 .Ag++List.replicate 8 (.int .i64 0)++List.replicate 2 .Ag++List.replicate 3 (.int .i64 0)) [] fun v52=>
 Jf 20 v3 v52 h fun h=>
 H3 TT [.v .Dx,.c v3 42,.v (.bool false)] h)
 (N6 K v1 v3 v5 v8 h)
def Ob(K:Nat)(v1 v3 v5 v6:EV)(h:Aa):R:=
 Gn h fun base s=>
 A9 1 0 base v1 s fun s=>B8 6 v1 h fun v41=>
 Cs 2 0 s h (fun h=>(Au9 K h)) fun v42 h s=>
 Cs 3 7 s h (fun h=>(Yd K v6 v41 v42 h)) fun v43 h s=>
 Cq 0 v43 fun v44=>
 Cq 1 v43 fun v45=>
 Ap La (bin TT .neq 28) v45 (.int .i64 0) fun v47=>
 Ao (As v47 false)
 (Ap Gj (bin TT .eql 29) v44 .Dx fun v50=>
 Jc K v1 v3 v5 v44 v47 v50 h)
 (Jc K v1 v3 v5 v44 v47 (.tuple []) h)
def N9(K:Nat)(v1 v3 v5:EV)(h:Aa):R:=
 An 0 v1 fun v24=>
 Am v24 h fun v25=>
 An 1 v1 fun v26=>
 Am v26 h fun v27=>
 Ap Wz (bin TT .mul 3) v25 v27 fun v28=>
 An 2 v1 fun v29=>
 Am v29 h fun v30=>
 An 5 v1 fun v31=>
 Am v31 h fun v32=>
 Al (Agh K v28 v30 v32 h) fun v33 h=>
 Cq 0 v33 fun v34=>
 Cq 1 v33 fun v35=>
 Ap La (bin TT .neq 28) v35 (.int .i64 0) fun v37=>
 Fg v37
 (C0 (Gk [(0,7),(7,6),(13,3),(16,1),(17,1),(18,1),(19,1)]) ([.Ag]++List.replicate 3 (.int .i64 0)++[(.bool false)]++List.replicate 2 .Ag++List.replicate 8 (.int .i64 0)++List.replicate 2 .Ag++List.replicate 3 (.int .i64 0)) [] fun v38=>
 Jf 20 v3 v38 h fun h=>
 H3 TT [.v .Dx,.c v3 42,.v (.bool false)] h)
 (Ob K v1 v3 v5 v34 h)
def E1(K:Nat)(v1 v3 v5 v14 v20:EV)(h:Aa):R:=
 Bg v14 (.bool true) v20 fun v21=>
 Fg v21
 (C0 (Gk [(0,7),(7,6),(13,3),(16,1),(17,1),(18,1),(19,1)]) ([.Ag]++List.replicate 3 (.int .i64 0)++[(.bool false)]++List.replicate 2 .Ag++List.replicate 8 (.int .i64 0)++List.replicate 2 .Ag++List.replicate 3 (.int .i64 0)) [] fun v22=>
 Jf 20 v3 v22 h fun h=>
 H3 TT [.v .Dx,.c v3 42,.v (.bool false)] h)
 (N9 K v1 v3 v5 h)
def Ge(K:Nat)(v0:EV)(h:Aa):R:=
 E3 23 v0 h fun v1 h=>
 Mo (.cells ([.Ag]++List.replicate 3 (.int .i64 0)++[(.bool false)]++List.replicate 2 .Ag++List.replicate 8 (.int .i64 0)++List.replicate 2 .Ag++List.replicate 3 (.int .i64 0)) 42) h fun v3 h=>
 B8 6 v1 h fun v10=>
 Mo (.cells [(.int .i64 0),(.int .i64 0),(.int .i64 0),(.int .i64 0),(.int .i64 0),(.int .i64 0)] 37) h fun v5 h=>
 Jf 6 v5 v10 h fun h=>
 B8 6 v5 h fun v11=>
 Al (Ia K v11 h) fun v12 h=>
 Sz v12 fun v13=>
 Ao (As v13 false)
 (An 0 v1 fun v15=>
 Am v15 h fun v16=>
 An 1 v1 fun v17=>
 Am v17 h fun v18=>
 Ap Wz (bin TT .mul 3) v16 v18 fun v19=>
 Ap Tz (bin TT .gtr 3) v19 (.int .i64 64) fun v20=>
 E1 K v1 v3 v5 v13 v20 h)
 (E1 K v1 v3 v5 v13 (.tuple []) h)
theorem Ve(H:Au disp)(hd:6<=d)(v0:EV)(h:Aa):Af TT disp K d false 33 [v0] h=Ge K v0 h:=
 C9 (H.bare (by kernel_rfl)) hd (by kernel_rfl) (fun d hd=>(W1 (Um H (lq hd rfl)) (W3 (Y7 H (lq hd rfl)) (W2 (Yg H (lq hd rfl)) (W0 (Ap6 H (lq hd rfl)) (W3 (Alb H (lq hd rfl)) (W3 (Aop H (lq hd rfl)) rfl))))))) (fun d c r=>rfl) (fun d c r=>by kernel_rfl)
def Acv(K:Nat)(h:Aa):R:=
 some ((.bool false),h)
def Cz(K:Nat)(base:Nat)(s:DX)(v57 v60:EV)(h:Aa):R:=
 Bg v57 v60 (.bool false) fun v61=>
 some (v61,h)
def Dw(K:Nat)(base:Nat)(s:DX)(v2 v52 v55:EV)(h:Aa):R:=
 Bg v52 v55 (.bool false) fun v56=>
 Ao (As v56 true)
 (An 5 v2 fun v58=>
 A9 42 4398046511103 base v58 s fun s=>Am v58 h fun v59=>
 Ap Aab (bin TT .leq 3) v59 (.int .i64 4294967295) fun v60=>
 Cz K base s v56 v60 h)
 (Cz K base s v56 (.tuple []) h)
def E5(K:Nat)(base:Nat)(s:DX)(v2 v47 v50:EV)(h:Aa):R:=
 Bg v47 v50 (.bool false) fun v51=>
 Ao (As v51 true)
 (An 5 v2 fun v53=>
 A9 37 137438953471 base v53 s fun s=>Am v53 h fun v54=>
 Ap Vj (bin TT .geq 3) v54 (.int .i64 0) fun v55=>
 Dw K base s v2 v51 v55 h)
 (Dw K base s v2 v51 (.tuple []) h)
def Gh(K:Nat)(base:Nat)(s:DX)(v2 v42 v45:EV)(h:Aa):R:=
 Bg v42 v45 (.bool false) fun v46=>
 Ao (As v46 true)
 (An 4 v2 fun v48=>
 A9 32 4294967295 base v48 s fun s=>Am v48 h fun v49=>
 Ap Aab (bin TT .leq 3) v49 (.int .i64 281474976710655) fun v50=>
 E5 K base s v2 v46 v50 h)
 (E5 K base s v2 v46 (.tuple []) h)
def H6(K:Nat)(base:Nat)(s:DX)(v2 v31 v40:EV)(h:Aa):R:=
 Bg v31 v40 (.bool false) fun v41=>
 Ao (As v41 true)
 (An 4 v2 fun v43=>
 A9 27 134217727 base v43 s fun s=>Am v43 h fun v44=>
 Ap Vj (bin TT .geq 3) v44 (.int .i64 1) fun v45=>
 Gh K base s v2 v41 v45 h)
 (Gh K base s v2 v41 (.tuple []) h)
def H5(K:Nat)(base:Nat)(s:DX)(v2 v3 v23 v29:EV)(h:Aa):R:=
 Bg v23 v29 (.bool false) fun v30=>
 Ao (As v30 true)
 (A9 15 32767 base v3 s fun s=>B8 6 v3 h fun v32=>
 An 1 v2 fun v33=>
 A9 17 98303 base v33 s fun s=>Am v33 h fun v34=>
 Cs 18 262143 s h (fun h=>(Ej K v32 v34 h)) fun v35 h s=>
 A9 19 32767 base v3 s fun s=>B8 6 v3 h fun v36=>
 An 2 v2 fun v37=>
 A9 21 1081343 base v37 s fun s=>Am v37 h fun v38=>
 Cs 22 4194303 s h (fun h=>(Ej K v36 v38 h)) fun v39 h s=>
 Ap La (bin TT .neq 3) v35 v39 fun v40=>
 H6 K base s v2 v30 v40 h)
 (H6 K base s v2 v30 (.tuple []) h)
def On(K:Nat)(v2 v3 v6 v7:EV)(h:Aa):R:=
 Fg v7
 (B8 6 v2 h fun v10=>
 An 0 v2 fun v11=>
 Am v11 h fun v12=>
 C0 (Gk [(0,1),(1,1),(2,1),(3,1),(4,1),(5,1)]) [(.int .i64 0),(.int .i64 0),(.int .i64 0),(.int .i64 0),(.int .i64 0),(.int .i64 0)] [(0,v12)] fun v13=>
 Ap Gj (bin TT .eql 83) v10 v13 fun v14=>
 some (v14,h))
 (Ap Gj (bin TT .eql 3) v6 (.int .i64 1) fun v16=>
 Fg v16
 (Gn h fun base s=>
 A9 0 0 base v3 s fun s=>B8 6 v3 h fun v17=>
 An 1 v2 fun v18=>
 A9 2 2 base v18 s fun s=>Am v18 h fun v19=>
 An 3 v2 fun v20=>
 A9 4 8 base v20 s fun s=>Am v20 h fun v21=>
 Cs 5 31 s h (fun h=>(L8 K v17 v19 v21 h)) fun v22 h s=>
 Ao (As v22 true)
 (A9 7 127 base v3 s fun s=>B8 6 v3 h fun v24=>
 An 2 v2 fun v25=>
 A9 9 383 base v25 s fun s=>Am v25 h fun v26=>
 An 3 v2 fun v27=>
 A9 11 1151 base v27 s fun s=>Am v27 h fun v28=>
 Cs 12 4095 s h (fun h=>(L8 K v24 v26 v28 h)) fun v29 h s=>
 H5 K base s v2 v3 v22 v29 h)
 (H5 K base s v2 v3 v22 (.tuple []) h))
 (Acv K h))
def Kr(K:Nat)(v0 v1:EV)(h:Aa):R:=
 E3 83 v0 h fun v2 h=>
 E3 23 v1 h fun v3 h=>
 An 0 v2 fun v5=>
 Am v5 h fun v6=>
 Ap Gj (bin TT .eql 3) v6 (.int .i64 0) fun v8=>
 Fg v8
 (On K v2 v3 v6 v8 h)
 (Ap Gj (bin TT .eql 3) v6 (.int .i64 2) fun v9=>
 On K v2 v3 v6 v9 h)
theorem Abj(H:Au disp)(hd:5<=d)(v0 v1:EV)(h:Aa):Af TT disp K d false 43 [v0,v1] h=Kr K v0 v1 h:=
 C9 (H.bare (by kernel_rfl)) hd (by kernel_rfl) (fun d hd=>(W2 (Hj H (lq hd rfl)) (W3 (Acw H (lq hd rfl)) rfl))) (fun d c r=>rfl) (fun d c r=>by kernel_rfl)
def R0(K:Nat)(v10 v14:EV)(h:Aa):R:=
 B8 49 v14 h fun v51=>
 Jf 49 v10 v51 h fun h=>
 H3 TT [.c v10 120,.v (.int .i64 0)] h
def Eb(K:Nat)(v10 v14 v41 v48:EV)(h:Aa):R:=
 Bg v41 (.bool true) v48 fun v49=>
 Fg v49
 (C0 (Gk [(0,1),(1,1),(2,1),(3,1),(4,1),(5,44)]) (List.replicate 5 (.int .i64 0)++List.replicate 44 (.int .u8 0)) [] fun v50=>
 Jf 49 v10 v50 h fun h=>
 H3 TT [.c v10 120,.v (.int .i64 10)] h)
 (R0 K v10 v14 h)
def Fy(K:Nat)(v4 v5 v10 v14 v35 v39:EV)(h:Aa):R:=
 Bg v35 (.bool true) v39 fun v40=>
 Ao (As v40 false)
 (An 1 v5 fun v42=>
 Am v42 h fun v43=>
 An 2 v5 fun v45=>
 Am v45 h fun v46=>
 Ap Qn (bin TT .sub 3) v4 v46 fun v47=>
 Ap Aab (bin TT .leq 3) v43 v47 fun v48=>
 Eb K v10 v14 v40 v48 h)
 (Eb K v10 v14 v40 (.tuple []) h)
def Hh(K:Nat)(v4 v5 v10 v14 v30 v33:EV)(h:Aa):R:=
 Bg v30 (.bool true) v33 fun v34=>
 Ao (As v34 false)
 (An 1 v5 fun v36=>
 Am v36 h fun v37=>
 Ap Tz (bin TT .gtr 3) v37 v4 fun v39=>
 Fy K v4 v5 v10 v14 v34 v39 h)
 (Fy K v4 v5 v10 v14 v34 (.tuple []) h)
def Hv(K:Nat)(v0 v1 v2 v3 v4:EV)(h:Aa):R:=
 E3 89 v0 h fun v5 h=>
 Mo (.cells (List.replicate 5 (.int .i64 0)++List.replicate 44 (.int .u8 0)) 120) h fun v10 h=>
 B8 38 v5 h fun v16=>
 Al (N0 K v16 h) fun v17 h=>
 Cq 0 v17 fun v18=>
 Cq 1 v17 fun v19=>
 Mo (.cells (List.replicate 44 (.int .u8 0)) 118) h fun v12 h=>
 Jf 44 v12 v18 h fun h=>
 An 0 v5 fun v20=>
 Am v20 h fun v21=>
 B8 44 v12 h fun v26=>
 C0 (Gk [(0,1),(1,1),(2,1),(3,1),(4,1),(5,44)]) (List.replicate 5 (.int .i64 0)++List.replicate 44 (.int .u8 0)) [(0,v21),(1,v1),(2,v2),(3,v3),(4,v4),(5,v26)] fun v27=>
 Mo (.cells (List.replicate 5 (.int .i64 0)++List.replicate 44 (.int .u8 0)) 120) h fun v14 h=>
 Jf 49 v14 v27 h fun h=>
 Ap La (bin TT .neq 28) v19 (.int .i64 0) fun v29=>
 Ao (As v29 false)
 (B8 49 v14 h fun v31=>
 Al (Jx K v31 h) fun v32 h=>
 Sz v32 fun v33=>
 Hh K v4 v5 v10 v14 v29 v33 h)
 (Hh K v4 v5 v10 v14 v29 (.tuple []) h)
theorem Qu(H:Au disp)(hd:5<=d)(v0 v1 v2 v3 v4:EV)(h:Aa):Af TT disp K d false 79 [v0,v1,v2,v3,v4] h=Hv K v0 v1 v2 v3 v4 h:=
 C9 (H.bare (by kernel_rfl)) hd (by kernel_rfl) (fun d hd=>(W1 (Abo H (lq hd rfl)) (W1 (Qx H (lq hd rfl)) rfl))) (fun d c r=>rfl) (fun d c r=>by kernel_rfl)
def Po(c r:Ac)(K:Nat)(v0 v4 v5:EV)(h:Aa):R:=
 Bj v0 fun v48=>
 An 265 v48 fun v49=>
 Jf 1 v49 v4 h fun h=>
 Bj v0 fun v50=>
 An 266 v50 fun v51=>
 Jf 1 v51 v5 h fun h=>
 Bj v0 fun v52=>
 An 267 v52 fun v53=>
 Jf 1 v53 (.int .i64 0) h fun h=>
 some ((.int .i64 0),h)
def Ps(c r:Ac)(K:Nat)(v0:EV)(h:Aa):R:=
 Bj v0 fun v34=>
 An 263 v34 fun v35=>
 Am v35 h fun v36=>
 Al (Pt K v36 h) fun v37 h=>
 Cq 0 v37 fun v38=>
 Cq 1 v37 fun v39=>
 Cq 2 v37 fun v40=>
 Ap La (bin TT .neq 28) v40 (.int .i64 0) fun v42=>
 Fg v42
 (some ((.int .i64 40),h))
 (Po c r K v0 v38 v39 h)
def Lo(c r:Ac)(K:Nat)(v0:EV)(h:Aa):R:=
 Bj v0 fun v25=>
 An 0 v25 fun v26=>
 Am v26 h fun v27=>
 Al (c 67 [v27] h) fun v28 h=>
 Ap La (bin TT .neq 28) v28 (.int .i64 0) fun v30=>
 Fg v30
 (some (v28,h))
 (Ps c r K v0 h)
def F9(c r:Ac)(K:Nat)(v0 v12 v22:EV)(h:Aa):R:=
 Bg v12 v22 (.bool false) fun v23=>
 Fg v23
 (some ((.int .i64 0),h))
 (Lo c r K v0 h)
def Ta(c r:Ac)(K:Nat)(v0:EV)(h:Aa):R:=
 Bj v0 fun v8=>
 An 265 v8 fun v9=>
 Am v9 h fun v10=>
 Ap La (bin TT .neq 3) v10 (.int .i64 (-1)) fun v11=>
 Ao (As v11 true)
 (Bj v0 fun v14=>
 An 267 v14 fun v15=>
 Am v15 h fun v16=>
 Bj v0 fun v18=>
 An 1 v18 fun v19=>
 An 2 v19 fun v20=>
 Am v20 h fun v21=>
 Ap Ih (bin TT .lss 3) v16 v21 fun v22=>
 F9 c r K v0 v11 v22 h)
 (F9 c r K v0 v11 (.tuple []) h)
theorem Xl(H:Au disp)(hd:4<=d)(v0:EV)(h:Aa):Af TT disp K (d+1) false 80 [v0] h=Ta (Af TT disp K d false) (Af TT disp K d true) K v0 h:=
 Vb (H.bare (by kernel_rfl)) (by kernel_rfl) (W1 (Ad9 H (lq hd rfl)) rfl) rfl (by kernel_rfl)
def Jz(c r:Ac)(K:Nat)(v8 v9:EV)(h:Aa):R:=
 some (.tuple [v8,v9],h)
def V3(c r:Ac)(K:Nat)(v0 v1 v2:EV)(h:Aa):R:=
 E3 103 v2 h fun v5 h=>
 Al (c 179 [v0,v1] h) fun v12 h=>
 Gn h fun base s=>
 Bj v0 fun v15=>
 An 0 v15 fun v16=>
 A9 3 7 base v16 s fun s=>Am v16 h fun v17=>
 A9 5 0 base v5 s fun s=>B8 64 v5 h fun v19=>
 Cs 6 63 s h (fun h=>(Lu K v17 v1 v19 h)) fun v20 h s=>
 Cq 0 v20 fun v21=>
 Cq 1 v20 fun v22=>
 Ap Gj (bin TT .eql 28) v22 (.int .i64 0) fun v24=>
 Fg v24
 (Bj v0 fun v26=>
 An 3 v26 fun v27=>
 Am v27 h fun v28=>
 C0 (Gk [(0,1),(1,1)]) [(.int .i64 0),(.int .i64 0)] [(0,v1),(1,v21)] fun v31=>
 Al (builtin TT .delete #[164,243] [v28,v31] h) fun _ h=>
 Jz c r K v21 v22 h)
 (Jz c r K v21 v22 h)
theorem Aam(H:Au disp)(hd:3<=d)(v0 v1 v2:EV)(h:Aa):Af TT disp K (d+1) false 164 [v0,v1,v2] h=V3 (Af TT disp K d false) (Af TT disp K d true) K v0 v1 v2 h:=
 Vb (H.bare (by kernel_rfl)) (by kernel_rfl) (W3 (Y2 H (lq hd rfl)) rfl) rfl (by kernel_rfl)
def Vx(c r:Ac)(K:Nat)(v0 v1:EV)(h:Aa):R:=
 Al (c 179 [v0,v1] h) fun v7 h=>
 Bj v0 fun v9=>
 An 0 v9 fun v10=>
 Am v10 h fun v11=>
 Al (Ls K v11 v1 h) fun v13 h=>
 some (v13,h)
theorem Aag(H:Au disp)(hd:3<=d)(v0 v1:EV)(h:Aa):Af TT disp K (d+1) false 165 [v0,v1] h=Vx (Af TT disp K d false) (Af TT disp K d true) K v0 v1 h:=
 Vb (H.bare (by kernel_rfl)) (by kernel_rfl) (W2 (Yn H (lq hd rfl)) rfl) rfl (by kernel_rfl)
def Zu(K:Nat)(v2 v4 v7:EV)(h:Aa):R:=
 B8 256 v2 h fun v40=>
 Al (Px K v40 v7 h) fun v42 h=>
 Af8 64 v42 fun v43=>
 B8 64 v43 h fun v44=>
 Jf 64 v4 v44 h fun h=>
 H3 TT [.c v4 103,.v (.int .i64 0)] h
def Zz(K:Nat)(v2 v3 v4:EV)(h:Aa):R:=
 Mo (.cells [.Ag,(.bool false)] 278) h fun v6 h=>
 An 0 v3 fun v13=>
 Am v13 h fun v14=>
 Al (C7 K v6 (.int .i64 1) v14 h) fun v15 h=>
 Al (C7 K v6 (.int .i64 1) (.int .i64 1) h) fun v16 h=>
 An 1 v3 fun v17=>
 Am v17 h fun v18=>
 Al (C7 K v6 (.int .i64 2) v18 h) fun v19 h=>
 An 2 v3 fun v20=>
 Am v20 h fun v21=>
 Al (C7 K v6 (.int .i64 2) v21 h) fun v22 h=>
 An 3 v3 fun v23=>
 Am v23 h fun v24=>
 Al (C7 K v6 (.int .i64 4) v24 h) fun v25 h=>
 An 4 v3 fun v26=>
 Am v26 h fun v27=>
 Al (C7 K v6 (.int .i64 6) v27 h) fun v28 h=>
 An 5 v3 fun v29=>
 Us 44 1 v29 none none none fun v30=>
 Al (Lv K v6 v30 h) fun v31 h=>
 Al (Mj K v6 h) fun v33 h=>
 Cq 0 v33 fun v34=>
 Cq 1 v33 fun v35=>
 Ap La (bin TT .neq 28) v35 (.int .i64 0) fun v37=>
 Fg v37
 (C0 (Aie 1) (List.replicate 64 (.int .u8 0)) [] fun v38=>
 Jf 64 v4 v38 h fun h=>
 H3 TT [.c v4 103,.v v35] h)
 (Zu K v2 v4 v34 h)
def Tp(K:Nat)(v0 v1:EV)(h:Aa):R:=
 E3 72 v0 h fun v2 h=>
 E3 120 v1 h fun v3 h=>
 Mo (.cells (List.replicate 64 (.int .u8 0)) 103) h fun v4 h=>
 B8 49 v3 h fun v9=>
 Al (Jx K v9 h) fun v10 h=>
 Sz v10 fun v11=>
 Fg v11
 (C0 (Aie 1) (List.replicate 64 (.int .u8 0)) [] fun v12=>
 Jf 64 v4 v12 h fun h=>
 H3 TT [.c v4 103,.v (.int .i64 10)] h)
 (Zz K v2 v3 v4 h)
theorem Ahd(H:Au disp)(hd:5<=d)(v0 v1:EV)(h:Aa):Af TT disp K d false 177 [v0,v1] h=Tp K v0 v1 h:=
 C9 (H.bare (by kernel_rfl)) hd (by kernel_rfl) (fun d hd=>(W1 (Qx H (lq hd rfl)) (W2 (Adu H (lq hd rfl)) (W3 (Wi H (lq hd rfl)) (W2 (Tk H (lq hd rfl)) (W1 (Wc H (lq hd rfl)) rfl)))))) (fun d c r=>rfl) (fun d c r=>by kernel_rfl)
def Ig(c r:Ac)(K:Nat)(ih0_:EV->EV->EV->EV->EV->Aa->R)(v0 v2 v3 v5 v8 v13:EV)(h:Aa):R:=
 Al (c 20 [v0,v13] h) fun v93 h=>
 Ap Gj (bin TT .eql 28) v93 (.int .i64 34) fun v94=>
 Fg v94
 (C0 (Gk [(0,1),(1,1),(2,1),(3,1),(4,1),(5,1)]) [(.int .i64 0),(.int .i64 0),(.int .i64 0),(.int .i64 0),(.int .i64 0),(.int .i64 0)] [] fun v95=>
 Jf 6 v8 v95 h fun h=>
 H3 TT [.c v8 83,.v (.int .i64 34)] h)
 (ih0_ v0 v2 v3 v5 v8 h)
def P9(c r:Ac)(K:Nat)(ih0_:EV->EV->EV->EV->EV->Aa->R)(v0 v2 v3 v5 v8 v13:EV)(h:Aa):R:=
 Bj v0 fun v80=>
 An 266 v80 fun v81=>
 Am v81 h fun v82=>
 Ap Gj (bin TT .eql 3) v13 v82 fun v83=>
 Fg v83
 (Bj v0 fun v85=>
 An 267 v85 fun v86=>
 Am v86 h fun v87=>
 Ap Ip (bin TT .add 3) v87 (.int .i64 1) fun v88=>
 Bj v0 fun v89=>
 An 267 v89 fun v90=>
 Jf 1 v90 v88 h fun h=>
 Ig c r K ih0_ v0 v2 v3 v5 v8 v13 h)
 (Ig c r K ih0_ v0 v2 v3 v5 v8 v13 h)
def Pp(c r:Ac)(K:Nat)(ih0_:EV->EV->EV->EV->EV->Aa->R)(v0 v2 v3 v5 v8:EV)(h:Aa):R:=
 B8 38 v5 h fun v35=>
 Al (c 81 [v0,v35,v2,v3] h) fun v38 h=>
 Cq 0 v38 fun v39=>
 Cq 1 v38 fun v40=>
 Ap Gj (bin TT .eql 28) v40 (.int .i64 0) fun v43=>
 Fg v43
 (Gn h fun base s=>
 Bj v0 fun v45=>
 An 265 v45 fun v46=>
 A9 3 7 base v46 s fun s=>Am v46 h fun v47=>
 Bj v0 fun v49=>
 An 266 v49 fun v50=>
 A9 7 112 base v50 s fun s=>Am v50 h fun v51=>
 Bj v0 fun v53=>
 An 267 v53 fun v54=>
 A9 11 1792 base v54 s fun s=>Am v54 h fun v55=>
 Bj v0 fun v58=>
 An 7 v58 fun v59=>
 A9 16 57344 base v59 s fun s=>B8 256 v59 h fun v60=>
 An 6 v5 fun v61=>
 Us 32 1 v61 none none none fun v62=>
 Cs 19 516096 s h (fun h=>(Mg K v60 v62 h)) fun v63 h s=>
 O7 .i64 v63 fun v64=>
 C0 (Gk [(0,1),(1,1),(2,1),(3,1),(4,1),(5,1)]) [(.int .i64 0),(.int .i64 0),(.int .i64 0),(.int .i64 0),(.int .i64 0),(.int .i64 0)] [(0,(.int .i64 1)),(1,v47),(2,v51),(3,v55),(4,v3),(5,v64)] fun v65=>
 Ad6 22 h s fun s=>Mo (.cells [(.int .i64 0),(.int .i64 0),(.int .i64 0),(.int .i64 0),(.int .i64 0),(.int .i64 0)] 83) h fun v15 h=>
 Ac3 23 8388607 v15 s fun s=>Jf 6 v15 v65 h fun h=>
 Bj v0 fun v67=>
 An 267 v67 fun v68=>
 Am v68 h fun v69=>
 Ap Ip (bin TT .add 3) v69 (.int .i64 1) fun v70=>
 Bj v0 fun v71=>
 An 267 v71 fun v72=>
 Jf 1 v72 v70 h fun h=>
 B8 6 v15 h fun v73=>
 Jf 6 v8 v73 h fun h=>
 H3 TT [.c v8 83,.v (.int .i64 0)] h)
 (Ap Gj (bin TT .eql 28) v40 (.int .i64 34) fun v75=>
 Fg v75
 (C0 (Gk [(0,1),(1,1),(2,1),(3,1),(4,1),(5,1)]) [(.int .i64 0),(.int .i64 0),(.int .i64 0),(.int .i64 0),(.int .i64 0),(.int .i64 0)] [] fun v76=>
 Jf 6 v8 v76 h fun h=>
 H3 TT [.c v8 83,.v v40] h)
 (P9 c r K ih0_ v0 v2 v3 v5 v8 v39 h))
def B7(c r:Ac)(K:Nat):Nat->EV->EV->EV->EV->EV->Aa->R
 | 0=>fun _ _ _ _ _ _=>none
 | m+1=>fun v0 v2 v3 v5 v8 h=>
  Al (c 80 [v0] h) fun v28 h=>
  Ap La (bin TT .neq 28) v28 (.int .i64 0) fun v30=>
  Fg v30
  (C0 (Gk [(0,1),(1,1),(2,1),(3,1),(4,1),(5,1)]) [(.int .i64 0),(.int .i64 0),(.int .i64 0),(.int .i64 0),(.int .i64 0),(.int .i64 0)] [] fun v31=>
  Jf 6 v8 v31 h fun h=>
  H3 TT [.c v8 83,.v v28] h)
  (Pp c r K (B7 c r K m) v0 v2 v3 v5 v8 h)
def Qj(c r:Ac)(K:Nat)(v0 v2 v3 v5 v8:EV)(h:Aa):R:=
 B7 c r K K v0 v2 v3 v5 v8 h
def S7(c r:Ac)(K:Nat)(v0 v1 v2 v3:EV)(h:Aa):R:=
 E3 89 v1 h fun v5 h=>
 Mo (.cells [(.int .i64 0),(.int .i64 0),(.int .i64 0),(.int .i64 0),(.int .i64 0),(.int .i64 0)] 83) h fun v8 h=>
 B8 38 v5 h fun v17=>
 Al (Hv K v17 (.int .i64 0) (.int .i64 0) v2 v3 h) fun v20 h=>
 Cq 0 v20 fun v21=>
 Cq 1 v20 fun v22=>
 Mo (.cells (List.replicate 5 (.int .i64 0)++List.replicate 44 (.int .u8 0)) 120) h fun v10 h=>
 Jf 49 v10 v21 h fun h=>
 Ap La (bin TT .neq 28) v22 (.int .i64 0) fun v24=>
 Fg v24
 (C0 (Gk [(0,1),(1,1),(2,1),(3,1),(4,1),(5,1)]) [(.int .i64 0),(.int .i64 0),(.int .i64 0),(.int .i64 0),(.int .i64 0),(.int .i64 0)] [] fun v25=>
 Jf 6 v8 v25 h fun h=>
 H3 TT [.c v8 83,.v v22] h)
 (Qj c r K v0 v2 v3 v5 v8 h)
abbrev Aad(K:Nat)(c:Ac):Ac:=(w5 79 (Hv K) (w2 82 (Mg K) c))
theorem Wn(c r:Ac)(K:Nat)(m:Nat):Jb (fun ih=>Ht TT (Aad K c) c r K (nOf TT 34) (Gy TT 34) (Tx TT 34 [true,true,false]) [(0,Gy TT 34)] ih) m=fun ρ h=>B7 c r K m (ρ 0) (ρ 2) (ρ 3) (ρ 5) (ρ 8) h:=
 Dl (E:=fun m ρ h=>B7 c r K m (ρ 0) (ρ 2) (ρ 3) (ρ 5) (ρ 8) h) rfl (fun m=>To fun ρ h=>by
  show _=B7 c r K (m+1) (ρ 0) (ρ 2) (ρ 3) (ρ 5) (ρ 8) h
  rw[B7];kernel_rfl) m
theorem X0(H:Au disp)(hd:5<=d)(v0 v1 v2 v3:EV)(h:Aa):Af TT disp K (d+1) false 34 [v0,v1,v2,v3] h=S7 (Af TT disp K d false) (Af TT disp K d true) K v0 v1 v2 v3 h:=
 Vb (H.bare (by kernel_rfl)) (by kernel_rfl) (W5 (Qu H (lq hd rfl)) (W2 (Vp H (lq hd rfl)) rfl)) (cut [true,true,false] (Wn (Af TT disp K d false) (Af TT disp K d true) K K) (by kernel_rfl) (by kernel_rfl) rfl) (by kernel_rfl)
def Jq(c r:Ac)(K:Nat)(v14:EV)(h:Aa):R:=
 some (v14,h)
def Hn(c r:Ac)(K:Nat)(v14 v58 v64:EV)(h:Aa):R:=
 Bg v58 v64 (.bool false) fun v65=>
 Fg v65
 (some ((.int .i64 30),h))
 (Jq c r K v14 h)
def R8(c r:Ac)(K:Nat)(v0 v2 v15:EV)(h:Aa):R:=
 Gn h fun base s=>
 Bj v0 fun v48=>
 An 0 v48 fun v49=>
 A9 3 7 base v49 s fun s=>Am v49 h fun v50=>
 A9 5 0 base v15 s fun s=>B8 64 v15 h fun v52=>
 Cs 6 63 s h (fun h=>(c 164 [v50,v2,v52] h)) fun v53 h s=>
 Cq 0 v53 fun v54=>
 Cq 1 v53 fun v55=>
 Ap Gj (bin TT .eql 28) v55 (.int .i64 0) fun v57=>
 Ao (As v57 true)
 (Bj v0 fun v61=>
 An 267 v61 fun v62=>
 Am v62 h fun v63=>
 Ap La (bin TT .neq 3) v54 v63 fun v64=>
 Hn c r K v55 v57 v64 h)
 (Hn c r K v55 v57 (.tuple []) h)
def Rt(c r:Ac)(K:Nat)(v0 v2 v13:EV)(h:Aa):R:=
 Gn h fun base s=>
 Bj v0 fun v36=>
 An 7 v36 fun v37=>
 A9 3 7 base v37 s fun s=>B8 256 v37 h fun v38=>
 A9 4 0 base v13 s fun s=>B8 49 v13 h fun v39=>
 Cs 5 31 s h (fun h=>(Tp K v38 v39 h)) fun v40 h s=>
 Cq 0 v40 fun v41=>
 Cq 1 v40 fun v42=>
 Ad6 9 h s fun s=>Mo (.cells (List.replicate 64 (.int .u8 0)) 103) h fun v15 h=>
 Ac3 10 767 v15 s fun s=>Jf 64 v15 v41 h fun h=>
 Ap La (bin TT .neq 28) v42 (.int .i64 0) fun v44=>
 Fg v44
 (some (v42,h))
 (R8 c r K v0 v2 v15 h)
def Vy(c r:Ac)(K:Nat)(v0 v1 v2 v3 v4 v5:EV)(h:Aa):R:=
 E3 89 v1 h fun v7 h=>
 An 5 v7 fun v18=>
 Jf 1 v18 v3 h fun h=>
 Gn h fun base s=>
 A9 0 0 base v7 s fun s=>B8 38 v7 h fun v20=>
 Bj v0 fun v23=>
 An 267 v23 fun v24=>
 A9 5 28 base v24 s fun s=>Am v24 h fun v25=>
 Cs 8 255 s h (fun h=>(Hv K v20 v2 v25 v4 v5 h)) fun v28 h s=>
 Cq 0 v28 fun v29=>
 Cq 1 v28 fun v30=>
 Ad6 12 h s fun s=>Mo (.cells (List.replicate 5 (.int .i64 0)++List.replicate 44 (.int .u8 0)) 120) h fun v13 h=>
 Ac3 13 6143 v13 s fun s=>Jf 49 v13 v29 h fun h=>
 Ap La (bin TT .neq 28) v30 (.int .i64 0) fun v32=>
 Fg v32
 (some (v30,h))
 (Rt c r K v0 v2 v13 h)
theorem Z9(H:Au disp)(hd:5<=d)(v0 v1 v2 v3 v4 v5:EV)(h:Aa):Af TT disp K (d+1) false 131 [v0,v1,v2,v3,v4,v5] h=Vy (Af TT disp K d false) (Af TT disp K d true) K v0 v1 v2 v3 v4 v5 h:=
 Vb (H.bare (by kernel_rfl)) (by kernel_rfl) (W5 (Qu H (lq hd rfl)) (W2 (Ahd H (lq hd rfl)) rfl)) rfl (by kernel_rfl)
end
end Go.Ev
