import Derived.Test.YtpkcfamminlmaaaGreatDa
set_option linter.unusedVariables false
set_option linter.unusedSimpArgs false
set_option linter.unusedSectionVars false
namespace Go.Ev
open Go.Proofs
set_option maxRecDepth 100000
set_option maxHeartbeats 4000000
noncomputable section
variable {disp:Nat->Option FT}{K d:Nat}
def Fv(K:Nat)(v0 v1:EV)(h:Aa):R:=
 Bj v0 fun v6=>
 Ap 0 v6 fun v7=>
 Av v7 h fun v8=>
 Al (Aqn v8 v1 h) fun v10 h=>
 B3 0 v10 fun v11=>
 Ar G1 (bin TT .eql 3) v11 (.int .i64 0) fun v12=>
 Dx v12
 (some ((.int .i64 0),h))
 (some ((.int .i64 17),h))
theorem Ps(H:Aq disp)(hd:1<=d)(v0 v1:EV)(h:Aa):Ad TT disp K d false 61 [v0,v1] h=Fv K v0 v1 h:=
 Cm (H.bare (by kernel_rfl)) hd (by kernel_rfl) (fun d hd=>rfl) (fun d c r=>rfl) (fun d c r=>by kernel_rfl)
def Aar(K:Nat)(v0:EV)(h:Aa):R:=
 D8 49 v0 h fun v1 h=>
 some ((.func 149 [] [v1]),h)
theorem Ai6(H:Aq disp)(hd:1<=d)(v0:EV)(h:Aa):Ad TT disp K d false 105 [v0] h=Aar K v0 h:=
 Cm (H.bare (by kernel_rfl)) hd (by kernel_rfl) (fun d hd=>rfl) (fun d c r=>rfl) (fun d c r=>by kernel_rfl)
def Abe(K:Nat)(v0 v1:EV)(h:Aa):R:=
 Av v1 h fun v5=>
 Ar E5 (bin TT .neq 3) v0 v5 fun v6=>
 some (v6,h)
theorem Af3(H:Aq disp)(hd:1<=d)(v0 v1:EV)(h:Aa):Ad TT disp K d false 122 [v0,v1] h=Abe K v0 v1 h:=
 Cm (H.bare (by kernel_rfl)) hd (by kernel_rfl) (fun d hd=>rfl) (fun d c r=>rfl) (fun d c r=>by kernel_rfl)
def Vi(K:Nat)(v0:EV)(h:Aa):R:=
 D8 153 v0 h fun v1 h=>
 some ((.func 190 [] [v1]),h)
theorem Agq(H:Aq disp)(hd:1<=d)(v0:EV)(h:Aa):Ad TT disp K d false 150 [v0] h=Vi K v0 h:=
 Cm (H.bare (by kernel_rfl)) hd (by kernel_rfl) (fun d hd=>rfl) (fun d c r=>rfl) (fun d c r=>by kernel_rfl)
def Et(K:Nat)(v0:EV)(h:Aa):R:=
 Bj v0 fun v7=>
 Ap 0 v7 fun v8=>
 Av v8 h fun v9=>
 Al (Aqs (.int .i64 0) v9 h) fun v10 h=>
 B3 0 v10 fun v11=>
 Ar G1 (bin TT .eql 3) v11 (.int .i64 0) fun v12=>
 Dx v12
 (B3 2 v10 fun v14=>
 some (.tuple [v14,(.int .i64 0)],h))
 (some (.tuple [(.int .i64 0),(.int .i64 15)],h))
theorem N2(H:Aq disp)(hd:1<=d)(v0:EV)(h:Aa):Ad TT disp K d false 171 [v0] h=Et K v0 h:=
 Cm (H.bare (by kernel_rfl)) hd (by kernel_rfl) (fun d hd=>rfl) (fun d c r=>rfl) (fun d c r=>by kernel_rfl)
def Pm(K:Nat)(v3:EV)(h:Aa):R:=
 some (v3,h)
def Wi(K:Nat)(ih1_:EV->EV->EV->EV->EV->Aa->R)(v0 v3 v24 v25 v26:EV)(h:Aa):R:=
 Ar Fx (bin TT .add 3) v26 (.int .i64 1) fun v33=>
 ih1_ v0 v3 v24 v25 v33 h
def V7(K:Nat)(ih1_:EV->EV->EV->EV->EV->Aa->R)(v0 v3 v24 v25 v26:EV)(h:Aa):R:=
 Gn 1 v24 v26 fun v28=>
 Av v28 h fun v29=>
 Al (Fv K v0 v29 h) fun v32 h=>
 Wi K ih1_ v0 v3 v24 v25 v26 h
def E1(K:Nat):Nat->EV->EV->EV->EV->EV->Aa->R
 | 0=>fun _ _ _ _ _ _=>none
 | m+1=>fun v0 v3 v24 v25 v26 h=>
  Ar Gc (bin TT .lss 3) v26 v25 fun v27=>
  Dx v27
  (V7 K (E1 K m) v0 v3 v24 v25 v26 h)
  (Pm K v3 h)
def Pr(K:Nat)(v0 v3:EV)(h:Aa):R:=
 E9 v3 fun v25=>
 E1 K K v0 v3 v3 v25 (.int .i64 0) h
def Po(K:Nat)(ih6_:EV->EV->EV->EV->Aa->R)(v0 v3 v9 v10:EV)(h:Aa):R:=
 Ar Fx (bin TT .add 3) v10 (.int .i64 1) fun v23=>
 ih6_ v0 v3 v9 v23 h
def Wa(K:Nat)(ih6_:EV->EV->EV->EV->Aa->R)(v0 v3 v9 v10:EV)(h:Aa):R:=
 Al (Et K v0 h) fun v14 h=>
 B3 0 v14 fun v15=>
 B3 1 v14 fun v16=>
 Ar G1 (bin TT .eql 28) v16 (.int .i64 0) fun v18=>
 Dx v18
 (Al (B5 [(.int .i64 0)] 3 1 1 [(0,v15)] h) fun v21 h=>
 Al (Dy 3 1 v3 v21 h) fun v22 h=>
 Po K ih6_ v0 v22 v9 v10 h)
 (Po K ih6_ v0 v3 v9 v10 h)
def E0(K:Nat):Nat->EV->EV->EV->EV->Aa->R
 | 0=>fun _ _ _ _ _=>none
 | m+1=>fun v0 v3 v9 v10 h=>
  Ar Gc (bin TT .lss 3) v10 v9 fun v11=>
  Dx v11
  (Wa K (E0 K m) v0 v3 v9 v10 h)
  (Pr K v0 v3 h)
def Lm(K:Nat)(v0:EV)(h:Aa):R:=
 Al (C4 K v0 h) fun v9 h=>
 E0 K K v0 .Af v9 (.int .i64 0) h
abbrev X8(K:Nat)(c:Ae):Ae:=(w1 71 (C4 K) (w2 61 (Fv K) (w1 171 (Et K) c)))
theorem Ad1(c c' r:Ae)(K:Nat)(m:Nat):Io (fun ih=>Hy TT (X8 K c) c' r K (nOf TT 191) (F7 TT 191) (Q2 TT 191 [true,true,true,false,true,false]) [(2,fun ρ h=>Pm K (ρ 3) h)] ih) m=fun ρ h=>E1 K m (ρ 0) (ρ 3) (ρ 24) (ρ 25) (ρ 26) h:=
 C6 (E:=fun m ρ h=>E1 K m (ρ 0) (ρ 3) (ρ 24) (ρ 25) (ρ 26) h) rfl (fun m=>Qz fun ρ h=>by
  show _=E1 K (m+1) (ρ 0) (ρ 3) (ρ 24) (ρ 25) (ρ 26) h
  rw[E1];kernel_rfl) m
theorem Aei(c c' r:Ae)(K:Nat)(m:Nat):Io (fun ih=>Hy TT (X8 K c) c' r K (nOf TT 191) (F7 TT 191) (Q2 TT 191 [true,true,false,true,false]) [(0,fun ρ h=>Pr K (ρ 0) (ρ 3) h)] ih) m=fun ρ h=>E0 K m (ρ 0) (ρ 3) (ρ 9) (ρ 10) h:=
 C6 (E:=fun m ρ h=>E0 K m (ρ 0) (ρ 3) (ρ 9) (ρ 10) h) rfl (fun m=>Qz fun ρ h=>by
  show _=E0 K (m+1) (ρ 0) (ρ 3) (ρ 9) (ρ 10) h
  rw[E0];kernel_rfl) m
theorem Af4(H:Aq disp)(hd:2<=d)(v0:EV)(h:Aa):Ad TT disp K d false 191 [v0] h=Lm K v0 h:=
 Cm (H.bare (by kernel_rfl)) hd (by kernel_rfl) (fun d hd=>(W1 (I7 H (lq hd rfl)) (W2 (Ps H (lq hd rfl)) (W1 (N2 H (lq hd rfl)) rfl)))) (fun d c r=>(cut [true,true,true,false,true,false] (Ad1 (Ad TT disp K d false) c r K K) (by kernel_rfl) (by kernel_rfl) (cut [true,true,false,true,false] (Aei (Ad TT disp K d false) c r K K) (by kernel_rfl) (by kernel_rfl) rfl))) (fun d c r=>by kernel_rfl)
theorem Xz:(Ds TT 49 0).1=.tmp 8:=by kernel_rfl
def Lk(c r:Ae)(K:Nat)(tm:Ac)(v4:EV)(h:Aa)(ds:List Nat):R:=
 Dw 1 v4 (.bool false) h fun h=>
 Ej ds h fun h=>Ct TT [.c v4 4] h
theorem Aiu(H:Aq disp)(hd:1<=d)(tm:Ac)(h:Aa)(ds:List Nat):A2o (Ad TT disp K d false) (Ad TT disp K d true) K tm h ds=Lk (Ad TT disp K d false) (Ad TT disp K d true) K tm (tmp tm 4) h ds:=by
 simp only[A2o,Lk,Avm,dd,↓reduceIte,Nat.reduceEqDiff,Int.reduceOfNat,Int.reduceNegSucc,Nat.reduceAdd,tt0]
def Aaq(c r:Ae)(K:Nat)(v0 v1:EV)(h:Aa):R:=
 (fun(tm:Ac) (ds:List Nat)=>
 D8 3 v1 h fun v3 h=>
 Fw (.cells [(.bool false)] 4) h fun v4 h=>
 Al (Aar K v0 h) fun v8 h=>
 Aab c TT 49 14 0 v8 ((((tm.put 3 (some v3)).put 4 (some v4)).put 7 (some v0)).put 8 (some v8)) h ds (fun h ds=>
 Lk c r K ((((tm.put 3 (some v3)).put 4 (some v4)).put 7 (some v0)).put 8 (some v8)) v4 h ds) (fun id h ds=>
 Ay (Nat.beq 0 id) (Lk c r K ((((tm.put 3 (some v3)).put 4 (some v4)).put 7 (some v0)).put 8 (some v8)) v4 h ds) (none)) (fun h ds=>
 Ej ds h fun h=>Ct TT [.c v4 4] h)) ((Tr.nil.put 0 (some v0)).put 1 (some v1)) []
theorem Akm(H:Aq disp)(hd:1<=d)(v0 v1:EV)(h:Aa):Ad TT disp K (d+1) false 49 [v0,v1] h=Aaq (Ad TT disp K d false) (Ad TT disp K d true) K v0 v1 h:=by
 rw[Ae6 ((H.plain 49 rfl).trans (show Ala 49=some F49 by kernel_rfl))]
 unfold F49
 rw[Auv (by simp)]
 simp only[Aaq,Avm,dd,↓reduceIte,Nat.reduceEqDiff,Int.reduceOfNat,Int.reduceNegSucc,Nat.reduceAdd,Aiu H hd,Ai6 H (lq hd rfl),tt0,Aq9 Xz,Amb Xz,Ail,Ah8,Agn,Ao6]
def Kk(c r:Ae)(K:Nat)(l:Nat)(v3:EV)(v4:EV)(v6:EV)(h:Aa):R:=
 Av v3 h fun v12=>
 Ar G1 (bin TT .eql 3) v6 v12 fun v13=>
 Dx v13
 (Dw 1 v4 (.bool true) h fun h=>
 Arb l false .done (some .ret) h)
 (Arb l true .ready none h)
theorem Ab2(H:Aq disp)(hd:1<=d){l:Nat}(tm:Ac)(h:Aa):Amd (Ad TT disp K d false) (Ad TT disp K d true) K l tm h []=Kk (Ad TT disp K d false) (Ad TT disp K d true) K l (tmp tm 3) (tmp tm 4) (tmp tm 6) h:=by
 simp only[Amd,Kk,dd,↓reduceIte,Nat.reduceEqDiff,Int.reduceOfNat,Int.reduceNegSucc,Nat.reduceAdd,tt0]
def O0(c r:Ae)(K:Nat)(l:Nat)(v3:EV)(v4:EV)(v10:EV)(h:Aa):R:=
 Gb l h fun h=>Kk c r K l v3 v4 v10 h
theorem Aib(H:Aq disp)(hd:1<=d){l:Nat}(tm:Ac)(h:Aa):A87 (Ad TT disp K d false) (Ad TT disp K d true) K l tm h []=O0 (Ad TT disp K d false) (Ad TT disp K d true) K l (tmp tm 3) (tmp tm 4) (tmp tm 10) h:=by
 simp only[A87,O0,dd,↓reduceIte,Nat.reduceEqDiff,Int.reduceOfNat,Int.reduceNegSucc,Nat.reduceAdd,Ab2 H hd,tt0]
theorem Af0(H:Aq disp)(hd:1<=d){l:Nat}(tm:Ac)(h:Aa)(x9:EV)(x10:EV){st:LoopState}{p:Option Code}{d0:Nat}(hg:h.get l=some (.loop st p 49 14 tm [9,10] (Ds TT 49 0).2.2.1 (Ds TT 49 0).2.2.2 d0)):
 Ad TT disp K (d+1) true l [x9,x10] h=O0 (Ad TT disp K d false) (Ad TT disp K d true) K l (tmp tm 3) (tmp tm 4) x10 h:=by
 rw[Aev,Ais hg (show Nb [9,10] [x9,x10] 14 tm=some ((tm.put 9 (some x9)).put 10 (some x10)) from rfl),A6c,Aib H hd]
 simp only[dd,↓reduceIte,Nat.reduceEqDiff,Int.reduceOfNat,Int.reduceNegSucc,Nat.reduceAdd]
def V1(K:Nat)(v1 v2:EV)(h:Aa):R:=
 Ap 1 v2 fun v14=>
 Av v14 h fun v15=>
 K3 (bin TT .quo 3) v1 v15 fun v16=>
 some (v16,h)
def K8(K:Nat)(v1 v2 v7 v11:EV)(h:Aa):R:=
 Br v7 (.bool true) v11 fun v12=>
 Dx v12
 (some ((.int .i64 (-1)),h))
 (V1 K v1 v2 h)
def F2(K:Nat)(v0 v1:EV)(h:Aa):R:=
 D8 23 v0 h fun v2 h=>
 Ar Gc (bin TT .lss 3) v1 (.int .i64 0) fun v6=>
 Ay (Ah v6 false)
 (B4 6 v2 h fun v9=>
 Al (Hj K v9 h) fun v10 h=>
 Ar Y0 (bin TT .geq 3) v1 v10 fun v11=>
 K8 K v1 v2 v6 v11 h)
 (K8 K v1 v2 v6 (.tuple []) h)
theorem Iu(H:Aq disp)(hd:2<=d)(v0 v1:EV)(h:Aa):Ad TT disp K d false 60 [v0,v1] h=F2 K v0 v1 h:=
 Cm (H.bare (by kernel_rfl)) hd (by kernel_rfl) (fun d hd=>(W1 (Kn H (lq hd rfl)) rfl)) (fun d c r=>rfl) (fun d c r=>by kernel_rfl)
def Zu(c r:Ae)(K:Nat)(h:Aa):R:=
 some ((.int .i64 0),h)
def Kq(c r:Ae)(K:Nat)(v14 v24:EV)(h:Aa):R:=
 Br v14 (.bool true) v24 fun v25=>
 Dx v25
 (some ((.int .i64 15),h))
 (Zu c r K h)
def Afh(c r:Ae)(K:Nat)(v0 v1:EV)(h:Aa):R:=
 D8 3 v1 h fun v3 h=>
 E4 h fun base s=>
 Bj v0 fun v7=>
 Ap 0 v7 fun v8=>
 Bc 3 7 base v8 s fun s=>B4 6 v8 h fun v9=>
 Bc 4 0 base v3 s fun s=>Av v3 h fun v10=>
 Cs 5 31 s h (fun h=>(F2 K v9 v10 h)) fun v11 h s=>
 Ar Gc (bin TT .lss 3) v11 (.int .i64 0) fun v13=>
 Ay (Ah v13 false)
 (Bj v0 fun v16=>
 Ap 6 v16 fun v17=>
 Av v17 h fun v18=>
 Gn 1 v18 v11 fun v20=>
 Av v20 h fun v21=>
 Al (c 121 [v21,(.func 122 [] [v3])] h) fun v23 h=>
 Ar G1 (bin TT .eql 3) v23 (.int .i64 0) fun v24=>
 Kq c r K v13 v24 h)
 (Kq c r K v13 (.tuple []) h)
theorem Aik(H:Aq disp)(hd:2<=d)(v0 v1:EV)(h:Aa):Ad TT disp K (d+1) false 69 [v0,v1] h=Afh (Ad TT disp K d false) (Ad TT disp K d true) K v0 v1 h:=
 Q5 (H.bare (by kernel_rfl)) (by kernel_rfl) (W2 (Iu H (lq hd rfl)) rfl) rfl (by kernel_rfl)
def K7(c r:Ae)(K:Nat)(v5:EV)(h:Aa):R:=
 some (v5,h)
def K5(c r:Ae)(K:Nat)(ih1_:EV->EV->EV->EV->EV->Aa->R)(v0 v1 v5 v9 v10:EV)(h:Aa):R:=
 Ar Fx (bin TT .add 3) v10 (.int .i64 1) fun v28=>
 ih1_ v0 v1 v5 v9 v28 h
def Wo(c r:Ae)(K:Nat)(ih1_:EV->EV->EV->EV->EV->Aa->R)(v0 v1 v5 v6 v9 v10:EV)(h:Aa):R:=
 Al (Fv K v0 v6 h) fun v27 h=>
 K5 c r K ih1_ v0 v1 v5 v9 v10 h
def Vw(c r:Ae)(K:Nat)(ih1_:EV->EV->EV->EV->EV->Aa->R)(v0 v1 v5 v6 v9 v10:EV)(h:Aa):R:=
 Al (U3 c r v1 [v6] h) fun v21 h=>
 Pw v21 fun v22=>
 Dx v22
 (Ar Fx (bin TT .add 3) v5 (.int .i64 1) fun v24=>
 K5 c r K ih1_ v0 v1 v24 v9 v10 h)
 (Wo c r K ih1_ v0 v1 v5 v6 v9 v10 h)
def Wt(c r:Ae)(K:Nat)(ih1_:EV->EV->EV->EV->EV->Aa->R)(v0 v1 v5 v9 v10:EV)(h:Aa):R:=
 Al (Et K v0 h) fun v14 h=>
 B3 0 v14 fun v15=>
 B3 1 v14 fun v16=>
 Ar E5 (bin TT .neq 28) v16 (.int .i64 0) fun v18=>
 Dx v18
 (K7 c r K v5 h)
 (Vw c r K ih1_ v0 v1 v5 v15 v9 v10 h)
def Ey(c r:Ae)(K:Nat):Nat->EV->EV->EV->EV->EV->Aa->R
 | 0=>fun _ _ _ _ _ _=>none
 | m+1=>fun v0 v1 v5 v9 v10 h=>
  Ar Gc (bin TT .lss 3) v10 v9 fun v11=>
  Dx v11
  (Wt c r K (Ey c r K m) v0 v1 v5 v9 v10 h)
  (K7 c r K v5 h)
def Abo(c r:Ae)(K:Nat)(v0 v1:EV)(h:Aa):R:=
 Al (C4 K v0 h) fun v9 h=>
 Ey c r K K v0 v1 (.int .i64 0) v9 (.int .i64 0) h
abbrev Aiv(K:Nat)(c:Ae):Ae:=(w1 71 (C4 K) (w2 61 (Fv K) (w1 171 (Et K) c)))
theorem Aec(c r:Ae)(K:Nat)(m:Nat):Io (fun ih=>Hy TT (Aiv K c) c r K (nOf TT 121) (F7 TT 121) (Q2 TT 121 [true,true,false,true,false]) [(0,fun ρ h=>K7 c r K (ρ 5) h)] ih) m=fun ρ h=>Ey c r K m (ρ 0) (ρ 1) (ρ 5) (ρ 9) (ρ 10) h:=
 C6 (E:=fun m ρ h=>Ey c r K m (ρ 0) (ρ 1) (ρ 5) (ρ 9) (ρ 10) h) rfl (fun m=>Qz fun ρ h=>by
  show _=Ey c r K (m+1) (ρ 0) (ρ 1) (ρ 5) (ρ 9) (ρ 10) h
  rw[Ey];kernel_rfl) m
theorem Afz(H:Aq disp)(hd:1<=d)(v0 v1:EV)(h:Aa):Ad TT disp K (d+1) false 121 [v0,v1] h=Abo (Ad TT disp K d false) (Ad TT disp K d true) K v0 v1 h:=
 Q5 (H.bare (by kernel_rfl)) (by kernel_rfl) (W1 (I7 H (lq hd rfl)) (W2 (Ps H (lq hd rfl)) (W1 (N2 H (lq hd rfl)) rfl))) (cut [true,true,false,true,false] (Aec (Ad TT disp K d false) (Ad TT disp K d true) K K) (by kernel_rfl) (by kernel_rfl) rfl) (by kernel_rfl)
theorem Vb:(Ds TT 149 0).1=.tmp 18:=by kernel_rfl
def Ig(c r:Ae)(K:Nat)(ih0_:Ac->EV->EV->EV->Aa->List Nat->R)(tm:Ac)(v10:EV)(v11:EV)(v12:EV)(h:Aa)(ds:List Nat):R:=
 Ar Fx (bin TT .add 3) v12 (.int .i64 1) fun v26=>
 ih0_ ((tm.put 26 (some v26)).put 12 (some v26)) v10 v11 v26 h ds
theorem Afm(H:Aq disp)(hd:1<=d){ih0_:CF}{ih0_':Ac->EV->EV->EV->Aa->List Nat->R}(hih0_:∀ tm h ds,ih0_ tm h ds=ih0_' tm (tmp tm 10) (tmp tm 11) (tmp tm 12) h ds)(tm:Ac)(h:Aa)(ds:List Nat):Aqj (Ad TT disp K d false) (Ad TT disp K d true) K ih0_ tm h ds=Ig (Ad TT disp K d false) (Ad TT disp K d true) K ih0_' tm (tmp tm 10) (tmp tm 11) (tmp tm 12) h ds:=by
 simp only[Aqj,Ig,Acr,dd,↓reduceIte,Nat.reduceEqDiff,Int.reduceOfNat,Int.reduceNegSucc,Nat.reduceAdd,hih0_,tt0]
def Ml(c r:Ae)(K:Nat)(ih0_:Ac->EV->EV->EV->Aa->List Nat->R)(tm:Ac)(v10:EV)(v11:EV)(v12:EV)(h:Aa)(ds:List Nat):R:=
 Gn 1 v10 v12 fun v15=>
 Av v15 h fun v16=>
 Fw (.cells [(.int .i64 0)] 3) h fun v3 h=>
 Dw 1 v3 v12 h fun h=>
 Al (Vi K v16 h) fun v18 h=>
 Aab c TT 149 27 0 v18 (((((((tm.put 14 (some v12)).put 15 (some v15)).put 16 (some v16)).put 3 (some v3)).put 4 (some v16)).put 17 (some v16)).put 18 (some v18)) h ds (fun h ds=>
 Ig c r K ih0_ (((((((tm.put 14 (some v12)).put 15 (some v15)).put 16 (some v16)).put 3 (some v3)).put 4 (some v16)).put 17 (some v16)).put 18 (some v18)) v10 v11 v12 h ds) (fun id h ds=>
 Ay (Nat.beq 2 id) (Ig c r K ih0_ (((((((tm.put 14 (some v12)).put 15 (some v15)).put 16 (some v16)).put 3 (some v3)).put 4 (some v16)).put 17 (some v16)).put 18 (some v18)) v10 v11 v12 h ds) (Ay (Nat.beq 1 id) (Ig c r K ih0_ (((((((tm.put 14 (some v12)).put 15 (some v15)).put 16 (some v16)).put 3 (some v3)).put 4 (some v16)).put 17 (some v16)).put 18 (some v18)) v10 v11 v12 h ds) (Ay (Nat.beq 0 id) (Ej ds h fun h=>some (.tuple [],h)) (none)))) (fun h ds=>
 Ej ds h fun h=>some (.tuple [],h))
theorem Afp(H:Aq disp)(hd:1<=d){ih0_:CF}{ih0_':Ac->EV->EV->EV->Aa->List Nat->R}(hih0_:∀ tm h ds,ih0_ tm h ds=ih0_' tm (tmp tm 10) (tmp tm 11) (tmp tm 12) h ds)(tm:Ac)(h:Aa)(ds:List Nat):Azd (Ad TT disp K d false) (Ad TT disp K d true) K ih0_ tm h ds=Ml (Ad TT disp K d false) (Ad TT disp K d true) K ih0_' tm (tmp tm 10) (tmp tm 11) (tmp tm 12) h ds:=by
 simp only[Azd,Ml,Acr,dd,↓reduceIte,Nat.reduceEqDiff,Int.reduceOfNat,Int.reduceNegSucc,Nat.reduceAdd,hih0_,Afm H hd hih0_,Agq H (lq hd rfl),tt0,Aq9 Vb,Amb Vb,Ail,Ah8,Agn,Ao6]
def H8(c r:Ae)(K:Nat):Nat->Ac->EV->EV->EV->Aa->List Nat->R
 | 0=>fun _ _ _ _ _ _=>none
 | m+1=>fun tm v10 v11 v12 h ds=>
  Ar Gc (bin TT .lss 3) v12 v11 fun v13=>
  Dx v13
  (Ml c r K (H8 c r K m) (tm.put 13 (some v13)) v10 v11 v12 h ds)
  (Ej ds h fun h=>some (.tuple [],h))
theorem Afo(H:Aq disp)(hd:1<=d):∀ (m:Nat) (tm:Ac) (h:Aa) (ds:List Nat),Adm (Azg (Ad TT disp K d false) (Ad TT disp K d true) K) m tm h ds=H8 (Ad TT disp K d false) (Ad TT disp K d true) K m tm (tmp tm 10) (tmp tm 11) (tmp tm 12) h ds:=by
 intro m
 induction m with
 | zero=>intros;rfl
 | succ m hih0_=>
  intro tm h ds
  rw[Ah0]
  simp only[Azg,H8,Acr,dd,↓reduceIte,Nat.reduceEqDiff,Int.reduceOfNat,Int.reduceNegSucc,Nat.reduceAdd,hih0_,Afp H hd hih0_,tt0]
def Vq(c r:Ae)(K:Nat)(v0 v1:EV)(h:Aa):R:=
 (fun(tm:Ac) (ds:List Nat)=>
 D8 142 v0 h fun v2 h=>
 Av v1 h fun v7=>
 Bj v7 fun v8=>
 Ap 6 v8 fun v9=>
 Av v9 h fun v10=>
 E9 v10 fun v11=>
 H8 c r K K (((((((tm.put 2 (some v2)).put 7 (some v7)).put 8 (some v8)).put 9 (some v9)).put 10 (some v10)).put 11 (some v11)).put 12 (some (.int .i64 0))) v10 v11 (.int .i64 0) h ds) ((Tr.nil.put 0 (some v0)).put 1 (some v1)) []
theorem Ag5(H:Aq disp)(hd:1<=d)(v0 v1:EV)(h:Aa):Ad TT disp K (d+1) false 149 [v0,v1] h=Vq (Ad TT disp K d false) (Ad TT disp K d true) K v0 v1 h:=by
 rw[Ae6 ((H.plain 149 rfl).trans (show Ala 149=some Bb9 by kernel_rfl))]
 unfold Bb9
 rw[Auv (by simp)]
 simp only[Vq,Acr,dd,↓reduceIte,Nat.reduceEqDiff,Int.reduceOfNat,Int.reduceNegSucc,Nat.reduceAdd,Afo H hd,tt0]
def I8(c r:Ae)(K:Nat)(l:Nat)(v2:EV)(v3:EV)(v6:EV)(h:Aa):R:=
 Av v2 h fun v21=>
 Av v3 h fun v22=>
 Al (U3 c r v21 [v22,v6] h) fun v24 h=>
 Pw v24 fun v25=>
 Dx v25
 (Arb l false .done (some .ret) h)
 (Arb l true .ready none h)
theorem Aaj(H:Aq disp)(hd:1<=d){l:Nat}(tm:Ac)(h:Aa):Ah5 (Ad TT disp K d false) (Ad TT disp K d true) K l tm h []=I8 (Ad TT disp K d false) (Ad TT disp K d true) K l (tmp tm 2) (tmp tm 3) (tmp tm 6) h:=by
 simp only[Ah5,I8,dd,↓reduceIte,Nat.reduceEqDiff,Int.reduceOfNat,Int.reduceNegSucc,Nat.reduceAdd,tt0]
def L9(c r:Ae)(K:Nat)(l:Nat)(v2:EV)(v3:EV)(v20:EV)(h:Aa):R:=
 Gb l h fun h=>I8 c r K l v2 v3 v20 h
theorem Aek(H:Aq disp)(hd:1<=d){l:Nat}(tm:Ac)(h:Aa):A0p (Ad TT disp K d false) (Ad TT disp K d true) K l tm h []=L9 (Ad TT disp K d false) (Ad TT disp K d true) K l (tmp tm 2) (tmp tm 3) (tmp tm 20) h:=by
 simp only[A0p,L9,dd,↓reduceIte,Nat.reduceEqDiff,Int.reduceOfNat,Int.reduceNegSucc,Nat.reduceAdd,Aaj H hd,tt0]
theorem Acl(H:Aq disp)(hd:1<=d){l:Nat}(tm:Ac)(h:Aa)(x19:EV)(x20:EV){st:LoopState}{p:Option Code}{d0:Nat}(hg:h.get l=some (.loop st p 149 27 tm [19,20] (Ds TT 149 0).2.2.1 (Ds TT 149 0).2.2.2 d0)):
 Ad TT disp K (d+1) true l [x19,x20] h=L9 (Ad TT disp K d false) (Ad TT disp K d true) K l (tmp tm 2) (tmp tm 3) x20 h:=by
 rw[Aev,Ais hg (show Nb [19,20] [x19,x20] 27 tm=some ((tm.put 19 (some x19)).put 20 (some x20)) from rfl),A5h,Aek H hd]
 simp only[dd,↓reduceIte,Nat.reduceEqDiff,Int.reduceOfNat,Int.reduceNegSucc,Nat.reduceAdd]
def Zx(K:Nat)(v0 v1:EV)(h:Aa):R:=
 Bj v0 fun v18=>
 Ap 6 v18 fun v19=>
 Av v19 h fun v20=>
 Gn 1 v20 v1 fun v22=>
 Av v22 h fun v23=>
 Al (Et K v23 h) fun v24 h=>
 B3 0 v24 fun v25=>
 B3 1 v24 fun v26=>
 some (.tuple [v25,v26],h)
def Nx(K:Nat)(v0 v1 v8 v15:EV)(h:Aa):R:=
 Br v8 (.bool true) v15 fun v16=>
 Dx v16
 (some (.tuple [(.int .i64 0),(.int .i64 13)],h))
 (Zx K v0 v1 h)
def Oc(K:Nat)(v0 v1:EV)(h:Aa):R:=
 Ar Gc (bin TT .lss 3) v1 (.int .i64 0) fun v7=>
 Ay (Ah v7 false)
 (Bj v0 fun v11=>
 Ap 6 v11 fun v12=>
 Av v12 h fun v13=>
 E9 v13 fun v14=>
 Ar Y0 (bin TT .geq 3) v1 v14 fun v15=>
 Nx K v0 v1 v7 v15 h)
 (Nx K v0 v1 v7 (.tuple []) h)
theorem Aiz(H:Aq disp)(hd:2<=d)(v0 v1:EV)(h:Aa):Ad TT disp K d false 161 [v0,v1] h=Oc K v0 v1 h:=
 Cm (H.bare (by kernel_rfl)) hd (by kernel_rfl) (fun d hd=>(W1 (N2 H (lq hd rfl)) rfl)) (fun d c r=>rfl) (fun d c r=>by kernel_rfl)
def Uz(c r:Ae)(K:Nat)(ih0_:EV->EV->EV->EV->Aa->R)(v0 v6 v7 v8:EV)(h:Aa):R:=
 Ar Fx (bin TT .add 3) v8 (.int .i64 1) fun v18=>
 ih0_ v0 v6 v7 v18 h
def Vg(c r:Ae)(K:Nat)(ih0_:EV->EV->EV->EV->Aa->R)(v0 v6 v7 v8:EV)(h:Aa):R:=
 Gn 1 v6 v8 fun v11=>
 Av v11 h fun v12=>
 Al (U3 c r v0 [v8,v12] h) fun v16 h=>
 Pw v16 fun v17=>
 Dx v17
 (some (.tuple [],h))
 (Uz c r K ih0_ v0 v6 v7 v8 h)
def Eg(c r:Ae)(K:Nat):Nat->EV->EV->EV->EV->Aa->R
 | 0=>fun _ _ _ _ _=>none
 | m+1=>fun v0 v6 v7 v8 h=>
  Ar Gc (bin TT .lss 3) v8 v7 fun v9=>
  Dx v9
  (Vg c r K (Eg c r K m) v0 v6 v7 v8 h)
  (some (.tuple [],h))
def Zr(c r:Ae)(K:Nat)(v0 v1:EV)(h:Aa):R:=
 Av v1 h fun v5=>
 Al (Lm K v5 h) fun v6 h=>
 E9 v6 fun v7=>
 Eg c r K K v0 v6 v7 (.int .i64 0) h
abbrev Ag3(K:Nat)(c:Ae):Ae:=(w1 191 (Lm K) c)
theorem Ab7(c r:Ae)(K:Nat)(m:Nat):Io (fun ih=>Hy TT (Ag3 K c) c r K (nOf TT 190) (F7 TT 190) (Q2 TT 190 [true,false]) [(0,F7 TT 190)] ih) m=fun ρ h=>Eg c r K m (ρ 0) (ρ 6) (ρ 7) (ρ 8) h:=
 C6 (E:=fun m ρ h=>Eg c r K m (ρ 0) (ρ 6) (ρ 7) (ρ 8) h) rfl (fun m=>Qz fun ρ h=>by
  show _=Eg c r K (m+1) (ρ 0) (ρ 6) (ρ 7) (ρ 8) h
  rw[Eg];kernel_rfl) m
theorem Ad5(H:Aq disp)(hd:2<=d)(v0 v1:EV)(h:Aa):Ad TT disp K (d+1) false 190 [v0,v1] h=Zr (Ad TT disp K d false) (Ad TT disp K d true) K v0 v1 h:=
 Q5 (H.bare (by kernel_rfl)) (by kernel_rfl) (W1 (Af4 H (lq hd rfl)) rfl) (cut [true,false] (Ab7 (Ad TT disp K d false) (Ad TT disp K d true) K K) (by kernel_rfl) (by kernel_rfl) rfl) (by kernel_rfl)
def Zz(c r:Ae)(K:Nat)(v0 v1 v5:EV)(h:Aa):R:=
 Bj v0 fun v20=>
 Ap 6 v20 fun v21=>
 Av v21 h fun v22=>
 Gn 1 v22 v5 fun v24=>
 Av v24 h fun v25=>
 Al (Fv K v25 v1 h) fun v27 h=>
 some (v27,h)
def Afa(c r:Ae)(K:Nat)(v0 v1:EV)(h:Aa):R:=
 Bj v0 fun v7=>
 Ap 0 v7 fun v8=>
 B4 6 v8 h fun v9=>
 Al (F2 K v9 v1 h) fun v11 h=>
 Ar Gc (bin TT .lss 3) v11 (.int .i64 0) fun v14=>
 Dx v14
 (some ((.int .i64 13),h))
 (Al (c 49 [v0,v1] h) fun v18 h=>
 Dx v18
 (some ((.int .i64 16),h))
 (Zz c r K v0 v1 v11 h))
theorem Ah7(H:Aq disp)(hd:2<=d)(v0 v1:EV)(h:Aa):Ad TT disp K (d+1) false 15 [v0,v1] h=Afa (Ad TT disp K d false) (Ad TT disp K d true) K v0 v1 h:=
 Q5 (H.bare (by kernel_rfl)) (by kernel_rfl) (W2 (Iu H (lq hd rfl)) (W2 (Ps H (lq hd rfl)) rfl)) rfl (by kernel_rfl)
def Y7(K:Nat)(v7 v9 v10:EV)(h:Aa):R:=
 Ct TT [.v v7,.v v9,.v v10] h
def Z6(K:Nat)(v0:EV)(h:Aa):R:=
 Al (Hn K v0 (.int .i64 (-1)) h) fun v15 h=>
 Al (Hn K v0 v15 h) fun v18 h=>
 Al (Oc K v0 v15 h) fun v22 h=>
 B3 0 v22 fun v23=>
 B3 1 v22 fun v24=>
 Al (Oc K v0 v18 h) fun v28 h=>
 B3 0 v28 fun v29=>
 B3 1 v28 fun v30=>
 Ar E5 (bin TT .neq 28) v24 (.int .i64 0) fun v32=>
 Dx v32
 (Ct TT [.v (.int .i64 0),.v (.int .i64 0),.v v24] h)
 (Y7 K v23 v29 v30 h)
def R6(K:Nat)(v0:EV)(h:Aa):R:=
 Al (Qc K v0 h) fun v12 h=>
 Ar G1 (bin TT .eql 3) v12 (.int .i64 0) fun v13=>
 Dx v13
 (Ct TT [.v (.int .i64 0),.v (.int .i64 0),.v (.int .i64 15)] h)
 (Z6 K v0 h)
theorem Aiq(H:Aq disp)(hd:4<=d)(v0:EV)(h:Aa):Ad TT disp K d false 130 [v0] h=R6 K v0 h:=
 Cm (H.bare (by kernel_rfl)) hd (by kernel_rfl) (fun d hd=>(W1 (Agy H (lq hd rfl)) (W2 (S7 H (lq hd rfl)) (W2 (Aiz H (lq hd rfl)) rfl)))) (fun d c r=>rfl) (fun d c r=>by kernel_rfl)
end
end Go.Ev
