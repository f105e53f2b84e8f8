import Derived.Test.YtpkcfamminlmaaaGreatDa
set_option linter.unusedVariables false
set_option linter.unusedSimpArgs false
set_option linter.unusedSectionVars false
namespace Go.Ev
open Go.Proofs
set_option maxRecDepth 100000
set_option maxHeartbeats 4000000
noncomputable section
variable {disp:Nat->Option FT}{K d:Nat}
def Ei(K:Nat)(v0 v1:EV)(h:Aa):R:=
 Bj v0 fun v6=>
 An 0 v6 fun v7=>
 Am v7 h fun v8=>
 Al (Ak2 v8 v1 h) fun v10 h=>
 Cq 0 v10 fun v11=>
 Ap Gj (bin TT .eql 3) v11 (.int .i64 0) fun v12=>
 Fg v12
 (some ((.int .i64 0),h))
 (some ((.int .i64 17),h))
theorem Od(H:Au disp)(hd:1<=d)(v0 v1:EV)(h:Aa):Af TT disp K d false 61 [v0,v1] h=Ei K v0 v1 h:=
 C9 (H.bare (by kernel_rfl)) hd (by kernel_rfl) (fun d hd=>rfl) (fun d c r=>rfl) (fun d c r=>by kernel_rfl)
def W7(K:Nat)(v0:EV)(h:Aa):R:=
 E3 49 v0 h fun v1 h=>
 some ((.func 149 [] [v1]),h)
theorem Af3(H:Au disp)(hd:1<=d)(v0:EV)(h:Aa):Af TT disp K d false 105 [v0] h=W7 K v0 h:=
 C9 (H.bare (by kernel_rfl)) hd (by kernel_rfl) (fun d hd=>rfl) (fun d c r=>rfl) (fun d c r=>by kernel_rfl)
def Xy(K:Nat)(v0 v1:EV)(h:Aa):R:=
 Am v1 h fun v5=>
 Ap La (bin TT .neq 3) v0 v5 fun v6=>
 some (v6,h)
theorem Ace(H:Au disp)(hd:1<=d)(v0 v1:EV)(h:Aa):Af TT disp K d false 122 [v0,v1] h=Xy K v0 v1 h:=
 C9 (H.bare (by kernel_rfl)) hd (by kernel_rfl) (fun d hd=>rfl) (fun d c r=>rfl) (fun d c r=>by kernel_rfl)
def Sq(K:Nat)(v0:EV)(h:Aa):R:=
 E3 153 v0 h fun v1 h=>
 some ((.func 190 [] [v1]),h)
theorem Ac2(H:Au disp)(hd:1<=d)(v0:EV)(h:Aa):Af TT disp K d false 150 [v0] h=Sq K v0 h:=
 C9 (H.bare (by kernel_rfl)) hd (by kernel_rfl) (fun d hd=>rfl) (fun d c r=>rfl) (fun d c r=>by kernel_rfl)
def Dp(K:Nat)(v0:EV)(h:Aa):R:=
 Bj v0 fun v7=>
 An 0 v7 fun v8=>
 Am v8 h fun v9=>
 Al (Akc (.int .i64 0) v9 h) fun v10 h=>
 Cq 0 v10 fun v11=>
 Ap Gj (bin TT .eql 3) v11 (.int .i64 0) fun v12=>
 Fg v12
 (Cq 2 v10 fun v14=>
 some (.tuple [v14,(.int .i64 0)],h))
 (some (.tuple [(.int .i64 0),(.int .i64 15)],h))
theorem M0(H:Au disp)(hd:1<=d)(v0:EV)(h:Aa):Af TT disp K d false 171 [v0] h=Dp K v0 h:=
 C9 (H.bare (by kernel_rfl)) hd (by kernel_rfl) (fun d hd=>rfl) (fun d c r=>rfl) (fun d c r=>by kernel_rfl)
def Oe(K:Nat)(v3:EV)(h:Aa):R:=
 some (v3,h)
def Tm(K:Nat)(ih1_:EV->EV->EV->EV->EV->Aa->R)(v0 v3 v24 v25 v26:EV)(h:Aa):R:=
 Ap Ip (bin TT .add 3) v26 (.int .i64 1) fun v33=>
 ih1_ v0 v3 v24 v25 v33 h
def Tl(K:Nat)(ih1_:EV->EV->EV->EV->EV->Aa->R)(v0 v3 v24 v25 v26:EV)(h:Aa):R:=
 Ix 1 v24 v26 fun v28=>
 Am v28 h fun v29=>
 Al (Ei K v0 v29 h) fun v32 h=>
 Tm K ih1_ v0 v3 v24 v25 v26 h
def Du(K:Nat):Nat->EV->EV->EV->EV->EV->Aa->R
 | 0=>fun _ _ _ _ _ _=>none
 | m+1=>fun v0 v3 v24 v25 v26 h=>
  Ap Ih (bin TT .lss 3) v26 v25 fun v27=>
  Fg v27
  (Tl K (Du K m) v0 v3 v24 v25 v26 h)
  (Oe K v3 h)
def Oc(K:Nat)(v0 v3:EV)(h:Aa):R:=
 Ho v3 fun v25=>
 Du K K v0 v3 v3 v25 (.int .i64 0) h
def Om(K:Nat)(ih6_:EV->EV->EV->EV->Aa->R)(v0 v3 v9 v10:EV)(h:Aa):R:=
 Ap Ip (bin TT .add 3) v10 (.int .i64 1) fun v23=>
 ih6_ v0 v3 v9 v23 h
def Tb(K:Nat)(ih6_:EV->EV->EV->EV->Aa->R)(v0 v3 v9 v10:EV)(h:Aa):R:=
 Al (Dp K v0 h) fun v14 h=>
 Cq 0 v14 fun v15=>
 Cq 1 v14 fun v16=>
 Ap Gj (bin TT .eql 28) v16 (.int .i64 0) fun v18=>
 Fg v18
 (Al (B3 [(.int .i64 0)] 3 1 1 [(0,v15)] h) fun v21 h=>
 Al (D5 3 1 v3 v21 h) fun v22 h=>
 Om K ih6_ v0 v22 v9 v10 h)
 (Om K ih6_ v0 v3 v9 v10 h)
def Dt(K:Nat):Nat->EV->EV->EV->EV->Aa->R
 | 0=>fun _ _ _ _ _=>none
 | m+1=>fun v0 v3 v9 v10 h=>
  Ap Ih (bin TT .lss 3) v10 v9 fun v11=>
  Fg v11
  (Tb K (Dt K m) v0 v3 v9 v10 h)
  (Oc K v0 v3 h)
def K0(K:Nat)(v0:EV)(h:Aa):R:=
 Al (Cf K v0 h) fun v9 h=>
 Dt K K v0 .Ag v9 (.int .i64 0) h
abbrev Uu(K:Nat)(c:Ac):Ac:=(w1 71 (Cf K) (w2 61 (Ei K) (w1 171 (Dp K) c)))
theorem Aar(c c' r:Ac)(K:Nat)(m:Nat):Jb (fun ih=>Ht TT (Uu K c) c' r K (nOf TT 191) (Gy TT 191) (Tx TT 191 [true,true,true,false,true,false]) [(2,fun ρ h=>Oe K (ρ 3) h)] ih) m=fun ρ h=>Du K m (ρ 0) (ρ 3) (ρ 24) (ρ 25) (ρ 26) h:=
 Dl (E:=fun m ρ h=>Du K m (ρ 0) (ρ 3) (ρ 24) (ρ 25) (ρ 26) h) rfl (fun m=>To fun ρ h=>by
  show _=Du K (m+1) (ρ 0) (ρ 3) (ρ 24) (ρ 25) (ρ 26) h
  rw[Du];kernel_rfl) m
theorem Aal(c c' r:Ac)(K:Nat)(m:Nat):Jb (fun ih=>Ht TT (Uu K c) c' r K (nOf TT 191) (Gy TT 191) (Tx TT 191 [true,true,false,true,false]) [(0,fun ρ h=>Oc K (ρ 0) (ρ 3) h)] ih) m=fun ρ h=>Dt K m (ρ 0) (ρ 3) (ρ 9) (ρ 10) h:=
 Dl (E:=fun m ρ h=>Dt K m (ρ 0) (ρ 3) (ρ 9) (ρ 10) h) rfl (fun m=>To fun ρ h=>by
  show _=Dt K (m+1) (ρ 0) (ρ 3) (ρ 9) (ρ 10) h
  rw[Dt];kernel_rfl) m
theorem Acd(H:Au disp)(hd:2<=d)(v0:EV)(h:Aa):Af TT disp K d false 191 [v0] h=K0 K v0 h:=
 C9 (H.bare (by kernel_rfl)) hd (by kernel_rfl) (fun d hd=>(W1 (H2 H (lq hd rfl)) (W2 (Od H (lq hd rfl)) (W1 (M0 H (lq hd rfl)) rfl)))) (fun d c r=>(cut [true,true,true,false,true,false] (Aar (Af TT disp K d false) c r K K) (by kernel_rfl) (by kernel_rfl) (cut [true,true,false,true,false] (Aal (Af TT disp K d false) c r K K) (by kernel_rfl) (by kernel_rfl) rfl))) (fun d c r=>by kernel_rfl)
theorem Uq:(D1 TT 49 0).1=.tmp 8:=by kernel_rfl
def K8(c r:Ac)(K:Nat)(tm:Ah)(v4:EV)(h:Aa)(ds:List Nat):R:=
 Jf 1 v4 (.bool false) h fun h=>
 F0 ds h fun h=>H3 TT [.c v4 4] h
theorem Ad5(H:Au disp)(hd:1<=d)(tm:Ah)(h:Aa)(ds:List Nat):Aup (Af TT disp K d false) (Af TT disp K d true) K tm h ds=K8 (Af TT disp K d false) (Af TT disp K d true) K tm (tmp tm 4) h ds:=by
 simp only[Aup,K8,Apy,dd,↓reduceIte,Nat.reduceEqDiff,Int.reduceOfNat,Int.reduceNegSucc,Nat.reduceAdd,tt0]
def Wo(c r:Ac)(K:Nat)(v0 v1:EV)(h:Aa):R:=
 (fun(tm:Ah) (ds:List Nat)=>
 E3 3 v1 h fun v3 h=>
 Mo (.cells [(.bool false)] 4) h fun v4 h=>
 Al (W7 K v0 h) fun v8 h=>
 Abc c TT 49 14 0 v8 ((((tm.put 3 (some v3)).put 4 (some v4)).put 7 (some v0)).put 8 (some v8)) h ds (fun h ds=>
 K8 c r K ((((tm.put 3 (some v3)).put 4 (some v4)).put 7 (some v0)).put 8 (some v8)) v4 h ds) (fun id h ds=>
 Ao (Nat.beq 0 id) (K8 c r K ((((tm.put 3 (some v3)).put 4 (some v4)).put 7 (some v0)).put 8 (some v8)) v4 h ds) (none)) (fun h ds=>
 F0 ds h fun h=>H3 TT [.c v4 4] h)) ((Tr.nil.put 0 (some v0)).put 1 (some v1)) []
theorem Afl(H:Au disp)(hd:1<=d)(v0 v1:EV)(h:Aa):Af TT disp K (d+1) false 49 [v0,v1] h=Wo (Af TT disp K d false) (Af TT disp K d true) K v0 v1 h:=by
 rw[Abz ((H.plain 49 rfl).trans (show Ahn 49=some F49 by kernel_rfl))]
 unfold F49
 rw[Avk (by simp)]
 simp only[Wo,Apy,dd,↓reduceIte,Nat.reduceEqDiff,Int.reduceOfNat,Int.reduceNegSucc,Nat.reduceAdd,Ad5 H hd,Af3 H (lq hd rfl),tt0,Aqw Uq,Am4 Uq,Ak6,Aj0,Ag7,Aqx]
def Jw(c r:Ac)(K:Nat)(l:Nat)(v3:EV)(v4:EV)(v6:EV)(h:Aa):R:=
 Am v3 h fun v12=>
 Ap Gj (bin TT .eql 3) v6 v12 fun v13=>
 Fg v13
 (Jf 1 v4 (.bool true) h fun h=>
 Ao6 l false .done (some .ret) h)
 (Ao6 l true .ready none h)
theorem Ym(H:Au disp)(hd:1<=d){l:Nat}(tm:Ah)(h:Aa):Ahg (Af TT disp K d false) (Af TT disp K d true) K l tm h []=Jw (Af TT disp K d false) (Af TT disp K d true) K l (tmp tm 3) (tmp tm 4) (tmp tm 6) h:=by
 simp only[Ahg,Jw,dd,↓reduceIte,Nat.reduceEqDiff,Int.reduceOfNat,Int.reduceNegSucc,Nat.reduceAdd,tt0]
def N2(c r:Ac)(K:Nat)(l:Nat)(v3:EV)(v4:EV)(v10:EV)(h:Aa):R:=
 I0 l h fun h=>Jw c r K l v3 v4 v10 h
theorem Adx(H:Au disp)(hd:1<=d){l:Nat}(tm:Ah)(h:Aa):Azy (Af TT disp K d false) (Af TT disp K d true) K l tm h []=N2 (Af TT disp K d false) (Af TT disp K d true) K l (tmp tm 3) (tmp tm 4) (tmp tm 10) h:=by
 simp only[Azy,N2,dd,↓reduceIte,Nat.reduceEqDiff,Int.reduceOfNat,Int.reduceNegSucc,Nat.reduceAdd,Ym H hd,tt0]
theorem Aa0(H:Au disp)(hd:1<=d){l:Nat}(tm:Ah)(h:Aa)(x9:EV)(x10:EV){st:LoopState}{p:Option Code}{d0:Nat}(hg:h.get l=some (.loop st p 49 14 tm [9,10] (D1 TT 49 0).2.2.1 (D1 TT 49 0).2.2.2 d0)):
 Af TT disp K (d+1) true l [x9,x10] h=N2 (Af TT disp K d false) (Af TT disp K d true) K l (tmp tm 3) (tmp tm 4) x10 h:=by
 rw[Ahy,Aj6 hg (show Nv [9,10] [x9,x10] 14 tm=some ((tm.put 9 (some x9)).put 10 (some x10)) from rfl),A1t,Adx H hd]
 simp only[dd,↓reduceIte,Nat.reduceEqDiff,Int.reduceOfNat,Int.reduceNegSucc,Nat.reduceAdd]
def Tj(K:Nat)(v1 v2:EV)(h:Aa):R:=
 An 1 v2 fun v14=>
 Am v14 h fun v15=>
 N1 (bin TT .quo 3) v1 v15 fun v16=>
 some (v16,h)
def Kc(K:Nat)(v1 v2 v7 v11:EV)(h:Aa):R:=
 Bg v7 (.bool true) v11 fun v12=>
 Fg v12
 (some ((.int .i64 (-1)),h))
 (Tj K v1 v2 h)
def Ej(K:Nat)(v0 v1:EV)(h:Aa):R:=
 E3 23 v0 h fun v2 h=>
 Ap Ih (bin TT .lss 3) v1 (.int .i64 0) fun v6=>
 Ao (As v6 false)
 (B8 6 v2 h fun v9=>
 Al (J7 K v9 h) fun v10 h=>
 Ap Vj (bin TT .geq 3) v1 v10 fun v11=>
 Kc K v1 v2 v6 v11 h)
 (Kc K v1 v2 v6 (.tuple []) h)
theorem Hj(H:Au disp)(hd:2<=d)(v0 v1:EV)(h:Aa):Af TT disp K d false 60 [v0,v1] h=Ej K v0 v1 h:=
 C9 (H.bare (by kernel_rfl)) hd (by kernel_rfl) (fun d hd=>(W1 (P6 H (lq hd rfl)) rfl)) (fun d c r=>rfl) (fun d c r=>by kernel_rfl)
def Wa(c r:Ac)(K:Nat)(h:Aa):R:=
 some ((.int .i64 0),h)
def Jj(c r:Ac)(K:Nat)(v14 v24:EV)(h:Aa):R:=
 Bg v14 (.bool true) v24 fun v25=>
 Fg v25
 (some ((.int .i64 15),h))
 (Wa c r K h)
def Abf(c r:Ac)(K:Nat)(v0 v1:EV)(h:Aa):R:=
 E3 3 v1 h fun v3 h=>
 Gn h fun base s=>
 Bj v0 fun v7=>
 An 0 v7 fun v8=>
 A9 3 7 base v8 s fun s=>B8 6 v8 h fun v9=>
 A9 4 0 base v3 s fun s=>Am v3 h fun v10=>
 Cs 5 31 s h (fun h=>(Ej K v9 v10 h)) fun v11 h s=>
 Ap Ih (bin TT .lss 3) v11 (.int .i64 0) fun v13=>
 Ao (As v13 false)
 (Bj v0 fun v16=>
 An 6 v16 fun v17=>
 Am v17 h fun v18=>
 Ix 1 v18 v11 fun v20=>
 Am v20 h fun v21=>
 Al (c 121 [v21,(.func 122 [] [v3])] h) fun v23 h=>
 Ap Gj (bin TT .eql 3) v23 (.int .i64 0) fun v24=>
 Jj c r K v13 v24 h)
 (Jj c r K v13 (.tuple []) h)
theorem Aep(H:Au disp)(hd:2<=d)(v0 v1:EV)(h:Aa):Af TT disp K (d+1) false 69 [v0,v1] h=Abf (Af TT disp K d false) (Af TT disp K d true) K v0 v1 h:=
 Vb (H.bare (by kernel_rfl)) (by kernel_rfl) (W2 (Hj H (lq hd rfl)) rfl) rfl (by kernel_rfl)
def Kn(c r:Ac)(K:Nat)(v5:EV)(h:Aa):R:=
 some (v5,h)
def Kh(c r:Ac)(K:Nat)(ih1_:EV->EV->EV->EV->EV->Aa->R)(v0 v1 v5 v9 v10:EV)(h:Aa):R:=
 Ap Ip (bin TT .add 3) v10 (.int .i64 1) fun v28=>
 ih1_ v0 v1 v5 v9 v28 h
def S3(c r:Ac)(K:Nat)(ih1_:EV->EV->EV->EV->EV->Aa->R)(v0 v1 v5 v6 v9 v10:EV)(h:Aa):R:=
 Al (Ei K v0 v6 h) fun v27 h=>
 Kh c r K ih1_ v0 v1 v5 v9 v10 h
def Tg(c r:Ac)(K:Nat)(ih1_:EV->EV->EV->EV->EV->Aa->R)(v0 v1 v5 v6 v9 v10:EV)(h:Aa):R:=
 Al (V2 c r v1 [v6] h) fun v21 h=>
 Sz v21 fun v22=>
 Fg v22
 (Ap Ip (bin TT .add 3) v5 (.int .i64 1) fun v24=>
 Kh c r K ih1_ v0 v1 v24 v9 v10 h)
 (S3 c r K ih1_ v0 v1 v5 v6 v9 v10 h)
def S6(c r:Ac)(K:Nat)(ih1_:EV->EV->EV->EV->EV->Aa->R)(v0 v1 v5 v9 v10:EV)(h:Aa):R:=
 Al (Dp K v0 h) fun v14 h=>
 Cq 0 v14 fun v15=>
 Cq 1 v14 fun v16=>
 Ap La (bin TT .neq 28) v16 (.int .i64 0) fun v18=>
 Fg v18
 (Kn c r K v5 h)
 (Tg c r K ih1_ v0 v1 v5 v15 v9 v10 h)
def Dr(c r:Ac)(K:Nat):Nat->EV->EV->EV->EV->EV->Aa->R
 | 0=>fun _ _ _ _ _ _=>none
 | m+1=>fun v0 v1 v5 v9 v10 h=>
  Ap Ih (bin TT .lss 3) v10 v9 fun v11=>
  Fg v11
  (S6 c r K (Dr c r K m) v0 v1 v5 v9 v10 h)
  (Kn c r K v5 h)
def Xs(c r:Ac)(K:Nat)(v0 v1:EV)(h:Aa):R:=
 Al (Cf K v0 h) fun v9 h=>
 Dr c r K K v0 v1 (.int .i64 0) v9 (.int .i64 0) h
abbrev Ad2(K:Nat)(c:Ac):Ac:=(w1 71 (Cf K) (w2 61 (Ei K) (w1 171 (Dp K) c)))
theorem Z8(c r:Ac)(K:Nat)(m:Nat):Jb (fun ih=>Ht TT (Ad2 K c) c r K (nOf TT 121) (Gy TT 121) (Tx TT 121 [true,true,false,true,false]) [(0,fun ρ h=>Kn c r K (ρ 5) h)] ih) m=fun ρ h=>Dr c r K m (ρ 0) (ρ 1) (ρ 5) (ρ 9) (ρ 10) h:=
 Dl (E:=fun m ρ h=>Dr c r K m (ρ 0) (ρ 1) (ρ 5) (ρ 9) (ρ 10) h) rfl (fun m=>To fun ρ h=>by
  show _=Dr c r K (m+1) (ρ 0) (ρ 1) (ρ 5) (ρ 9) (ρ 10) h
  rw[Dr];kernel_rfl) m
theorem Ab7(H:Au disp)(hd:1<=d)(v0 v1:EV)(h:Aa):Af TT disp K (d+1) false 121 [v0,v1] h=Xs (Af TT disp K d false) (Af TT disp K d true) K v0 v1 h:=
 Vb (H.bare (by kernel_rfl)) (by kernel_rfl) (W1 (H2 H (lq hd rfl)) (W2 (Od H (lq hd rfl)) (W1 (M0 H (lq hd rfl)) rfl))) (cut [true,true,false,true,false] (Z8 (Af TT disp K d false) (Af TT disp K d true) K K) (by kernel_rfl) (by kernel_rfl) rfl) (by kernel_rfl)
theorem Rw:(D1 TT 149 0).1=.tmp 18:=by kernel_rfl
def G7(c r:Ac)(K:Nat)(ih0_:Ah->EV->EV->EV->Aa->List Nat->R)(tm:Ah)(v10:EV)(v11:EV)(v12:EV)(h:Aa)(ds:List Nat):R:=
 Ap Ip (bin TT .add 3) v12 (.int .i64 1) fun v26=>
 ih0_ ((tm.put 26 (some v26)).put 12 (some v26)) v10 v11 v26 h ds
theorem Abv(H:Au disp)(hd:1<=d){ih0_:CF}{ih0_':Ah->EV->EV->EV->Aa->List Nat->R}(hih0_:∀ tm h ds,ih0_ tm h ds=ih0_' tm (tmp tm 10) (tmp tm 11) (tmp tm 12) h ds)(tm:Ah)(h:Aa)(ds:List Nat):Ald (Af TT disp K d false) (Af TT disp K d true) K ih0_ tm h ds=G7 (Af TT disp K d false) (Af TT disp K d true) K ih0_' tm (tmp tm 10) (tmp tm 11) (tmp tm 12) h ds:=by
 simp only[Ald,G7,Yo,dd,↓reduceIte,Nat.reduceEqDiff,Int.reduceOfNat,Int.reduceNegSucc,Nat.reduceAdd,hih0_,tt0]
def Ln(c r:Ac)(K:Nat)(ih0_:Ah->EV->EV->EV->Aa->List Nat->R)(tm:Ah)(v10:EV)(v11:EV)(v12:EV)(h:Aa)(ds:List Nat):R:=
 Ix 1 v10 v12 fun v15=>
 Am v15 h fun v16=>
 Mo (.cells [(.int .i64 0)] 3) h fun v3 h=>
 Jf 1 v3 v12 h fun h=>
 Al (Sq K v16 h) fun v18 h=>
 Abc c TT 149 27 0 v18 (((((((tm.put 14 (some v12)).put 15 (some v15)).put 16 (some v16)).put 3 (some v3)).put 4 (some v16)).put 17 (some v16)).put 18 (some v18)) h ds (fun h ds=>
 G7 c r K ih0_ (((((((tm.put 14 (some v12)).put 15 (some v15)).put 16 (some v16)).put 3 (some v3)).put 4 (some v16)).put 17 (some v16)).put 18 (some v18)) v10 v11 v12 h ds) (fun id h ds=>
 Ao (Nat.beq 2 id) (G7 c r K ih0_ (((((((tm.put 14 (some v12)).put 15 (some v15)).put 16 (some v16)).put 3 (some v3)).put 4 (some v16)).put 17 (some v16)).put 18 (some v18)) v10 v11 v12 h ds) (Ao (Nat.beq 1 id) (G7 c r K ih0_ (((((((tm.put 14 (some v12)).put 15 (some v15)).put 16 (some v16)).put 3 (some v3)).put 4 (some v16)).put 17 (some v16)).put 18 (some v18)) v10 v11 v12 h ds) (Ao (Nat.beq 0 id) (F0 ds h fun h=>some (.tuple [],h)) (none)))) (fun h ds=>
 F0 ds h fun h=>some (.tuple [],h))
theorem Ab6(H:Au disp)(hd:1<=d){ih0_:CF}{ih0_':Ah->EV->EV->EV->Aa->List Nat->R}(hih0_:∀ tm h ds,ih0_ tm h ds=ih0_' tm (tmp tm 10) (tmp tm 11) (tmp tm 12) h ds)(tm:Ah)(h:Aa)(ds:List Nat):Atg (Af TT disp K d false) (Af TT disp K d true) K ih0_ tm h ds=Ln (Af TT disp K d false) (Af TT disp K d true) K ih0_' tm (tmp tm 10) (tmp tm 11) (tmp tm 12) h ds:=by
 simp only[Atg,Ln,Yo,dd,↓reduceIte,Nat.reduceEqDiff,Int.reduceOfNat,Int.reduceNegSucc,Nat.reduceAdd,hih0_,Abv H hd hih0_,Ac2 H (lq hd rfl),tt0,Aqw Rw,Am4 Rw,Ak6,Aj0,Ag7,Aqx]
def G1(c r:Ac)(K:Nat):Nat->Ah->EV->EV->EV->Aa->List Nat->R
 | 0=>fun _ _ _ _ _ _=>none
 | m+1=>fun tm v10 v11 v12 h ds=>
  Ap Ih (bin TT .lss 3) v12 v11 fun v13=>
  Fg v13
  (Ln c r K (G1 c r K m) (tm.put 13 (some v13)) v10 v11 v12 h ds)
  (F0 ds h fun h=>some (.tuple [],h))
theorem Aa4(H:Au disp)(hd:1<=d):∀ (m:Nat) (tm:Ah) (h:Aa) (ds:List Nat),Aib (Asr (Af TT disp K d false) (Af TT disp K d true) K) m tm h ds=G1 (Af TT disp K d false) (Af TT disp K d true) K m tm (tmp tm 10) (tmp tm 11) (tmp tm 12) h ds:=by
 intro m
 induction m with
 | zero=>intros;rfl
 | succ m hih0_=>
  intro tm h ds
  rw[As2]
  simp only[Asr,G1,Yo,dd,↓reduceIte,Nat.reduceEqDiff,Int.reduceOfNat,Int.reduceNegSucc,Nat.reduceAdd,hih0_,Ab6 H hd hih0_,tt0]
def Sv(c r:Ac)(K:Nat)(v0 v1:EV)(h:Aa):R:=
 (fun(tm:Ah) (ds:List Nat)=>
 E3 142 v0 h fun v2 h=>
 Am v1 h fun v7=>
 Bj v7 fun v8=>
 An 6 v8 fun v9=>
 Am v9 h fun v10=>
 Ho v10 fun v11=>
 G1 c r K K (((((((tm.put 2 (some v2)).put 7 (some v7)).put 8 (some v8)).put 9 (some v9)).put 10 (some v10)).put 11 (some v11)).put 12 (some (.int .i64 0))) v10 v11 (.int .i64 0) h ds) ((Tr.nil.put 0 (some v0)).put 1 (some v1)) []
theorem Ac6(H:Au disp)(hd:1<=d)(v0 v1:EV)(h:Aa):Af TT disp K (d+1) false 149 [v0,v1] h=Sv (Af TT disp K d false) (Af TT disp K d true) K v0 v1 h:=by
 rw[Abz ((H.plain 149 rfl).trans (show Ahn 149=some A11 by kernel_rfl))]
 unfold A11
 rw[Avk (by simp)]
 simp only[Sv,Yo,dd,↓reduceIte,Nat.reduceEqDiff,Int.reduceOfNat,Int.reduceNegSucc,Nat.reduceAdd,Aa4 H hd,tt0]
def Ic(c r:Ac)(K:Nat)(l:Nat)(v2:EV)(v3:EV)(v6:EV)(h:Aa):R:=
 Am v2 h fun v21=>
 Am v3 h fun v22=>
 Al (V2 c r v21 [v22,v6] h) fun v24 h=>
 Sz v24 fun v25=>
 Fg v25
 (Ao6 l false .done (some .ret) h)
 (Ao6 l true .ready none h)
theorem Wx(H:Au disp)(hd:1<=d){l:Nat}(tm:Ah)(h:Aa):Aeu (Af TT disp K d false) (Af TT disp K d true) K l tm h []=Ic (Af TT disp K d false) (Af TT disp K d true) K l (tmp tm 2) (tmp tm 3) (tmp tm 6) h:=by
 simp only[Aeu,Ic,dd,↓reduceIte,Nat.reduceEqDiff,Int.reduceOfNat,Int.reduceNegSucc,Nat.reduceAdd,tt0]
def Lh(c r:Ac)(K:Nat)(l:Nat)(v2:EV)(v3:EV)(v20:EV)(h:Aa):R:=
 I0 l h fun h=>Ic c r K l v2 v3 v20 h
theorem Ack(H:Au disp)(hd:1<=d){l:Nat}(tm:Ah)(h:Aa):Asn (Af TT disp K d false) (Af TT disp K d true) K l tm h []=Lh (Af TT disp K d false) (Af TT disp K d true) K l (tmp tm 2) (tmp tm 3) (tmp tm 20) h:=by
 simp only[Asn,Lh,dd,↓reduceIte,Nat.reduceEqDiff,Int.reduceOfNat,Int.reduceNegSucc,Nat.reduceAdd,Wx H hd,tt0]
theorem Yc(H:Au disp)(hd:1<=d){l:Nat}(tm:Ah)(h:Aa)(x19:EV)(x20:EV){st:LoopState}{p:Option Code}{d0:Nat}(hg:h.get l=some (.loop st p 149 27 tm [19,20] (D1 TT 149 0).2.2.1 (D1 TT 149 0).2.2.2 d0)):
 Af TT disp K (d+1) true l [x19,x20] h=Lh (Af TT disp K d false) (Af TT disp K d true) K l (tmp tm 2) (tmp tm 3) x20 h:=by
 rw[Ahy,Aj6 hg (show Nv [19,20] [x19,x20] 27 tm=some ((tm.put 19 (some x19)).put 20 (some x20)) from rfl),Ayk,Ack H hd]
 simp only[dd,↓reduceIte,Nat.reduceEqDiff,Int.reduceOfNat,Int.reduceNegSucc,Nat.reduceAdd]
def Wb(K:Nat)(v0 v1:EV)(h:Aa):R:=
 Bj v0 fun v18=>
 An 6 v18 fun v19=>
 Am v19 h fun v20=>
 Ix 1 v20 v1 fun v22=>
 Am v22 h fun v23=>
 Al (Dp K v23 h) fun v24 h=>
 Cq 0 v24 fun v25=>
 Cq 1 v24 fun v26=>
 some (.tuple [v25,v26],h)
def Mt(K:Nat)(v0 v1 v8 v15:EV)(h:Aa):R:=
 Bg v8 (.bool true) v15 fun v16=>
 Fg v16
 (some (.tuple [(.int .i64 0),(.int .i64 13)],h))
 (Wb K v0 v1 h)
def Ni(K:Nat)(v0 v1:EV)(h:Aa):R:=
 Ap Ih (bin TT .lss 3) v1 (.int .i64 0) fun v7=>
 Ao (As v7 false)
 (Bj v0 fun v11=>
 An 6 v11 fun v12=>
 Am v12 h fun v13=>
 Ho v13 fun v14=>
 Ap Vj (bin TT .geq 3) v1 v14 fun v15=>
 Mt K v0 v1 v7 v15 h)
 (Mt K v0 v1 v7 (.tuple []) h)
theorem Ady(H:Au disp)(hd:2<=d)(v0 v1:EV)(h:Aa):Af TT disp K d false 161 [v0,v1] h=Ni K v0 v1 h:=
 C9 (H.bare (by kernel_rfl)) hd (by kernel_rfl) (fun d hd=>(W1 (M0 H (lq hd rfl)) rfl)) (fun d c r=>rfl) (fun d c r=>by kernel_rfl)
def R9(c r:Ac)(K:Nat)(ih0_:EV->EV->EV->EV->Aa->R)(v0 v6 v7 v8:EV)(h:Aa):R:=
 Ap Ip (bin TT .add 3) v8 (.int .i64 1) fun v18=>
 ih0_ v0 v6 v7 v18 h
def Sh(c r:Ac)(K:Nat)(ih0_:EV->EV->EV->EV->Aa->R)(v0 v6 v7 v8:EV)(h:Aa):R:=
 Ix 1 v6 v8 fun v11=>
 Am v11 h fun v12=>
 Al (V2 c r v0 [v8,v12] h) fun v16 h=>
 Sz v16 fun v17=>
 Fg v17
 (some (.tuple [],h))
 (R9 c r K ih0_ v0 v6 v7 v8 h)
def Db(c r:Ac)(K:Nat):Nat->EV->EV->EV->EV->Aa->R
 | 0=>fun _ _ _ _ _=>none
 | m+1=>fun v0 v6 v7 v8 h=>
  Ap Ih (bin TT .lss 3) v8 v7 fun v9=>
  Fg v9
  (Sh c r K (Db c r K m) v0 v6 v7 v8 h)
  (some (.tuple [],h))
def Vl(c r:Ac)(K:Nat)(v0 v1:EV)(h:Aa):R:=
 Am v1 h fun v5=>
 Al (K0 K v5 h) fun v6 h=>
 Ho v6 fun v7=>
 Db c r K K v0 v6 v7 (.int .i64 0) h
abbrev Ac0(K:Nat)(c:Ac):Ac:=(w1 191 (K0 K) c)
theorem Y3(c r:Ac)(K:Nat)(m:Nat):Jb (fun ih=>Ht TT (Ac0 K c) c r K (nOf TT 190) (Gy TT 190) (Tx TT 190 [true,false]) [(0,Gy TT 190)] ih) m=fun ρ h=>Db c r K m (ρ 0) (ρ 6) (ρ 7) (ρ 8) h:=
 Dl (E:=fun m ρ h=>Db c r K m (ρ 0) (ρ 6) (ρ 7) (ρ 8) h) rfl (fun m=>To fun ρ h=>by
  show _=Db c r K (m+1) (ρ 0) (ρ 6) (ρ 7) (ρ 8) h
  rw[Db];kernel_rfl) m
theorem Aae(H:Au disp)(hd:2<=d)(v0 v1:EV)(h:Aa):Af TT disp K (d+1) false 190 [v0,v1] h=Vl (Af TT disp K d false) (Af TT disp K d true) K v0 v1 h:=
 Vb (H.bare (by kernel_rfl)) (by kernel_rfl) (W1 (Acd H (lq hd rfl)) rfl) (cut [true,false] (Y3 (Af TT disp K d false) (Af TT disp K d true) K K) (by kernel_rfl) (by kernel_rfl) rfl) (by kernel_rfl)
def Vo(c r:Ac)(K:Nat)(v0 v1 v5:EV)(h:Aa):R:=
 Bj v0 fun v20=>
 An 6 v20 fun v21=>
 Am v21 h fun v22=>
 Ix 1 v22 v5 fun v24=>
 Am v24 h fun v25=>
 Al (Ei K v25 v1 h) fun v27 h=>
 some (v27,h)
def Aay(c r:Ac)(K:Nat)(v0 v1:EV)(h:Aa):R:=
 Bj v0 fun v7=>
 An 0 v7 fun v8=>
 B8 6 v8 h fun v9=>
 Al (Ej K v9 v1 h) fun v11 h=>
 Ap Ih (bin TT .lss 3) v11 (.int .i64 0) fun v14=>
 Fg v14
 (some ((.int .i64 13),h))
 (Al (c 49 [v0,v1] h) fun v18 h=>
 Fg v18
 (some ((.int .i64 16),h))
 (Vo c r K v0 v1 v11 h))
theorem Ad7(H:Au disp)(hd:2<=d)(v0 v1:EV)(h:Aa):Af TT disp K (d+1) false 15 [v0,v1] h=Aay (Af TT disp K d false) (Af TT disp K d true) K v0 v1 h:=
 Vb (H.bare (by kernel_rfl)) (by kernel_rfl) (W2 (Hj H (lq hd rfl)) (W2 (Od H (lq hd rfl)) rfl)) rfl (by kernel_rfl)
def Vk(K:Nat)(v7 v9 v10:EV)(h:Aa):R:=
 H3 TT [.v v7,.v v9,.v v10] h
def We(K:Nat)(v0:EV)(h:Aa):R:=
 Al (Gc K v0 (.int .i64 (-1)) h) fun v15 h=>
 Al (Gc K v0 v15 h) fun v18 h=>
 Al (Ni K v0 v15 h) fun v22 h=>
 Cq 0 v22 fun v23=>
 Cq 1 v22 fun v24=>
 Al (Ni K v0 v18 h) fun v28 h=>
 Cq 0 v28 fun v29=>
 Cq 1 v28 fun v30=>
 Ap La (bin TT .neq 28) v24 (.int .i64 0) fun v32=>
 Fg v32
 (H3 TT [.v (.int .i64 0),.v (.int .i64 0),.v v24] h)
 (Vk K v23 v29 v30 h)
def Pt(K:Nat)(v0:EV)(h:Aa):R:=
 Al (O1 K v0 h) fun v12 h=>
 Ap Gj (bin TT .eql 3) v12 (.int .i64 0) fun v13=>
 Fg v13
 (H3 TT [.v (.int .i64 0),.v (.int .i64 0),.v (.int .i64 15)] h)
 (We K v0 h)
theorem Ad9(H:Au disp)(hd:4<=d)(v0:EV)(h:Aa):Af TT disp K d false 130 [v0] h=Pt K v0 h:=
 C9 (H.bare (by kernel_rfl)) hd (by kernel_rfl) (fun d hd=>(W1 (Ac9 H (lq hd rfl)) (W2 (Qv H (lq hd rfl)) (W2 (Ady H (lq hd rfl)) rfl)))) (fun d c r=>rfl) (fun d c r=>by kernel_rfl)
end
end Go.Ev
