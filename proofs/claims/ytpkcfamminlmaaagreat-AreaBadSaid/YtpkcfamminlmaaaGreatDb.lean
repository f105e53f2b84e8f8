import Derived.Test.YtpkcfamminlmaaaGreatDa
set_option linter.unusedVariables false
set_option linter.unusedSimpArgs false
set_option linter.unusedSectionVars false
namespace Go.Ev
open Go.Proofs
set_option maxRecDepth 100000
set_option maxHeartbeats 4000000
noncomputable section
variable {disp:Nat->Option FT}{K d:Nat}
def Em(K:Nat)(v0 v1:EV)(h:Aa):R:=
 Bg v0 fun v6=>
 Ap 0 v6 fun v7=>
 Ao v7 h fun v8=>
 Aj (Ami v8 v1 h) fun v10 h=>
 C9 0 v10 fun v11=>
 Aq G7 (bin TT .eql 3) v11 (.int .i64 0) fun v12=>
 D8 v12
 (some ((.int .i64 0),h))
 (some ((.int .i64 17),h))
theorem Od(H:An disp)(hd:1<=d)(v0 v1:EV)(h:Aa):Ad TT disp K d false 61 [v0,v1] h=Em K v0 v1 h:=
 Cp (H.bare (by kernel_rfl)) hd (by kernel_rfl) (fun d hd=>rfl) (fun d c r=>rfl) (fun d c r=>by kernel_rfl)
def Xq(K:Nat)(v0:EV)(h:Aa):R:=
 Dn 49 v0 h fun v1 h=>
 some ((.func 149 [] [v1]),h)
theorem Ah4(H:An disp)(hd:1<=d)(v0:EV)(h:Aa):Ad TT disp K d false 105 [v0] h=Xq K v0 h:=
 Cp (H.bare (by kernel_rfl)) hd (by kernel_rfl) (fun d hd=>rfl) (fun d c r=>rfl) (fun d c r=>by kernel_rfl)
def Yo(K:Nat)(v0 v1:EV)(h:Aa):R:=
 Ao v1 h fun v5=>
 Aq Ka (bin TT .neq 3) v0 v5 fun v6=>
 some (v6,h)
theorem Acv(H:An disp)(hd:1<=d)(v0 v1:EV)(h:Aa):Ad TT disp K d false 122 [v0,v1] h=Yo K v0 v1 h:=
 Cp (H.bare (by kernel_rfl)) hd (by kernel_rfl) (fun d hd=>rfl) (fun d c r=>rfl) (fun d c r=>by kernel_rfl)
def S6(K:Nat)(v0:EV)(h:Aa):R:=
 Dn 153 v0 h fun v1 h=>
 some ((.func 190 [] [v1]),h)
theorem Aek(H:An disp)(hd:1<=d)(v0:EV)(h:Aa):Ad TT disp K d false 150 [v0] h=S6 K v0 h:=
 Cp (H.bare (by kernel_rfl)) hd (by kernel_rfl) (fun d hd=>rfl) (fun d c r=>rfl) (fun d c r=>by kernel_rfl)
def Dq(K:Nat)(v0:EV)(h:Aa):R:=
 Bg v0 fun v7=>
 Ap 0 v7 fun v8=>
 Ao v8 h fun v9=>
 Aj (Ali (.int .i64 0) v9 h) fun v10 h=>
 C9 0 v10 fun v11=>
 Aq G7 (bin TT .eql 3) v11 (.int .i64 0) fun v12=>
 D8 v12
 (C9 2 v10 fun v14=>
 some (.tuple [v14,(.int .i64 0)],h))
 (some (.tuple [(.int .i64 0),(.int .i64 15)],h))
theorem Ni(H:An disp)(hd:1<=d)(v0:EV)(h:Aa):Ad TT disp K d false 171 [v0] h=Dq K v0 h:=
 Cp (H.bare (by kernel_rfl)) hd (by kernel_rfl) (fun d hd=>rfl) (fun d c r=>rfl) (fun d c r=>by kernel_rfl)
def N8(K:Nat)(v3:EV)(h:Aa):R:=
 some (v3,h)
def T3(K:Nat)(ih1_:EV->EV->EV->EV->EV->Aa->R)(v0 v3 v24 v25 v26:EV)(h:Aa):R:=
 Aq Hj (bin TT .add 3) v26 (.int .i64 1) fun v33=>
 ih1_ v0 v3 v24 v25 v33 h
def Tw(K:Nat)(ih1_:EV->EV->EV->EV->EV->Aa->R)(v0 v3 v24 v25 v26:EV)(h:Aa):R:=
 Ib 1 v24 v26 fun v28=>
 Ao v28 h fun v29=>
 Aj (Em K v0 v29 h) fun v32 h=>
 T3 K ih1_ v0 v3 v24 v25 v26 h
def Dr(K:Nat):Nat->EV->EV->EV->EV->EV->Aa->R
 | 0=>fun _ _ _ _ _ _=>none
 | m+1=>fun v0 v3 v24 v25 v26 h=>
  Aq Gr (bin TT .lss 3) v26 v25 fun v27=>
  D8 v27
  (Tw K (Dr K m) v0 v3 v24 v25 v26 h)
  (N8 K v3 h)
def Oh(K:Nat)(v0 v3:EV)(h:Aa):R:=
 H8 v3 fun v25=>
 Dr K K v0 v3 v3 v25 (.int .i64 0) h
def Oa(K:Nat)(ih6_:EV->EV->EV->EV->Aa->R)(v0 v3 v9 v10:EV)(h:Aa):R:=
 Aq Hj (bin TT .add 3) v10 (.int .i64 1) fun v23=>
 ih6_ v0 v3 v9 v23 h
def Tn(K:Nat)(ih6_:EV->EV->EV->EV->Aa->R)(v0 v3 v9 v10:EV)(h:Aa):R:=
 Aj (Dq K v0 h) fun v14 h=>
 C9 0 v14 fun v15=>
 C9 1 v14 fun v16=>
 Aq G7 (bin TT .eql 28) v16 (.int .i64 0) fun v18=>
 D8 v18
 (Aj (B3 [(.int .i64 0)] 3 1 1 [(0,v15)] h) fun v21 h=>
 Aj (Da 3 1 v3 v21 h) fun v22 h=>
 Oa K ih6_ v0 v22 v9 v10 h)
 (Oa K ih6_ v0 v3 v9 v10 h)
def Ds(K:Nat):Nat->EV->EV->EV->EV->Aa->R
 | 0=>fun _ _ _ _ _=>none
 | m+1=>fun v0 v3 v9 v10 h=>
  Aq Gr (bin TT .lss 3) v10 v9 fun v11=>
  D8 v11
  (Tn K (Ds K m) v0 v3 v9 v10 h)
  (Oh K v0 v3 h)
def Kk(K:Nat)(v0:EV)(h:Aa):R:=
 Aj (E7 K v0 h) fun v9 h=>
 Ds K K v0 .Af v9 (.int .i64 0) h
abbrev V0(K:Nat)(c:Ac):Ac:=(w1 71 (E7 K) (w2 61 (Em K) (w1 171 (Dq K) c)))
theorem Aa0(c c' r:Ac)(K:Nat)(m:Nat):G2 (fun ih=>Fq TT (V0 K c) c' r K (nOf TT 191) (Eg TT 191) (Ph TT 191 [true,true,true,false,true,false]) [(2,fun ρ h=>N8 K (ρ 3) h)] ih) m=fun ρ h=>Dr K m (ρ 0) (ρ 3) (ρ 24) (ρ 25) (ρ 26) h:=
 Cj (E:=fun m ρ h=>Dr K m (ρ 0) (ρ 3) (ρ 24) (ρ 25) (ρ 26) h) rfl (fun m=>Pm fun ρ h=>by
  show _=Dr K (m+1) (ρ 0) (ρ 3) (ρ 24) (ρ 25) (ρ 26) h
  rw[Dr];kernel_rfl) m
theorem Aa9(c c' r:Ac)(K:Nat)(m:Nat):G2 (fun ih=>Fq TT (V0 K c) c' r K (nOf TT 191) (Eg TT 191) (Ph TT 191 [true,true,false,true,false]) [(0,fun ρ h=>Oh K (ρ 0) (ρ 3) h)] ih) m=fun ρ h=>Ds K m (ρ 0) (ρ 3) (ρ 9) (ρ 10) h:=
 Cj (E:=fun m ρ h=>Ds K m (ρ 0) (ρ 3) (ρ 9) (ρ 10) h) rfl (fun m=>Pm fun ρ h=>by
  show _=Ds K (m+1) (ρ 0) (ρ 3) (ρ 9) (ρ 10) h
  rw[Ds];kernel_rfl) m
theorem Acg(H:An disp)(hd:2<=d)(v0:EV)(h:Aa):Ad TT disp K d false 191 [v0] h=Kk K v0 h:=
 Cp (H.bare (by kernel_rfl)) hd (by kernel_rfl) (fun d hd=>(W1 (N6 H (lq hd rfl)) (W2 (Od H (lq hd rfl)) (W1 (Ni H (lq hd rfl)) rfl)))) (fun d c r=>(cut [true,true,true,false,true,false] (Aa0 (Ad TT disp K d false) c r K K) (by kernel_rfl) (by kernel_rfl) (cut [true,true,false,true,false] (Aa9 (Ad TT disp K d false) c r K K) (by kernel_rfl) (by kernel_rfl) rfl))) (fun d c r=>by kernel_rfl)
theorem Vv:(B8 TT 49 0).1=.tmp 8:=by kernel_rfl
def Kc(c r:Ac)(K:Nat)(tm:Ag)(v4:EV)(h:Aa)(ds:List Nat):R:=
 I9 1 v4 (.bool false) h fun h=>
 D3 ds h fun h=>Iz TT [.c v4 4] h
theorem Agb(H:An disp)(hd:1<=d)(tm:Ag)(h:Aa)(ds:List Nat):Awc (Ad TT disp K d false) (Ad TT disp K d true) K tm h ds=Kc (Ad TT disp K d false) (Ad TT disp K d true) K tm (tmp tm 4) h ds:=by
 simp only[Awc,Kc,Arn,dd,↓reduceIte,Nat.reduceEqDiff,Int.reduceOfNat,Int.reduceNegSucc,Nat.reduceAdd,tt0]
def Xo(c r:Ac)(K:Nat)(v0 v1:EV)(h:Aa):R:=
 (fun(tm:Ag) (ds:List Nat)=>
 Dn 3 v1 h fun v3 h=>
 Kn (.cells [(.bool false)] 4) h fun v4 h=>
 Aj (Xq K v0 h) fun v8 h=>
 Xj c TT 49 14 0 v8 ((((tm.put 3 (some v3)).put 4 (some v4)).put 7 (some v0)).put 8 (some v8)) h ds (fun h ds=>
 Kc c r K ((((tm.put 3 (some v3)).put 4 (some v4)).put 7 (some v0)).put 8 (some v8)) v4 h ds) (fun id h ds=>
 Ar (Nat.beq 0 id) (Kc c r K ((((tm.put 3 (some v3)).put 4 (some v4)).put 7 (some v0)).put 8 (some v8)) v4 h ds) (none)) (fun h ds=>
 D3 ds h fun h=>Iz TT [.c v4 4] h)) ((Tr.nil.put 0 (some v0)).put 1 (some v1)) []
theorem Aih(H:An disp)(hd:1<=d)(v0 v1:EV)(h:Aa):Ad TT disp K (d+1) false 49 [v0,v1] h=Xo (Ad TT disp K d false) (Ad TT disp K d true) K v0 v1 h:=by
 rw[Xy ((H.plain 49 rfl).trans (show Aew 49=some F49 by kernel_rfl))]
 unfold F49
 rw[Ak2 (by simp)]
 simp only[Xo,Arn,dd,↓reduceIte,Nat.reduceEqDiff,Int.reduceOfNat,Int.reduceNegSucc,Nat.reduceAdd,Agb H hd,Ah4 H (lq hd rfl),tt0,Agt Vv,Ady Vv,Zi,Y1,X2,Agp]
def Jo(c r:Ac)(K:Nat)(l:Nat)(v3:EV)(v4:EV)(v6:EV)(h:Aa):R:=
 Ao v3 h fun v12=>
 Aq G7 (bin TT .eql 3) v6 v12 fun v13=>
 D8 v13
 (I9 1 v4 (.bool true) h fun h=>
 Aip l false .done (some .ret) h)
 (Aip l true .ready none h)
theorem Zd(H:An disp)(hd:1<=d){l:Nat}(tm:Ag)(h:Aa):Aja (Ad TT disp K d false) (Ad TT disp K d true) K l tm h []=Jo (Ad TT disp K d false) (Ad TT disp K d true) K l (tmp tm 3) (tmp tm 4) (tmp tm 6) h:=by
 simp only[Aja,Jo,dd,↓reduceIte,Nat.reduceEqDiff,Int.reduceOfNat,Int.reduceNegSucc,Nat.reduceAdd,tt0]
def Np(c r:Ac)(K:Nat)(l:Nat)(v3:EV)(v4:EV)(v10:EV)(h:Aa):R:=
 Fm l h fun h=>Jo c r K l v3 v4 v10 h
theorem Afm(H:An disp)(hd:1<=d){l:Nat}(tm:Ag)(h:Aa):A17 (Ad TT disp K d false) (Ad TT disp K d true) K l tm h []=Np (Ad TT disp K d false) (Ad TT disp K d true) K l (tmp tm 3) (tmp tm 4) (tmp tm 10) h:=by
 simp only[A17,Np,dd,↓reduceIte,Nat.reduceEqDiff,Int.reduceOfNat,Int.reduceNegSucc,Nat.reduceAdd,Zd H hd,tt0]
theorem Ac2(H:An disp)(hd:1<=d){l:Nat}(tm:Ag)(h:Aa)(x9:EV)(x10:EV){st:LoopState}{p:Option Code}{d0:Nat}(hg:h.get l=some (.loop st p 49 14 tm [9,10] (B8 TT 49 0).2.2.1 (B8 TT 49 0).2.2.2 d0)):
 Ad TT disp K (d+1) true l [x9,x10] h=Np (Ad TT disp K d false) (Ad TT disp K d true) K l (tmp tm 3) (tmp tm 4) x10 h:=by
 rw[W8,Zt hg (show Kh [9,10] [x9,x10] 14 tm=some ((tm.put 9 (some x9)).put 10 (some x10)) from rfl),A3j,Afm H hd]
 simp only[dd,↓reduceIte,Nat.reduceEqDiff,Int.reduceOfNat,Int.reduceNegSucc,Nat.reduceAdd]
def Ty(K:Nat)(v1 v2:EV)(h:Aa):R:=
 Ap 1 v2 fun v14=>
 Ao v14 h fun v15=>
 Oc (bin TT .quo 3) v1 v15 fun v16=>
 some (v16,h)
def J3(K:Nat)(v1 v2 v7 v11:EV)(h:Aa):R:=
 Bu v7 (.bool true) v11 fun v12=>
 D8 v12
 (some ((.int .i64 (-1)),h))
 (Ty K v1 v2 h)
def Fg(K:Nat)(v0 v1:EV)(h:Aa):R:=
 Dn 23 v0 h fun v2 h=>
 Aq Gr (bin TT .lss 3) v1 (.int .i64 0) fun v6=>
 Ar (Au v6 false)
 (Ck 6 v2 h fun v9=>
 Aj (H5 K v9 h) fun v10 h=>
 Aq V5 (bin TT .geq 3) v1 v10 fun v11=>
 J3 K v1 v2 v6 v11 h)
 (J3 K v1 v2 v6 (.tuple []) h)
theorem Hf(H:An disp)(hd:2<=d)(v0 v1:EV)(h:Aa):Ad TT disp K d false 60 [v0,v1] h=Fg K v0 v1 h:=
 Cp (H.bare (by kernel_rfl)) hd (by kernel_rfl) (fun d hd=>(W1 (Mc H (lq hd rfl)) rfl)) (fun d c r=>rfl) (fun d c r=>by kernel_rfl)
def Wn(c r:Ac)(K:Nat)(h:Aa):R:=
 some ((.int .i64 0),h)
def Ji(c r:Ac)(K:Nat)(v14 v24:EV)(h:Aa):R:=
 Bu v14 (.bool true) v24 fun v25=>
 D8 v25
 (some ((.int .i64 15),h))
 (Wn c r K h)
def Ab1(c r:Ac)(K:Nat)(v0 v1:EV)(h:Aa):R:=
 Dn 3 v1 h fun v3 h=>
 Gs h fun base s=>
 Bg v0 fun v7=>
 Ap 0 v7 fun v8=>
 Bn 3 7 base v8 s fun s=>Ck 6 v8 h fun v9=>
 Bn 4 0 base v3 s fun s=>Ao v3 h fun v10=>
 Ct 5 31 s h (fun h=>(Fg K v9 v10 h)) fun v11 h s=>
 Aq Gr (bin TT .lss 3) v11 (.int .i64 0) fun v13=>
 Ar (Au v13 false)
 (Bg v0 fun v16=>
 Ap 6 v16 fun v17=>
 Ao v17 h fun v18=>
 Ib 1 v18 v11 fun v20=>
 Ao v20 h fun v21=>
 Aj (c 121 [v21,(.func 122 [] [v3])] h) fun v23 h=>
 Aq G7 (bin TT .eql 3) v23 (.int .i64 0) fun v24=>
 Ji c r K v13 v24 h)
 (Ji c r K v13 (.tuple []) h)
theorem Af4(H:An disp)(hd:2<=d)(v0 v1:EV)(h:Aa):Ad TT disp K (d+1) false 69 [v0,v1] h=Ab1 (Ad TT disp K d false) (Ad TT disp K d true) K v0 v1 h:=
 Rc (H.bare (by kernel_rfl)) (by kernel_rfl) (W2 (Hf H (lq hd rfl)) rfl) rfl (by kernel_rfl)
def J6(c r:Ac)(K:Nat)(v5:EV)(h:Aa):R:=
 some (v5,h)
def Jy(c r:Ac)(K:Nat)(ih1_:EV->EV->EV->EV->EV->Aa->R)(v0 v1 v5 v9 v10:EV)(h:Aa):R:=
 Aq Hj (bin TT .add 3) v10 (.int .i64 1) fun v28=>
 ih1_ v0 v1 v5 v9 v28 h
def T4(c r:Ac)(K:Nat)(ih1_:EV->EV->EV->EV->EV->Aa->R)(v0 v1 v5 v6 v9 v10:EV)(h:Aa):R:=
 Aj (Em K v0 v6 h) fun v27 h=>
 Jy c r K ih1_ v0 v1 v5 v9 v10 h
def Ua(c r:Ac)(K:Nat)(ih1_:EV->EV->EV->EV->EV->Aa->R)(v0 v1 v5 v6 v9 v10:EV)(h:Aa):R:=
 Aj (P0 c r v1 [v6] h) fun v21 h=>
 Lf v21 fun v22=>
 D8 v22
 (Aq Hj (bin TT .add 3) v5 (.int .i64 1) fun v24=>
 Jy c r K ih1_ v0 v1 v24 v9 v10 h)
 (T4 c r K ih1_ v0 v1 v5 v6 v9 v10 h)
def T8(c r:Ac)(K:Nat)(ih1_:EV->EV->EV->EV->EV->Aa->R)(v0 v1 v5 v9 v10:EV)(h:Aa):R:=
 Aj (Dq K v0 h) fun v14 h=>
 C9 0 v14 fun v15=>
 C9 1 v14 fun v16=>
 Aq Ka (bin TT .neq 28) v16 (.int .i64 0) fun v18=>
 D8 v18
 (J6 c r K v5 h)
 (Ua c r K ih1_ v0 v1 v5 v15 v9 v10 h)
def Dw(c r:Ac)(K:Nat):Nat->EV->EV->EV->EV->EV->Aa->R
 | 0=>fun _ _ _ _ _ _=>none
 | m+1=>fun v0 v1 v5 v9 v10 h=>
  Aq Gr (bin TT .lss 3) v10 v9 fun v11=>
  D8 v11
  (T8 c r K (Dw c r K m) v0 v1 v5 v9 v10 h)
  (J6 c r K v5 h)
def Yg(c r:Ac)(K:Nat)(v0 v1:EV)(h:Aa):R:=
 Aj (E7 K v0 h) fun v9 h=>
 Dw c r K K v0 v1 (.int .i64 0) v9 (.int .i64 0) h
abbrev Afd(K:Nat)(c:Ac):Ac:=(w1 71 (E7 K) (w2 61 (Em K) (w1 171 (Dq K) c)))
theorem Abd(c r:Ac)(K:Nat)(m:Nat):G2 (fun ih=>Fq TT (Afd K c) c r K (nOf TT 121) (Eg TT 121) (Ph TT 121 [true,true,false,true,false]) [(0,fun ρ h=>J6 c r K (ρ 5) h)] ih) m=fun ρ h=>Dw c r K m (ρ 0) (ρ 1) (ρ 5) (ρ 9) (ρ 10) h:=
 Cj (E:=fun m ρ h=>Dw c r K m (ρ 0) (ρ 1) (ρ 5) (ρ 9) (ρ 10) h) rfl (fun m=>Pm fun ρ h=>by
  show _=Dw c r K (m+1) (ρ 0) (ρ 1) (ρ 5) (ρ 9) (ρ 10) h
  rw[Dw];kernel_rfl) m
theorem Acz(H:An disp)(hd:1<=d)(v0 v1:EV)(h:Aa):Ad TT disp K (d+1) false 121 [v0,v1] h=Yg (Ad TT disp K d false) (Ad TT disp K d true) K v0 v1 h:=
 Rc (H.bare (by kernel_rfl)) (by kernel_rfl) (W1 (N6 H (lq hd rfl)) (W2 (Od H (lq hd rfl)) (W1 (Ni H (lq hd rfl)) rfl))) (cut [true,true,false,true,false] (Abd (Ad TT disp K d false) (Ad TT disp K d true) K K) (by kernel_rfl) (by kernel_rfl) rfl) (by kernel_rfl)
theorem Sa:(B8 TT 149 0).1=.tmp 18:=by kernel_rfl
def Gw(c r:Ac)(K:Nat)(ih0_:Ag->EV->EV->EV->Aa->List Nat->R)(tm:Ag)(v10:EV)(v11:EV)(v12:EV)(h:Aa)(ds:List Nat):R:=
 Aq Hj (bin TT .add 3) v12 (.int .i64 1) fun v26=>
 ih0_ ((tm.put 26 (some v26)).put 12 (some v26)) v10 v11 v26 h ds
theorem Abv(H:An disp)(hd:1<=d){ih0_:CF}{ih0_':Ag->EV->EV->EV->Aa->List Nat->R}(hih0_:∀ tm h ds,ih0_ tm h ds=ih0_' tm (tmp tm 10) (tmp tm 11) (tmp tm 12) h ds)(tm:Ag)(h:Aa)(ds:List Nat):Amx (Ad TT disp K d false) (Ad TT disp K d true) K ih0_ tm h ds=Gw (Ad TT disp K d false) (Ad TT disp K d true) K ih0_' tm (tmp tm 10) (tmp tm 11) (tmp tm 12) h ds:=by
 simp only[Amx,Gw,Zv,dd,↓reduceIte,Nat.reduceEqDiff,Int.reduceOfNat,Int.reduceNegSucc,Nat.reduceAdd,hih0_,tt0]
def K6(c r:Ac)(K:Nat)(ih0_:Ag->EV->EV->EV->Aa->List Nat->R)(tm:Ag)(v10:EV)(v11:EV)(v12:EV)(h:Aa)(ds:List Nat):R:=
 Ib 1 v10 v12 fun v15=>
 Ao v15 h fun v16=>
 Kn (.cells [(.int .i64 0)] 3) h fun v3 h=>
 I9 1 v3 v12 h fun h=>
 Aj (S6 K v16 h) fun v18 h=>
 Xj c TT 149 27 0 v18 (((((((tm.put 14 (some v12)).put 15 (some v15)).put 16 (some v16)).put 3 (some v3)).put 4 (some v16)).put 17 (some v16)).put 18 (some v18)) h ds (fun h ds=>
 Gw c r K ih0_ (((((((tm.put 14 (some v12)).put 15 (some v15)).put 16 (some v16)).put 3 (some v3)).put 4 (some v16)).put 17 (some v16)).put 18 (some v18)) v10 v11 v12 h ds) (fun id h ds=>
 Ar (Nat.beq 2 id) (Gw c r K ih0_ (((((((tm.put 14 (some v12)).put 15 (some v15)).put 16 (some v16)).put 3 (some v3)).put 4 (some v16)).put 17 (some v16)).put 18 (some v18)) v10 v11 v12 h ds) (Ar (Nat.beq 1 id) (Gw c r K ih0_ (((((((tm.put 14 (some v12)).put 15 (some v15)).put 16 (some v16)).put 3 (some v3)).put 4 (some v16)).put 17 (some v16)).put 18 (some v18)) v10 v11 v12 h ds) (Ar (Nat.beq 0 id) (D3 ds h fun h=>some (.tuple [],h)) (none)))) (fun h ds=>
 D3 ds h fun h=>some (.tuple [],h))
theorem Ab3(H:An disp)(hd:1<=d){ih0_:CF}{ih0_':Ag->EV->EV->EV->Aa->List Nat->R}(hih0_:∀ tm h ds,ih0_ tm h ds=ih0_' tm (tmp tm 10) (tmp tm 11) (tmp tm 12) h ds)(tm:Ag)(h:Aa)(ds:List Nat):Auz (Ad TT disp K d false) (Ad TT disp K d true) K ih0_ tm h ds=K6 (Ad TT disp K d false) (Ad TT disp K d true) K ih0_' tm (tmp tm 10) (tmp tm 11) (tmp tm 12) h ds:=by
 simp only[Auz,K6,Zv,dd,↓reduceIte,Nat.reduceEqDiff,Int.reduceOfNat,Int.reduceNegSucc,Nat.reduceAdd,hih0_,Abv H hd hih0_,Aek H (lq hd rfl),tt0,Agt Sa,Ady Sa,Zi,Y1,X2,Agp]
def G0(c r:Ac)(K:Nat):Nat->Ag->EV->EV->EV->Aa->List Nat->R
 | 0=>fun _ _ _ _ _ _=>none
 | m+1=>fun tm v10 v11 v12 h ds=>
  Aq Gr (bin TT .lss 3) v12 v11 fun v13=>
  D8 v13
  (K6 c r K (G0 c r K m) (tm.put 13 (some v13)) v10 v11 v12 h ds)
  (D3 ds h fun h=>some (.tuple [],h))
theorem Ac4(H:An disp)(hd:1<=d):∀ (m:Nat) (tm:Ag) (h:Aa) (ds:List Nat),Aj8 (Avj (Ad TT disp K d false) (Ad TT disp K d true) K) m tm h ds=G0 (Ad TT disp K d false) (Ad TT disp K d true) K m tm (tmp tm 10) (tmp tm 11) (tmp tm 12) h ds:=by
 intro m
 induction m with
 | zero=>intros;rfl
 | succ m hih0_=>
  intro tm h ds
  rw[Aug]
  simp only[Avj,G0,Zv,dd,↓reduceIte,Nat.reduceEqDiff,Int.reduceOfNat,Int.reduceNegSucc,Nat.reduceAdd,hih0_,Ab3 H hd hih0_,tt0]
def S4(c r:Ac)(K:Nat)(v0 v1:EV)(h:Aa):R:=
 (fun(tm:Ag) (ds:List Nat)=>
 Dn 142 v0 h fun v2 h=>
 Ao v1 h fun v7=>
 Bg v7 fun v8=>
 Ap 6 v8 fun v9=>
 Ao v9 h fun v10=>
 H8 v10 fun v11=>
 G0 c r K K (((((((tm.put 2 (some v2)).put 7 (some v7)).put 8 (some v8)).put 9 (some v9)).put 10 (some v10)).put 11 (some v11)).put 12 (some (.int .i64 0))) v10 v11 (.int .i64 0) h ds) ((Tr.nil.put 0 (some v0)).put 1 (some v1)) []
theorem Ael(H:An disp)(hd:1<=d)(v0 v1:EV)(h:Aa):Ad TT disp K (d+1) false 149 [v0,v1] h=S4 (Ad TT disp K d false) (Ad TT disp K d true) K v0 v1 h:=by
 rw[Xy ((H.plain 149 rfl).trans (show Aew 149=some A49 by kernel_rfl))]
 unfold A49
 rw[Ak2 (by simp)]
 simp only[S4,Zv,dd,↓reduceIte,Nat.reduceEqDiff,Int.reduceOfNat,Int.reduceNegSucc,Nat.reduceAdd,Ac4 H hd,tt0]
def Hy(c r:Ac)(K:Nat)(l:Nat)(v2:EV)(v3:EV)(v6:EV)(h:Aa):R:=
 Ao v2 h fun v21=>
 Ao v3 h fun v22=>
 Aj (P0 c r v21 [v22,v6] h) fun v24 h=>
 Lf v24 fun v25=>
 D8 v25
 (Aip l false .done (some .ret) h)
 (Aip l true .ready none h)
theorem Xi(H:An disp)(hd:1<=d){l:Nat}(tm:Ag)(h:Aa):Afj (Ad TT disp K d false) (Ad TT disp K d true) K l tm h []=Hy (Ad TT disp K d false) (Ad TT disp K d true) K l (tmp tm 2) (tmp tm 3) (tmp tm 6) h:=by
 simp only[Afj,Hy,dd,↓reduceIte,Nat.reduceEqDiff,Int.reduceOfNat,Int.reduceNegSucc,Nat.reduceAdd,tt0]
def K4(c r:Ac)(K:Nat)(l:Nat)(v2:EV)(v3:EV)(v20:EV)(h:Aa):R:=
 Fm l h fun h=>Hy c r K l v2 v3 v20 h
theorem Aci(H:An disp)(hd:1<=d){l:Nat}(tm:Ag)(h:Aa):Auq (Ad TT disp K d false) (Ad TT disp K d true) K l tm h []=K4 (Ad TT disp K d false) (Ad TT disp K d true) K l (tmp tm 2) (tmp tm 3) (tmp tm 20) h:=by
 simp only[Auq,K4,dd,↓reduceIte,Nat.reduceEqDiff,Int.reduceOfNat,Int.reduceNegSucc,Nat.reduceAdd,Xi H hd,tt0]
theorem Y0(H:An disp)(hd:1<=d){l:Nat}(tm:Ag)(h:Aa)(x19:EV)(x20:EV){st:LoopState}{p:Option Code}{d0:Nat}(hg:h.get l=some (.loop st p 149 27 tm [19,20] (B8 TT 149 0).2.2.1 (B8 TT 149 0).2.2.2 d0)):
 Ad TT disp K (d+1) true l [x19,x20] h=K4 (Ad TT disp K d false) (Ad TT disp K d true) K l (tmp tm 2) (tmp tm 3) x20 h:=by
 rw[W8,Zt hg (show Kh [19,20] [x19,x20] 27 tm=some ((tm.put 19 (some x19)).put 20 (some x20)) from rfl),Ay4,Aci H hd]
 simp only[dd,↓reduceIte,Nat.reduceEqDiff,Int.reduceOfNat,Int.reduceNegSucc,Nat.reduceAdd]
def Wx(K:Nat)(v0 v1:EV)(h:Aa):R:=
 Bg v0 fun v18=>
 Ap 6 v18 fun v19=>
 Ao v19 h fun v20=>
 Ib 1 v20 v1 fun v22=>
 Ao v22 h fun v23=>
 Aj (Dq K v23 h) fun v24 h=>
 C9 0 v24 fun v25=>
 C9 1 v24 fun v26=>
 some (.tuple [v25,v26],h)
def Mf(K:Nat)(v0 v1 v8 v15:EV)(h:Aa):R:=
 Bu v8 (.bool true) v15 fun v16=>
 D8 v16
 (some (.tuple [(.int .i64 0),(.int .i64 13)],h))
 (Wx K v0 v1 h)
def Mw(K:Nat)(v0 v1:EV)(h:Aa):R:=
 Aq Gr (bin TT .lss 3) v1 (.int .i64 0) fun v7=>
 Ar (Au v7 false)
 (Bg v0 fun v11=>
 Ap 6 v11 fun v12=>
 Ao v12 h fun v13=>
 H8 v13 fun v14=>
 Aq V5 (bin TT .geq 3) v1 v14 fun v15=>
 Mf K v0 v1 v7 v15 h)
 (Mf K v0 v1 v7 (.tuple []) h)
theorem Afs(H:An disp)(hd:2<=d)(v0 v1:EV)(h:Aa):Ad TT disp K d false 161 [v0,v1] h=Mw K v0 v1 h:=
 Cp (H.bare (by kernel_rfl)) hd (by kernel_rfl) (fun d hd=>(W1 (Ni H (lq hd rfl)) rfl)) (fun d c r=>rfl) (fun d c r=>by kernel_rfl)
def Rw(c r:Ac)(K:Nat)(ih0_:EV->EV->EV->EV->Aa->R)(v0 v6 v7 v8:EV)(h:Aa):R:=
 Aq Hj (bin TT .add 3) v8 (.int .i64 1) fun v18=>
 ih0_ v0 v6 v7 v18 h
def Sq(c r:Ac)(K:Nat)(ih0_:EV->EV->EV->EV->Aa->R)(v0 v6 v7 v8:EV)(h:Aa):R:=
 Ib 1 v6 v8 fun v11=>
 Ao v11 h fun v12=>
 Aj (P0 c r v0 [v8,v12] h) fun v16 h=>
 Lf v16 fun v17=>
 D8 v17
 (some (.tuple [],h))
 (Rw c r K ih0_ v0 v6 v7 v8 h)
def De(c r:Ac)(K:Nat):Nat->EV->EV->EV->EV->Aa->R
 | 0=>fun _ _ _ _ _=>none
 | m+1=>fun v0 v6 v7 v8 h=>
  Aq Gr (bin TT .lss 3) v8 v7 fun v9=>
  D8 v9
  (Sq c r K (De c r K m) v0 v6 v7 v8 h)
  (some (.tuple [],h))
def Wj(c r:Ac)(K:Nat)(v0 v1:EV)(h:Aa):R:=
 Ao v1 h fun v5=>
 Aj (Kk K v5 h) fun v6 h=>
 H8 v6 fun v7=>
 De c r K K v0 v6 v7 (.int .i64 0) h
abbrev Aec(K:Nat)(c:Ac):Ac:=(w1 191 (Kk K) c)
theorem Zu(c r:Ac)(K:Nat)(m:Nat):G2 (fun ih=>Fq TT (Aec K c) c r K (nOf TT 190) (Eg TT 190) (Ph TT 190 [true,false]) [(0,Eg TT 190)] ih) m=fun ρ h=>De c r K m (ρ 0) (ρ 6) (ρ 7) (ρ 8) h:=
 Cj (E:=fun m ρ h=>De c r K m (ρ 0) (ρ 6) (ρ 7) (ρ 8) h) rfl (fun m=>Pm fun ρ h=>by
  show _=De c r K (m+1) (ρ 0) (ρ 6) (ρ 7) (ρ 8) h
  rw[De];kernel_rfl) m
theorem Aba(H:An disp)(hd:2<=d)(v0 v1:EV)(h:Aa):Ad TT disp K (d+1) false 190 [v0,v1] h=Wj (Ad TT disp K d false) (Ad TT disp K d true) K v0 v1 h:=
 Rc (H.bare (by kernel_rfl)) (by kernel_rfl) (W1 (Acg H (lq hd rfl)) rfl) (cut [true,false] (Zu (Ad TT disp K d false) (Ad TT disp K d true) K K) (by kernel_rfl) (by kernel_rfl) rfl) (by kernel_rfl)
def Ws(c r:Ac)(K:Nat)(v0 v1 v5:EV)(h:Aa):R:=
 Bg v0 fun v20=>
 Ap 6 v20 fun v21=>
 Ao v21 h fun v22=>
 Ib 1 v22 v5 fun v24=>
 Ao v24 h fun v25=>
 Aj (Em K v25 v1 h) fun v27 h=>
 some (v27,h)
def Acb(c r:Ac)(K:Nat)(v0 v1:EV)(h:Aa):R:=
 Bg v0 fun v7=>
 Ap 0 v7 fun v8=>
 Ck 6 v8 h fun v9=>
 Aj (Fg K v9 v1 h) fun v11 h=>
 Aq Gr (bin TT .lss 3) v11 (.int .i64 0) fun v14=>
 D8 v14
 (some ((.int .i64 13),h))
 (Aj (c 49 [v0,v1] h) fun v18 h=>
 D8 v18
 (some ((.int .i64 16),h))
 (Ws c r K v0 v1 v11 h))
theorem Agf(H:An disp)(hd:2<=d)(v0 v1:EV)(h:Aa):Ad TT disp K (d+1) false 15 [v0,v1] h=Acb (Ad TT disp K d false) (Ad TT disp K d true) K v0 v1 h:=
 Rc (H.bare (by kernel_rfl)) (by kernel_rfl) (W2 (Hf H (lq hd rfl)) (W2 (Od H (lq hd rfl)) rfl)) rfl (by kernel_rfl)
end
end Go.Ev
