import Derived.Test.YtpkcfamminlmaaaGreatDa
set_option linter.unusedVariables false
set_option linter.unusedSimpArgs false
set_option linter.unusedSectionVars false
namespace Go.Ev
open Go.Proofs
set_option maxRecDepth 100000
set_option maxHeartbeats 4000000
noncomputable section
variable {disp:Nat->Option FT}{K d:Nat}
def Fz(K:Nat)(v0 v1:EV)(h:Aa):R:=
 Bp v0 fun v6=>
 Ao 0 v6 fun v7=>
 Aq v7 h fun v8=>
 Aj (Akq v8 v1 h) fun v10 h=>
 Cy 0 v10 fun v11=>
 Ar Jg (bin TT .eql 3) v11 (.int .i64 0) fun v12=>
 Et v12
 (some ((.int .i64 0),h))
 (some ((.int .i64 17),h))
theorem R7(H:Ap disp)(hd:1<=d)(v0 v1:EV)(h:Aa):Ad TT disp K d false 61 [v0,v1] h=Fz K v0 v1 h:=
 Cp (H.bare (by kernel_rfl)) hd (by kernel_rfl) (fun d hd=>rfl) (fun d c r=>rfl) (fun d c r=>by kernel_rfl)
def Vi(K:Nat)(v0:EV)(h:Aa):R:=
 Dx 49 v0 h fun v1 h=>
 some ((.func 149 [] [v1]),h)
theorem Aee(H:Ap disp)(hd:1<=d)(v0:EV)(h:Aa):Ad TT disp K d false 105 [v0] h=Vi K v0 h:=
 Cp (H.bare (by kernel_rfl)) hd (by kernel_rfl) (fun d hd=>rfl) (fun d c r=>rfl) (fun d c r=>by kernel_rfl)
def R2(K:Nat)(v0:EV)(h:Aa):R:=
 Dx 153 v0 h fun v1 h=>
 some ((.func 190 [] [v1]),h)
theorem Ab9(H:Ap disp)(hd:1<=d)(v0:EV)(h:Aa):Ad TT disp K d false 150 [v0] h=R2 K v0 h:=
 Cp (H.bare (by kernel_rfl)) hd (by kernel_rfl) (fun d hd=>rfl) (fun d c r=>rfl) (fun d c r=>by kernel_rfl)
def E5(K:Nat)(v0:EV)(h:Aa):R:=
 Bp v0 fun v7=>
 Ao 0 v7 fun v8=>
 Aq v8 h fun v9=>
 Aj (Ajg (.int .i64 0) v9 h) fun v10 h=>
 Cy 0 v10 fun v11=>
 Ar Jg (bin TT .eql 3) v11 (.int .i64 0) fun v12=>
 Et v12
 (Cy 2 v10 fun v14=>
 some (.tuple [v14,(.int .i64 0)],h))
 (some (.tuple [(.int .i64 0),(.int .i64 15)],h))
theorem Ri(H:Ap disp)(hd:1<=d)(v0:EV)(h:Aa):Ad TT disp K d false 171 [v0] h=E5 K v0 h:=
 Cp (H.bare (by kernel_rfl)) hd (by kernel_rfl) (fun d hd=>rfl) (fun d c r=>rfl) (fun d c r=>by kernel_rfl)
def M6(K:Nat)(v3:EV)(h:Aa):R:=
 some (v3,h)
def Sj(K:Nat)(ih1_:EV->EV->EV->EV->EV->Aa->R)(v0 v3 v24 v25 v26:EV)(h:Aa):R:=
 Ar Hh (bin TT .add 3) v26 (.int .i64 1) fun v33=>
 ih1_ v0 v3 v24 v25 v33 h
def R6(K:Nat)(ih1_:EV->EV->EV->EV->EV->Aa->R)(v0 v3 v24 v25 v26:EV)(h:Aa):R:=
 I5 1 v24 v26 fun v28=>
 Aq v28 h fun v29=>
 Aj (Fz K v0 v29 h) fun v32 h=>
 Sj K ih1_ v0 v3 v24 v25 v26 h
def Dl(K:Nat):Nat->EV->EV->EV->EV->EV->Aa->R
 | 0=>fun _ _ _ _ _ _=>none
 | m+1=>fun v0 v3 v24 v25 v26 h=>
  Ar G4 (bin TT .lss 3) v26 v25 fun v27=>
  Et v27
  (R6 K (Dl K m) v0 v3 v24 v25 v26 h)
  (M6 K v3 h)
def Nb(K:Nat)(v0 v3:EV)(h:Aa):R:=
 I4 v3 fun v25=>
 Dl K K v0 v3 v3 v25 (.int .i64 0) h
def Ni(K:Nat)(ih6_:EV->EV->EV->EV->Aa->R)(v0 v3 v9 v10:EV)(h:Aa):R:=
 Ar Hh (bin TT .add 3) v10 (.int .i64 1) fun v23=>
 ih6_ v0 v3 v9 v23 h
def Sk(K:Nat)(ih6_:EV->EV->EV->EV->Aa->R)(v0 v3 v9 v10:EV)(h:Aa):R:=
 Aj (E5 K v0 h) fun v14 h=>
 Cy 0 v14 fun v15=>
 Cy 1 v14 fun v16=>
 Ar Jg (bin TT .eql 28) v16 (.int .i64 0) fun v18=>
 Et v18
 (Aj (B4 [(.int .i64 0)] 3 1 1 [(0,v15)] h) fun v21 h=>
 Aj (C8 3 1 v3 v21 h) fun v22 h=>
 Ni K ih6_ v0 v22 v9 v10 h)
 (Ni K ih6_ v0 v3 v9 v10 h)
def Dm(K:Nat):Nat->EV->EV->EV->EV->Aa->R
 | 0=>fun _ _ _ _ _=>none
 | m+1=>fun v0 v3 v9 v10 h=>
  Ar G4 (bin TT .lss 3) v10 v9 fun v11=>
  Et v11
  (Sk K (Dm K m) v0 v3 v9 v10 h)
  (Nb K v0 v3 h)
def Ji(K:Nat)(v0:EV)(h:Aa):R:=
 Aj (Ie K v0 h) fun v9 h=>
 Dm K K v0 .Af v9 (.int .i64 0) h
abbrev Tm(K:Nat)(c:Ac):Ac:=(w1 71 (Ie K) (w2 61 (Fz K) (w1 171 (E5 K) c)))
theorem Zg(c c' r:Ac)(K:Nat)(m:Nat):G9 (fun ih=>F7 TT (Tm K c) c' r K (nOf TT 191) (E1 TT 191) (Pt TT 191 [true,true,true,false,true,false]) [(2,fun ρ h=>M6 K (ρ 3) h)] ih) m=fun ρ h=>Dl K m (ρ 0) (ρ 3) (ρ 24) (ρ 25) (ρ 26) h:=
 Cw (E:=fun m ρ h=>Dl K m (ρ 0) (ρ 3) (ρ 24) (ρ 25) (ρ 26) h) rfl (fun m=>P6 fun ρ h=>by
  show _=Dl K (m+1) (ρ 0) (ρ 3) (ρ 24) (ρ 25) (ρ 26) h
  rw[Dl];kernel_rfl) m
theorem Y0(c c' r:Ac)(K:Nat)(m:Nat):G9 (fun ih=>F7 TT (Tm K c) c' r K (nOf TT 191) (E1 TT 191) (Pt TT 191 [true,true,false,true,false]) [(0,fun ρ h=>Nb K (ρ 0) (ρ 3) h)] ih) m=fun ρ h=>Dm K m (ρ 0) (ρ 3) (ρ 9) (ρ 10) h:=
 Cw (E:=fun m ρ h=>Dm K m (ρ 0) (ρ 3) (ρ 9) (ρ 10) h) rfl (fun m=>P6 fun ρ h=>by
  show _=Dm K (m+1) (ρ 0) (ρ 3) (ρ 9) (ρ 10) h
  rw[Dm];kernel_rfl) m
theorem Aa2(H:Ap disp)(hd:2<=d)(v0:EV)(h:Aa):Ad TT disp K d false 191 [v0] h=Ji K v0 h:=
 Cp (H.bare (by kernel_rfl)) hd (by kernel_rfl) (fun d hd=>(W1 (Ab3 H (lq hd rfl)) (W2 (R7 H (lq hd rfl)) (W1 (Ri H (lq hd rfl)) rfl)))) (fun d c r=>(cut [true,true,true,false,true,false] (Zg (Ad TT disp K d false) c r K K) (by kernel_rfl) (by kernel_rfl) (cut [true,true,false,true,false] (Y0 (Ad TT disp K d false) c r K K) (by kernel_rfl) (by kernel_rfl) rfl))) (fun d c r=>by kernel_rfl)
theorem T6:(Cs TT 49 0).1=.tmp 8:=by kernel_rfl
def Jm(c r:Ac)(K:Nat)(tm:Ag)(v4:EV)(h:Aa)(ds:List Nat):R:=
 Jq 1 v4 (.bool false) h fun h=>
 Eh ds h fun h=>Jh TT [.c v4 4] h
theorem Adc(H:Ap disp)(hd:1<=d)(tm:Ag)(h:Aa)(ds:List Nat):Aus (Ad TT disp K d false) (Ad TT disp K d true) K tm h ds=Jm (Ad TT disp K d false) (Ad TT disp K d true) K tm (tmp tm 4) h ds:=by
 simp only[Aus,Jm,Anu,dd,↓reduceIte,Nat.reduceEqDiff,Int.reduceOfNat,Int.reduceNegSucc,Nat.reduceAdd,tt0]
def Vo(c r:Ac)(K:Nat)(v0 v1:EV)(h:Aa):R:=
 (fun(tm:Ag) (ds:List Nat)=>
 Dx 3 v1 h fun v3 h=>
 J6 (.cells [(.bool false)] 4) h fun v4 h=>
 Aj (Vi K v0 h) fun v8 h=>
 Xd c TT 49 14 0 v8 ((((tm.put 3 (some v3)).put 4 (some v4)).put 7 (some v0)).put 8 (some v8)) h ds (fun h ds=>
 Jm c r K ((((tm.put 3 (some v3)).put 4 (some v4)).put 7 (some v0)).put 8 (some v8)) v4 h ds) (fun id h ds=>
 An (Nat.beq 0 id) (Jm c r K ((((tm.put 3 (some v3)).put 4 (some v4)).put 7 (some v0)).put 8 (some v8)) v4 h ds) (none)) (fun h ds=>
 Eh ds h fun h=>Jh TT [.c v4 4] h)) ((Tr.nil.put 0 (some v0)).put 1 (some v1)) []
theorem Afc(H:Ap disp)(hd:1<=d)(v0 v1:EV)(h:Aa):Ad TT disp K (d+1) false 49 [v0,v1] h=Vo (Ad TT disp K d false) (Ad TT disp K d true) K v0 v1 h:=by
 rw[Abk ((H.plain 49 rfl).trans (show Aft 49=some F49 by kernel_rfl))]
 unfold F49
 rw[Anr (by simp)]
 simp only[Vo,Anu,dd,↓reduceIte,Nat.reduceEqDiff,Int.reduceOfNat,Int.reduceNegSucc,Nat.reduceAdd,Adc H hd,Aee H (lq hd rfl),tt0,Akh T6,Agc T6,Adr,Ada,Abz,Aj0]
def Iq(c r:Ac)(K:Nat)(l:Nat)(v3:EV)(v4:EV)(v6:EV)(h:Aa):R:=
 Aq v3 h fun v12=>
 Ar Jg (bin TT .eql 3) v6 v12 fun v13=>
 Et v13
 (Jq 1 v4 (.bool true) h fun h=>
 Ajt l false .done (some .ret) h)
 (Ajt l true .ready none h)
theorem Xx(H:Ap disp)(hd:1<=d){l:Nat}(tm:Ag)(h:Aa):Agi (Ad TT disp K d false) (Ad TT disp K d true) K l tm h []=Iq (Ad TT disp K d false) (Ad TT disp K d true) K l (tmp tm 3) (tmp tm 4) (tmp tm 6) h:=by
 simp only[Agi,Iq,dd,↓reduceIte,Nat.reduceEqDiff,Int.reduceOfNat,Int.reduceNegSucc,Nat.reduceAdd,tt0]
def Mk(c r:Ac)(K:Nat)(l:Nat)(v3:EV)(v4:EV)(v10:EV)(h:Aa):R:=
 Fj l h fun h=>Iq c r K l v3 v4 v10 h
theorem Ac4(H:Ap disp)(hd:1<=d){l:Nat}(tm:Ag)(h:Aa):Azc (Ad TT disp K d false) (Ad TT disp K d true) K l tm h []=Mk (Ad TT disp K d false) (Ad TT disp K d true) K l (tmp tm 3) (tmp tm 4) (tmp tm 10) h:=by
 simp only[Azc,Mk,dd,↓reduceIte,Nat.reduceEqDiff,Int.reduceOfNat,Int.reduceNegSucc,Nat.reduceAdd,Xx H hd,tt0]
theorem Aau(H:Ap disp)(hd:1<=d){l:Nat}(tm:Ag)(h:Aa)(x9:EV)(x10:EV){st:LoopState}{p:Option Code}{d0:Nat}(hg:h.get l=some (.loop st p 49 14 tm [9,10] (Cs TT 49 0).2.2.1 (Cs TT 49 0).2.2.2 d0)):
 Ad TT disp K (d+1) true l [x9,x10] h=Mk (Ad TT disp K d false) (Ad TT disp K d true) K l (tmp tm 3) (tmp tm 4) x10 h:=by
 rw[Abd,Adz hg (show K0 [9,10] [x9,x10] 14 tm=some ((tm.put 9 (some x9)).put 10 (some x10)) from rfl),Az8,Ac4 H hd]
 simp only[dd,↓reduceIte,Nat.reduceEqDiff,Int.reduceOfNat,Int.reduceNegSucc,Nat.reduceAdd]
def Sn(K:Nat)(v1 v2:EV)(h:Aa):R:=
 Ao 1 v2 fun v14=>
 Aq v14 h fun v15=>
 Ng (bin TT .quo 3) v1 v15 fun v16=>
 some (v16,h)
def Jb(K:Nat)(v1 v2 v7 v11:EV)(h:Aa):R:=
 B2 v7 (.bool true) v11 fun v12=>
 Et v12
 (some ((.int .i64 (-1)),h))
 (Sn K v1 v2 h)
def Hv(K:Nat)(v0 v1:EV)(h:Aa):R:=
 Dx 23 v0 h fun v2 h=>
 Ar G4 (bin TT .lss 3) v1 (.int .i64 0) fun v6=>
 An (Au v6 false)
 (Cm 6 v2 h fun v9=>
 Aj (Hm K v9 h) fun v10 h=>
 Ar Wa (bin TT .geq 3) v1 v10 fun v11=>
 Jb K v1 v2 v6 v11 h)
 (Jb K v1 v2 v6 (.tuple []) h)
theorem L0(H:Ap disp)(hd:2<=d)(v0 v1:EV)(h:Aa):Ad TT disp K d false 60 [v0,v1] h=Hv K v0 v1 h:=
 Cp (H.bare (by kernel_rfl)) hd (by kernel_rfl) (fun d hd=>(W1 (Lq H (lq hd rfl)) rfl)) (fun d c r=>rfl) (fun d c r=>by kernel_rfl)
theorem Ro:(Cs TT 149 0).1=.tmp 18:=by kernel_rfl
def Gc(c r:Ac)(K:Nat)(ih0_:Ag->EV->EV->EV->Aa->List Nat->R)(tm:Ag)(v10:EV)(v11:EV)(v12:EV)(h:Aa)(ds:List Nat):R:=
 Ar Hh (bin TT .add 3) v12 (.int .i64 1) fun v26=>
 ih0_ ((tm.put 26 (some v26)).put 12 (some v26)) v10 v11 v26 h ds
theorem Z9(H:Ap disp)(hd:1<=d){ih0_:CF}{ih0_':Ag->EV->EV->EV->Aa->List Nat->R}(hih0_:∀ tm h ds,ih0_ tm h ds=ih0_' tm (tmp tm 10) (tmp tm 11) (tmp tm 12) h ds)(tm:Ag)(h:Aa)(ds:List Nat):Ai1 (Ad TT disp K d false) (Ad TT disp K d true) K ih0_ tm h ds=Gc (Ad TT disp K d false) (Ad TT disp K d true) K ih0_' tm (tmp tm 10) (tmp tm 11) (tmp tm 12) h ds:=by
 simp only[Ai1,Gc,W5,dd,↓reduceIte,Nat.reduceEqDiff,Int.reduceOfNat,Int.reduceNegSucc,Nat.reduceAdd,hih0_,tt0]
def J3(c r:Ac)(K:Nat)(ih0_:Ag->EV->EV->EV->Aa->List Nat->R)(tm:Ag)(v10:EV)(v11:EV)(v12:EV)(h:Aa)(ds:List Nat):R:=
 I5 1 v10 v12 fun v15=>
 Aq v15 h fun v16=>
 J6 (.cells [(.int .i64 0)] 3) h fun v3 h=>
 Jq 1 v3 v12 h fun h=>
 Aj (R2 K v16 h) fun v18 h=>
 Xd c TT 149 27 0 v18 (((((((tm.put 14 (some v12)).put 15 (some v15)).put 16 (some v16)).put 3 (some v3)).put 4 (some v16)).put 17 (some v16)).put 18 (some v18)) h ds (fun h ds=>
 Gc c r K ih0_ (((((((tm.put 14 (some v12)).put 15 (some v15)).put 16 (some v16)).put 3 (some v3)).put 4 (some v16)).put 17 (some v16)).put 18 (some v18)) v10 v11 v12 h ds) (fun id h ds=>
 An (Nat.beq 2 id) (Gc c r K ih0_ (((((((tm.put 14 (some v12)).put 15 (some v15)).put 16 (some v16)).put 3 (some v3)).put 4 (some v16)).put 17 (some v16)).put 18 (some v18)) v10 v11 v12 h ds) (An (Nat.beq 1 id) (Gc c r K ih0_ (((((((tm.put 14 (some v12)).put 15 (some v15)).put 16 (some v16)).put 3 (some v3)).put 4 (some v16)).put 17 (some v16)).put 18 (some v18)) v10 v11 v12 h ds) (An (Nat.beq 0 id) (Eh ds h fun h=>some (.tuple [],h)) (none)))) (fun h ds=>
 Eh ds h fun h=>some (.tuple [],h))
theorem Aap(H:Ap disp)(hd:1<=d){ih0_:CF}{ih0_':Ag->EV->EV->EV->Aa->List Nat->R}(hih0_:∀ tm h ds,ih0_ tm h ds=ih0_' tm (tmp tm 10) (tmp tm 11) (tmp tm 12) h ds)(tm:Ag)(h:Aa)(ds:List Nat):Asp (Ad TT disp K d false) (Ad TT disp K d true) K ih0_ tm h ds=J3 (Ad TT disp K d false) (Ad TT disp K d true) K ih0_' tm (tmp tm 10) (tmp tm 11) (tmp tm 12) h ds:=by
 simp only[Asp,J3,W5,dd,↓reduceIte,Nat.reduceEqDiff,Int.reduceOfNat,Int.reduceNegSucc,Nat.reduceAdd,hih0_,Z9 H hd hih0_,Ab9 H (lq hd rfl),tt0,Akh Ro,Agc Ro,Adr,Ada,Abz,Aj0]
def Gb(c r:Ac)(K:Nat):Nat->Ag->EV->EV->EV->Aa->List Nat->R
 | 0=>fun _ _ _ _ _ _=>none
 | m+1=>fun tm v10 v11 v12 h ds=>
  Ar G4 (bin TT .lss 3) v12 v11 fun v13=>
  Et v13
  (J3 c r K (Gb c r K m) (tm.put 13 (some v13)) v10 v11 v12 h ds)
  (Eh ds h fun h=>some (.tuple [],h))
theorem Aah(H:Ap disp)(hd:1<=d):∀ (m:Nat) (tm:Ag) (h:Aa) (ds:List Nat),Ahv (Ar8 (Ad TT disp K d false) (Ad TT disp K d true) K) m tm h ds=Gb (Ad TT disp K d false) (Ad TT disp K d true) K m tm (tmp tm 10) (tmp tm 11) (tmp tm 12) h ds:=by
 intro m
 induction m with
 | zero=>intros;rfl
 | succ m hih0_=>
  intro tm h ds
  rw[As3]
  simp only[Ar8,Gb,W5,dd,↓reduceIte,Nat.reduceEqDiff,Int.reduceOfNat,Int.reduceNegSucc,Nat.reduceAdd,hih0_,Aap H hd hih0_,tt0]
def R0(c r:Ac)(K:Nat)(v0 v1:EV)(h:Aa):R:=
 (fun(tm:Ag) (ds:List Nat)=>
 Dx 142 v0 h fun v2 h=>
 Aq v1 h fun v7=>
 Bp v7 fun v8=>
 Ao 6 v8 fun v9=>
 Aq v9 h fun v10=>
 I4 v10 fun v11=>
 Gb c r K K (((((((tm.put 2 (some v2)).put 7 (some v7)).put 8 (some v8)).put 9 (some v9)).put 10 (some v10)).put 11 (some v11)).put 12 (some (.int .i64 0))) v10 v11 (.int .i64 0) h ds) ((Tr.nil.put 0 (some v0)).put 1 (some v1)) []
theorem Ab4(H:Ap disp)(hd:1<=d)(v0 v1:EV)(h:Aa):Ad TT disp K (d+1) false 149 [v0,v1] h=R0 (Ad TT disp K d false) (Ad TT disp K d true) K v0 v1 h:=by
 rw[Abk ((H.plain 149 rfl).trans (show Aft 149=some A0v by kernel_rfl))]
 unfold A0v
 rw[Anr (by simp)]
 simp only[R0,W5,dd,↓reduceIte,Nat.reduceEqDiff,Int.reduceOfNat,Int.reduceNegSucc,Nat.reduceAdd,Aah H hd,tt0]
def Hb(c r:Ac)(K:Nat)(l:Nat)(v2:EV)(v3:EV)(v6:EV)(h:Aa):R:=
 Aq v2 h fun v21=>
 Aq v3 h fun v22=>
 Aj (Uq c r v21 [v22,v6] h) fun v24 h=>
 Mp v24 fun v25=>
 Et v25
 (Ajt l false .done (some .ret) h)
 (Ajt l true .ready none h)
theorem Vh(H:Ap disp)(hd:1<=d){l:Nat}(tm:Ag)(h:Aa):Adu (Ad TT disp K d false) (Ad TT disp K d true) K l tm h []=Hb (Ad TT disp K d false) (Ad TT disp K d true) K l (tmp tm 2) (tmp tm 3) (tmp tm 6) h:=by
 simp only[Adu,Hb,dd,↓reduceIte,Nat.reduceEqDiff,Int.reduceOfNat,Int.reduceNegSucc,Nat.reduceAdd,tt0]
def J7(c r:Ac)(K:Nat)(l:Nat)(v2:EV)(v3:EV)(v20:EV)(h:Aa):R:=
 Fj l h fun h=>Hb c r K l v2 v3 v20 h
theorem Aad(H:Ap disp)(hd:1<=d){l:Nat}(tm:Ag)(h:Aa):Ath (Ad TT disp K d false) (Ad TT disp K d true) K l tm h []=J7 (Ad TT disp K d false) (Ad TT disp K d true) K l (tmp tm 2) (tmp tm 3) (tmp tm 20) h:=by
 simp only[Ath,J7,dd,↓reduceIte,Nat.reduceEqDiff,Int.reduceOfNat,Int.reduceNegSucc,Nat.reduceAdd,Vh H hd,tt0]
theorem Xh(H:Ap disp)(hd:1<=d){l:Nat}(tm:Ag)(h:Aa)(x19:EV)(x20:EV){st:LoopState}{p:Option Code}{d0:Nat}(hg:h.get l=some (.loop st p 149 27 tm [19,20] (Cs TT 149 0).2.2.1 (Cs TT 149 0).2.2.2 d0)):
 Ad TT disp K (d+1) true l [x19,x20] h=J7 (Ad TT disp K d false) (Ad TT disp K d true) K l (tmp tm 2) (tmp tm 3) x20 h:=by
 rw[Abd,Adz hg (show K0 [19,20] [x19,x20] 27 tm=some ((tm.put 19 (some x19)).put 20 (some x20)) from rfl),Aw6,Aad H hd]
 simp only[dd,↓reduceIte,Nat.reduceEqDiff,Int.reduceOfNat,Int.reduceNegSucc,Nat.reduceAdd]
def Um(K:Nat)(v0 v1:EV)(h:Aa):R:=
 Bp v0 fun v18=>
 Ao 6 v18 fun v19=>
 Aq v19 h fun v20=>
 I5 1 v20 v1 fun v22=>
 Aq v22 h fun v23=>
 Aj (E5 K v23 h) fun v24 h=>
 Cy 0 v24 fun v25=>
 Cy 1 v24 fun v26=>
 some (.tuple [v25,v26],h)
def Lh(K:Nat)(v0 v1 v8 v15:EV)(h:Aa):R:=
 B2 v8 (.bool true) v15 fun v16=>
 Et v16
 (some (.tuple [(.int .i64 0),(.int .i64 13)],h))
 (Um K v0 v1 h)
def L6(K:Nat)(v0 v1:EV)(h:Aa):R:=
 Ar G4 (bin TT .lss 3) v1 (.int .i64 0) fun v7=>
 An (Au v7 false)
 (Bp v0 fun v11=>
 Ao 6 v11 fun v12=>
 Aq v12 h fun v13=>
 I4 v13 fun v14=>
 Ar Wa (bin TT .geq 3) v1 v14 fun v15=>
 Lh K v0 v1 v7 v15 h)
 (Lh K v0 v1 v7 (.tuple []) h)
theorem Adf(H:Ap disp)(hd:2<=d)(v0 v1:EV)(h:Aa):Ad TT disp K d false 161 [v0,v1] h=L6 K v0 v1 h:=
 Cp (H.bare (by kernel_rfl)) hd (by kernel_rfl) (fun d hd=>(W1 (Ri H (lq hd rfl)) rfl)) (fun d c r=>rfl) (fun d c r=>by kernel_rfl)
def Rm(c r:Ac)(K:Nat)(ih0_:EV->EV->EV->EV->Aa->R)(v0 v6 v7 v8:EV)(h:Aa):R:=
 Ar Hh (bin TT .add 3) v8 (.int .i64 1) fun v18=>
 ih0_ v0 v6 v7 v18 h
def Rl(c r:Ac)(K:Nat)(ih0_:EV->EV->EV->EV->Aa->R)(v0 v6 v7 v8:EV)(h:Aa):R:=
 I5 1 v6 v8 fun v11=>
 Aq v11 h fun v12=>
 Aj (Uq c r v0 [v8,v12] h) fun v16 h=>
 Mp v16 fun v17=>
 Et v17
 (some (.tuple [],h))
 (Rm c r K ih0_ v0 v6 v7 v8 h)
def Dg(c r:Ac)(K:Nat):Nat->EV->EV->EV->EV->Aa->R
 | 0=>fun _ _ _ _ _=>none
 | m+1=>fun v0 v6 v7 v8 h=>
  Ar G4 (bin TT .lss 3) v8 v7 fun v9=>
  Et v9
  (Rl c r K (Dg c r K m) v0 v6 v7 v8 h)
  (some (.tuple [],h))
def Ux(c r:Ac)(K:Nat)(v0 v1:EV)(h:Aa):R:=
 Aq v1 h fun v5=>
 Aj (Ji K v5 h) fun v6 h=>
 I4 v6 fun v7=>
 Dg c r K K v0 v6 v7 (.int .i64 0) h
abbrev Ab2(K:Nat)(c:Ac):Ac:=(w1 191 (Ji K) c)
theorem X4(c r:Ac)(K:Nat)(m:Nat):G9 (fun ih=>F7 TT (Ab2 K c) c r K (nOf TT 190) (E1 TT 190) (Pt TT 190 [true,false]) [(0,E1 TT 190)] ih) m=fun ρ h=>Dg c r K m (ρ 0) (ρ 6) (ρ 7) (ρ 8) h:=
 Cw (E:=fun m ρ h=>Dg c r K m (ρ 0) (ρ 6) (ρ 7) (ρ 8) h) rfl (fun m=>P6 fun ρ h=>by
  show _=Dg c r K (m+1) (ρ 0) (ρ 6) (ρ 7) (ρ 8) h
  rw[Dg];kernel_rfl) m
theorem Y9(H:Ap disp)(hd:2<=d)(v0 v1:EV)(h:Aa):Ad TT disp K (d+1) false 190 [v0,v1] h=Ux (Ad TT disp K d false) (Ad TT disp K d true) K v0 v1 h:=
 Vl (H.bare (by kernel_rfl)) (by kernel_rfl) (W1 (Aa2 H (lq hd rfl)) rfl) (cut [true,false] (X4 (Ad TT disp K d false) (Ad TT disp K d true) K K) (by kernel_rfl) (by kernel_rfl) rfl) (by kernel_rfl)
def Uu(c r:Ac)(K:Nat)(v0 v1 v5:EV)(h:Aa):R:=
 Bp v0 fun v20=>
 Ao 6 v20 fun v21=>
 Aq v21 h fun v22=>
 I5 1 v22 v5 fun v24=>
 Aq v24 h fun v25=>
 Aj (Fz K v25 v1 h) fun v27 h=>
 some (v27,h)
def Aa7(c r:Ac)(K:Nat)(v0 v1:EV)(h:Aa):R:=
 Bp v0 fun v7=>
 Ao 0 v7 fun v8=>
 Cm 6 v8 h fun v9=>
 Aj (Hv K v9 v1 h) fun v11 h=>
 Ar G4 (bin TT .lss 3) v11 (.int .i64 0) fun v14=>
 Et v14
 (some ((.int .i64 13),h))
 (Aj (c 49 [v0,v1] h) fun v18 h=>
 Et v18
 (some ((.int .i64 16),h))
 (Uu c r K v0 v1 v11 h))
theorem Ad1(H:Ap disp)(hd:2<=d)(v0 v1:EV)(h:Aa):Ad TT disp K (d+1) false 15 [v0,v1] h=Aa7 (Ad TT disp K d false) (Ad TT disp K d true) K v0 v1 h:=
 Vl (H.bare (by kernel_rfl)) (by kernel_rfl) (W2 (L0 H (lq hd rfl)) (W2 (R7 H (lq hd rfl)) rfl)) rfl (by kernel_rfl)
end
end Go.Ev
