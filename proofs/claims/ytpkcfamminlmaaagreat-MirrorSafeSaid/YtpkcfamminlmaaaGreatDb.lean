import Derived.Test.YtpkcfamminlmaaaGreatDa
set_option linter.unusedVariables false
set_option linter.unusedSimpArgs false
set_option linter.unusedSectionVars false
namespace Go.Ev
open Go.Proofs
set_option maxRecDepth 100000
set_option maxHeartbeats 4000000
noncomputable section
variable {disp:Nat->Option FT}{K d:Nat}
def E7(K:Nat)(v0 v1:EV)(h:Aa):R:=
 A7 v0 fun v6=>
 Am 0 v6 fun v7=>
 Al v7 h fun v8=>
 Aj (Aol v8 v1 h) fun v10 h=>
 Bv 0 v10 fun v11=>
 An Fj (bin TT .eql 3) v11 (.int .i64 0) fun v12=>
 De v12
 (some ((.int .i64 0),h))
 (some ((.int .i64 17),h))
theorem Pr(H:Aw disp)(hd:1<=d)(v0 v1:EV)(h:Aa):Ae TT disp K d false 61 [v0,v1] h=E7 K v0 v1 h:=
 Cj (H.bare (by kernel_rfl)) hd (by kernel_rfl) (fun d hd=>rfl) (fun d c r=>rfl) (fun d c r=>by kernel_rfl)
def Zo(K:Nat)(v0:EV)(h:Aa):R:=
 Ea 49 v0 h fun v1 h=>
 some ((.func 149 [] [v1]),h)
theorem Aiz(H:Aw disp)(hd:1<=d)(v0:EV)(h:Aa):Ae TT disp K d false 105 [v0] h=Zo K v0 h:=
 Cj (H.bare (by kernel_rfl)) hd (by kernel_rfl) (fun d hd=>rfl) (fun d c r=>rfl) (fun d c r=>by kernel_rfl)
def Aa4(K:Nat)(v0 v1:EV)(h:Aa):R:=
 Al v1 h fun v5=>
 An Gv (bin TT .neq 3) v0 v5 fun v6=>
 some (v6,h)
theorem Ad9(H:Aw disp)(hd:1<=d)(v0 v1:EV)(h:Aa):Ae TT disp K d false 122 [v0,v1] h=Aa4 K v0 v1 h:=
 Cj (H.bare (by kernel_rfl)) hd (by kernel_rfl) (fun d hd=>rfl) (fun d c r=>rfl) (fun d c r=>by kernel_rfl)
def Vc(K:Nat)(v0:EV)(h:Aa):R:=
 Ea 153 v0 h fun v1 h=>
 some ((.func 190 [] [v1]),h)
theorem Agc(H:Aw disp)(hd:1<=d)(v0:EV)(h:Aa):Ae TT disp K d false 150 [v0] h=Vc K v0 h:=
 Cj (H.bare (by kernel_rfl)) hd (by kernel_rfl) (fun d hd=>rfl) (fun d c r=>rfl) (fun d c r=>by kernel_rfl)
def D8(K:Nat)(v0:EV)(h:Aa):R:=
 A7 v0 fun v7=>
 Am 0 v7 fun v8=>
 Al v8 h fun v9=>
 Aj (Ao7 (.int .i64 0) v9 h) fun v10 h=>
 Bv 0 v10 fun v11=>
 An Fj (bin TT .eql 3) v11 (.int .i64 0) fun v12=>
 De v12
 (Bv 2 v10 fun v14=>
 some (.tuple [v14,(.int .i64 0)],h))
 (some (.tuple [(.int .i64 0),(.int .i64 15)],h))
theorem Ol(H:Aw disp)(hd:1<=d)(v0:EV)(h:Aa):Ae TT disp K d false 171 [v0] h=D8 K v0 h:=
 Cj (H.bare (by kernel_rfl)) hd (by kernel_rfl) (fun d hd=>rfl) (fun d c r=>rfl) (fun d c r=>by kernel_rfl)
def Ps(K:Nat)(v3:EV)(h:Aa):R:=
 some (v3,h)
def Vh(K:Nat)(ih1_:EV->EV->EV->EV->EV->Aa->R)(v0 v3 v24 v25 v26:EV)(h:Aa):R:=
 An Hw (bin TT .add 3) v26 (.int .i64 1) fun v33=>
 ih1_ v0 v3 v24 v25 v33 h
def Vo(K:Nat)(ih1_:EV->EV->EV->EV->EV->Aa->R)(v0 v3 v24 v25 v26:EV)(h:Aa):R:=
 It 1 v24 v26 fun v28=>
 Al v28 h fun v29=>
 Aj (E7 K v0 v29 h) fun v32 h=>
 Vh K ih1_ v0 v3 v24 v25 v26 h
def Ee(K:Nat):Nat->EV->EV->EV->EV->EV->Aa->R
 | 0=>fun _ _ _ _ _ _=>none
 | m+1=>fun v0 v3 v24 v25 v26 h=>
  An Hl (bin TT .lss 3) v26 v25 fun v27=>
  De v27
  (Vo K (Ee K m) v0 v3 v24 v25 v26 h)
  (Ps K v3 h)
def Pu(K:Nat)(v0 v3:EV)(h:Aa):R:=
 Hg v3 fun v25=>
 Ee K K v0 v3 v3 v25 (.int .i64 0) h
def Px(K:Nat)(ih6_:EV->EV->EV->EV->Aa->R)(v0 v3 v9 v10:EV)(h:Aa):R:=
 An Hw (bin TT .add 3) v10 (.int .i64 1) fun v23=>
 ih6_ v0 v3 v9 v23 h
def Vj(K:Nat)(ih6_:EV->EV->EV->EV->Aa->R)(v0 v3 v9 v10:EV)(h:Aa):R:=
 Aj (D8 K v0 h) fun v14 h=>
 Bv 0 v14 fun v15=>
 Bv 1 v14 fun v16=>
 An Fj (bin TT .eql 28) v16 (.int .i64 0) fun v18=>
 De v18
 (Aj (B1 [(.int .i64 0)] 3 1 1 [(0,v15)] h) fun v21 h=>
 Aj (Dt 3 1 v3 v21 h) fun v22 h=>
 Px K ih6_ v0 v22 v9 v10 h)
 (Px K ih6_ v0 v3 v9 v10 h)
def Ei(K:Nat):Nat->EV->EV->EV->EV->Aa->R
 | 0=>fun _ _ _ _ _=>none
 | m+1=>fun v0 v3 v9 v10 h=>
  An Hl (bin TT .lss 3) v10 v9 fun v11=>
  De v11
  (Vj K (Ei K m) v0 v3 v9 v10 h)
  (Pu K v0 v3 h)
def Lj(K:Nat)(v0:EV)(h:Aa):R:=
 Aj (Cp K v0 h) fun v9 h=>
 Ei K K v0 .Ag v9 (.int .i64 0) h
abbrev Wv(K:Nat)(c:Ad):Ad:=(w1 71 (Cp K) (w2 61 (E7 K) (w1 171 (D8 K) c)))
theorem Adr(c c' r:Ad)(K:Nat)(m:Nat):I0 (fun ih=>H6 TT (Wv K c) c' r K (nOf TT 191) (F2 TT 191) (Sb TT 191 [true,true,true,false,true,false]) [(2,fun ρ h=>Ps K (ρ 3) h)] ih) m=fun ρ h=>Ee K m (ρ 0) (ρ 3) (ρ 24) (ρ 25) (ρ 26) h:=
 C3 (E:=fun m ρ h=>Ee K m (ρ 0) (ρ 3) (ρ 24) (ρ 25) (ρ 26) h) rfl (fun m=>Se fun ρ h=>by
  show _=Ee K (m+1) (ρ 0) (ρ 3) (ρ 24) (ρ 25) (ρ 26) h
  rw[Ee];kernel_rfl) m
theorem Ac9(c c' r:Ad)(K:Nat)(m:Nat):I0 (fun ih=>H6 TT (Wv K c) c' r K (nOf TT 191) (F2 TT 191) (Sb TT 191 [true,true,false,true,false]) [(0,fun ρ h=>Pu K (ρ 0) (ρ 3) h)] ih) m=fun ρ h=>Ei K m (ρ 0) (ρ 3) (ρ 9) (ρ 10) h:=
 C3 (E:=fun m ρ h=>Ei K m (ρ 0) (ρ 3) (ρ 9) (ρ 10) h) rfl (fun m=>Se fun ρ h=>by
  show _=Ei K (m+1) (ρ 0) (ρ 3) (ρ 9) (ρ 10) h
  rw[Ei];kernel_rfl) m
theorem Afi(H:Aw disp)(hd:2<=d)(v0:EV)(h:Aa):Ae TT disp K d false 191 [v0] h=Lj K v0 h:=
 Cj (H.bare (by kernel_rfl)) hd (by kernel_rfl) (fun d hd=>(W1 (Iz H (lq hd rfl)) (W2 (Pr H (lq hd rfl)) (W1 (Ol H (lq hd rfl)) rfl)))) (fun d c r=>(cut [true,true,true,false,true,false] (Adr (Ae TT disp K d false) c r K K) (by kernel_rfl) (by kernel_rfl) (cut [true,true,false,true,false] (Ac9 (Ae TT disp K d false) c r K K) (by kernel_rfl) (by kernel_rfl) rfl))) (fun d c r=>by kernel_rfl)
theorem Xd:(Eo TT 49 0).1=.tmp 8:=by kernel_rfl
def Lq(c r:Ad)(K:Nat)(tm:Ai)(v4:EV)(h:Aa)(ds:List Nat):R:=
 D5 1 v4 (.bool false) h fun h=>
 Gp ds h fun h=>Cx TT [.c v4 4] h
theorem Ahl(H:Aw disp)(hd:1<=d)(tm:Ai)(h:Aa)(ds:List Nat):Azm (Ae TT disp K d false) (Ae TT disp K d true) K tm h ds=Lq (Ae TT disp K d false) (Ae TT disp K d true) K tm (tmp tm 4) h ds:=by
 simp only[Azm,Lq,Ath,dd,↓reduceIte,Nat.reduceEqDiff,Int.reduceOfNat,Int.reduceNegSucc,Nat.reduceAdd,tt0]
def Zm(c r:Ad)(K:Nat)(v0 v1:EV)(h:Aa):R:=
 (fun(tm:Ai) (ds:List Nat)=>
 Ea 3 v1 h fun v3 h=>
 Hj (.cells [(.bool false)] 4) h fun v4 h=>
 Aj (Zo K v0 h) fun v8 h=>
 Aeu c TT 49 14 0 v8 ((((tm.put 3 (some v3)).put 4 (some v4)).put 7 (some v0)).put 8 (some v8)) h ds (fun h ds=>
 Lq c r K ((((tm.put 3 (some v3)).put 4 (some v4)).put 7 (some v0)).put 8 (some v8)) v4 h ds) (fun id h ds=>
 As (Nat.beq 0 id) (Lq c r K ((((tm.put 3 (some v3)).put 4 (some v4)).put 7 (some v0)).put 8 (some v8)) v4 h ds) (none)) (fun h ds=>
 Gp ds h fun h=>Cx TT [.c v4 4] h)) ((Tr.nil.put 0 (some v0)).put 1 (some v1)) []
theorem Aja(H:Aw disp)(hd:1<=d)(v0 v1:EV)(h:Aa):Ae TT disp K (d+1) false 49 [v0,v1] h=Zm (Ae TT disp K d false) (Ae TT disp K d true) K v0 v1 h:=by
 rw[Ajj ((H.plain 49 rfl).trans (show Alo 49=some F49 by kernel_rfl))]
 unfold F49
 rw[Azc (by simp)]
 simp only[Zm,Ath,dd,↓reduceIte,Nat.reduceEqDiff,Int.reduceOfNat,Int.reduceNegSucc,Nat.reduceAdd,Ahl H hd,Aiz H (lq hd rfl),tt0,Av7 Xd,Aqu Xd,Apb,Ank,Akn,Avw]
def Ki(c r:Ad)(K:Nat)(l:Nat)(v3:EV)(v4:EV)(v6:EV)(h:Aa):R:=
 Al v3 h fun v12=>
 An Fj (bin TT .eql 3) v6 v12 fun v13=>
 De v13
 (D5 1 v4 (.bool true) h fun h=>
 Asz l false .done (some .ret) h)
 (Asz l true .ready none h)
theorem Aby(H:Aw disp)(hd:1<=d){l:Nat}(tm:Ai)(h:Aa):Aj8 (Ae TT disp K d false) (Ae TT disp K d true) K l tm h []=Ki (Ae TT disp K d false) (Ae TT disp K d true) K l (tmp tm 3) (tmp tm 4) (tmp tm 6) h:=by
 simp only[Aj8,Ki,dd,↓reduceIte,Nat.reduceEqDiff,Int.reduceOfNat,Int.reduceNegSucc,Nat.reduceAdd,tt0]
def O4(c r:Ad)(K:Nat)(l:Nat)(v3:EV)(v4:EV)(v10:EV)(h:Aa):R:=
 Ga l h fun h=>Ki c r K l v3 v4 v10 h
theorem Ah5(H:Aw disp)(hd:1<=d){l:Nat}(tm:Ai)(h:Aa):A5v (Ae TT disp K d false) (Ae TT disp K d true) K l tm h []=O4 (Ae TT disp K d false) (Ae TT disp K d true) K l (tmp tm 3) (tmp tm 4) (tmp tm 10) h:=by
 simp only[A5v,O4,dd,↓reduceIte,Nat.reduceEqDiff,Int.reduceOfNat,Int.reduceNegSucc,Nat.reduceAdd,Aby H hd,tt0]
theorem Aex(H:Aw disp)(hd:1<=d){l:Nat}(tm:Ai)(h:Aa)(x9:EV)(x10:EV){st:LoopState}{p:Option Code}{d0:Nat}(hg:h.get l=some (.loop st p 49 14 tm [9,10] (Eo TT 49 0).2.2.1 (Eo TT 49 0).2.2.2 d0)):
 Ae TT disp K (d+1) true l [x9,x10] h=O4 (Ae TT disp K d false) (Ae TT disp K d true) K l (tmp tm 3) (tmp tm 4) x10 h:=by
 rw[Ald,Ang hg (show O2 [9,10] [x9,x10] 14 tm=some ((tm.put 9 (some x9)).put 10 (some x10)) from rfl),A6h,Ah5 H hd]
 simp only[dd,↓reduceIte,Nat.reduceEqDiff,Int.reduceOfNat,Int.reduceNegSucc,Nat.reduceAdd]
def Vd(K:Nat)(v1 v2:EV)(h:Aa):R:=
 Am 1 v2 fun v14=>
 Al v14 h fun v15=>
 Lt (bin TT .quo 3) v1 v15 fun v16=>
 some (v16,h)
def Le(K:Nat)(v1 v2 v7 v11:EV)(h:Aa):R:=
 Bk v7 (.bool true) v11 fun v12=>
 De v12
 (some ((.int .i64 (-1)),h))
 (Vd K v1 v2 h)
def E9(K:Nat)(v0 v1:EV)(h:Aa):R:=
 Ea 23 v0 h fun v2 h=>
 An Hl (bin TT .lss 3) v1 (.int .i64 0) fun v6=>
 As (Ay v6 false)
 (Ca 6 v2 h fun v9=>
 Aj (K2 K v9 h) fun v10 h=>
 An Zu (bin TT .geq 3) v1 v10 fun v11=>
 Le K v1 v2 v6 v11 h)
 (Le K v1 v2 v6 (.tuple []) h)
theorem H9(H:Aw disp)(hd:2<=d)(v0 v1:EV)(h:Aa):Ae TT disp K d false 60 [v0,v1] h=E9 K v0 v1 h:=
 Cj (H.bare (by kernel_rfl)) hd (by kernel_rfl) (fun d hd=>(W1 (Q6 H (lq hd rfl)) rfl)) (fun d c r=>rfl) (fun d c r=>by kernel_rfl)
def Y0(c r:Ad)(K:Nat)(h:Aa):R:=
 some ((.int .i64 0),h)
def K1(c r:Ad)(K:Nat)(v14 v24:EV)(h:Aa):R:=
 Bk v14 (.bool true) v24 fun v25=>
 De v25
 (some ((.int .i64 15),h))
 (Y0 c r K h)
def Aez(c r:Ad)(K:Nat)(v0 v1:EV)(h:Aa):R:=
 Ea 3 v1 h fun v3 h=>
 Fz h fun base s=>
 A7 v0 fun v7=>
 Am 0 v7 fun v8=>
 Bd 3 7 base v8 s fun s=>Ca 6 v8 h fun v9=>
 Bd 4 0 base v3 s fun s=>Al v3 h fun v10=>
 Ci 5 31 s h (fun h=>(E9 K v9 v10 h)) fun v11 h s=>
 An Hl (bin TT .lss 3) v11 (.int .i64 0) fun v13=>
 As (Ay v13 false)
 (A7 v0 fun v16=>
 Am 6 v16 fun v17=>
 Al v17 h fun v18=>
 It 1 v18 v11 fun v20=>
 Al v20 h fun v21=>
 Aj (c 121 [v21,(.func 122 [] [v3])] h) fun v23 h=>
 An Fj (bin TT .eql 3) v23 (.int .i64 0) fun v24=>
 K1 c r K v13 v24 h)
 (K1 c r K v13 (.tuple []) h)
theorem Ag1(H:Aw disp)(hd:2<=d)(v0 v1:EV)(h:Aa):Ae TT disp K (d+1) false 69 [v0,v1] h=Aez (Ae TT disp K d false) (Ae TT disp K d true) K v0 v1 h:=
 Um (H.bare (by kernel_rfl)) (by kernel_rfl) (W2 (H9 H (lq hd rfl)) rfl) rfl (by kernel_rfl)
def K8(c r:Ad)(K:Nat)(v5:EV)(h:Aa):R:=
 some (v5,h)
def Lc(c r:Ad)(K:Nat)(ih1_:EV->EV->EV->EV->EV->Aa->R)(v0 v1 v5 v9 v10:EV)(h:Aa):R:=
 An Hw (bin TT .add 3) v10 (.int .i64 1) fun v28=>
 ih1_ v0 v1 v5 v9 v28 h
def Vt(c r:Ad)(K:Nat)(ih1_:EV->EV->EV->EV->EV->Aa->R)(v0 v1 v5 v6 v9 v10:EV)(h:Aa):R:=
 Aj (E7 K v0 v6 h) fun v27 h=>
 Lc c r K ih1_ v0 v1 v5 v9 v10 h
def Ve(c r:Ad)(K:Nat)(ih1_:EV->EV->EV->EV->EV->Aa->R)(v0 v1 v5 v6 v9 v10:EV)(h:Aa):R:=
 Aj (Y6 c r v1 [v6] h) fun v21 h=>
 Q1 v21 fun v22=>
 De v22
 (An Hw (bin TT .add 3) v5 (.int .i64 1) fun v24=>
 Lc c r K ih1_ v0 v1 v24 v9 v10 h)
 (Vt c r K ih1_ v0 v1 v5 v6 v9 v10 h)
def Vg(c r:Ad)(K:Nat)(ih1_:EV->EV->EV->EV->EV->Aa->R)(v0 v1 v5 v9 v10:EV)(h:Aa):R:=
 Aj (D8 K v0 h) fun v14 h=>
 Bv 0 v14 fun v15=>
 Bv 1 v14 fun v16=>
 An Gv (bin TT .neq 28) v16 (.int .i64 0) fun v18=>
 De v18
 (K8 c r K v5 h)
 (Ve c r K ih1_ v0 v1 v5 v15 v9 v10 h)
def Ed(c r:Ad)(K:Nat):Nat->EV->EV->EV->EV->EV->Aa->R
 | 0=>fun _ _ _ _ _ _=>none
 | m+1=>fun v0 v1 v5 v9 v10 h=>
  An Hl (bin TT .lss 3) v10 v9 fun v11=>
  De v11
  (Vg c r K (Ed c r K m) v0 v1 v5 v9 v10 h)
  (K8 c r K v5 h)
def Aa1(c r:Ad)(K:Nat)(v0 v1:EV)(h:Aa):R:=
 Aj (Cp K v0 h) fun v9 h=>
 Ed c r K K v0 v1 (.int .i64 0) v9 (.int .i64 0) h
abbrev Ahg(K:Nat)(c:Ad):Ad:=(w1 71 (Cp K) (w2 61 (E7 K) (w1 171 (D8 K) c)))
theorem Adq(c r:Ad)(K:Nat)(m:Nat):I0 (fun ih=>H6 TT (Ahg K c) c r K (nOf TT 121) (F2 TT 121) (Sb TT 121 [true,true,false,true,false]) [(0,fun ρ h=>K8 c r K (ρ 5) h)] ih) m=fun ρ h=>Ed c r K m (ρ 0) (ρ 1) (ρ 5) (ρ 9) (ρ 10) h:=
 C3 (E:=fun m ρ h=>Ed c r K m (ρ 0) (ρ 1) (ρ 5) (ρ 9) (ρ 10) h) rfl (fun m=>Se fun ρ h=>by
  show _=Ed c r K (m+1) (ρ 0) (ρ 1) (ρ 5) (ρ 9) (ρ 10) h
  rw[Ed];kernel_rfl) m
theorem Afe(H:Aw disp)(hd:1<=d)(v0 v1:EV)(h:Aa):Ae TT disp K (d+1) false 121 [v0,v1] h=Aa1 (Ae TT disp K d false) (Ae TT disp K d true) K v0 v1 h:=
 Um (H.bare (by kernel_rfl)) (by kernel_rfl) (W1 (Iz H (lq hd rfl)) (W2 (Pr H (lq hd rfl)) (W1 (Ol H (lq hd rfl)) rfl))) (cut [true,true,false,true,false] (Adq (Ae TT disp K d false) (Ae TT disp K d true) K K) (by kernel_rfl) (by kernel_rfl) rfl) (by kernel_rfl)
theorem T3:(Eo TT 149 0).1=.tmp 18:=by kernel_rfl
def H5(c r:Ad)(K:Nat)(ih0_:Ai->EV->EV->EV->Aa->List Nat->R)(tm:Ai)(v10:EV)(v11:EV)(v12:EV)(h:Aa)(ds:List Nat):R:=
 An Hw (bin TT .add 3) v12 (.int .i64 1) fun v26=>
 ih0_ ((tm.put 26 (some v26)).put 12 (some v26)) v10 v11 v26 h ds
theorem Ae2(H:Aw disp)(hd:1<=d){ih0_:CF}{ih0_':Ai->EV->EV->EV->Aa->List Nat->R}(hih0_:∀ tm h ds,ih0_ tm h ds=ih0_' tm (tmp tm 10) (tmp tm 11) (tmp tm 12) h ds)(tm:Ai)(h:Aa)(ds:List Nat):Anw (Ae TT disp K d false) (Ae TT disp K d true) K ih0_ tm h ds=H5 (Ae TT disp K d false) (Ae TT disp K d true) K ih0_' tm (tmp tm 10) (tmp tm 11) (tmp tm 12) h ds:=by
 simp only[Anw,H5,Ab8,dd,↓reduceIte,Nat.reduceEqDiff,Int.reduceOfNat,Int.reduceNegSucc,Nat.reduceAdd,hih0_,tt0]
def Mk(c r:Ad)(K:Nat)(ih0_:Ai->EV->EV->EV->Aa->List Nat->R)(tm:Ai)(v10:EV)(v11:EV)(v12:EV)(h:Aa)(ds:List Nat):R:=
 It 1 v10 v12 fun v15=>
 Al v15 h fun v16=>
 Hj (.cells [(.int .i64 0)] 3) h fun v3 h=>
 D5 1 v3 v12 h fun h=>
 Aj (Vc K v16 h) fun v18 h=>
 Aeu c TT 149 27 0 v18 (((((((tm.put 14 (some v12)).put 15 (some v15)).put 16 (some v16)).put 3 (some v3)).put 4 (some v16)).put 17 (some v16)).put 18 (some v18)) h ds (fun h ds=>
 H5 c r K ih0_ (((((((tm.put 14 (some v12)).put 15 (some v15)).put 16 (some v16)).put 3 (some v3)).put 4 (some v16)).put 17 (some v16)).put 18 (some v18)) v10 v11 v12 h ds) (fun id h ds=>
 As (Nat.beq 2 id) (H5 c r K ih0_ (((((((tm.put 14 (some v12)).put 15 (some v15)).put 16 (some v16)).put 3 (some v3)).put 4 (some v16)).put 17 (some v16)).put 18 (some v18)) v10 v11 v12 h ds) (As (Nat.beq 1 id) (H5 c r K ih0_ (((((((tm.put 14 (some v12)).put 15 (some v15)).put 16 (some v16)).put 3 (some v3)).put 4 (some v16)).put 17 (some v16)).put 18 (some v18)) v10 v11 v12 h ds) (As (Nat.beq 0 id) (Gp ds h fun h=>some (.tuple [],h)) (none)))) (fun h ds=>
 Gp ds h fun h=>some (.tuple [],h))
theorem Ad8(H:Aw disp)(hd:1<=d){ih0_:CF}{ih0_':Ai->EV->EV->EV->Aa->List Nat->R}(hih0_:∀ tm h ds,ih0_ tm h ds=ih0_' tm (tmp tm 10) (tmp tm 11) (tmp tm 12) h ds)(tm:Ai)(h:Aa)(ds:List Nat):Aww (Ae TT disp K d false) (Ae TT disp K d true) K ih0_ tm h ds=Mk (Ae TT disp K d false) (Ae TT disp K d true) K ih0_' tm (tmp tm 10) (tmp tm 11) (tmp tm 12) h ds:=by
 simp only[Aww,Mk,Ab8,dd,↓reduceIte,Nat.reduceEqDiff,Int.reduceOfNat,Int.reduceNegSucc,Nat.reduceAdd,hih0_,Ae2 H hd hih0_,Agc H (lq hd rfl),tt0,Av7 T3,Aqu T3,Apb,Ank,Akn,Avw]
def H3(c r:Ad)(K:Nat):Nat->Ai->EV->EV->EV->Aa->List Nat->R
 | 0=>fun _ _ _ _ _ _=>none
 | m+1=>fun tm v10 v11 v12 h ds=>
  An Hl (bin TT .lss 3) v12 v11 fun v13=>
  De v13
  (Mk c r K (H3 c r K m) (tm.put 13 (some v13)) v10 v11 v12 h ds)
  (Gp ds h fun h=>some (.tuple [],h))
theorem Aev(H:Aw disp)(hd:1<=d):∀ (m:Nat) (tm:Ai) (h:Aa) (ds:List Nat),Ala (Axv (Ae TT disp K d false) (Ae TT disp K d true) K) m tm h ds=H3 (Ae TT disp K d false) (Ae TT disp K d true) K m tm (tmp tm 10) (tmp tm 11) (tmp tm 12) h ds:=by
 intro m
 induction m with
 | zero=>intros;rfl
 | succ m hih0_=>
  intro tm h ds
  rw[Axa]
  simp only[Axv,H3,Ab8,dd,↓reduceIte,Nat.reduceEqDiff,Int.reduceOfNat,Int.reduceNegSucc,Nat.reduceAdd,hih0_,Ad8 H hd hih0_,tt0]
def U9(c r:Ad)(K:Nat)(v0 v1:EV)(h:Aa):R:=
 (fun(tm:Ai) (ds:List Nat)=>
 Ea 142 v0 h fun v2 h=>
 Al v1 h fun v7=>
 A7 v7 fun v8=>
 Am 6 v8 fun v9=>
 Al v9 h fun v10=>
 Hg v10 fun v11=>
 H3 c r K K (((((((tm.put 2 (some v2)).put 7 (some v7)).put 8 (some v8)).put 9 (some v9)).put 10 (some v10)).put 11 (some v11)).put 12 (some (.int .i64 0))) v10 v11 (.int .i64 0) h ds) ((Tr.nil.put 0 (some v0)).put 1 (some v1)) []
theorem Af5(H:Aw disp)(hd:1<=d)(v0 v1:EV)(h:Aa):Ae TT disp K (d+1) false 149 [v0,v1] h=U9 (Ae TT disp K d false) (Ae TT disp K d true) K v0 v1 h:=by
 rw[Ajj ((H.plain 149 rfl).trans (show Alo 149=some A7s by kernel_rfl))]
 unfold A7s
 rw[Azc (by simp)]
 simp only[U9,Ab8,dd,↓reduceIte,Nat.reduceEqDiff,Int.reduceOfNat,Int.reduceNegSucc,Nat.reduceAdd,Aev H hd,tt0]
def Jf(c r:Ad)(K:Nat)(l:Nat)(v2:EV)(v3:EV)(v6:EV)(h:Aa):R:=
 Al v2 h fun v21=>
 Al v3 h fun v22=>
 Aj (Y6 c r v21 [v22,v6] h) fun v24 h=>
 Q1 v24 fun v25=>
 De v25
 (Asz l false .done (some .ret) h)
 (Asz l true .ready none h)
theorem Zf(H:Aw disp)(hd:1<=d){l:Nat}(tm:Ai)(h:Aa):Aho (Ae TT disp K d false) (Ae TT disp K d true) K l tm h []=Jf (Ae TT disp K d false) (Ae TT disp K d true) K l (tmp tm 2) (tmp tm 3) (tmp tm 6) h:=by
 simp only[Aho,Jf,dd,↓reduceIte,Nat.reduceEqDiff,Int.reduceOfNat,Int.reduceNegSucc,Nat.reduceAdd,tt0]
def Md(c r:Ad)(K:Nat)(l:Nat)(v2:EV)(v3:EV)(v20:EV)(h:Aa):R:=
 Ga l h fun h=>Jf c r K l v2 v3 v20 h
theorem Ae1(H:Aw disp)(hd:1<=d){l:Nat}(tm:Ai)(h:Aa):Awr (Ae TT disp K d false) (Ae TT disp K d true) K l tm h []=Md (Ae TT disp K d false) (Ae TT disp K d true) K l (tmp tm 2) (tmp tm 3) (tmp tm 20) h:=by
 simp only[Awr,Md,dd,↓reduceIte,Nat.reduceEqDiff,Int.reduceOfNat,Int.reduceNegSucc,Nat.reduceAdd,Zf H hd,tt0]
theorem Acd(H:Aw disp)(hd:1<=d){l:Nat}(tm:Ai)(h:Aa)(x19:EV)(x20:EV){st:LoopState}{p:Option Code}{d0:Nat}(hg:h.get l=some (.loop st p 149 27 tm [19,20] (Eo TT 149 0).2.2.1 (Eo TT 149 0).2.2.2 d0)):
 Ae TT disp K (d+1) true l [x19,x20] h=Md (Ae TT disp K d false) (Ae TT disp K d true) K l (tmp tm 2) (tmp tm 3) x20 h:=by
 rw[Ald,Ang hg (show O2 [19,20] [x19,x20] 27 tm=some ((tm.put 19 (some x19)).put 20 (some x20)) from rfl),A2z,Ae1 H hd]
 simp only[dd,↓reduceIte,Nat.reduceEqDiff,Int.reduceOfNat,Int.reduceNegSucc,Nat.reduceAdd]
def Yq(K:Nat)(v0 v1:EV)(h:Aa):R:=
 A7 v0 fun v18=>
 Am 6 v18 fun v19=>
 Al v19 h fun v20=>
 It 1 v20 v1 fun v22=>
 Al v22 h fun v23=>
 Aj (D8 K v23 h) fun v24 h=>
 Bv 0 v24 fun v25=>
 Bv 1 v24 fun v26=>
 some (.tuple [v25,v26],h)
def N6(K:Nat)(v0 v1 v8 v15:EV)(h:Aa):R:=
 Bk v8 (.bool true) v15 fun v16=>
 De v16
 (some (.tuple [(.int .i64 0),(.int .i64 13)],h))
 (Yq K v0 v1 h)
def Om(K:Nat)(v0 v1:EV)(h:Aa):R:=
 An Hl (bin TT .lss 3) v1 (.int .i64 0) fun v7=>
 As (Ay v7 false)
 (A7 v0 fun v11=>
 Am 6 v11 fun v12=>
 Al v12 h fun v13=>
 Hg v13 fun v14=>
 An Zu (bin TT .geq 3) v1 v14 fun v15=>
 N6 K v0 v1 v7 v15 h)
 (N6 K v0 v1 v7 (.tuple []) h)
theorem Ah4(H:Aw disp)(hd:2<=d)(v0 v1:EV)(h:Aa):Ae TT disp K d false 161 [v0,v1] h=Om K v0 v1 h:=
 Cj (H.bare (by kernel_rfl)) hd (by kernel_rfl) (fun d hd=>(W1 (Ol H (lq hd rfl)) rfl)) (fun d c r=>rfl) (fun d c r=>by kernel_rfl)
def Ty(c r:Ad)(K:Nat)(ih0_:EV->EV->EV->EV->Aa->R)(v0 v6 v7 v8:EV)(h:Aa):R:=
 An Hw (bin TT .add 3) v8 (.int .i64 1) fun v18=>
 ih0_ v0 v6 v7 v18 h
def Tw(c r:Ad)(K:Nat)(ih0_:EV->EV->EV->EV->Aa->R)(v0 v6 v7 v8:EV)(h:Aa):R:=
 It 1 v6 v8 fun v11=>
 Al v11 h fun v12=>
 Aj (Y6 c r v0 [v8,v12] h) fun v16 h=>
 Q1 v16 fun v17=>
 De v17
 (some (.tuple [],h))
 (Ty c r K ih0_ v0 v6 v7 v8 h)
def Dn(c r:Ad)(K:Nat):Nat->EV->EV->EV->EV->Aa->R
 | 0=>fun _ _ _ _ _=>none
 | m+1=>fun v0 v6 v7 v8 h=>
  An Hl (bin TT .lss 3) v8 v7 fun v9=>
  De v9
  (Tw c r K (Dn c r K m) v0 v6 v7 v8 h)
  (some (.tuple [],h))
def Yh(c r:Ad)(K:Nat)(v0 v1:EV)(h:Aa):R:=
 Al v1 h fun v5=>
 Aj (Lj K v5 h) fun v6 h=>
 Hg v6 fun v7=>
 Dn c r K K v0 v6 v7 (.int .i64 0) h
abbrev Af8(K:Nat)(c:Ad):Ad:=(w1 191 (Lj K) c)
theorem Acq(c r:Ad)(K:Nat)(m:Nat):I0 (fun ih=>H6 TT (Af8 K c) c r K (nOf TT 190) (F2 TT 190) (Sb TT 190 [true,false]) [(0,F2 TT 190)] ih) m=fun ρ h=>Dn c r K m (ρ 0) (ρ 6) (ρ 7) (ρ 8) h:=
 C3 (E:=fun m ρ h=>Dn c r K m (ρ 0) (ρ 6) (ρ 7) (ρ 8) h) rfl (fun m=>Se fun ρ h=>by
  show _=Dn c r K (m+1) (ρ 0) (ρ 6) (ρ 7) (ρ 8) h
  rw[Dn];kernel_rfl) m
theorem Adu(H:Aw disp)(hd:2<=d)(v0 v1:EV)(h:Aa):Ae TT disp K (d+1) false 190 [v0,v1] h=Yh (Ae TT disp K d false) (Ae TT disp K d true) K v0 v1 h:=
 Um (H.bare (by kernel_rfl)) (by kernel_rfl) (W1 (Afi H (lq hd rfl)) rfl) (cut [true,false] (Acq (Ae TT disp K d false) (Ae TT disp K d true) K K) (by kernel_rfl) (by kernel_rfl) rfl) (by kernel_rfl)
def Yp(c r:Ad)(K:Nat)(v0 v1 v5:EV)(h:Aa):R:=
 A7 v0 fun v20=>
 Am 6 v20 fun v21=>
 Al v21 h fun v22=>
 It 1 v22 v5 fun v24=>
 Al v24 h fun v25=>
 Aj (E7 K v25 v1 h) fun v27 h=>
 some (v27,h)
def Afa(c r:Ad)(K:Nat)(v0 v1:EV)(h:Aa):R:=
 A7 v0 fun v7=>
 Am 0 v7 fun v8=>
 Ca 6 v8 h fun v9=>
 Aj (E9 K v9 v1 h) fun v11 h=>
 An Hl (bin TT .lss 3) v11 (.int .i64 0) fun v14=>
 De v14
 (some ((.int .i64 13),h))
 (Aj (c 49 [v0,v1] h) fun v18 h=>
 De v18
 (some ((.int .i64 16),h))
 (Yp c r K v0 v1 v11 h))
theorem Ag7(H:Aw disp)(hd:2<=d)(v0 v1:EV)(h:Aa):Ae TT disp K (d+1) false 15 [v0,v1] h=Afa (Ae TT disp K d false) (Ae TT disp K d true) K v0 v1 h:=
 Um (H.bare (by kernel_rfl)) (by kernel_rfl) (W2 (H9 H (lq hd rfl)) (W2 (Pr H (lq hd rfl)) rfl)) rfl (by kernel_rfl)
def Yi(K:Nat)(v7 v9 v10:EV)(h:Aa):R:=
 Cx TT [.v v7,.v v9,.v v10] h
def Yc(K:Nat)(v0:EV)(h:Aa):R:=
 Aj (Hc K v0 (.int .i64 (-1)) h) fun v15 h=>
 Aj (Hc K v0 v15 h) fun v18 h=>
 Aj (Om K v0 v15 h) fun v22 h=>
 Bv 0 v22 fun v23=>
 Bv 1 v22 fun v24=>
 Aj (Om K v0 v18 h) fun v28 h=>
 Bv 0 v28 fun v29=>
 Bv 1 v28 fun v30=>
 An Gv (bin TT .neq 28) v24 (.int .i64 0) fun v32=>
 De v32
 (Cx TT [.v (.int .i64 0),.v (.int .i64 0),.v v24] h)
 (Yi K v23 v29 v30 h)
def R7(K:Nat)(v0:EV)(h:Aa):R:=
 Aj (Qg K v0 h) fun v12 h=>
 An Fj (bin TT .eql 3) v12 (.int .i64 0) fun v13=>
 De v13
 (Cx TT [.v (.int .i64 0),.v (.int .i64 0),.v (.int .i64 15)] h)
 (Yc K v0 h)
theorem Ahu(H:Aw disp)(hd:4<=d)(v0:EV)(h:Aa):Ae TT disp K d false 130 [v0] h=R7 K v0 h:=
 Cj (H.bare (by kernel_rfl)) hd (by kernel_rfl) (fun d hd=>(W1 (Af2 H (lq hd rfl)) (W2 (Sh H (lq hd rfl)) (W2 (Ah4 H (lq hd rfl)) rfl)))) (fun d c r=>rfl) (fun d c r=>by kernel_rfl)
end
end Go.Ev
