import Derived.Test.YtadnemjjlacolaaGreatFun
import Derived.Test.YtadnemjjlacolaaGreatTab
set_option linter.all false
namespace Go.Ev
open Go.Proofs
set_option maxRecDepth 100000
set_option maxHeartbeats 4000000
variable {F:EV->EV->EV->EV->EV->Ab->R}{k d0:Nat}{disp:Nat->Option FT}
section
noncomputable section
section
variable (fl:Bool)(T:Kh)(call callV round:Ah)(fuel fn n:Nat)(Dx:Option Nat)(out:Nat->CD)(ret:CD)
abbrev Bqr(p:List Bool):Hk->Code->Anx->CD->Code × Anx × CD:=
 @List.rec Bool (fun _=>Hk->Code->Anx->CD->Code × Anx × CD) (fun _ c env k=>(c,env,k))
  (fun s _ v H c env k=>match c with
   | .seq x y=>Bf s (v H.r y env k) (v H.l x env (Qv fl T call callV round fuel fn n Dx out ret H.r y env k))
   | .cond _ x y=>Bf s (v H.r y env k) (v H.l x env k)
   | .block id x=>v H.l x ((id,k)::env) k
   | c=>(c,env,k)) p
end
def Bns:Nat:=have _:=@Zk;have _:=@L5;have _:=@Wy;have _:=@E0;have _:=@Auy;have _:=@Aer;have _:=@builtin;have _:=@Kl;have _:=@Uk;have _:=@E1;have _:=@Cd;have _:=@Ji;0
def Bsv(c:Code):Bool:=match c with | .loop _=>true|_=>false
@[reducible] def cH(q:Bool)(C c r:Ah)(K g:Nat)(H:Hk):CD:=let _:=Bns;Qv q TT C c r K g (nOf TT g) none no0 (Aj5 q TT g) H (Ql TT g) [] (Aj5 q TT g)
@[reducible] def lH(q:Bool)(C c r:Ah)(K g p:Nat):Code × Anx × CD:=Bqr q TT C c r K g (nOf TT g) none no0 (Aj5 q TT g) (pathOf p) .no (Ql TT g) [] (Aj5 q TT g)
@[reducible] def Bii(q:Bool)(C c r:Ah)(K g p:Nat)(X:CD):CD:=let _:=Bns;match lH q C c r K g p with
 | (.loop x,env,_)=>Abj q TT C c r K g (nOf TT g) none no0 (Aj5 q TT g) x env X
 | _=>X
@[reducible] def Bel(xs:List EV)(B:CD)(h:Ab):R:=let _:=Bns;B (Bcg xs 0 u0) (setArgs xs 0 .nil) h []
@[reducible] def lpB(q:Bool)(C c r:Ah)(K g p:Nat)(env:Anx)(m:Nat):CD:=A7j (fun v=>Abj q TT C c r K g (nOf TT g) none no0 (Aj5 q TT g) (Bv9 TT g (pathOf p)) env v) m
abbrev e0(X:Nat->A0):Nat->CD:=fun m _ _ h _=>X m h
abbrev e1(X:Nat->A1)(a:Nat):Nat->CD:=fun m v _ h _=>X m (v a) h
abbrev e2(X:Nat->A2)(a b:Nat):Nat->CD:=fun m v _ h _=>X m (v a) (v b) h
abbrev e3(X:Nat->A3)(a b c:Nat):Nat->CD:=fun m v _ h _=>X m (v a) (v b) (v c) h
abbrev e4(X:Nat->A4)(a b c d:Nat):Nat->CD:=fun m v _ h _=>X m (v a) (v b) (v c) (v d) h
abbrev e5(X:Nat->A5)(a b c d e:Nat):Nat->CD:=fun m v _ h _=>X m (v a) (v b) (v c) (v d) (v e) h
abbrev e6(X:Nat->A6)(a b c d e f:Nat):Nat->CD:=fun m v _ h _=>X m (v a) (v b) (v c) (v d) (v e) (v f) h
abbrev e7(X:Nat->A7)(a b c d e f i:Nat):Nat->CD:=fun m v _ h _=>X m (v a) (v b) (v c) (v d) (v e) (v f) (v i) h
abbrev e8(X:Nat->A8)(a b c d e f i j:Nat):Nat->CD:=fun m v _ h _=>X m (v a) (v b) (v c) (v d) (v e) (v f) (v i) (v j) h
abbrev e9(X:Nat->A9)(a b c d e f i j k:Nat):Nat->CD:=fun m v _ h _=>X m (v a) (v b) (v c) (v d) (v e) (v f) (v i) (v j) (v k) h
abbrev e10(X:Nat->A10)(a b c d e f i j k l:Nat):Nat->CD:=fun m v _ h _=>X m (v a) (v b) (v c) (v d) (v e) (v f) (v i) (v j) (v k) (v l) h
abbrev e11(X:Nat->A11)(a b c d e f i j k l n:Nat):Nat->CD:=fun m v _ h _=>X m (v a) (v b) (v c) (v d) (v e) (v f) (v i) (v j) (v k) (v l) (v n) h
end
section
variable {fl:Bool}{T:Kh}{call callV round:Ah}{fuel fn n:Nat}{Dx:Option Nat}{out:Nat->CD}{ret:CD}
theorem A3p:∀(p:List Bool) (H:Hk) (c:Code) (env:Anx) (k:CD),atH fl T call callV round fuel fn n Dx out ret p H c env k=Abj fl T call callV round fuel fn n Dx out ret (Bqr fl T call callV round fuel fn n Dx out ret p H c env k).1 (Bqr fl T call callV round fuel fn n Dx out ret p H c env k).2.1 (Bqr fl T call callV round fuel fn n Dx out ret p H c env k).2.2
 | [],_,_,_,_=>rfl
 | s::p,H,c,env,k=>by
  cases c<;>first|rfl|exact A3p p _ _ _ _|(cases s<;>exact A3p p _ _ _ _)
end
section
variable{K m d g p:Nat}{q:Bool}{C:Nat->Ah}{D c r:Ah}{E:Nat->CD}{xs:List EV}{Y:Ab->R}{B:CD}
theorem Bvh(v:Bsv (lH q D c r K g p).1=true)(h0:E 0=fun _ _ _ _=>none)(hs:∀m A tm h ds,Bii q D c r K g p (E m) A tm h ds=E (m+1) A tm h ds)(G:Asp (pathOf p) .no (Ql TT g)=true):
 cH q D c r K g .no=cH q D c r K g (A0n (pathOf p) (E K) .no):=by
 refine Abl _ (pathOf p) .no (Ql TT g) [] (Aj5 q TT g) G ?_;rw[A3p];have hs:=fun m=>Avq (hs m)
 show Abj q TT D c r K g (nOf TT g) none no0 (Aj5 q TT g) (lH q D c r K g p).1 (lH q D c r K g p).2.1 (lH q D c r K g p).2.2=E K;unfold Bii at hs;generalize lH q D c r K g p=x at v hs⊢;obtain⟨J,env,k⟩:=x;cases J<;>first|exact Lp h0 hs K|cases v
abbrev R0(disp:Nat->Option FT)(K d g:Nat)(F:Ab->R):Prop:=∀h,Ae TT disp K d false g [] h=F h
abbrev S0(disp:Nat->Option FT)(K d g:Nat)(F:Ah->Ah->Nat->Ab->R):Prop:=∀h,Ae TT disp K (d+1) false g [] h=F (Ae TT disp K d false) (Ae TT disp K d true) K h
theorem V0 {F:Ab->R}{x:Ah}(e:k<=d->R0 disp K d g F)(hd:m<=d)(y:Ae TT disp K d false=x)(v:Nat.ble k m=true:=by rfl):Ae TT disp K d false=w0 g F x:=W0 (e (lq hd v)) y
abbrev R1(disp:Nat->Option FT)(K d g:Nat)(F:EV->Ab->R):Prop:=∀a h,Ae TT disp K d false g [a] h=F a h
abbrev S1(disp:Nat->Option FT)(K d g:Nat)(F:Ah->Ah->Nat->EV->Ab->R):Prop:=∀a h,Ae TT disp K (d+1) false g [a] h=F (Ae TT disp K d false) (Ae TT disp K d true) K a h
theorem V1 {F:EV->Ab->R}{x:Ah}(e:k<=d->R1 disp K d g F)(hd:m<=d)(y:Ae TT disp K d false=x)(v:Nat.ble k m=true:=by rfl):Ae TT disp K d false=w1 g F x:=W1 (e (lq hd v)) y
abbrev R2(disp:Nat->Option FT)(K d g:Nat)(F:EV->EV->Ab->R):Prop:=∀a b h,Ae TT disp K d false g [a,b] h=F a b h
abbrev S2(disp:Nat->Option FT)(K d g:Nat)(F:Ah->Ah->Nat->EV->EV->Ab->R):Prop:=∀a b h,Ae TT disp K (d+1) false g [a,b] h=F (Ae TT disp K d false) (Ae TT disp K d true) K a b h
theorem V2 {F:EV->EV->Ab->R}{x:Ah}(e:k<=d->R2 disp K d g F)(hd:m<=d)(y:Ae TT disp K d false=x)(v:Nat.ble k m=true:=by rfl):Ae TT disp K d false=w2 g F x:=W2 (e (lq hd v)) y
abbrev R3(disp:Nat->Option FT)(K d g:Nat)(F:EV->EV->EV->Ab->R):Prop:=∀a b e h,Ae TT disp K d false g [a,b,e] h=F a b e h
abbrev S3(disp:Nat->Option FT)(K d g:Nat)(F:Ah->Ah->Nat->EV->EV->EV->Ab->R):Prop:=∀a b e h,Ae TT disp K (d+1) false g [a,b,e] h=F (Ae TT disp K d false) (Ae TT disp K d true) K a b e h
theorem V3 {F:EV->EV->EV->Ab->R}{x:Ah}(e:k<=d->R3 disp K d g F)(hd:m<=d)(y:Ae TT disp K d false=x)(v:Nat.ble k m=true:=by rfl):Ae TT disp K d false=w3 g F x:=W3 (e (lq hd v)) y
abbrev R4(disp:Nat->Option FT)(K d g:Nat)(F:EV->EV->EV->EV->Ab->R):Prop:=∀a b e f h,Ae TT disp K d false g [a,b,e,f] h=F a b e f h
abbrev S4(disp:Nat->Option FT)(K d g:Nat)(F:Ah->Ah->Nat->EV->EV->EV->EV->Ab->R):Prop:=∀a b e f h,Ae TT disp K (d+1) false g [a,b,e,f] h=F (Ae TT disp K d false) (Ae TT disp K d true) K a b e f h
theorem V4 {F:EV->EV->EV->EV->Ab->R}{x:Ah}(e:k<=d->R4 disp K d g F)(hd:m<=d)(y:Ae TT disp K d false=x)(v:Nat.ble k m=true:=by rfl):Ae TT disp K d false=w4 g F x:=W4 (e (lq hd v)) y
abbrev R5(disp:Nat->Option FT)(K d g:Nat)(F:EV->EV->EV->EV->EV->Ab->R):Prop:=∀a b e f i h,Ae TT disp K d false g [a,b,e,f,i] h=F a b e f i h
abbrev S5(disp:Nat->Option FT)(K d g:Nat)(F:Ah->Ah->Nat->EV->EV->EV->EV->EV->Ab->R):Prop:=∀a b e f i h,Ae TT disp K (d+1) false g [a,b,e,f,i] h=F (Ae TT disp K d false) (Ae TT disp K d true) K a b e f i h
theorem V5{x:Ah}(e:k<=d->R5 disp K d g F)(hd:m<=d)(y:Ae TT disp K d false=x)(v:Nat.ble k m=true:=by rfl):Ae TT disp K d false=w5 g F x:=W5 (e (lq hd v)) y
abbrev S6(disp:Nat->Option FT)(K d g:Nat)(F:Ah->Ah->Nat->EV->EV->EV->EV->EV->EV->Ab->R):Prop:=∀a b e f i j h,Ae TT disp K (d+1) false g [a,b,e,f,i,j] h=F (Ae TT disp K d false) (Ae TT disp K d true) K a b e f i j h
theorem rf(v:Aye (Ql TT g)=q)(L:Ae TT disp K d false=c)(M:Ae TT disp K d true=r)(e:c=D)(A:cH q D c r K g .no=B)(G:Bbp TT g (Gk xs)=true:=by kernel_rfl)(J:∀h,Bel xs B h=Y h:=by intros;kernel_rfl)(h:Ab):A56 TT c r K g xs h=Y h:=by
 rw[Bkp G,v];exact(congrArg (fun C=>Bel xs (cH q C c r K g .no) h) e).trans ((congrArg (fun B=>Bel xs B h) A).trans (J h))
theorem rm(v:Aye (Ql TT g)=q)(A:Ae TT disp K d false=c)(G:Ae TT disp K d true=r)(H:Bj disp)(e:c=D)(J:Qv q TT D c r K g (nOf TT g) none no0 (Aj5 q TT g) .no (Ql TT g) [] (Aj5 q TT g)=B)(L:A0u g=true:=by kernel_rfl)(M:Bbp TT g (Gk xs)=true:=by kernel_rfl)(O:∀h,Bel xs B h=Y h:=by intros;kernel_rfl)(h:Ab):Ae TT disp K (d+1) false g xs h=Y h:=by
 subst A G;have e0:Ae TT disp K (d+1) false g xs h = @Option.rec FT (fun _=>FnT) (A56 TT (Ae TT disp K d false) (Ae TT disp K d true) K g) (fun F=>F (Ae TT disp K d false) (Ae TT disp K d true) K) (disp g) xs h:=rfl;rw[e0,H.plain g L];exact rf v rfl rfl e J M O h
theorem rd(v:Ae TT disp K d false=c)(A:Ae TT disp K d true=r)(H:Bj disp)(e:c=D)(G:A0u g=true:=by kernel_rfl)(J:Bbp TT g (Gk xs)=true:=by kernel_rfl)(L:∀h,Bel xs (cH (Aye (Ql TT g)) D c r K g .no) h=Y h:=by intros;kernel_rfl)(h:Ab):Ae TT disp K (d+1) false g xs h=Y h:=rm rfl v A H e rfl G J L h
theorem ld(A:Ae TT disp K d false=c)(G:Ae TT disp K d true=r)(H:Bj disp)(e:c=D)(p:Nat)(E:Ah->Ah->Nat->CD)(h0:E c r 0=fun _ _ _ _=>none:=by rfl)(J:A0u g=true:=by kernel_rfl)(L:Bbp TT g (Gk xs)=true:=by kernel_rfl)(M:Asp (pathOf p) .no (Ql TT g)=true:=by kernel_rfl)
 (O:Bsv (lH (Aye (Ql TT g)) D c r K g p).1=true:=by kernel_rfl) (hs:∀m v tm h ds,Bii (Aye (Ql TT g)) D c r K g p (E c r m) v tm h ds=E c r (m+1) v tm h ds:=by intros;kernel_rfl)
 (P:∀h,Bel xs (cH (Aye (Ql TT g)) D c r K g (A0n (pathOf p) (E c r K) .no)) h=Y h:=by intros;kernel_rfl) (h:Ab):Ae TT disp K (d+1) false g xs h=Y h:=rm rfl A G H e (Bvh O h0 hs M) J L P h
theorem rl(H:Bj disp)(hd:m+1<=d)(e:∀d,m<=d->Ae TT disp K d false=C d:=by exact fun _ _=>rfl)(v:A0u g=true:=by kernel_rfl)(A:Bbp TT g (Gk xs)=true:=by kernel_rfl)(G:Aye (Ql TT g)=false:=by kernel_rfl)(J:∀d c r h,Bel xs (cH false (C d) c r K g .no) h=Y h:=by intros;kernel_rfl)(h:Ab):Ae TT disp K d false g xs h=Y h:=by
 obtain⟨d,rfl⟩:∃e,d=e+1:=⟨d-1,by omega⟩;exact rm G rfl rfl H (e d (fH hd)) rfl v A (J d _ _) h
theorem ll(H:Bj disp)(hd:m+1<=d)(e:∀d,m<=d->Ae TT disp K d false=C d)(p:Nat)(E:Nat->CD)(h0:E 0=fun _ _ _ _=>none:=by rfl)(A:A0u g=true:=by kernel_rfl)(G:Bbp TT g (Gk xs)=true:=by kernel_rfl)(J:Aye (Ql TT g)=false:=by kernel_rfl)(L:Asp (pathOf p) .no (Ql TT g)=true:=by kernel_rfl)
 (M:∀d c r,Bsv (lH false (C d) c r K g p).1=true:=by intros;kernel_rfl) (hs:∀d c r m v tm h ds,Bii false (C d) c r K g p (E m) v tm h ds=E (m+1) v tm h ds:=by intros;kernel_rfl)
 (O:∀d c r h,Bel xs (cH false (C d) c r K g (A0n (pathOf p) (E K) .no)) h=Y h:=by intros;kernel_rfl) (h:Ab):Ae TT disp K d false g xs h=Y h:=by
 obtain⟨d,rfl⟩:∃e,d=e+1:=⟨d-1,by omega⟩;exact rm J rfl rfl H (e d (fH hd)) (Bvh (M d _ _) h0 (hs d _ _) L) A G (O d _ _) h
theorem rr {l n:Nat}{st:LoopState}{j:Option Code}{tm v:Ax}{ps:List Tmp}{a b:Code}{h:Ab}{X:R}(A:Ae TT disp K d false=c)(G:Ae TT disp K d true=r)(e:c=D)(J:h.get l=some (.loop st j g n tm ps a b d0))(hs:Yx ps xs n tm=some v)
 (L:Bgt TT D c r K l g n a b (Bfc n ps xs (tmp tm)) v h []=X):Ae TT disp K (d+1) true l xs h=X:=by
 subst A G;rw[Bdw];unfold A0q;rw[J];simp only;rw[hs];simp only;exact(congrArg (fun C=>Bgt TT C (Ae TT disp K d false) (Ae TT disp K d true) K l g n a b (Bfc n ps xs (tmp tm)) v h []) e).trans L
end
end
section
noncomputable section
section
variable (c r:Ah)(K l:Nat)(k0:A0)(k1:A1)(k2:A2)(k3:A3)(k4:A4)(k5:A5)(k6:A6)(k7:A7)(k8:A8)(k9:A9)(k10:A10)(k11:A11)(k12:A12)(m0:B0)(m1:B1)(m2:B2)(m3:B3)(m4:B4)(m5:B5)(m6:B6)(m7:B7)(m8:B8)(m9:B9)(m10:B10)(m11:B11)(m12:B12)(base:Nat)(s:DX)(tm:Ax)(a b d e f g i j n o p q t u w x y z aa ab ad ae af ag ai aj an ao ap aq au aw ax ay az ba bb bd be bf bg bi bj bn bo bp bq bt bu bw bx bz da db dd de df dg di dj dn dp dq dt du dw dx dy dz ea eb ed ee ef eg ei ej en eo ep eq et eu ew ex ey ez fa fb fd fe ff fg fi fj fn fo fp fq ft fu fw fx fy fz ga gb gd ge gf gg gi gj gn go gp gq gt gu gw gx gy gz ia ib ie ig ii ij io ip iq it iu iw ix iy iz ja jb:EV)(h:Ab)(ds:List Nat)
def Fh:Ru K R:=(.mk:Sg 0x122203 [a] h).F
def C0:Ru K R:=(.mk:Sg 0x122223 [a] h).F
def Jm:Ru K R:=(.mk:Sg 0x122c021de231fe344204209e9 [a] h).F
def Ce:Ru K R:=(.mk:Sg 0x1222f9e3 [a] h).F
def Da:Ru K R:=(.mk:Sg 0x122231fe314204209e9 [a] h).F
def Ahx:Ru K R:=(.mk:Sg 0x122233003e314 [a,b] h).F
def Zx:R:=
 pkO d e fun f=>
 ifE f
 (some ((.int .i64 (-1)),h))
 (Ahx K a b h)
def Fe:R:=(.mk:Sg 0x12023541025684102723e210136503e2d00420e209e9 [a,b] h [Ey (Da K),Zc (Zx K)]).F
def F6:Ru K R:=(.mk:Sg 0x1222101203 [a] h [Ey Bba]).F
def Ake:R:=(.mk:Sg 0x122210142116e263 [a,b] h [Ey (F6 K)]).F
def Aap:R:=(.mk:Sg 0x1432000023285409e [a,b,d,e] h [D5 (Ake K)]).F
def Aai:R:=(.mk:Sg 0x12024340025764002623e213e36301e2d00320e [a,b] h [Zc (Aap K)]).F
def Agq:Ru K R:=
 some (a,h)
def Ph:Ru K R:=
 Iz g fun i=>
 k6 a b d e f i h
def Iv(K:Nat)(k6:A6)(base:Nat)(s:DX)(a:EV)(b:EV)(d:EV)(e:EV)(f:EV)(g:EV)(i:EV)(j:EV)(n:EV)(h:Ab):R:=
 pkA j n fun o=>
 ifE o
 (Ph K k6 a b e f g i h)
 (Ph K k6 a b d f g i h)
def I7:R:=
 wtE j
 (pkO n o fun p=>
 Iv K k6 base s a b d e f g i j p h)
 (Iv K k6 base s a b d e f g i j tU h)
def Qd:R:=
 wfE o
 (L5 8 255 s h (fun h=>(F6 K f h)) fun p h s=>
 Ax8 6 12 3711 base a s h fun s q=>
 Z8 1 q d fun t=>
 P8 15 32383 base t s fun s=>Fm t h fun u=>
 L5 16 65535 s h (fun h=>(F6 K u h)) fun w h s=>
 Azw p w fun x=>
 I7 K k6 base s a b d e g i j n o x h)
 (I7 K k6 base s a b d e g i j n o tU h)
def Agu:R:=
 Bbx 1 e g h fun i=>
 Adz h fun base s=>
 A3x g b fun j=>
 wtE j
 (Axi d (.int .i64 0) fun n=>
 Qd K k6 base s a b d g i e f g j n h)
 (Qd K k6 base s a b d g i e f g j tU h)
def Iy(K:Nat):Nat->A6
 | 0=>fun _ _ _ _ _ _ _=>none
 | m+1=>fun a b d e f g h=>
  cE Iq .lss 3 g f
  (Agu K (Iy K m) a b d e f g h)
  (Agq K d h)
def Mh:R:=
 fE 6 a h fun d=>
 F3 d fun e=>
 Iy K K a b (.int .i64 (-1)) d e (.int .i64 0) h
def Y8:Ru K R:=
 some (a,h)
def Y3:Ru K R:=
 A8q d (.int .i64 2) fun e=>
 k3 a b e h
def Y7:R:=
 Iz b fun e=>
 Y3 K k3 a e d h
def Hl(K:Nat):Nat->A3
 | 0=>fun _ _ _ _=>none
 | m+1=>fun a b d h=>
  oE 3 a h fun e=>
  cE Iq .lss 3 d e
  (Y7 K (Hl K m) a b d h)
  (Y8 K b h)
def Nr:R:=(.mk:Sg 0x10010230024ae9 [a] h [Lz (Hl K K)]).F
def Fo:Ru K R:=(.mk:Sg 0x122203 [a] h).F
def Po:Ru K R:=(.mk:Sg 0x122213e203 [a] h).F
def Se:Ru K R:=(.mk:Sg 0x122213 [a] h).F
def Acx:Ru K R:=(.mk:Sg 0x1223023003e [a] h).F
def Q6:R:=(.mk:Sg 0x121002221ce3023003e2101ee00e0023301e [a] h [Ey (Acx K)]).F
def Ajx:Ru K R:=
 pkA a b fun d=>
 some (d,h)
def Afq:R:=(.mk:Sg 0x1202200232004321e82a10223e [a,b] h [D5 (Ajx K)]).F
def Z9:Ru K R:=(.mk:Sg 0x1002200e2bce921007e [a] h [] [cu1 (fun a=>Bv (Ed [(0,1),(1,1),(2,1),(3,1),(4,1)]) [.Ao,.int .i64 0,.int .i64 0,.int .i64 0,.bool false] [(1,a)])]).F
def Z0:R:=(.mk:Sg 0x1310003e070200e6284309e [a,b,d] h [Ey (Z9 K)]).F
def Ov:R:=(.mk:Sg 0x1202330023430015e0322ea2d10220e [a] h [Lz (Z0 K)]).F
def Azz:Ru K R:=(.mk:Sg 0x1002200e2a2e921007e2101 [a] h [Ey Au7] [cu1 (fun b=>Bv (Ed [(0,1)]) [.Ai4] [(0,b)])]).F
def Ayo:R:=(.mk:Sg 0x1310003e070200e6284309e [a,b,d] h [Ey (Azz K)]).F
def Au2:R:=(.mk:Sg 0x1202330023430001322ea2d10220e [a] h [Lz (Ayo K)] [] [] [(.int .i64 4096)]).F
def Ub:Ru K R:=(.mk:Sg 0x1222101de3023003e1021ee3021de234209e9 [a] h).F
def Tu:R:=(.mk:Sg 0x122251ee231fe08e4407e041021ee0123603e2721120ae231ee9301fea21fed0420ae521ee621fe1021ee80421032e77665606b3021ee231ee343410e211110e0ee209e9 [a] h [Ey (Jm K),builtin TT .min #[3,3]] [] [] [(.int .u64 1)]).F
def At1:Ru K R:=
 pkA a b fun d=>
 some (d,h)
def Nz:R:=(.mk:Sg 0x1202200232005321e82a3223e [a,b,d] h [D5 (At1 K)]).F
def Vv:Ru K R:=(.mk:Sg 0x122233 [a] h).F
def Akm:R:=(.mk:Sg 0x12225221261ee2421131013033003e [a,b] h [Ey (fun a=>Mh K a (.int .i64 (-1))),D5 (Aai K),builtin TT .min #[3,3]]).F
def Aj1:Ru K R:=
 Iz f fun g=>
 k5 a b d e g h
def Ajl:R:=(.mk:Sg 0x198725510251de210164116e [a,b,d,e,f] h [Ey (F6 K),cl5 (Aj1 K k5)]).F
def Oh(K:Nat):Nat->A5
 | 0=>fun _ _ _ _ _ _=>none
 | m+1=>fun a b d e f h=>
  cE Iq .lss 3 f e
  (Ajl K (Oh K m) a b d e f h)
  (Akm K a b h)
def Hd:R:=(.mk:Sg 0x10023004500213e263 [a] h [cl5 (Oh K K)]).F
def X6:Ru K R:=
 pkA a b fun d=>
 some (d,h)
def Fp:R:=(.mk:Sg 0x12022102521010224e82116e6fae302e2a00223e5220126521c [a,b] h [D5 (Fe K),D5 (X6 K)]).F
def Mm:R:=(.mk:Sg 0x122251ee231fe512e6410e484010e1021ee3101170ee [a,b] h [Ey (Q6 K)]).F
def Kn:R:=(.mk:Sg 0x1706e200206e2005723301e20ae231ee9301fec21fe01e0420ae521ee821fe1021eea04c021de231fe7446043021ee231ee34421424ae9 [a] h [D5 (Mm K)]).F
def A1n:Ru K R:=(.mk:Sg 0x1002200e [a] h).F
def A2c:Ru K R:=
 Iz e fun f=>
 k4 a b d f h
def A1x:R:=(.mk:Sg 0x1a976420321660c232115101303 [a,b,d,e,f] h [Ey (fun d=>Cd [.E3] 184 1 1 [(0,d)]),D5 (E0 184 1),Zc (A2c K k4)]).F
def A1d:R:=(.mk:Sg 0x187365510270200e5212e20ce2101 [a,b,d,e] h [Ey (Ov K),cl5 (A1x K k4)]).F
def Afa(K:Nat):Nat->A4
 | 0=>fun _ _ _ _ _=>none
 | m+1=>fun a b d e h=>
  cE Iq .lss 3 e d
  (A1d K (Afa K m) a b d e h)
  (A1n K b h)
def A15:R:=
 Bv (Ed [(0,1),(1,1),(2,1),(3,1),(4,1)]) [.Ao,(.int .i64 0),(.int .i64 0),(.int .i64 0),(.bool false)] [(1,b),(2,d)] fun e=>
 Wy 183 e h fun f h=>
 Afa K K b f a (.int .i64 0) h
def A2i:R:=(.mk:Sg 0x154330003e070200e6286509e [a,b,d,e,f] h [Lz (A15 K)]).F
def Ayk:R:=(.mk:Sg 0x12026545202487652020fe15e0621102e2d20fe2101 [a,b,d] h [Ey (fun a=>Afq K a (.int .i64 512)),D5 (Afq K),cl5 (A2i K)]).F
def Il:Ru K R:=
 pkA a b fun d=>
 some (d,h)
def Ik:R:=(.mk:Sg 0x12022102421015e0c0230135402e2a430be [a,b,d] h [Lz (Nz K),D5 (Il K)]).F
def Is:R:=(.mk:Sg 0x12023310245310c000230134403e2a430be [a,b,d] h [Lz (Nz K),Lz (Ik K)]).F
def Ip:R:=(.mk:Sg 0x120233102453102101334d2a430be [a,b,d] h [Ey (fun f=>Nz K f (.int .i64 1) (.int .i64 256)),Lz (Is K)]).F
def Im:R:=(.mk:Sg 0x1202331024531015e0c0230132403e2a430be [a,b,d] h [Lz (Nz K),Lz (Ip K)]).F
def Aag:R:=(.mk:Sg 0x1202431024631015e010230141403e2ad0602301204209e9 [a] h [Lz (Nz K),Lz (Im K)]).F
def Kq(K:Nat)(base:Nat)(s:DX)(a:EV)(b:EV)(h:Ab):R:=
 pkA a b fun d=>
 some (d,h)
def Zd:R:=
 Adz h fun base s=>
 P8 0 0 base a s fun s=>Oz 6 a h fun b=>
 L5 1 1 s h (fun h=>(Nr K b h)) fun d h s=>
 olE 2 3 4 base a s h fun s e=>
 A28 d e fun f=>
 wtE f
 (olE 3 7 127 base a s h fun s g=>
 A93 (.int .i64 2) g fun i=>
 olE 2 10 575 base a s h fun s j=>
 P8 11 63 base a s fun s=>Oz 6 a h fun n=>
 L5 12 2111 s h (fun h=>(Kn K n h)) fun o h s=>
 A93 j o fun p=>
 A28 i p fun q=>
 Kq K base s f q h)
 (Kq K base s f tU h)
def Bw:R:=
 pkO b d fun e=>
 ifE e
 (some ((.bool false),h))
 (Zd K a h)
def Bz:R:=
 pkO b d fun e=>
 wfE e
 (oE 5 a h fun f=>
 Azw f (.int .i64 64) fun g=>
 Bw K a e g h)
 (Bw K a e tU h)
def Cf:R:=
 pkO b d fun e=>
 wfE e
 (oE 5 a h fun f=>
 Axi f (.int .i64 4) fun g=>
 Bz K a e g h)
 (Bz K a e tU h)
def Cn:R:=
 pkO b d fun e=>
 wfE e
 (oE 4 a h fun f=>
 Azw f (.int .i64 4) fun g=>
 Cf K a e g h)
 (Cf K a e tU h)
def Cx:R:=
 pkO b d fun e=>
 wfE e
 (oE 4 a h fun f=>
 Axi f (.int .i64 0) fun g=>
 Cn K a e g h)
 (Cn K a e tU h)
def Dc:R:=
 pkO b d fun e=>
 wfE e
 (oE 3 a h fun f=>
 Azw f (.int .i64 256) fun g=>
 Cx K a e g h)
 (Cx K a e tU h)
def Dw:R:=
 pkO b d fun e=>
 wfE e
 (oE 3 a h fun f=>
 Axi f (.int .i64 1) fun g=>
 Dc K a e g h)
 (Dc K a e tU h)
def Ek:R:=
 pkO b d fun e=>
 wfE e
 (oE 2 a h fun f=>
 Azw f (.int .i64 64) fun g=>
 Dw K a e g h)
 (Dw K a e tU h)
def E8:R:=
 pkO b d fun e=>
 wfE e
 (oE 2 a h fun f=>
 Axi f (.int .i64 4) fun g=>
 Ek K a e g h)
 (Ek K a e tU h)
def Ha:R:=
 pkO b d fun e=>
 wfE e
 (oE 1 a h fun f=>
 Azw f (.int .i64 64) fun g=>
 E8 K a e g h)
 (E8 K a e tU h)
def J0:R:=
 pkO b d fun e=>
 wfE e
 (oE 1 a h fun f=>
 Axi f (.int .i64 1) fun g=>
 Ha K a e g h)
 (Ha K a e tU h)
def Jt:R:=
 Wy 88 a h fun b h=>
 oE 0 b h fun d=>
 Axi d (.int .i64 3) fun e=>
 wfE e
 (oE 0 b h fun f=>
 Azw f (.int .i64 8) fun g=>
 J0 K b e g h)
 (J0 K b e tU h)
def A2t:Ru K R:=(.mk:Sg 0x1002200e281e9232007e001 [a] h [cl0 Ayh] [cu2 (fun a b=>Bv (Ed [(0,1),(1,1),(2,1),(3,1)]) [.E3,.Ao,.Ao,.Apt] [(0,a),(3,b)])]).F
def Asq:R:=(.mk:Sg 0x13110270200e5212e20ce432301 [a,b,d] h [Lz (Ayk K),Ey (A2t K)]).F
def Og(K:Nat)(base:Nat)(s:DX)(a:EV)(b:EV)(h:Ab):R:=
 pkA a b fun d=>
 some (d,h)
def Tb:R:=
 pkA b d fun e=>
 wtE e
 (olE 3 11 2047 base a s h fun s f=>
 A93 (.int .i64 2) f fun g=>
 olE 2 14 9215 base a s h fun s i=>
 P8 15 1023 base a s fun s=>Oz 6 a h fun j=>
 L5 16 33791 s h (fun h=>(Tu K j h)) fun n h s=>
 A93 i n fun o=>
 A28 g o fun p=>
 Og K base s e p h)
 (Og K base s e tU h)
def O8:R:=
 Wy 23 a h fun b h=>
 Adz h fun base s=>
 P8 0 0 base b s fun s=>Oz 6 b h fun d=>
 L5 1 1 s h (fun h=>(Aag K d h)) fun e h s=>
 wtE e
 (P8 3 7 base b s fun s=>Oz 6 b h fun f=>
 L5 4 15 s h (fun h=>(Ub K f h)) fun g h s=>
 olE 2 6 39 base b s h fun s i=>
 A28 g i fun j=>
 Tb K base s b e j h)
 (Tb K base s b e tU h)
def A2p:Ru K R:=(.mk:Sg 0x1002200e [a] h).F
def A1l:Ru K R:=
 Iz e fun f=>
 k4 a b d f h
def A2m:R:=(.mk:Sg 0x1a976420321666c232115101363 [a,b,d,e,f] h [Ey (fun d=>Cd [.E3] 124 1 1 [(0,d)]),D5 (E0 124 1),Zc (A1l K k4)]).F
def A1i:R:=(.mk:Sg 0x198376510270200e5212e20ce2101214 [a,b,d,e] h [Ey (Au2 K),cl5 (A2m K k4)]).F
def Agg(K:Nat):Nat->A4
 | 0=>fun _ _ _ _ _=>none
 | m+1=>fun a b d e h=>
  cE Iq .lss 3 e d
  (A1i K (Agg K m) a b d e h)
  (A2p K b h)
def A2o:R:=(.mk:Sg 0x10023640050426de921007e265 [a] h [Zc (Agg K K)] [cu1 (fun b=>Bv (Ed [(0,6),(6,1)]) [.int .i64 0,.int .i64 0,.int .i64 0,.int .i64 0,.int .i64 0,.int .i64 0,.Ao] [(0,b)])]).F
def Ao3:R:=(.mk:Sg 0x1511009e070200e62820fe2101265209e9 [a] h [Ey (O8 K),Ey (A2o K)]).F
def Awi:R:=(.mk:Sg 0x1002200e261e9818e2a5675007e22211618e21002e57565504b5f2e5502b365301b0ee [a,b,d,e] h [Ey (Da K),D5 (Mp [.int .i64 0] 3)] [cu5 (fun a f g e n=>Bv (Ed [(0,1),(1,6),(7,256),(263,1),(264,1),(265,1),(266,1),(267,1)]) ([.E3]++List.replicate 6 (.int .i64 0)++List.replicate 256 (.int .u32 0)++[.E3]++[.Ao]++List.replicate 3 (.int .i64 0)) [(0,a),(1,f),(2,g),(3,e),(4,n),(5,.int .i64 (-1)),(6,.int .i64 (-1))])]).F
def U3(K:Nat)(base:Nat)(s:DX)(a:EV)(b:EV)(d:EV)(e:EV)(f:EV)(g:EV)(h:Ab):R:=
 pkO f g fun i=>
 ifE i
 (some (.tuple [.E3,(.int .i64 20)],h))
 (Awi K a b d e h)
def Ae2:R:=
 pkO f g fun i=>
 wfE i
 (L5 12 4095 s h (fun h=>(Fo K a h)) fun j h s=>
 L5 13 8191 s h (fun h=>(Se K j h)) fun n h s=>
 olE 2 15 18431 base b s h fun s o=>
 A3x n o fun p=>
 U3 K base s a b d e i p h)
 (U3 K base s a b d e i tU h)
def Aks:R:=
 Wy 23 b h fun e h=>
 Wy 96 d h fun f h=>
 Oz 6 e h fun g=>
 An (Ao3 K g h) fun i h=>
 x2E i fun j n=>
 Adz h fun base s=>
 Kl Alb (bin TT .neq 35) n (.int .i64 0) fun o=>
 wfE o
 (L5 4 15 s h (fun h=>(Fo K a h)) fun p h s=>
 L5 5 31 s h (fun h=>(Po K p h)) fun q h s=>
 P8 6 7 base e s fun s=>Oz 6 e h fun t=>
 L5 7 127 s h (fun h=>(Da K t h)) fun u h s=>
 A3x q u fun w=>
 Ae2 K base s a e f j o w h)
 (Ae2 K base s a e f j o tU h)
end
variable{K d:Nat}(H:Bj disp)
include H
theorem Ln(hd:1<=d):R1 disp K d 14 (Fh K):=fun _=>rl H hd
theorem Py(hd:1<=d):R1 disp K d 16 (C0 K):=fun _=>rl H hd
theorem Ve(hd:1<=d):R1 disp K d 21 (Jm K):=fun _=>rl H hd
theorem Fx(hd:1<=d):R1 disp K d 22 (Ce K):=fun _=>rl H hd
theorem Es(hd:1<=d):R1 disp K d 24 (Da K):=fun _=>rl H hd
theorem Gy(hd:2<=d):R2 disp K d 69 (Fe K):=fun _ _=>rl H hd fun d hd=>V1 (Es H) hd<|rfl
theorem Mw(hd:1<=d):R1 disp K d 70 (F6 K):=fun _=>rl H hd
theorem Avk(hd:2<=d):R2 disp K d 71 (Aai K):=fun _ _=>rl H hd fun d hd=>V1 (Mw H) hd<|rfl
theorem Ad6(hd:2<=d):R2 disp K d 72 (Mh K):=fun _ _=>ll H hd (fun d hd=>V1 (Mw H) hd<|rfl) 51 (e6 (Iy K) 0 1 5 11 12 13)
theorem Akk(hd:1<=d):R1 disp K d 86 (Nr K):=fun _=>ll H hd (fun _ _=>rfl) 51 (e3 (Hl K) 1 3 4)
theorem Vj(hd:1<=d):R1 disp K d 90 (Fo K):=fun _=>rl H hd
theorem Aea(hd:1<=d):R1 disp K d 91 (Po K):=fun _=>rl H hd
theorem Ae9(hd:1<=d):R1 disp K d 92 (Se K):=fun _=>rl H hd
theorem Apm(hd:1<=d):R1 disp K d 121 (Q6 K):=fun _=>rl H hd
theorem A2y(hd:1<=d):R2 disp K d 122 (Afq K):=fun _ _=>rl H hd
theorem Ald(hd:1<=d):R1 disp K d 123 (Ov K):=fun _=>rl H hd
theorem A6x(hd:1<=d):R1 disp K d 124 (Au2 K):=fun _=>rl H hd
theorem Aht(hd:1<=d):R1 disp K d 126 (Ub K):=fun _=>rl H hd
theorem Aqw(hd:2<=d):R1 disp K d 127 (Tu K):=fun _=>rl H hd fun d hd=>V1 (Ve H) hd<|rfl
theorem Aq3(hd:1<=d):R3 disp K d 151 (Nz K):=fun _ _ _=>rl H hd
theorem Asi(hd:1<=d):R1 disp K d 153 (Vv K):=fun _=>rl H hd
theorem Zu(hd:3<=d):R1 disp K d 23 (Hd K):=fun _=>ll H hd (fun d hd=>V2 (Ad6 H) hd<|V2 (Avk H) hd<|V1 (Mw H) hd<|rfl) 51 (e5 (Oh K) 0 3 9 10 11)
theorem H3(hd:3<=d):R2 disp K d 67 (Fp K):=fun _ _=>rl H hd fun d hd=>V2 (Gy H) hd<|rfl
theorem Agt(hd:2<=d):R1 disp K d 87 (Kn K):=fun _=>rl H hd fun d hd=>V1 (Apm H) hd<|rfl
theorem Ba0(hd:2<=d):R3 disp K d 88 (Ayk K):=fun _ _ _=>ll H hd (fun d hd=>V2 (A2y H) hd<|V1 (Ald H) hd<|rfl) 103 (e4 (Afa K) 1 8 23 24)
theorem Avs(hd:2<=d):R1 disp K d 125 (Aag K):=fun _=>rl H hd fun d hd=>V3 (Aq3 H) hd<|rfl
theorem Ako(hd:3<=d):R1 disp K d 48 (Jt K):=fun _=>rl H hd fun d hd=>V1 (Akk H) hd<|V1 (Agt H) hd<|rfl
theorem A8g(hd:3<=d):R3 disp K d 49 (Asq K):=fun _ _ _=>rl H hd fun d hd=>V3 (Ba0 H) hd<|rfl
theorem Zg(hd:3<=d):R1 disp K d 93 (O8 K):=fun _=>rl H hd fun d hd=>V1 (Avs H) hd<|V1 (Aht H) hd<|V1 (Aqw H) hd<|rfl
theorem A8i(hd:4<=d):R1 disp K d 89 (Ao3 K):=fun _=>ll H hd (fun d hd=>V1 (Zg H) hd<|V1 (A6x H) hd<|rfl) 103 (e4 (Agg K) 1 4 14 15)
theorem A47(hd:5<=d):R3 disp K d 50 (Aks K):=fun _ _ _=>rl H hd fun d hd=>V1 (A8i H) hd<|V1 (Vj H) hd<|V1 (Aea H) hd<|V1 (Es H) hd<|V1 (Ae9 H) hd<|rfl
end
end
noncomputable section
section
variable (c r:Ah)(K l:Nat)(k0:A0)(k1:A1)(k2:A2)(k3:A3)(k4:A4)(k5:A5)(k6:A6)(k7:A7)(k8:A8)(k9:A9)(k10:A10)(k11:A11)(k12:A12)(m0:B0)(m1:B1)(m2:B2)(m3:B3)(m4:B4)(m5:B5)(m6:B6)(m7:B7)(m8:B8)(m9:B9)(m10:B10)(m11:B11)(m12:B12)(base:Nat)(s:DX)(tm:Ax)(a b d e f g i j n o p q t u w x y z aa ab ad ae af ag ai aj an ao ap aq au aw ax ay az ba bb bd be bf bg bi bj bn bo bp bq bt bu bw bx bz da db dd de df dg di dj dn dp dq dt du dw dx dy dz ea eb ed ee ef eg ei ej en eo ep eq et eu ew ex ey ez fa fb fd fe ff fg fi fj fn fo fp fq ft fu fw fx fy fz ga gb gd ge gf gg gi gj gn go gp gq gt gu gw gx gy gz ia ib ie ig ii ij io ip iq it iu iw ix iy iz ja jb:EV)(h:Ab)(ds:List Nat)
def K9:Ru K R:=(.mk:Sg 0x1203040304e4fde33fce32fbe3 [a] h).F
def Aow:Ru K R:=(.mk:Sg 0x12242116e273 [a,b] h).F
def Aem:R:=(.mk:Sg 0x1432000023285409e [a,b,d,e] h [D5 (Aow K)]).F
def H5:R:=(.mk:Sg 0x12024340025764002623e213e37301e2d00320e [a,b] h [Zc (Aem K)]).F
def Ajf:Ru K (Ru r R):=(.mk:Sg 0x1222101 [a] h [c 61]).F
def Aj2:Ru K (Ru r (Ru c R)):=
 Iz e fun f=>
 k4 a b d f h
def Akr:R:=(.mk:Sg 0x17654410222212e2320153116e [a,b,d,e] h [c 74,Zc (Aj2 c r K k4)]).F
def N8(c:Ah)(r:Ah)(K:Nat):Nat->A4
 | 0=>fun _ _ _ _ _=>none
 | m+1=>fun a b d e h=>
  cE Iq .lss 3 e d
  (Akr c r K (N8 c r K m) a b d e h)
  (Ajf c r K a h)
def Akw:R:=(.mk:Sg 0x100234410213e32201 [a,b] h [c 73,Zc (N8 c r K K)]).F
def Ag9:R:=(.mk:Sg 0x15421003e0232820fe32201 [a,b] h [c 19,D5 (Akw c r K)]).F
def Aq8:Ru K R:=(.mk:Sg 0x100021e71204e276626542615e263 [a,b,d] h).F
def Aha:R:=(.mk:Sg 0x154330003e0021e61204e26660007e01e286509e [a,b,d,e,f] h [Lz (Aq8 K)] [cu0 (Bv (Ed [(0,1),(1,1),(2,1),(3,1),(4,1),(5,1)]) [.int .i64 0,.int .i64 0,.int .i64 0,.int .i64 0,.int .i64 0,.int .i64 0] [])]).F
def Gp:R:=(.mk:Sg 0x1202354500256875002723e213e46302e2d00420e021e05e [a,b] h [cl5 (Aha K)] [] [[.int .i64 0,.int .i64 0,.int .i64 0,.int .i64 0,.int .i64 0,.int .i64 0]]).F
def Al7:Ru K (Ru r R):=(.mk:Sg 0x1250200e32201 [a,b] h [c 27]).F
def Alu:R:=(.mk:Sg 0x1232100040200e60123701e2101 [a] h [c 33,D5 (Al7 c r K)] [] [] [(.int .i64 (-1))]).F
def Aue:R:=(.mk:Sg 0x13120250200e31119282101 [a] h [c 81,c 61,Ey (Alu c r K)]).F
def Awm:Ru K R:=(.mk:Sg 0x123e31104e2312e6312e5 [a,b] h).F
def Av8:Ru K R:=
 Iz e fun f=>
 k4 a b d f h
def Awq:R:=
 A0z 32 1 d e fun f=>
 stE 1 f a h fun h=>
 Av8 K k4 a b d e h
def Z1(K:Nat):Nat->A4
 | 0=>fun _ _ _ _ _=>none
 | m+1=>fun a b d e h=>
  cE Iq .lss 3 e (.int .i64 32)
  (Awq K (Z1 K m) a b d e h)
  (Awm K b d h)
def Ap3:R:=(.mk:Sg 0x100234400023e05e023e05e [a] h [Zc (Z1 K K)] [] [List.replicate 32 (.int .u8 0)]).F
def Al1:Ru K (Ru r (Ru c R)):=(.mk:Sg 0x100023e31204e2312e6312e5 [a,b] h).F
def Anb:R:=(.mk:Sg 0x1432000ee0023e41204e2412e60007e01e28540be [a,b,d,e] h [D5 (Al1 c r K)] [cu0 (Bv (Mv 1) (List.replicate 32 (.int .u8 0)) [])]).F
def Aml:R:=(.mk:Sg 0x12026541024874100ee0215e702e4320104e2a30620e [a,b,d,e,f] h [c 59,Zc (Anb c r K)]).F
def Anf:R:=(.mk:Sg 0x142ba95104023ec1204e2c12e60007e00e312e5212e624ff3fb17e023e05ea18e421ae20ce232011e57665604b273011e0ee [a,b,d,e] h [c 18,cl5 (Aml c r K)] [cu0 (Bv (Mv 1) (List.replicate 32 (.int .u8 0)) [])] [List.replicate 32 (.int .u8 0)]).F
def Wk:R:=(.mk:Sg 0x1765440010e0023e71204e2712e60007e01e3023701e6048023e61204e2612e60007e00e288709e [a,b,d,e,f,g,i] h [Zc (Anf c r K)] [cu0 (Bv (Mv 1) (List.replicate 32 (.int .u8 0)) [])]).F
def Asu:R:=(.mk:Sg 0x1202438a97102465acb71000224e30403e2d00315e802e321e1606e20ce52201323023e05e [a,b] h [D5 (Gp K),cl7 (Wk c r K)] [] [List.replicate 32 (.int .u8 0),[.int .i64 0,.int .i64 0,.int .i64 0,.int .i64 0,.int .i64 0,.int .i64 0]]).F
def A1m:Ru K R:=
 some (a,h)
def A1t:Ru K R:=
 Iz b fun d=>
 k2 a d h
def A2e:R:=(.mk:Sg 0x1652004226522319e31c0007e [a,b] h [D5 (A1t K k2)] [cu0 (Bv (Ed [(0,1),(1,1)]) [.int .i64 0,.int .i64 0] [(0,.int .i64 (-1)),(1,.int .i64 (-1))])]).F
def Xr(K:Nat):Nat->A2
 | 0=>fun _ _ _=>none
 | m+1=>fun a b h=>
  cE Iq .lss 3 b (.int .i64 3)
  (A2e K (Xr K m) a b h)
  (A1m K a h)
def Auj:R:=(.mk:Sg 0x100220028ae921007e [a] h [D5 (Xr K K)] [cu1 (fun a=>Bv (Ed [(0,1),(1,6)]) [.E3,.int .i64 0,.int .i64 0,.int .i64 0,.int .i64 0,.int .i64 0,.int .i64 0] [(0,a)])]).F
def Asz:Ru K R:=(.mk:Sg 0x12225fe926544007e235537e9 [a,b,d,e] h [] [cu4 (fun a b d g=>Bv (Ed [(0,1),(1,1),(2,1),(3,3),(6,1)]) [.E3,.E3,.E3,.int .i64 0,.int .i64 0,.int .i64 0,.bool false] [(0,a),(1,b),(2,d),(3,g)])]).F
def V7:Ru K R:=
 some (a,h)
def Wu:Ru K R:=
 Iz f fun g=>
 k5 a b d e g h
def Wq:R:=(.mk:Sg 0x100edc2a5302a2212111262107e210121007e821de31464116e [a,b,d,e,f] h [Ey (Ap3 K),Ey (fun p=>Cd ([.int .i64 0]++List.replicate 32 (.int .u8 0)) 84 33 1 [(0,p)]),D5 (E0 84 33),cl5 (Wu K k5)] [cu1 (fun j=>Xp .u8 j),cu2 (fun g o=>Bv (Ed [(0,1),(1,32)]) ([.int .i64 0]++List.replicate 32 (.int .u8 0)) [(0,g),(1,o)])]).F
def Gn(K:Nat):Nat->A5
 | 0=>fun _ _ _ _ _ _=>none
 | m+1=>fun a b d e f h=>
  cE Iq .lss 3 f e
  (Wq K (Gn K m) a b d e f h)
  (V7 K b h)
def F9:R:=(.mk:Sg 0x10023b04500213e234214e9 [a] h [cl5 (Gn K K)]).F
def Alx:Ru K (Ru r R):=(.mk:Sg 0x12232201 [a,b] h [c 74]).F
def Am6:R:=(.mk:Sg 0x143210222212e2101 [a,b] h [c 77,D5 (Alx c r K)]).F
def Wa:R:=
 pkO e f fun g=>
 ifE g
 (some (d,h))
 (Am6 c r K a b h)
def Aui:R:=(.mk:Sg 0x1202498510246ba51010225e30401e2d00315e802e321e0606e20ce42201223 [a,b] h [D5 (Gp K),cl5 (Wa c r K)] [] [[.int .i64 0,.int .i64 0,.int .i64 0,.int .i64 0,.int .i64 0,.int .i64 0]]).F
def Cp:Ru K R:=(.mk:Sg 0x122203 [a] h).F
def Ei:Ru K R:=
 Wy 113 a h fun b h=>
 some ((.func 104 [] [b]),h)
def Ch:Ru K R:=(.mk:Sg 0x109e41104e246626531c009e05e [a] h [] [] [[.int .i64 0,.int .i64 0,.int .i64 0,.int .i64 0,.int .i64 0,.int .i64 0]]).F
def An0:Ru K R:=
 Wy 57 a h fun b h=>
 some ((.func 113 [] [b]),h)
def Aeg:Ru K R:=
 pkA a b fun d=>
 some (d,h)
def U9:R:=(.mk:Sg 0x1202210262102720e21007e210130305e2a00323e [a,b] h [Ey (Ch K),D5 (Aeg K)] [cu1 (fun f=>Aej 3 false 0 f)]).F
def Rt:Ru K (Ru r (Ru c R)):=(.mk:Sg 0x15021e31204e2366365 [a,b,d] h).F
def Yt:R:=(.mk:Sg 0x13200e3109806e3105021603e6c42162214e01e3c20ae224c3c12e0fe0315e701e8705e31042162214e01e3c20ae224c3c0ae00315e701e42662bffff5f06e17e021e05e05e18e20ce2467407fff4f01e723c004f00e210e63c21e03f9110e43c418e5404b273011e0ee [a,b,d] h [c 115,Lz (Rt c r K)] [] [[.int .i64 0,.int .i64 0,.int .i64 0,.int .i64 0,.int .i64 0,.int .i64 0]]).F
def A1a:R:=(.mk:Sg 0x15433004021626c [a,b,d] h [Lz (Yt c r K)]).F
def Aoa:R:=(.mk:Sg 0x13453204563100fe0021e51204e25660007e01e212e3021e51204e25660007e00e0ee0215e701e510123e28463021e05e375e9 [a,b] h [c 61,Lz (A1a c r K),Lz (Yt c r K)] [cu0 (Bv (Ed [(0,1),(1,1),(2,1),(3,1),(4,1),(5,1)]) [.int .i64 0,.int .i64 0,.int .i64 0,.int .i64 0,.int .i64 0,.int .i64 0] [])] [[.int .i64 0,.int .i64 0,.int .i64 0,.int .i64 0,.int .i64 0,.int .i64 0]]).F
def Amh:Ru K (Ru r (Ru c R)):=(.mk:Sg 0x1402 [] h).F
def Anh:Ru K (Ru r (Ru c R)):=
 Iz d fun e=>
 k3 a b e h
def Alw:R:=(.mk:Sg 0x154331050232842201 [a,b,d] h [c 100,Lz (Anh c r K k3)]).F
def Pw(c:Ah)(r:Ah)(K:Nat):Nat->A3
 | 0=>fun _ _ _ _=>none
 | m+1=>fun a b d h=>
  cE Iq .lss 3 d b
  (Alw c r K (Pw c r K m) a b d h)
  (Amh c r K h)
def Asr:R:=(.mk:Sg 0x1002532021112101203 [a] h [Ey (Ch K),Ey (Da K),Lz (Pw c r K K)]).F
def A1o:Ru K R:=
 pkA a b fun d=>
 some (d,h)
def Azm:R:=(.mk:Sg 0x12022002320060320e92a00223e [a] h [D5 (A1o K)]).F
def Aan:Ru K R:=
 pkO a b fun d=>
 some (d,h)
def Ty:R:=(.mk:Sg 0x1202220262207224e72211210130306e2d01424e [a,b,d] h [Ey (Ch K),D5 (Fe K),D5 (Aan K)] [] [] [(.int .i64 (-1))]).F
def Akf:Ru K R:=
 Wy 100 a h fun b h=>
 some ((.func 128 [] [b]),h)
def Ic:Ru K R:=(.mk:Sg 0x107e0200230023701e201ae42201203 [a,b] h [D5 A43]).F
def Adm:Ru K (Ru r (Ru c R)):=
 pkA a b fun d=>
 some (d,h)
def At7:R:=(.mk:Sg 0x12022202522000224e5221132303e2a32201 [a,b] h [c 19,D5 (H5 K),D5 (Adm c r K)]).F
def Atq:Ru K (Ru r (Ru c R)):=(.mk:Sg 0x1002 [] h).F
def As6:R:=(.mk:Sg 0x10100ee0230ee0215e701e42201203 [a,b] h [c 134,cl0 (Atq c r K)]).F
def Amt:R:=(.mk:Sg 0x1652402220ee0215e701e2282231212150300e00215e701e522112101203 [a,b] h [Ey (Cp K),c 133,Ey (Ce K),c 56,D5 (As6 c r K)]).F
def Et:Ru K (Ru r (Ru c R)):=
 Iz e fun f=>
 k4 a b d f h
def Eu:R:=(.mk:Sg 0x1ba98410000e22820fe296301265221e0606e26553615e [a,b,d,e] h [Lz (fun a e j=>Xq c r a [e,j]),Zc (Et c r K k4)] [] [[.int .i64 0,.int .i64 0,.int .i64 0,.int .i64 0,.int .i64 0,.int .i64 0]]).F
def Bq(c:Ah)(r:Ah)(K:Nat):Nat->A4
 | 0=>fun _ _ _ _ _=>none
 | m+1=>fun a b d e h=>
  cE Iq .lss 3 e d
  (Eu c r K (Bq c r K m) a b d e h)
  (some (.tuple [],h))
def Fq:R:=(.mk:Sg 0x100234400213e30de [a,b] h [Zc (Bq c r K K)]).F
def Afm:Ru K R:=
 Wy 43 a h fun d h=>
 Wy 3 b h fun e h=>
 some ((.func 144 [] [d,e]),h)
def Ag6:Ru K R:=
 Wy 124 a h fun b h=>
 some ((.func 145 [] [b]),h)
def X7:Ru K R:=(.mk:Sg 0x1000e000e321627ff3fb17e56115e02e21de20de271e7b23115ea02e5210ea73711e0ee321627ff3fb17e56115ea21de20de271e7b23115e402e5110e473711e0ee3ce1023701e204321e9 [a,b,d] h).F
def Qk:Ru K R:=(.mk:Sg 0x109e41104e246626530c009e05e [a] h [] [] [[.int .i64 0,.int .i64 0,.int .i64 0,.int .i64 0,.int .i64 0,.int .i64 0]]).F
def Mr:Ru K (Ru r (Ru c R)):=
 Iz d fun e=>
 k3 a b e h
def Zt(c:Ah)(r:Ah)(K:Nat)(k3:A3)(k5:A5)(a:EV)(b:EV)(d:EV)(e:EV)(f:EV)(h:Ab):R:=
 Iz f fun g=>
 k5 a b d e g h
def J6:R:=
 pkA g i fun j=>
 ifE j
 (some (.tuple [],h))
 (Zt c r K k3 k5 a b d e f h)
def Aik:R:=(.mk:Sg 0x12028765471024a987671020fe3420103e2a01225e652007e [a,b,d,e,f] h [D5 (fun a g=>Xq c r a [g]),cl7 (J6 c r K k3 k5)] [cu2 (fun e f=>A08 2 1 false 1 e f)] [] [(.int .i64 (-1))]).F
def E5(c:Ah)(r:Ah)(K:Nat)(k3:A3):Nat->A5
 | 0=>fun _ _ _ _ _ _=>none
 | m+1=>fun a b d e f h=>
  cE Iq .lss 3 f (.int .i64 2)
  (Aik c r K k3 (E5 c r K k3 m) a b d e f h)
  (Mr c r K k3 a b d h)
def Aho:R:=(.mk:Sg 0x1002987500232107e314204287e0206e432007e [a,b,d] h [cl5 (E5 c r K k3 K)] [cu2 (fun b d=>A08 3 2 true 2 b d),cu2 (fun g i=>Bv (Mv 1) [.int .i64 0,.int .i64 0] [(0,g),(1,i)])] [[.int .i64 0,.int .i64 0]]).F
def Hn(c:Ah)(r:Ah)(K:Nat):Nat->A3
 | 0=>fun _ _ _ _=>none
 | m+1=>fun a b d h=>
  cE Iq .lss 3 d (.int .i64 3)
  (Aho c r K (Hn c r K m) a b d h)
  (some (.tuple [],h))
def Aph:R:=(.mk:Sg 0x1002530026521c30de [a,b] h [Lz (Hn c r K K)]).F
abbrev Aar(K:Nat)(c:Ah):Ah:=c
def V9:Ru K R:=(.mk:Sg 0x1000e5021624c [a] h).F
def Nh:Ru K R:=(.mk:Sg 0x152e41104e24f2e62f2e537c052e05e [a] h [] [] [List.replicate 256 (.int .u32 0)]).F
def Er:Ru K R:=(.mk:Sg 0x122233 [a] h).F
def Ad7:Ru K R:=
 some (a,h)
def Vd:Ru K R:=
 Iz e fun f=>
 k4 a b d f h
def Ad8:R:=(.mk:Sg 0x17654410876241040ae91023701e210153116e [a,b,d,e] h [Ey (Er K),Zc (Vd K k4)]).F
def Kr(K:Nat):Nat->A4
 | 0=>fun _ _ _ _ _=>none
 | m+1=>fun a b d e h=>
  cE Iq .lss 3 e d
  (Ad8 K (Kr K m) a b d e h)
  (Ad7 K a h)
def S9:R:=(.mk:Sg 0x1002300400213e203 [a] h [Zc (Kr K K)]).F
def Arl:Ru r R:=(.mk:Sg 0x12221112101203 [a] h [Ey (Cp K),c 98]).F
def Zo(c:Ah)(r:Ah)(K:Nat)(tm:Ax)(a:EV)(h:Ab)(ds:List Nat):R:=
 Fm a h fun b=>
 uwE b h ds
def Aom:R:=
 (fun(tm:Ax) (ds:List Nat)=>
 Avo (.cells [.Ao] 28) h fun d h=>
 Axv a fun e=>
 Alc 2 e fun f=>
 Fm f h fun g=>
 An (Afm K g b h) fun i h=>
 Zk c TT 73 19 0 i ((((((((tm.put 4 (some .Ao)).put 5 (some d)).put 7 (some a)).put 8 (some e)).put 9 (some f)).put 10 (some g)).put 11 (some b)).put 12 (some i)) h ds (fun h ds=>
 Zo c r K ((((((((tm.put 4 (some .Ao)).put 5 (some d)).put 7 (some a)).put 8 (some e)).put 9 (some f)).put 10 (some g)).put 11 (some b)).put 12 (some i)) d h ds) (fun id h ds=>
 Bf (Nat.beq 0 id) (Zo c r K ((((((((tm.put 4 (some .Ao)).put 5 (some d)).put 7 (some a)).put 8 (some e)).put 9 (some f)).put 10 (some g)).put 11 (some b)).put 12 (some i)) d h ds) (none)) (fun h ds=>
 E1 ds h fun h=>some (.Ao,h))) ((Tr.nil.put 0 (some a)).put 1 (some b)) []
def Abd:Ru K (Ru r (Ru c R)):=(.mk:Sg 0x1020251623211410120de [a,b] h [Ey (fun b=>Cd [.int .i64 0] 3 1 1 [(0,b)]),D5 (E0 3 1),cl0 (Vh l true .ready none)]).F
def Aib:R:=
 Fs l h fun h=>Abd c r K l a b h
def Aie:Ru K (Ru r (Ru c R)):=(.mk:Sg 0x1002200e [a] h).F
def Aic:R:=(.mk:Sg 0x121000fe02200e53023301e [a] h [Ey (Aie c r K)]).F
def Ah6:R:=(.mk:Sg 0x16120200200e5212e21112101203 [a,b] h [Ey (Cp K),c 98,Ey (Aic c r K)]).F
def Ahj:Ru K (Ru r (Ru c R)):=
 Iz e fun f=>
 k4 a b d f h
def Ahf:R:=(.mk:Sg 0x16432400724340040ae958 [a,b,d,e,f] h [Zc (Ahj c r K k4)]).F
def Ahw:R:=(.mk:Sg 0x193876510200200e5212e20ce263301345 [a,b,d,e] h [c 132,cl5 (Ahf c r K k4)]).F
def Mz(c:Ah)(r:Ah)(K:Nat):Nat->A4
 | 0=>fun _ _ _ _ _=>none
 | m+1=>fun a b d e h=>
  cE Iq .lss 3 e (.int .i64 3)
  (Ahw c r K (Mz c r K m) a b d e h)
  (Ah6 c r K a d h)
def Ahl:R:=
 Mz c r K K a b (.int .i64 0) (.int .i64 0) h
def Ze(c:Ah)(r:Ah)(K:Nat)(base:Nat)(s:DX)(a:EV)(b:EV)(d:EV)(e:EV)(h:Ab):R:=
 pkO d e fun f=>
 ifE f
 (some (.tuple [(.int .i64 0),(.int .i64 10)],h))
 (Ahl c r K a b h)
def Aox:R:=
 Wy 160 b h fun d h=>
 Adz h fun base s=>
 P8 0 0 base d s fun s=>Oz 4 d h fun e=>
 L5 1 1 s h (fun h=>(c 131 [e] h)) fun f h s=>
 Arw f fun g=>
 wfE g
 (olE 3 5 31 base d s h fun s i=>
 L5 6 63 s h (fun h=>(Qk K i h)) fun j h s=>
 Ax8 0 10 911 base a s h fun s n=>
 L5 11 2047 s h (fun h=>(Ch K n h)) fun o h s=>
 Kl Alb (bin TT .neq 23) j o fun p=>
 Ze c r K base s a d g p h)
 (Ze c r K base s a d g tU h)
end
variable{K d:Nat}(H:Bj disp)
include H
theorem Ab3(hd:1<=d):R1 disp K d 15 (K9 K):=fun _=>rl H hd
theorem Vq(hd:1<=d):R2 disp K d 26 (H5 K):=fun _ _=>rl H hd
theorem Aip(hd:0<=d):S2 disp K d 27 Ag9:=fun _ _=>ld rfl rfl H rfl 51 (fun c r=>e4 (N8 c r K) 0 14 15 16)
theorem Ix(hd:1<=d):R2 disp K d 31 (Gp K):=fun _ _=>rl H hd
theorem Aya(hd:0<=d):S1 disp K d 34 Aue:=fun _=>rd rfl rfl H rfl
theorem A4g(hd:1<=d):R1 disp K d 46 (Ap3 K):=fun _=>ll H hd (fun _ _=>rfl) 51 (e4 (Z1 K) 0 2 3 5)
theorem Awy(hd:1<=d):S2 disp K d 47 Asu:=fun _ _=>rd rfl rfl H (V2 (Ix H) hd<|rfl)
theorem Bao(hd:1<=d):R1 disp K d 53 (Auj K):=fun _=>ll H hd (fun _ _=>rfl) 51 (e2 (Xr K) 3 8)
theorem A83(hd:1<=d):R4 disp K d 57 (Asz K):=fun _ _ _ _=>rl H hd
theorem Ua(hd:2<=d):R1 disp K d 58 (F9 K):=fun _=>ll H hd (fun d hd=>V1 (A4g H) hd<|rfl) 51 (e5 (Gn K) 1 3 7 8 9)
theorem Awu(hd:1<=d):S2 disp K d 59 Aui:=fun _ _=>rd rfl rfl H (V2 (Ix H) hd<|rfl)
theorem Fa(hd:1<=d):R1 disp K d 62 (Cp K):=fun _=>rl H hd
theorem Yp(hd:1<=d):R1 disp K d 64 (Ei K):=fun _=>rl H hd
theorem Df(hd:1<=d):R1 disp K d 68 (Ch K):=fun _=>rl H hd
theorem Azo(hd:1<=d):R1 disp K d 75 (An0 K):=fun _=>rl H hd
theorem Acq(hd:2<=d):R2 disp K d 76 (U9 K):=fun _ _=>rl H hd fun d hd=>V1 (Df H) hd<|rfl
theorem Amj(hd:0<=d):S2 disp K d 78 Aoa:=fun _ _=>rd rfl rfl H rfl
theorem Axn(hd:1<=d):S1 disp K d 81 Asr:=fun _=>ld rfl rfl H (V1 (Df H) hd<|V1 (Es H) hd<|rfl) 25 (fun c r=>e3 (Pw c r K) 0 9 10)
theorem A9s(hd:1<=d):R1 disp K d 94 (Azm K):=fun _=>rl H hd
theorem Avp(hd:3<=d):R3 disp K d 95 (Ty K):=fun _ _ _=>rl H hd fun d hd=>V1 (Df H) hd<|V2 (Gy H) hd<|rfl
theorem Awx(hd:1<=d):R1 disp K d 96 (Akf K):=fun _=>rl H hd
theorem Zy(hd:1<=d):R2 disp K d 97 (Ic K):=fun _ _=>rl H hd
theorem Ax9(hd:1<=d):S2 disp K d 100 At7:=fun _ _=>rd rfl rfl H (V2 (Vq H) hd<|rfl)
theorem Ar9(hd:1<=d):S2 disp K d 101 Amt:=fun _ _=>rd rfl rfl H (V1 (Fa H) hd<|V1 (Fx H) hd<|rfl)
theorem Gs(hd:0<=d):S2 disp K d 104 Fq:=fun _ _=>ld rfl rfl H rfl 5 (fun c r=>e4 (Bq c r K) 0 5 6 7)
theorem Aq1(hd:1<=d):R2 disp K d 111 (Afm K):=fun _ _=>rl H hd
theorem Avw(hd:1<=d):R1 disp K d 114 (Ag6 K):=fun _=>rl H hd
theorem Axw(hd:1<=d):R3 disp K d 116 (X7 K):=fun _ _ _=>rl H hd
theorem Acp(hd:1<=d):R1 disp K d 120 (Qk K):=fun _=>rl H hd
omit H in
theorem Ary(c r:Ah)(K:Nat)(A:EV->EV->EV->Ab->R)(m:Nat):lpB false (Aar K c) c r K 128 1637 [(2,fun v tm h ds=>Mr c r K A (v 0) (v 10) (v 11) h),(1,fun v tm h ds=>Mr c r K A (v 0) (v 10) (v 11) h),(0,Aj5 false TT 128)] m=(fun m v tm h ds=>E5 c r K A m (v 0) (v 10) (v 11) (v 18) (v 19) h) m:=
 Lp (E:=fun m v tm h ds=>E5 c r K A m (v 0) (v 10) (v 11) (v 18) (v 19) h) rfl (fun m=>Avq fun v tm h ds=>by kernel_rfl) m
omit H in
theorem Asc(c r:Ah)(K:Nat)(m:Nat):lpB false (Aar K c) c r K 128 5 [(0,Aj5 false TT 128)] m=(fun m v tm h ds=>Hn c r K m (v 0) (v 10) (v 11) h) m:=
 Bv0 (E:=fun m v tm h ds=>Hn c r K m (v 0) (v 10) (v 11) h) rfl (fun m=>(cut [true,true,false,false,true,true,false] (Ary c r K (Hn c r K m) K) (by kernel_rfl) (by kernel_rfl) rfl)) (fun m=>Avq fun v tm h ds=>by kernel_rfl) m
theorem Att(hd:0<=d):S2 disp K d 128 Aph:=fun _ _=>rm (q:=false) (D:=Aar K (Ae TT disp K d false)) (by kernel_rfl) rfl rfl H (rfl) (cut [true,false] (Asc (Ae TT disp K d false) (Ae TT disp K d true) K K) (by kernel_rfl) (by kernel_rfl) rfl)
theorem Ash(hd:1<=d):R1 disp K d 182 (V9 K):=fun _=>rl H hd
theorem Ao9(hd:1<=d):R1 disp K d 185 (Nh K):=fun _=>rl H hd
theorem Jx(hd:1<=d):R1 disp K d 214 (Er K):=fun _=>rl H hd
theorem Aqb(hd:2<=d):R1 disp K d 228 (S9 K):=fun _=>ll H hd (fun d hd=>V1 (Jx H) hd<|rfl) 51 (e4 (Kr K) 3 9 10 11)
theorem Avn(hd:1<=d):S1 disp K d 60 Arl:=fun _=>rd rfl rfl H (V1 (Fa H) hd<|rfl)
theorem Atd(hd:1<=d):S2 disp K d 73 Aom:=fun _ _=>rd rfl rfl H (V2 (Aq1 H) hd<|rfl)
theorem Apa(hd:1<=d){l:Nat}(tm:Ax)(h:Ab)(v:EV){st:LoopState}{p:Option Code}(A:h.get l=some (.loop st p 73 19 tm [13] (E4 TT 73 0).2.2.1 (E4 TT 73 0).2.2.2 d0)):
 Ae TT disp K (d+1) true l [v] h=Aib (Ae TT disp K d false) (Ae TT disp K d true) K l (tmp tm 5) v h:=rr rfl rfl (rfl) A rfl (by kernel_rfl)
theorem At6(hd:1<=d):S2 disp K d 99 Aox:=fun _ _=>ld rfl rfl H (V1 (Acp H) hd<|V1 (Df H) hd<|V1 (Fa H) hd<|rfl) 103 (fun c r=>e4 (Mz c r K) 0 3 6 25)
end
end Go.Ev
