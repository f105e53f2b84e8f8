import Derived.Test.YtokpnommcenoaaaGreatFun
import Derived.Test.YtokpnommcenoaaaGreatTab
set_option linter.all false
namespace Go.Ev
open Go.Proofs
set_option maxRecDepth 100000
set_option maxHeartbeats 4000000
variable {F:EV->EV->EV->EV->EV->Ab->R}{k d0 fuel:Nat}{fl:Bool}{T:Hh}{callV round:Ai}{Dt:Option Nat}{out:Nat->CD}{disp:Nat->Option FT}
section
noncomputable section
section
variable (fl:Bool)(T:Hh)(call callV round:Ai)(fuel fn n:Nat)(Dt:Option Nat)(out:Nat->CD)(ret:CD)
abbrev Bpy(p:List Bool):Hk->Code->Akl->CD->Code × Akl × CD:=
 @List.rec Bool (fun _=>Hk->Code->Akl->CD->Code × Akl × CD) (fun _ c env k=>(c,env,k))
  (fun s _ v H c env k=>match c with
   | .seq x y=>Ax s (v H.r y env k) (v H.l x env (Qk fl T call callV round fuel fn n Dt out ret H.r y env k))
   | .cond _ x y=>Ax s (v H.r y env k) (v H.l x env k)
   | .block id x=>v H.l x ((id,k)::env) k
   | c=>(c,env,k)) p
end
def Bst:Nat:=have _:=@Uv;have _:=@Js;have _:=@P9;have _:=@Ef;have _:=@Ard;have _:=@Z2;have _:=@builtin;have _:=@Ko;have _:=@Nv;have _:=@Fi;have _:=@Bz;have _:=@Ii;0
def Bs0(c:Code):Bool:=match c with | .loop _=>true|_=>false
@[reducible] def cH(q:Bool)(C c r:Ai)(K g:Nat)(H:Hk):CD:=let _:=Bst;Qk q TT C c r K g (nOf TT g) none no0 (Afu q TT g) H (N7 TT g) [] (Afu q TT g)
@[reducible] def lH(q:Bool)(C c r:Ai)(K g p:Nat):Code × Akl × CD:=Bpy q TT C c r K g (nOf TT g) none no0 (Afu q TT g) (pathOf p) .no (N7 TT g) [] (Afu q TT g)
@[reducible] def Bf9(q:Bool)(C c r:Ai)(K g p:Nat)(X:CD):CD:=let _:=Bst;match lH q C c r K g p with
 | (.loop x,env,_)=>Ab7 q TT C c r K g (nOf TT g) none no0 (Afu q TT g) x env X
 | _=>X
@[reducible] def A86(xs:List EV)(B:CD)(h:Ab):R:=let _:=Bst;B (Bae xs 0 u0) (setArgs xs 0 .nil) h []
@[reducible] def lpB(q:Bool)(C c r:Ai)(K g p:Nat)(env:Akl)(m:Nat):CD:=A5o (fun v=>Ab7 q TT C c r K g (nOf TT g) none no0 (Afu q TT g) (Bu1 TT g (pathOf p)) env v) m
abbrev e0(X:Nat->A0):Nat->CD:=fun m _ _ h _=>X m h
abbrev e1(X:Nat->A1)(a:Nat):Nat->CD:=fun m v _ h _=>X m (v a) h
abbrev e2(X:Nat->A2)(a b:Nat):Nat->CD:=fun m v _ h _=>X m (v a) (v b) h
abbrev e3(X:Nat->A3)(a b c:Nat):Nat->CD:=fun m v _ h _=>X m (v a) (v b) (v c) h
abbrev e4(X:Nat->A4)(a b c d:Nat):Nat->CD:=fun m v _ h _=>X m (v a) (v b) (v c) (v d) h
abbrev e5(X:Nat->A5)(a b c d e:Nat):Nat->CD:=fun m v _ h _=>X m (v a) (v b) (v c) (v d) (v e) h
abbrev e6(X:Nat->A6)(a b c d e f:Nat):Nat->CD:=fun m v _ h _=>X m (v a) (v b) (v c) (v d) (v e) (v f) h
abbrev e7(X:Nat->A7)(a b c d e f i:Nat):Nat->CD:=fun m v _ h _=>X m (v a) (v b) (v c) (v d) (v e) (v f) (v i) h
abbrev e8(X:Nat->A8)(a b c d e f i j:Nat):Nat->CD:=fun m v _ h _=>X m (v a) (v b) (v c) (v d) (v e) (v f) (v i) (v j) h
abbrev e9(X:Nat->A9)(a b c d e f i j k:Nat):Nat->CD:=fun m v _ h _=>X m (v a) (v b) (v c) (v d) (v e) (v f) (v i) (v j) (v k) h
abbrev e10(X:Nat->A10)(a b c d e f i j k l:Nat):Nat->CD:=fun m v _ h _=>X m (v a) (v b) (v c) (v d) (v e) (v f) (v i) (v j) (v k) (v l) h
abbrev e11(X:Nat->A11)(a b c d e f i j k l n:Nat):Nat->CD:=fun m v _ h _=>X m (v a) (v b) (v c) (v d) (v e) (v f) (v i) (v j) (v k) (v l) (v n) h
end
section
variable{call:Ai}{fn n:Nat}{ret:CD}
theorem A8g:∀(p:List Bool) (H:Hk) (c:Code) (env:Akl) (k:CD),atH fl T call callV round fuel fn n Dt out ret p H c env k=Ab7 fl T call callV round fuel fn n Dt out ret (Bpy fl T call callV round fuel fn n Dt out ret p H c env k).1 (Bpy fl T call callV round fuel fn n Dt out ret p H c env k).2.1 (Bpy fl T call callV round fuel fn n Dt out ret p H c env k).2.2
 | [],_,_,_,_=>rfl
 | s::p,H,c,env,k=>by
  cases c<;>first|rfl|exact A8g p _ _ _ _|(cases s<;>exact A8g p _ _ _ _)
end
section
variable{K m d g p:Nat}{q:Bool}{C:Nat->Ai}{D c r:Ai}{E:Nat->CD}{xs:List EV}{Y:Ab->R}{B:CD}
theorem Btu(v:Bs0 (lH q D c r K g p).1=true)(h0:E 0=fun _ _ _ _=>none)(hs:∀m A tm h ds,Bf9 q D c r K g p (E m) A tm h ds=E (m+1) A tm h ds)(G:As4 (pathOf p) .no (N7 TT g)=true):
 cH q D c r K g .no=cH q D c r K g (A20 (pathOf p) (E K) .no):=by
 refine Z8 _ (pathOf p) .no (N7 TT g) [] (Afu q TT g) G ?_;rw[A8g];have hs:=fun m=>A14 (hs m)
 show Ab7 q TT D c r K g (nOf TT g) none no0 (Afu q TT g) (lH q D c r K g p).1 (lH q D c r K g p).2.1 (lH q D c r K g p).2.2=E K;unfold Bf9 at hs;generalize lH q D c r K g p=x at v hs⊢;obtain⟨J,env,k⟩:=x;cases J<;>first|exact Qj h0 hs K|cases v
abbrev R0(disp:Nat->Option FT)(K d g:Nat)(F:Ab->R):Prop:=∀h,Ag TT disp K d false g [] h=F h
abbrev S0(disp:Nat->Option FT)(K d g:Nat)(F:Ai->Ai->Nat->Ab->R):Prop:=∀h,Ag TT disp K (d+1) false g [] h=F (Ag TT disp K d false) (Ag TT disp K d true) K h
theorem V0 {F:Ab->R}{x:Ai}(e:k<=d->R0 disp K d g F)(hd:m<=d)(y:Ag TT disp K d false=x)(v:Nat.ble k m=true:=by rfl):Ag TT disp K d false=w0 g F x:=W0 (e (lq hd v)) y
abbrev R1(disp:Nat->Option FT)(K d g:Nat)(F:EV->Ab->R):Prop:=∀a h,Ag TT disp K d false g [a] h=F a h
abbrev S1(disp:Nat->Option FT)(K d g:Nat)(F:Ai->Ai->Nat->EV->Ab->R):Prop:=∀a h,Ag TT disp K (d+1) false g [a] h=F (Ag TT disp K d false) (Ag TT disp K d true) K a h
theorem V1 {F:EV->Ab->R}{x:Ai}(e:k<=d->R1 disp K d g F)(hd:m<=d)(y:Ag TT disp K d false=x)(v:Nat.ble k m=true:=by rfl):Ag TT disp K d false=w1 g F x:=W1 (e (lq hd v)) y
abbrev R2(disp:Nat->Option FT)(K d g:Nat)(F:EV->EV->Ab->R):Prop:=∀a b h,Ag TT disp K d false g [a,b] h=F a b h
abbrev S2(disp:Nat->Option FT)(K d g:Nat)(F:Ai->Ai->Nat->EV->EV->Ab->R):Prop:=∀a b h,Ag TT disp K (d+1) false g [a,b] h=F (Ag TT disp K d false) (Ag TT disp K d true) K a b h
theorem V2 {F:EV->EV->Ab->R}{x:Ai}(e:k<=d->R2 disp K d g F)(hd:m<=d)(y:Ag TT disp K d false=x)(v:Nat.ble k m=true:=by rfl):Ag TT disp K d false=w2 g F x:=W2 (e (lq hd v)) y
abbrev R3(disp:Nat->Option FT)(K d g:Nat)(F:EV->EV->EV->Ab->R):Prop:=∀a b e h,Ag TT disp K d false g [a,b,e] h=F a b e h
abbrev S3(disp:Nat->Option FT)(K d g:Nat)(F:Ai->Ai->Nat->EV->EV->EV->Ab->R):Prop:=∀a b e h,Ag TT disp K (d+1) false g [a,b,e] h=F (Ag TT disp K d false) (Ag TT disp K d true) K a b e h
theorem V3 {F:EV->EV->EV->Ab->R}{x:Ai}(e:k<=d->R3 disp K d g F)(hd:m<=d)(y:Ag TT disp K d false=x)(v:Nat.ble k m=true:=by rfl):Ag TT disp K d false=w3 g F x:=W3 (e (lq hd v)) y
abbrev R4(disp:Nat->Option FT)(K d g:Nat)(F:EV->EV->EV->EV->Ab->R):Prop:=∀a b e f h,Ag TT disp K d false g [a,b,e,f] h=F a b e f h
abbrev S4(disp:Nat->Option FT)(K d g:Nat)(F:Ai->Ai->Nat->EV->EV->EV->EV->Ab->R):Prop:=∀a b e f h,Ag TT disp K (d+1) false g [a,b,e,f] h=F (Ag TT disp K d false) (Ag TT disp K d true) K a b e f h
theorem V4 {F:EV->EV->EV->EV->Ab->R}{x:Ai}(e:k<=d->R4 disp K d g F)(hd:m<=d)(y:Ag TT disp K d false=x)(v:Nat.ble k m=true:=by rfl):Ag TT disp K d false=w4 g F x:=W4 (e (lq hd v)) y
abbrev R5(disp:Nat->Option FT)(K d g:Nat)(F:EV->EV->EV->EV->EV->Ab->R):Prop:=∀a b e f i h,Ag TT disp K d false g [a,b,e,f,i] h=F a b e f i h
abbrev S5(disp:Nat->Option FT)(K d g:Nat)(F:Ai->Ai->Nat->EV->EV->EV->EV->EV->Ab->R):Prop:=∀a b e f i h,Ag TT disp K (d+1) false g [a,b,e,f,i] h=F (Ag TT disp K d false) (Ag TT disp K d true) K a b e f i h
theorem V5{x:Ai}(e:k<=d->R5 disp K d g F)(hd:m<=d)(y:Ag TT disp K d false=x)(v:Nat.ble k m=true:=by rfl):Ag TT disp K d false=w5 g F x:=W5 (e (lq hd v)) y
abbrev S6(disp:Nat->Option FT)(K d g:Nat)(F:Ai->Ai->Nat->EV->EV->EV->EV->EV->EV->Ab->R):Prop:=∀a b e f i j h,Ag TT disp K (d+1) false g [a,b,e,f,i,j] h=F (Ag TT disp K d false) (Ag TT disp K d true) K a b e f i j h
theorem rf(v:Awk (N7 TT g)=q)(L:Ag TT disp K d false=c)(M:Ag TT disp K d true=r)(e:c=D)(A:cH q D c r K g .no=B)(G:A90 TT g (Fl xs)=true:=by kernel_rfl)(J:∀h,A86 xs B h=Y h:=by intros;kernel_rfl)(h:Ab):Axk TT c r K g xs h=Y h:=by
 rw[Biv G,v];exact(congrArg (fun C=>A86 xs (cH q C c r K g .no) h) e).trans ((congrArg (fun B=>A86 xs B h) A).trans (J h))
theorem rm(v:Awk (N7 TT g)=q)(A:Ag TT disp K d false=c)(G:Ag TT disp K d true=r)(H:Bw disp)(e:c=D)(J:Qk q TT D c r K g (nOf TT g) none no0 (Afu q TT g) .no (N7 TT g) [] (Afu q TT g)=B)(L:Ax6 g=true:=by kernel_rfl)(M:A90 TT g (Fl xs)=true:=by kernel_rfl)(O:∀h,A86 xs B h=Y h:=by intros;kernel_rfl)(h:Ab):Ag TT disp K (d+1) false g xs h=Y h:=by
 subst A G;have e0:Ag TT disp K (d+1) false g xs h = @Option.rec FT (fun _=>FnT) (Axk TT (Ag TT disp K d false) (Ag TT disp K d true) K g) (fun F=>F (Ag TT disp K d false) (Ag TT disp K d true) K) (disp g) xs h:=rfl;rw[e0,H.plain g L];exact rf v rfl rfl e J M O h
theorem rd(v:Ag TT disp K d false=c)(A:Ag TT disp K d true=r)(H:Bw disp)(e:c=D)(G:Ax6 g=true:=by kernel_rfl)(J:A90 TT g (Fl xs)=true:=by kernel_rfl)(L:∀h,A86 xs (cH (Awk (N7 TT g)) D c r K g .no) h=Y h:=by intros;kernel_rfl)(h:Ab):Ag TT disp K (d+1) false g xs h=Y h:=rm rfl v A H e rfl G J L h
theorem ld(A:Ag TT disp K d false=c)(G:Ag TT disp K d true=r)(H:Bw disp)(e:c=D)(p:Nat)(E:Ai->Ai->Nat->CD)(h0:E c r 0=fun _ _ _ _=>none:=by rfl)(J:Ax6 g=true:=by kernel_rfl)(L:A90 TT g (Fl xs)=true:=by kernel_rfl)(M:As4 (pathOf p) .no (N7 TT g)=true:=by kernel_rfl)
 (O:Bs0 (lH (Awk (N7 TT g)) D c r K g p).1=true:=by kernel_rfl) (hs:∀m v tm h ds,Bf9 (Awk (N7 TT g)) D c r K g p (E c r m) v tm h ds=E c r (m+1) v tm h ds:=by intros;kernel_rfl)
 (P:∀h,A86 xs (cH (Awk (N7 TT g)) D c r K g (A20 (pathOf p) (E c r K) .no)) h=Y h:=by intros;kernel_rfl) (h:Ab):Ag TT disp K (d+1) false g xs h=Y h:=rm rfl A G H e (Btu O h0 hs M) J L P h
theorem rl(H:Bw disp)(hd:m+1<=d)(e:∀d,m<=d->Ag TT disp K d false=C d:=by exact fun _ _=>rfl)(v:Ax6 g=true:=by kernel_rfl)(A:A90 TT g (Fl xs)=true:=by kernel_rfl)(G:Awk (N7 TT g)=false:=by kernel_rfl)(J:∀d c r h,A86 xs (cH false (C d) c r K g .no) h=Y h:=by intros;kernel_rfl)(h:Ab):Ag TT disp K d false g xs h=Y h:=by
 obtain⟨d,rfl⟩:∃e,d=e+1:=⟨d-1,by omega⟩;exact rm G rfl rfl H (e d (Nat.le_of_succ_le_succ hd)) rfl v A (J d _ _) h
theorem ll(H:Bw disp)(hd:m+1<=d)(e:∀d,m<=d->Ag TT disp K d false=C d)(p:Nat)(E:Nat->CD)(h0:E 0=fun _ _ _ _=>none:=by rfl)(A:Ax6 g=true:=by kernel_rfl)(G:A90 TT g (Fl xs)=true:=by kernel_rfl)(J:Awk (N7 TT g)=false:=by kernel_rfl)(L:As4 (pathOf p) .no (N7 TT g)=true:=by kernel_rfl)
 (M:∀d c r,Bs0 (lH false (C d) c r K g p).1=true:=by intros;kernel_rfl) (hs:∀d c r m v tm h ds,Bf9 false (C d) c r K g p (E m) v tm h ds=E (m+1) v tm h ds:=by intros;kernel_rfl)
 (O:∀d c r h,A86 xs (cH false (C d) c r K g (A20 (pathOf p) (E K) .no)) h=Y h:=by intros;kernel_rfl) (h:Ab):Ag TT disp K d false g xs h=Y h:=by
 obtain⟨d,rfl⟩:∃e,d=e+1:=⟨d-1,by omega⟩;exact rm J rfl rfl H (e d (Nat.le_of_succ_le_succ hd)) (Btu (M d _ _) h0 (hs d _ _) L) A G (O d _ _) h
theorem rr {l n:Nat}{st:LoopState}{j:Option Code}{tm v:Bb}{ps:List Tmp}{a b:Code}{h:Ab}{X:R}(A:Ag TT disp K d false=c)(G:Ag TT disp K d true=r)(e:c=D)(J:h.get l=some (.loop st j g n tm ps a b d0))(hs:Wz ps xs n tm=some v)
 (L:Bdi TT D c r K l g n a b (Blv n ps xs (tmp tm)) v h []=X):Ag TT disp K (d+1) true l xs h=X:=by
 subst A G;rw[Ba1];unfold Ax5;rw[J];simp only;rw[hs];simp only;exact(congrArg (fun C=>Bdi TT C (Ag TT disp K d false) (Ag TT disp K d true) K l g n a b (Blv n ps xs (tmp tm)) v h []) e).trans L
end
end
section
section
variable{call:Ai}{fn n:Nat}{ret:CD}
end
end
section
noncomputable section
section
variable (c r:Ai)(K l:Nat)(k0:A0)(k1:A1)(k2:A2)(k3:A3)(k4:A4)(k5:A5)(k6:A6)(k7:A7)(k8:A8)(k9:A9)(k10:A10)(k11:A11)(k12:A12)(m0:B0)(m1:B1)(m2:B2)(m3:B3)(m4:B4)(m5:B5)(m6:B6)(m7:B7)(m8:B8)(m9:B9)(m10:B10)(m11:B11)(m12:B12)(base:Nat)(s:DX)(tm:Bb)(a b d e f g i j n o p q t u w x y z aa ab ad ae af ag ai aj an ao ap aq au aw ax ay az ba bb bd be bf bg bi bj bn bo bp bq bt bu bw bx bz da db dd de df dg di dj dn dp dq dt du dw dx dy dz ea eb ed ee ef eg ei ej en eo ep eq et eu ew ex ey ez fa fb fd fe ff fg fi fj fn fo fp fq ft fu fw fx fy fz ga gb gd ge gf gg gi gj gn go gp gq gt gu gw gx gy gz ia ib ie ig ii ij io ip iq it iu iw ix iy iz ja jb:EV)(h:Ab)(ds:List Nat)
def Dc:Ru K R:=(.mk:Sg 0x122203 [a] h).F
def Dp:Ru K R:=(.mk:Sg 0x122231fe314204209e9 [a] h).F
def Cm:Ru K R:=(.mk:Sg 0x1222f9e3 [a] h).F
def E8:Ru K R:=(.mk:Sg 0x122223 [a] h).F
def Db:Ru K R:=(.mk:Sg 0x122203 [a] h).F
def Lp:Ru K R:=(.mk:Sg 0x122213 [a] h).F
def J3:Ru K R:=(.mk:Sg 0x122233 [a] h).F
def L6:Ru K R:=(.mk:Sg 0x122223 [a] h).F
def Rt:Ru K R:=(.mk:Sg 0x15ae41104e243623533c05ae05e [a] h [] [] [[.int .i64 0,.int .i64 0,.int .i64 0]]).F
def Ry:Ru K R:=(.mk:Sg 0x122233 [a] h).F
def Adk:Ru K R:=(.mk:Sg 0x122233003e314 [a,b] h).F
def Ug:R:=
 pkO d e fun f=>
 ifE f
 (some ((.int .i64 (-1)),h))
 (Adk K a b h)
def Er:R:=(.mk:Sg 0x12023541025684102723e210136503e2d00420e209e9 [a,b] h [Dq (Dp K),Sx (Ug K)]).F
def Aqs:Ru K R:=
 pkA a b fun d=>
 some (d,h)
def Jq:R:=(.mk:Sg 0x1202200232005321e82a3223e [a,b,d] h [D7 (Aqs K)]).F
def Ol:Ru K R:=
 pkA a b fun d=>
 some (d,h)
def Ub:R:=(.mk:Sg 0x120220024200c0221e314c2a430be [a,b,d] h [D7 (Ol K)]).F
def Tl:R:=(.mk:Sg 0x1202430024630010223e414d2a00223e204212e9 [a] h [Jx (Ub K)]).F
def E3:Ru K R:=(.mk:Sg 0x1222101203 [a] h [Dq A6m]).F
def Ag2:R:=(.mk:Sg 0x122210142116e263 [a,b] h [Dq (E3 K)]).F
def Wa:R:=(.mk:Sg 0x1432000023285409e [a,b,d,e] h [D7 (Ag2 K)]).F
def Vj:R:=(.mk:Sg 0x12024340025764002623e213e36301e2d00320e [a,b] h [Sx (Wa K)]).F
def Ach:Ru K R:=
 some (a,h)
def Nu:Ru K R:=
 I6 g fun i=>
 k6 a b d e f i h
def G0(K:Nat)(k6:A6)(base:Nat)(s:DX)(a:EV)(b:EV)(d:EV)(e:EV)(f:EV)(g:EV)(i:EV)(j:EV)(n:EV)(h:Ab):R:=
 pkA j n fun o=>
 ifE o
 (Nu K k6 a b e f g i h)
 (Nu K k6 a b d f g i h)
def G4:R:=
 wtE j
 (pkO n o fun p=>
 G0 K k6 base s a b d e f g i j p h)
 (G0 K k6 base s a b d e f g i j tU h)
def Ny:R:=
 wfE o
 (Js 8 255 s h (fun h=>(E3 K f h)) fun p h s=>
 Aod 6 12 3711 base a s h fun s q=>
 Aal 1 q d fun t=>
 Le 15 32383 base t s fun s=>Fy t h fun u=>
 Js 16 65535 s h (fun h=>(E3 K u h)) fun w h s=>
 At0 p w fun x=>
 G4 K k6 base s a b d e g i j n o x h)
 (G4 K k6 base s a b d e g i j n o tU h)
def Aa9:R:=
 A8z 1 e g h fun i=>
 Wm h fun base s=>
 A0u g b fun j=>
 wtE j
 (Avz d (.int .i64 0) fun n=>
 Ny K k6 base s a b d g i e f g j n h)
 (Ny K k6 base s a b d g i e f g j tU h)
def G1(K:Nat):Nat->A6
 | 0=>fun _ _ _ _ _ _ _=>none
 | m+1=>fun a b d e f g h=>
  cE Iy .lss 3 g f
  (Aa9 K (G1 K m) a b d e f g h)
  (Ach K d h)
def Jw:R:=
 fE 6 a h fun d=>
 Hc d fun e=>
 G1 K K a b (.int .i64 (-1)) d e (.int .i64 0) h
def T3:Ru K R:=
 some (a,h)
def T5:Ru K R:=
 Bdj d (.int .i64 2) fun e=>
 k3 a b e h
def T2:R:=
 I6 b fun e=>
 T5 K k3 a e d h
def F1(K:Nat):Nat->A3
 | 0=>fun _ _ _ _=>none
 | m+1=>fun a b d h=>
  oE 3 a h fun e=>
  cE Iy .lss 3 d e
  (T2 K (F1 K m) a b d h)
  (T3 K b h)
def K7:R:=(.mk:Sg 0x100102300264e9 [a] h [Jx (F1 K K)]).F
def No:Ru K R:=(.mk:Sg 0x122213e203 [a] h).F
def O4:Ru K R:=(.mk:Sg 0x122213 [a] h).F
def Afj:Ru K R:=
 pkA a b fun d=>
 some (d,h)
def Abt:R:=(.mk:Sg 0x1202200232004321e82a10223e [a,b] h [D7 (Afj K)]).F
def U7:Ru K R:=(.mk:Sg 0x1002200e21153f921007e [a] h [] [cu1 (fun a=>Bo (Dg [(0,1),(1,1),(2,1),(3,1),(4,1)]) [.Al,.int .i64 0,.int .i64 0,.int .i64 0,.bool false] [(1,a)])]).F
def Vf:R:=(.mk:Sg 0x1310003e070200e6284309e [a,b,d] h [Dq (U7 K)]).F
def Md:R:=(.mk:Sg 0x1202330023430015e0322ea2d10220e [a] h [Jx (Vf K)]).F
def Nh:Ru K R:=(.mk:Sg 0x122c021de231fe344204209e9 [a] h).F
def X3:Ru K R:=(.mk:Sg 0x1223023003e [a] h).F
def Ou:R:=(.mk:Sg 0x121002221ce3023003e2101ee00e0023301e [a] h [Dq (X3 K)]).F
def Avu:Ru K R:=(.mk:Sg 0x1002200e2fce921007e2101 [a] h [Dq Arn] [cu1 (fun b=>Bo (Dg [(0,1)]) [.Aev] [(0,b)])]).F
def Au0:R:=(.mk:Sg 0x1310003e070200e6284309e [a,b,d] h [Dq (Avu K)]).F
def Aro:R:=(.mk:Sg 0x1202330023430001322ea2d10220e [a] h [Jx (Au0 K)] [] [] [(.int .i64 4096)]).F
def Gu:Ru K R:=
 pkA a b fun d=>
 some (d,h)
def Gs:R:=(.mk:Sg 0x12022102421015e0c0230135402e2a430be [a,b,d] h [Jx (Jq K),D7 (Gu K)]).F
def Gv:R:=(.mk:Sg 0x12023310245310c000230134403e2a430be [a,b,d] h [Jx (Jq K),Jx (Gs K)]).F
def Gt:R:=(.mk:Sg 0x120233102453102101334d2a430be [a,b,d] h [Dq (fun f=>Jq K f (.int .i64 1) (.int .i64 256)),Jx (Gv K)]).F
def Gx:R:=(.mk:Sg 0x1202331024531015e0c0230132403e2a430be [a,b,d] h [Jx (Jq K),Jx (Gt K)]).F
def Vp:R:=(.mk:Sg 0x1202431024631015e010230141403e2ad0602301204209e9 [a] h [Jx (Jq K),Jx (Gx K)]).F
def Ie:Ru K R:=(.mk:Sg 0x1222101de3023003e1021ee3021de234209e9 [a] h).F
def Pm:R:=(.mk:Sg 0x122251ee231fe08e4407e041021ee0123603e2721120ae231ee9301fea21fed0420ae521ee621fe1021ee80421032e77665606b3021ee231ee343410e211110e0ee209e9 [a] h [Dq (Nh K),builtin TT .min #[3,3]] [] [] [(.int .u64 1)]).F
def Tc:Ru K R:=
 pkA a b fun d=>
 some (d,h)
def Dy:R:=(.mk:Sg 0x12022102521010224e82116e6fae302e2a00223e5220126521c [a,b] h [D7 (Er K),D7 (Tc K)]).F
def Wd:Ru K (Ru r R):=(.mk:Sg 0x1002321627ff3fb17e61c27431f0e872101718e436e5406b200e4111e0ee [a,b,d] h [Dq (fun f=>Bz (List.replicate 4 (.int .i64 0)++List.replicate 64 (.int .u8 0)) 32 68 1 [(0,f)]),c 105]).F
def Aff:Ru K (Ru r (Ru c R)):=
 Bb0 d (.int .i64 1) fun e=>
 k3 a b e h
def Ps:R:=
 pkA e f fun g=>
 ifE g
 (Aff c r K k3 a b d h)
 (Wd c r K a b d h)
def Iv(c:Ai)(r:Ai)(K:Nat):Nat->A3
 | 0=>fun _ _ _ _=>none
 | m+1=>fun a b d h=>
  At0 d (.int .i64 0) fun e=>
  wtE e
  (fE 1 a h fun f=>
  Bb0 d (.int .i64 1) fun g=>
  Aal 68 f g fun i=>
  oE 0 i h fun j=>
  oE 0 b h fun n=>
  At0 j n fun o=>
  Ps c r K (Iv c r K m) a b d e o h)
  (Ps c r K (Iv c r K m) a b d e tU h)
def Agm:R:=(.mk:Sg 0x1254300213e213 [a,b] h [Jx (Iv c r K K)]).F
def Ani:R:=(.mk:Sg 0x17821007e0230123601e213e61300e0232820fe2101236e5312e9 [a,b] h [Dq (Tl K),D7 (Agm c r K)] [] [] [(.int .i64 256)]).F
def Ago:R:=(.mk:Sg 0x12225221261ee2421131013033003e [a,b] h [Dq (fun a=>Jw K a (.int .i64 (-1))),D7 (Vj K),builtin TT .min #[3,3]]).F
def Agz:Ru K R:=
 I6 f fun g=>
 k5 a b d e g h
def Afy:R:=(.mk:Sg 0x198725510251de210164116e [a,b,d,e,f] h [Dq (E3 K),cl5 (Agz K k5)]).F
def Ly(K:Nat):Nat->A5
 | 0=>fun _ _ _ _ _ _=>none
 | m+1=>fun a b d e f h=>
  cE Iy .lss 3 f e
  (Afy K (Ly K m) a b d e f h)
  (Ago K a b h)
def Ig:R:=(.mk:Sg 0x10023004500213e263 [a] h [cl5 (Ly K K)]).F
def Azg:Ru K R:=(.mk:Sg 0x1002200e [a] h).F
def Ayr:Ru K R:=
 I6 e fun f=>
 k4 a b d f h
def Azc:R:=(.mk:Sg 0x1a976420321660c232115101303 [a,b,d,e,f] h [Dq (fun d=>Bz [.Bu] 220 1 1 [(0,d)]),D7 (Ef 220 1),Sx (Ayr K k4)]).F
def Ayh:R:=(.mk:Sg 0x187365510270200e5212e20ce2101 [a,b,d,e] h [Dq (Md K),cl5 (Azc K k4)]).F
def Abu(K:Nat):Nat->A4
 | 0=>fun _ _ _ _ _=>none
 | m+1=>fun a b d e h=>
  cE Iy .lss 3 e d
  (Ayh K (Abu K m) a b d e h)
  (Azg K b h)
def Ayf:R:=
 Bo (Dg [(0,1),(1,1),(2,1),(3,1),(4,1)]) [.Al,(.int .i64 0),(.int .i64 0),(.int .i64 0),(.bool false)] [(1,b),(2,d)] fun e=>
 P9 152 e h fun f h=>
 Abu K K b f a (.int .i64 0) h
def Azf:R:=(.mk:Sg 0x154330003e070200e6286509e [a,b,d,e,f] h [Jx (Ayf K)]).F
def Ava:R:=(.mk:Sg 0x12026545202487652020fe15e0621102e2d20fe2101 [a,b,d] h [Dq (fun a=>Abt K a (.int .i64 512)),D7 (Abt K),cl5 (Azf K)]).F
def J7:R:=(.mk:Sg 0x122251ee231fe512e6410e484010e1021ee3101170ee [a,b] h [Dq (Ou K)]).F
def Ik:R:=(.mk:Sg 0x1706e200206e2005723301e20ae231ee9301fec21fe01e0420ae521ee821fe1021eea04c021de231fe7446043021ee231ee344214264e9 [a] h [D7 (J7 K)]).F
def Lr(K:Nat)(base:Nat)(s:DX)(a:EV)(b:EV)(h:Ab):R:=
 pkA a b fun d=>
 some (d,h)
def P7:R:=
 pkA b d fun e=>
 wtE e
 (olE 3 11 2047 base a s h fun s f=>
 A6d (.int .i64 2) f fun g=>
 olE 2 14 9215 base a s h fun s i=>
 Le 15 1023 base a s fun s=>Q2 6 a h fun j=>
 Js 16 33791 s h (fun h=>(Pm K j h)) fun n h s=>
 A6d i n fun o=>
 Azo g o fun p=>
 Lr K base s e p h)
 (Lr K base s e tU h)
def Ms:R:=
 P9 23 a h fun b h=>
 Wm h fun base s=>
 Le 0 0 base b s fun s=>Q2 6 b h fun d=>
 Js 1 1 s h (fun h=>(Vp K d h)) fun e h s=>
 wtE e
 (Le 3 7 base b s fun s=>Q2 6 b h fun f=>
 Js 4 15 s h (fun h=>(Ie K f h)) fun g h s=>
 olE 2 6 39 base b s h fun s i=>
 Azo g i fun j=>
 P7 K base s b e j h)
 (P7 K base s b e tU h)
def Ayp:Ru K R:=(.mk:Sg 0x1002200e287e9232007e001 [a] h [cl0 Aw7] [cu2 (fun a b=>Bo (Dg [(0,1),(1,1),(2,1),(3,1)]) [.Bu,.Al,.Al,.Alq] [(0,a),(3,b)])]).F
def Ap0:R:=(.mk:Sg 0x13110270200e5212e20ce432301 [a,b,d] h [Jx (Ava K),Dq (Ayp K)]).F
def Ij(K:Nat)(base:Nat)(s:DX)(a:EV)(b:EV)(h:Ab):R:=
 pkA a b fun d=>
 some (d,h)
def T6:R:=
 Wm h fun base s=>
 Le 0 0 base a s fun s=>Q2 6 a h fun b=>
 Js 1 1 s h (fun h=>(K7 K b h)) fun d h s=>
 olE 2 3 4 base a s h fun s e=>
 Azo d e fun f=>
 wtE f
 (olE 3 7 127 base a s h fun s g=>
 A6d (.int .i64 2) g fun i=>
 olE 2 10 575 base a s h fun s j=>
 Le 11 63 base a s fun s=>Q2 6 a h fun n=>
 Js 12 2111 s h (fun h=>(Ik K n h)) fun o h s=>
 A6d j o fun p=>
 Azo i p fun q=>
 Ij K base s f q h)
 (Ij K base s f tU h)
def Bq:R:=
 pkO b d fun e=>
 ifE e
 (some ((.bool false),h))
 (T6 K a h)
def Bx:R:=
 pkO b d fun e=>
 wfE e
 (oE 5 a h fun f=>
 At0 f (.int .i64 64) fun g=>
 Bq K a e g h)
 (Bq K a e tU h)
def Cf:R:=
 pkO b d fun e=>
 wfE e
 (oE 5 a h fun f=>
 Avz f (.int .i64 4) fun g=>
 Bx K a e g h)
 (Bx K a e tU h)
def Cl:R:=
 pkO b d fun e=>
 wfE e
 (oE 4 a h fun f=>
 At0 f (.int .i64 4) fun g=>
 Cf K a e g h)
 (Cf K a e tU h)
def Cr:R:=
 pkO b d fun e=>
 wfE e
 (oE 4 a h fun f=>
 Avz f (.int .i64 0) fun g=>
 Cl K a e g h)
 (Cl K a e tU h)
def C0:R:=
 pkO b d fun e=>
 wfE e
 (oE 3 a h fun f=>
 At0 f (.int .i64 256) fun g=>
 Cr K a e g h)
 (Cr K a e tU h)
def Ds:R:=
 pkO b d fun e=>
 wfE e
 (oE 3 a h fun f=>
 Avz f (.int .i64 1) fun g=>
 C0 K a e g h)
 (C0 K a e tU h)
def D8:R:=
 pkO b d fun e=>
 wfE e
 (oE 2 a h fun f=>
 At0 f (.int .i64 64) fun g=>
 Ds K a e g h)
 (Ds K a e tU h)
def Eo:R:=
 pkO b d fun e=>
 wfE e
 (oE 2 a h fun f=>
 Avz f (.int .i64 4) fun g=>
 D8 K a e g h)
 (D8 K a e tU h)
def Fq:R:=
 pkO b d fun e=>
 wfE e
 (oE 1 a h fun f=>
 At0 f (.int .i64 64) fun g=>
 Eo K a e g h)
 (Eo K a e tU h)
def Ht:R:=
 pkO b d fun e=>
 wfE e
 (oE 1 a h fun f=>
 Avz f (.int .i64 1) fun g=>
 Fq K a e g h)
 (Fq K a e tU h)
def Hz:R:=
 P9 114 a h fun b h=>
 oE 0 b h fun d=>
 Avz d (.int .i64 3) fun e=>
 wfE e
 (oE 0 b h fun f=>
 At0 f (.int .i64 8) fun g=>
 Ht K b e g h)
 (Ht K b e tU h)
def Aye:Ru K R:=(.mk:Sg 0x1002200e [a] h).F
def Ayk:Ru K R:=
 I6 e fun f=>
 k4 a b d f h
def Ayt:R:=(.mk:Sg 0x1a976420321666c232115101363 [a,b,d,e,f] h [Dq (fun d=>Bz [.Bu] 199 1 1 [(0,d)]),D7 (Ef 199 1),Sx (Ayk K k4)]).F
def Ayw:R:=(.mk:Sg 0x198376510270200e5212e20ce2101214 [a,b,d,e] h [Dq (Aro K),cl5 (Ayt K k4)]).F
def Abi(K:Nat):Nat->A4
 | 0=>fun _ _ _ _ _=>none
 | m+1=>fun a b d e h=>
  cE Iy .lss 3 e d
  (Ayw K (Abi K m) a b d e h)
  (Aye K b h)
def Ayn:R:=(.mk:Sg 0x1002364005042b8e921007e265 [a] h [Sx (Abi K K)] [cu1 (fun b=>Bo (Dg [(0,6),(6,1)]) [.int .i64 0,.int .i64 0,.int .i64 0,.int .i64 0,.int .i64 0,.int .i64 0,.Al] [(0,b)])]).F
def Aj4:R:=(.mk:Sg 0x1511009e070200e62820fe2101265209e9 [a] h [Dq (Ms K),Dq (Ayn K)]).F
def Asp:R:=(.mk:Sg 0x1002200e276e9818e2a5675007e22211618e21002e57565504b5f2e5502b365301b0ee [a,b,d,e] h [Dq (Dp K),D7 (Vs [.int .i64 0] 3)] [cu5 (fun a f g e n=>Bo (Dg [(0,1),(1,6),(7,256),(263,1),(264,1),(265,1),(266,1),(267,1)]) ([.Bu]++List.replicate 6 (.int .i64 0)++List.replicate 256 (.int .u32 0)++[.Bu]++[.Al]++List.replicate 3 (.int .i64 0)) [(0,a),(1,f),(2,g),(3,e),(4,n),(5,.int .i64 (-1)),(6,.int .i64 (-1))])]).F
def Qq(K:Nat)(base:Nat)(s:DX)(a:EV)(b:EV)(d:EV)(e:EV)(f:EV)(g:EV)(h:Ab):R:=
 pkO f g fun i=>
 ifE i
 (some (.tuple [.Bu,(.int .i64 20)],h))
 (Asp K a b d e h)
def Aay:R:=
 pkO f g fun i=>
 wfE i
 (Js 12 4095 s h (fun h=>(Db K a h)) fun j h s=>
 Js 13 8191 s h (fun h=>(O4 K j h)) fun n h s=>
 olE 2 15 18431 base b s h fun s o=>
 A0u n o fun p=>
 Qq K base s a b d e i p h)
 (Qq K base s a b d e i tU h)
def Ags:R:=
 P9 23 b h fun e h=>
 P9 119 d h fun f h=>
 Q2 6 e h fun g=>
 Am (Aj4 K g h) fun i h=>
 x2E i fun j n=>
 Wm h fun base s=>
 Ko Aoa (bin TT .neq 35) n (.int .i64 0) fun o=>
 wfE o
 (Js 4 15 s h (fun h=>(Db K a h)) fun p h s=>
 Js 5 31 s h (fun h=>(No K p h)) fun q h s=>
 Le 6 7 base e s fun s=>Q2 6 e h fun t=>
 Js 7 127 s h (fun h=>(Dp K t h)) fun u h s=>
 A0u q u fun w=>
 Aay K base s a e f j o w h)
 (Aay K base s a e f j o tU h)
end
variable{K d:Nat}(H:Bw disp)
include H
theorem G7(hd:1<=d):R1 disp K d 13 (Dc K):=fun _=>rl H hd
theorem Ew(hd:1<=d):R1 disp K d 15 (Dp K):=fun _=>rl H hd
theorem Hl(hd:1<=d):R1 disp K d 17 (Cm K):=fun _=>rl H hd
theorem Jy(hd:1<=d):R1 disp K d 22 (E8 K):=fun _=>rl H hd
theorem Iq(hd:1<=d):R1 disp K d 34 (Db K):=fun _=>rl H hd
theorem Al6(hd:1<=d):R1 disp K d 36 (Lp K):=fun _=>rl H hd
theorem Anw(hd:1<=d):R1 disp K d 37 (J3 K):=fun _=>rl H hd
theorem Ami(hd:1<=d):R1 disp K d 38 (L6 K):=fun _=>rl H hd
theorem An4(hd:1<=d):R1 disp K d 54 (Rt K):=fun _=>rl H hd
theorem Anx(hd:1<=d):R1 disp K d 58 (Ry K):=fun _=>rl H hd
theorem Fu(hd:2<=d):R2 disp K d 76 (Er K):=fun _ _=>rl H hd fun d hd=>V1 (Ew H) hd<|rfl
theorem Acy(hd:1<=d):R3 disp K d 83 (Jq K):=fun _ _ _=>rl H hd
theorem Aqx(hd:1<=d):R1 disp K d 104 (Tl K):=fun _=>rl H hd
theorem Kg(hd:1<=d):R1 disp K d 122 (E3 K):=fun _=>rl H hd
theorem Art(hd:2<=d):R2 disp K d 123 (Vj K):=fun _ _=>rl H hd fun d hd=>V1 (Kg H) hd<|rfl
theorem Zd(hd:2<=d):R2 disp K d 124 (Jw K):=fun _ _=>ll H hd (fun d hd=>V1 (Kg H) hd<|rfl) 51 (e6 (G1 K) 0 1 5 11 12 13)
theorem Agd(hd:1<=d):R1 disp K d 129 (K7 K):=fun _=>ll H hd (fun _ _=>rfl) 51 (e3 (F1 K) 1 3 4)
theorem Zm(hd:1<=d):R1 disp K d 132 (No K):=fun _=>rl H hd
theorem Abw(hd:1<=d):R1 disp K d 133 (O4 K):=fun _=>rl H hd
theorem Azy(hd:1<=d):R2 disp K d 154 (Abt K):=fun _ _=>rl H hd
theorem Ahb(hd:1<=d):R1 disp K d 155 (Md K):=fun _=>rl H hd
theorem Zp(hd:1<=d):R1 disp K d 184 (Nh K):=fun _=>rl H hd
theorem Alg(hd:1<=d):R1 disp K d 188 (Ou K):=fun _=>rl H hd
theorem A33(hd:1<=d):R1 disp K d 189 (Aro K):=fun _=>rl H hd
theorem Ar0(hd:2<=d):R1 disp K d 190 (Vp K):=fun _=>rl H hd fun d hd=>V3 (Acy H) hd<|rfl
theorem Un(hd:1<=d):R1 disp K d 191 (Ie K):=fun _=>rl H hd
theorem Amf(hd:2<=d):R1 disp K d 192 (Pm K):=fun _=>rl H hd fun d hd=>V1 (Zp H) hd<|rfl
theorem Ei(hd:3<=d):R2 disp K d 16 (Dy K):=fun _ _=>rl H hd fun d hd=>V2 (Fu H) hd<|rfl
theorem Ar6(hd:1<=d):S2 disp K d 46 Ani:=fun _ _=>ld rfl rfl H (V1 (Aqx H) hd<|rfl) 55 (fun c r=>e3 (Iv c r K) 0 3 5)
theorem Adi(hd:3<=d):R1 disp K d 56 (Ig K):=fun _=>ll H hd (fun d hd=>V2 (Zd H) hd<|V2 (Art H) hd<|V1 (Kg H) hd<|rfl) 51 (e5 (Ly K) 0 3 9 10 11)
theorem A6s(hd:2<=d):R3 disp K d 90 (Ava K):=fun _ _ _=>ll H hd (fun d hd=>V2 (Azy H) hd<|V1 (Ahb H) hd<|rfl) 103 (e4 (Abu K) 1 8 23 24)
theorem Aa8(hd:2<=d):R1 disp K d 130 (Ik K):=fun _=>rl H hd fun d hd=>V1 (Alg H) hd<|rfl
theorem Uk(hd:3<=d):R1 disp K d 134 (Ms K):=fun _=>rl H hd fun d hd=>V1 (Ar0 H) hd<|V1 (Un H) hd<|V1 (Amf H) hd<|rfl
theorem A7i(hd:3<=d):R3 disp K d 43 (Ap0 K):=fun _ _ _=>rl H hd fun d hd=>V3 (A6s H) hd<|rfl
theorem Agh(hd:3<=d):R1 disp K d 61 (Hz K):=fun _=>rl H hd fun d hd=>V1 (Agd H) hd<|V1 (Aa8 H) hd<|rfl
theorem A7m(hd:4<=d):R1 disp K d 131 (Aj4 K):=fun _=>ll H hd (fun d hd=>V1 (Uk H) hd<|V1 (A33 H) hd<|rfl) 103 (e4 (Abi K) 1 4 14 15)
theorem A0e(hd:5<=d):R3 disp K d 62 (Ags K):=fun _ _ _=>rl H hd fun d hd=>V1 (A7m H) hd<|V1 (Iq H) hd<|V1 (Zm H) hd<|V1 (Ew H) hd<|V1 (Abw H) hd<|rfl
end
end
noncomputable section
section
variable (c r:Ai)(K l:Nat)(k0:A0)(k1:A1)(k2:A2)(k3:A3)(k4:A4)(k5:A5)(k6:A6)(k7:A7)(k8:A8)(k9:A9)(k10:A10)(k11:A11)(k12:A12)(m0:B0)(m1:B1)(m2:B2)(m3:B3)(m4:B4)(m5:B5)(m6:B6)(m7:B7)(m8:B8)(m9:B9)(m10:B10)(m11:B11)(m12:B12)(base:Nat)(s:DX)(tm:Bb)(a b d e f g i j n o p q t u w x y z aa ab ad ae af ag ai aj an ao ap aq au aw ax ay az ba bb bd be bf bg bi bj bn bo bp bq bt bu bw bx bz da db dd de df dg di dj dn dp dq dt du dw dx dy dz ea eb ed ee ef eg ei ej en eo ep eq et eu ew ex ey ez fa fb fd fe ff fg fi fj fn fo fp fq ft fu fw fx fy fz ga gb gd ge gf gg gi gj gn go gp gq gt gu gw gx gy gz ia ib ie ig ii ij io ip iq it iu iw ix iy iz ja jb:EV)(h:Ab)(ds:List Nat)
def Ll:Ru K R:=(.mk:Sg 0x1203040304e4fde33fce32fbe3 [a] h).F
def Ac1:Ru K R:=(.mk:Sg 0x122213 [a] h).F
def Ab2:Ru K R:=
 P9 49 a h fun d h=>
 P9 3 b h fun e h=>
 some ((.func 80 [] [d,e]),h)
def Am0:Ru K R:=(.mk:Sg 0x100027e71204e276626542615e263 [a,b,d] h).F
def Acu:R:=(.mk:Sg 0x154330003e0027e61204e26660007e01e286509e [a,b,d,e,f] h [Jx (Am0 K)] [cu0 (Bo (Dg [(0,1),(1,1),(2,1),(3,1),(4,1),(5,1)]) [.int .i64 0,.int .i64 0,.int .i64 0,.int .i64 0,.int .i64 0,.int .i64 0] [])]).F
def Hr:R:=(.mk:Sg 0x1202354500256875002723e213e46302e2d00420e027e05e [a,b] h [cl5 (Acu K)] [] [[.int .i64 0,.int .i64 0,.int .i64 0,.int .i64 0,.int .i64 0,.int .i64 0]]).F
def Aky:Ru K R:=(.mk:Sg 0x12242116e273 [a,b] h).F
def Aar:R:=(.mk:Sg 0x1432000023285409e [a,b,d,e] h [D7 (Aky K)]).F
def Ld:R:=(.mk:Sg 0x12024340025764002623e213e37301e2d00320e [a,b] h [Sx (Aar K)]).F
def Amm:Ru K R:=
 P9 23 a h fun d h=>
 P9 3 b h fun e h=>
 some ((.func 82 [] [e,d]),h)
def Bj:Ru K R:=(.mk:Sg 0x122203 [a] h).F
def J5:Ru K R:=(.mk:Sg 0x1000e5021624c [a] h).F
def Yn:Ru K (Ru r (Ru c R)):=(.mk:Sg 0x100047e31204e2312e6312e5 [a,b] h).F
def Xf:R:=(.mk:Sg 0x1432000ee0047e41204e2412e60007e01e28540be [a,b,d,e] h [D7 (Yn c r K)] [cu0 (Bo (Mg 1) (List.replicate 32 (.int .u8 0)) [])]).F
def Aij:R:=(.mk:Sg 0x12026541024874100ee0215e702e4320104e2a30620e [a,b,d,e,f] h [c 71,Sx (Xf c r K)]).F
def Ahj:R:=(.mk:Sg 0x142ba95104047ec1204e2c12e60007e00e312e5212e624ff3fb17e047e05ea18e421ae20ce232011e57665604b273011e0ee [a,b,d,e] h [c 106,cl5 (Aij c r K)] [cu0 (Bo (Mg 1) (List.replicate 32 (.int .u8 0)) [])] [List.replicate 32 (.int .u8 0)]).F
def Rz:R:=(.mk:Sg 0x1765440010e0047e71204e2712e60007e01e3023701e6048047e61204e2612e60007e00e288709e [a,b,d,e,f,g,i] h [Sx (Ahj c r K)] [cu0 (Bo (Mg 1) (List.replicate 32 (.int .u8 0)) [])]).F
def Aoy:R:=(.mk:Sg 0x1202438a97102465acb71000224e30403e2d00315e802e327e1606e20ce52201323047e05e [a,b] h [D7 (Hr K),cl7 (Rz c r K)] [] [List.replicate 32 (.int .u8 0),[.int .i64 0,.int .i64 0,.int .i64 0,.int .i64 0,.int .i64 0,.int .i64 0]]).F
def Asr:Ru K R:=(.mk:Sg 0x147e31104e2312e6312e5 [a,b] h).F
def Asb:Ru K R:=
 I6 e fun f=>
 k4 a b d f h
def Asw:R:=
 Axi 32 1 d e fun f=>
 stE 1 f a h fun h=>
 Asb K k4 a b d e h
def Vi(K:Nat):Nat->A4
 | 0=>fun _ _ _ _ _=>none
 | m+1=>fun a b d e h=>
  cE Iy .lss 3 e (.int .i64 32)
  (Asw K (Vi K m) a b d e h)
  (Asr K b d h)
def Al0:R:=(.mk:Sg 0x100234400047e05e047e05e [a] h [Sx (Vi K K)] [] [List.replicate 32 (.int .u8 0)]).F
def Ayg:Ru K R:=
 some (a,h)
def Ay6:Ru K R:=
 I6 b fun d=>
 k2 a d h
def Ay4:R:=(.mk:Sg 0x1652004226522319e31c0007e [a,b] h [D7 (Ay6 K k2)] [cu0 (Bo (Dg [(0,1),(1,1)]) [.int .i64 0,.int .i64 0] [(0,.int .i64 (-1)),(1,.int .i64 (-1))])]).F
def Td(K:Nat):Nat->A2
 | 0=>fun _ _ _=>none
 | m+1=>fun a b h=>
  cE Iy .lss 3 b (.int .i64 3)
  (Ay4 K (Td K m) a b h)
  (Ayg K a h)
def Aoo:R:=(.mk:Sg 0x10022002c6e921007e [a] h [D7 (Td K K)] [cu1 (fun a=>Bo (Dg [(0,1),(1,6)]) [.Bu,.int .i64 0,.int .i64 0,.int .i64 0,.int .i64 0,.int .i64 0,.int .i64 0] [(0,a)])]).F
def Aor:Ru K R:=(.mk:Sg 0x122274e926544007e23555ae9 [a,b,d,e] h [] [cu4 (fun a b d g=>Bo (Dg [(0,1),(1,1),(2,1),(3,3),(6,1)]) [.Bu,.Bu,.Bu,.int .i64 0,.int .i64 0,.int .i64 0,.bool false] [(0,a),(1,b),(2,d),(3,g)])]).F
def Aia:Ru K (Ru r R):=(.mk:Sg 0x12232201 [a,b] h [c 139]).F
def Aim:R:=(.mk:Sg 0x143210222212e2101 [a,b] h [c 126,D7 (Aia c r K)]).F
def R7:R:=
 pkO e f fun g=>
 ifE g
 (some (d,h))
 (Aim c r K a b h)
def Apq:R:=(.mk:Sg 0x1202498510246ba51010225e30401e2d00315e802e327e0606e20ce42201223 [a,b] h [D7 (Hr K),cl5 (R7 c r K)] [] [[.int .i64 0,.int .i64 0,.int .i64 0,.int .i64 0,.int .i64 0,.int .i64 0]]).F
def Ana:Ru r R:=(.mk:Sg 0x12221112101203 [a] h [Dq (Bj K),c 140]).F
def Agg:Ru K (Ru r R):=(.mk:Sg 0x1222101 [a] h [c 73]).F
def Afl:Ru K (Ru r (Ru c R)):=
 I6 e fun f=>
 k4 a b d f h
def Aga:R:=(.mk:Sg 0x17654410222212e2320153116e [a,b,d,e] h [c 139,Sx (Afl c r K k4)]).F
def Lo(c:Ai)(r:Ai)(K:Nat):Nat->A4
 | 0=>fun _ _ _ _ _=>none
 | m+1=>fun a b d e h=>
  cE Iy .lss 3 e d
  (Aga c r K (Lo c r K m) a b d e h)
  (Agg c r K a h)
def Af5:R:=(.mk:Sg 0x100234410213e32201 [a,b] h [c 144,Sx (Lo c r K K)]).F
def Anb:R:=(.mk:Sg 0x15421003e0232820fe32201 [a,b] h [c 21,D7 (Af5 c r K)]).F
def Ajk:Ru K R:=
 P9 43 a h fun b h=>
 some ((.func 146 [] [b]),h)
def Ag0:Ru K R:=
 P9 45 a h fun b h=>
 some ((.func 148 [] [b]),h)
def Cd:Ru K R:=(.mk:Sg 0x109e41104e246626531c009e05e [a] h [] [] [[.int .i64 0,.int .i64 0,.int .i64 0,.int .i64 0,.int .i64 0,.int .i64 0]]).F
def Ed:Ru K R:=(.mk:Sg 0x109e41104e246626530c009e05e [a] h [] [] [[.int .i64 0,.int .i64 0,.int .i64 0,.int .i64 0,.int .i64 0,.int .i64 0]]).F
def F6:Ru K R:=(.mk:Sg 0x169e41104e24f2e62f2e537c069e05e [a] h [] [] [List.replicate 256 (.int .u32 0)]).F
def Aaj:Ru K (Ru r (Ru c R)):=(.mk:Sg 0x15027e31204e2366365 [a,b,d] h).F
def O7:R:=(.mk:Sg 0x13200e3109806e3105021603e6c42162214e01e3c20ae224c3c12e0fe0315e701e8705e31042162214e01e3c20ae224c3c0ae00315e701e42662bffff5f06e17e027e05e05e18e20ce2467407fff4f01e723c004f00e210e63c21e03f9110e43c418e5404b273011e0ee [a,b,d] h [c 185,Jx (Aaj c r K)] [] [[.int .i64 0,.int .i64 0,.int .i64 0,.int .i64 0,.int .i64 0,.int .i64 0]]).F
def Ala:R:=(.mk:Sg 0x15433004021626c [a,b,d] h [Jx (O7 c r K)]).F
def Asl:R:=(.mk:Sg 0x13453204563100fe0027e51204e25660007e01e212e3027e51204e25660007e00e0ee0215e701e510123e28463027e05e3bde9 [a,b] h [c 73,Jx (Ala c r K),Jx (O7 c r K)] [cu0 (Bo (Dg [(0,1),(1,1),(2,1),(3,1),(4,1),(5,1)]) [.int .i64 0,.int .i64 0,.int .i64 0,.int .i64 0,.int .i64 0,.int .i64 0] [])] [[.int .i64 0,.int .i64 0,.int .i64 0,.int .i64 0,.int .i64 0,.int .i64 0]]).F
def Ay8:Ru K R:=
 pkA a b fun d=>
 some (d,h)
def Apf:R:=(.mk:Sg 0x12022002320060320e92a00223e [a] h [D7 (Ay8 K)]).F
def Vx:Ru K R:=
 pkO a b fun d=>
 some (d,h)
def Qc:R:=(.mk:Sg 0x1202220262207224e72211210130306e2d01424e [a,b,d] h [Dq (Cd K),D7 (Er K),D7 (Vx K)] [] [] [(.int .i64 (-1))]).F
def Gk:Ru K R:=(.mk:Sg 0x107e0200230023701e201ae42201203 [a,b] h [D7 A2j]).F
def Aam:Ru K R:=
 pkA a b fun d=>
 some (d,h)
def U3:R:=(.mk:Sg 0x1202210262102720e21007e210130305e2a00323e [a,b] h [Dq (Cd K),D7 (Aam K)] [cu1 (fun f=>Vu 3 false 0 f)]).F
def Aee:Ru K (Ru r (Ru c R)):=(.mk:Sg 0x1002200e [a] h).F
def Ado:R:=(.mk:Sg 0x121000fe02200e53023301e [a] h [Dq (Aee c r K)]).F
def Adt:R:=(.mk:Sg 0x16120200200e5212e21112101203 [a,b] h [Dq (Bj K),c 140,Dq (Ado c r K)]).F
def Uz:Ru K (Ru r (Ru c R)):=
 I6 e fun f=>
 k4 a b d f h
def Ad8:R:=(.mk:Sg 0x16432400724340040ae958 [a,b,d,e,f] h [Sx (Uz c r K k4)]).F
def Aeg:R:=(.mk:Sg 0x193876510200200e5212e20ce263301345 [a,b,d,e] h [c 195,cl5 (Ad8 c r K k4)]).F
def H5(c:Ai)(r:Ai)(K:Nat):Nat->A4
 | 0=>fun _ _ _ _ _=>none
 | m+1=>fun a b d e h=>
  cE Iy .lss 3 e (.int .i64 3)
  (Aeg c r K (H5 c r K m) a b d e h)
  (Adt c r K a d h)
def Ad0:R:=
 H5 c r K K a b (.int .i64 0) (.int .i64 0) h
def Oh(c:Ai)(r:Ai)(K:Nat)(base:Nat)(s:DX)(a:EV)(b:EV)(d:EV)(e:EV)(h:Ab):R:=
 pkO d e fun f=>
 ifE f
 (some (.tuple [(.int .i64 0),(.int .i64 10)],h))
 (Ad0 c r K a b h)
def Akg:R:=
 P9 163 b h fun d h=>
 Wm h fun base s=>
 Le 0 0 base d s fun s=>Q2 4 d h fun e=>
 Js 1 1 s h (fun h=>(c 159 [e] h)) fun f h s=>
 Aq5 f fun g=>
 wfE g
 (olE 3 5 31 base d s h fun s i=>
 Js 6 63 s h (fun h=>(Ed K i h)) fun j h s=>
 Aod 0 10 911 base a s h fun s n=>
 Js 11 2047 s h (fun h=>(Cd K n h)) fun o h s=>
 Ko Aoa (bin TT .neq 23) j o fun p=>
 Oh c r K base s a d g p h)
 (Oh c r K base s a d g tU h)
def Ya:Ru K (Ru r (Ru c R)):=
 pkA a b fun d=>
 some (d,h)
def Aqj:R:=(.mk:Sg 0x12022202522000224e5221132303e2a32201 [a,b] h [c 21,D7 (Ld K),D7 (Ya c r K)]).F
def Ack:Ru K (Ru r (Ru c R)):=(.mk:Sg 0x1002 [] h).F
def Ab1:R:=(.mk:Sg 0x10100ee0230ee0215e701e42201203 [a,b] h [c 197,cl0 (Ack c r K)]).F
def Aje:R:=(.mk:Sg 0x1652402220ee0215e701e2282231212150300e00215e701e522112101203 [a,b] h [Dq (Bj K),c 196,Dq (Cm K),c 67,D7 (Ab1 c r K)]).F
def Uq(c:Ai)(r:Ai)(K:Nat)(tm:Bb)(a:EV)(h:Ab)(ds:List Nat):R:=
 Fy a h fun b=>
 uwE b h ds
def Aj3:R:=
 (fun(tm:Bb) (ds:List Nat)=>
 Ax0 (.cells [.Al] 28) h fun d h=>
 Ars a fun e=>
 Ag8 2 e fun f=>
 Fy f h fun g=>
 Am (Ab2 K g b h) fun i h=>
 Uv c TT 144 19 0 i ((((((((tm.put 4 (some .Al)).put 5 (some d)).put 7 (some a)).put 8 (some e)).put 9 (some f)).put 10 (some g)).put 11 (some b)).put 12 (some i)) h ds (fun h ds=>
 Uq c r K ((((((((tm.put 4 (some .Al)).put 5 (some d)).put 7 (some a)).put 8 (some e)).put 9 (some f)).put 10 (some g)).put 11 (some b)).put 12 (some i)) d h ds) (fun id h ds=>
 Ax (Nat.beq 0 id) (Uq c r K ((((((((tm.put 4 (some .Al)).put 5 (some d)).put 7 (some a)).put 8 (some e)).put 9 (some f)).put 10 (some g)).put 11 (some b)).put 12 (some i)) d h ds) (none)) (fun h ds=>
 Fi ds h fun h=>some (.Al,h))) ((Tr.nil.put 0 (some a)).put 1 (some b)) []
def Wv:Ru K (Ru r (Ru c R)):=(.mk:Sg 0x1020251623211410120de [a,b] h [Dq (fun b=>Bz [.int .i64 0] 3 1 1 [(0,b)]),D7 (Ef 3 1),cl0 (V6 l true .ready none)]).F
def Adc:R:=
 Et l h fun h=>Wv c r K l a b h
def Ahf:Ru K (Ru r R):=(.mk:Sg 0x1250200e32201 [a,b] h [c 74]).F
def Ait:R:=(.mk:Sg 0x1232100040200e60123701e2101 [a] h [c 28,D7 (Ahf c r K)] [] [] [(.int .i64 (-1))]).F
def Aqn:R:=(.mk:Sg 0x13120250200e31119282101 [a] h [c 198,c 73,Dq (Ait c r K)]).F
def Acr:Ru K R:=
 P9 199 a h fun b h=>
 some ((.func 199 [] [b]),h)
def Kc:Ru K (Ru r (Ru c R)):=
 I6 d fun e=>
 k3 a b e h
def Uc(c:Ai)(r:Ai)(K:Nat)(k3:A3)(k5:A5)(a:EV)(b:EV)(d:EV)(e:EV)(f:EV)(h:Ab):R:=
 I6 f fun g=>
 k5 a b d e g h
def Ia:R:=
 pkA g i fun j=>
 ifE j
 (some (.tuple [],h))
 (Uc c r K k3 k5 a b d e f h)
def Aeq:R:=(.mk:Sg 0x12028765471024a987671020fe3420103e2a01225e652007e [a,b,d,e,f] h [D7 (fun a g=>Rf c r a [g]),cl7 (Ia c r K k3 k5)] [cu2 (fun e f=>Azl 2 1 false 1 e f)] [] [(.int .i64 (-1))]).F
def El(c:Ai)(r:Ai)(K:Nat)(k3:A3):Nat->A5
 | 0=>fun _ _ _ _ _ _=>none
 | m+1=>fun a b d e f h=>
  cE Iy .lss 3 f (.int .i64 2)
  (Aeq c r K k3 (El c r K k3 m) a b d e f h)
  (Kc c r K k3 a b d h)
def Adx:R:=(.mk:Sg 0x1002987500232107e3142042c3e0206e432007e [a,b,d] h [cl5 (El c r K k3 K)] [cu2 (fun b d=>Azl 3 2 true 2 b d),cu2 (fun g i=>Bo (Mg 1) [.int .i64 0,.int .i64 0] [(0,g),(1,i)])] [[.int .i64 0,.int .i64 0]]).F
def F4(c:Ai)(r:Ai)(K:Nat):Nat->A3
 | 0=>fun _ _ _ _=>none
 | m+1=>fun a b d h=>
  cE Iy .lss 3 d (.int .i64 3)
  (Adx c r K (F4 c r K m) a b d h)
  (some (.tuple [],h))
def Aka:R:=(.mk:Sg 0x1002530026521c30de [a,b] h [Jx (F4 c r K K)]).F
abbrev V7(K:Nat)(c:Ai):Ai:=c
def E5:Ru K R:=
 P9 141 a h fun b h=>
 some ((.func 201 [] [b]),h)
def Eb:Ru K R:=(.mk:Sg 0x122233 [a] h).F
def Z0:Ru K R:=
 some (a,h)
def Q0:Ru K R:=
 I6 e fun f=>
 k4 a b d f h
def Zj:R:=(.mk:Sg 0x17654410876241040ae91023701e210153116e [a,b,d,e] h [Dq (Eb K),Sx (Q0 K k4)]).F
def Ip(K:Nat):Nat->A4
 | 0=>fun _ _ _ _ _=>none
 | m+1=>fun a b d e h=>
  cE Iy .lss 3 e d
  (Zj K (Ip K m) a b d e h)
  (Z0 K a h)
def Pz:R:=(.mk:Sg 0x1002300400213e203 [a] h [Sx (Ip K K)]).F
def Sr:Ru K R:=(.mk:Sg 0x1000e000e321627ff3fb17e56115e02e21de20de271e7b23115ea02e5210ea73711e0ee321627ff3fb17e56115ea21de20de271e7b23115e402e5110e473711e0ee3ce1023701e204327e9 [a,b,d] h).F
def Ahh:Ru K (Ru r (Ru c R)):=(.mk:Sg 0x1402 [] h).F
def Aiu:Ru K (Ru r (Ru c R)):=
 I6 d fun e=>
 k3 a b e h
def Ai2:R:=(.mk:Sg 0x154331050232842201 [a,b,d] h [c 142,Jx (Aiu c r K k3)]).F
def Nd(c:Ai)(r:Ai)(K:Nat):Nat->A3
 | 0=>fun _ _ _ _=>none
 | m+1=>fun a b d h=>
  cE Iy .lss 3 d b
  (Ai2 c r K (Nd c r K m) a b d h)
  (Ahh c r K h)
def Aqo:R:=(.mk:Sg 0x1002532021112101203 [a] h [Dq (Cd K),Dq (Dp K),Jx (Nd c r K K)]).F
def Fs:Ru K (Ru r (Ru c R)):=
 I6 e fun f=>
 k4 a b d f h
def Fp:R:=(.mk:Sg 0x1ba98410000e22820fe296301265227e0606e26553615e [a,b,d,e] h [Jx (fun a e j=>Rf c r a [e,j]),Sx (Fs c r K k4)] [] [[.int .i64 0,.int .i64 0,.int .i64 0,.int .i64 0,.int .i64 0,.int .i64 0]]).F
def Ci(c:Ai)(r:Ai)(K:Nat):Nat->A4
 | 0=>fun _ _ _ _ _=>none
 | m+1=>fun a b d e h=>
  cE Iy .lss 3 e d
  (Fp c r K (Ci c r K m) a b d e h)
  (some (.tuple [],h))
def Gf:R:=(.mk:Sg 0x100234400213e30de [a,b] h [Sx (Ci c r K K)]).F
end
variable{K d:Nat}(H:Bw disp)
include H
theorem Aly(hd:1<=d):R1 disp K d 14 (Ll K):=fun _=>rl H hd
theorem Arz(hd:1<=d):R1 disp K d 19 (Ac1 K):=fun _=>rl H hd
theorem Anc(hd:1<=d):R2 disp K d 23 (Ab2 K):=fun _ _=>rl H hd
theorem Gz(hd:1<=d):R2 disp K d 24 (Hr K):=fun _ _=>rl H hd
theorem Xb(hd:1<=d):R2 disp K d 25 (Ld K):=fun _ _=>rl H hd
theorem Axr(hd:1<=d):R2 disp K d 26 (Amm K):=fun _ _=>rl H hd
theorem Dn(hd:1<=d):R1 disp K d 33 (Bj K):=fun _=>rl H hd
theorem Zc(hd:1<=d):R1 disp K d 35 (J5 K):=fun _=>rl H hd
theorem At2(hd:1<=d):S2 disp K d 47 Aoy:=fun _ _=>rd rfl rfl H (V2 (Gz H) hd<|rfl)
theorem A1a(hd:1<=d):R1 disp K d 60 (Al0 K):=fun _=>ll H hd (fun _ _=>rfl) 51 (e4 (Vi K) 0 2 3 5)
theorem A7j(hd:1<=d):R1 disp K d 65 (Aoo K):=fun _=>ll H hd (fun _ _=>rfl) 51 (e2 (Td K) 3 8)
theorem A59(hd:1<=d):R4 disp K d 68 (Aor K):=fun _ _ _ _=>rl H hd
theorem Auh(hd:1<=d):S2 disp K d 71 Apq:=fun _ _=>rd rfl rfl H (V2 (Gz H) hd<|rfl)
theorem Ar2(hd:1<=d):S1 disp K d 72 Ana:=fun _=>rd rfl rfl H (V1 (Dn H) hd<|rfl)
theorem Ary(hd:0<=d):S2 disp K d 74 Anb:=fun _ _=>ld rfl rfl H rfl 51 (fun c r=>e4 (Lo c r K) 0 14 15 16)
theorem Aw6(hd:1<=d):R1 disp K d 77 (Ajk K):=fun _=>rl H hd
theorem Aum(hd:1<=d):R1 disp K d 78 (Ag0 K):=fun _=>rl H hd
theorem Cw(hd:1<=d):R1 disp K d 79 (Cd K):=fun _=>rl H hd
theorem Fg(hd:1<=d):R1 disp K d 88 (Ed K):=fun _=>rl H hd
theorem Wt(hd:1<=d):R1 disp K d 95 (F6 K):=fun _=>rl H hd
theorem Awv(hd:0<=d):S2 disp K d 127 Asl:=fun _ _=>rd rfl rfl H rfl
theorem Awu(hd:1<=d):R1 disp K d 135 (Apf K):=fun _=>rl H hd
theorem Ar4(hd:3<=d):R3 disp K d 136 (Qc K):=fun _ _ _=>rl H hd fun d hd=>V1 (Cw H) hd<|V2 (Fu H) hd<|rfl
theorem Uw(hd:1<=d):R2 disp K d 137 (Gk K):=fun _ _=>rl H hd
theorem Ahv(hd:2<=d):R2 disp K d 138 (U3 K):=fun _ _=>rl H hd fun d hd=>V1 (Cw H) hd<|rfl
theorem Apk(hd:1<=d):S2 disp K d 141 Akg:=fun _ _=>ld rfl rfl H (V1 (Fg H) hd<|V1 (Cw H) hd<|V1 (Dn H) hd<|rfl) 103 (fun c r=>e4 (H5 c r K) 0 3 6 25)
theorem Auk(hd:1<=d):S2 disp K d 142 Aqj:=fun _ _=>rd rfl rfl H (V2 (Xb H) hd<|rfl)
theorem Aok(hd:1<=d):S2 disp K d 143 Aje:=fun _ _=>rd rfl rfl H (V1 (Dn H) hd<|V1 (Hl H) hd<|rfl)
theorem Aos(hd:1<=d):S2 disp K d 144 Aj3:=fun _ _=>rd rfl rfl H (V2 (Anc H) hd<|rfl)
theorem Ak3(hd:1<=d){l:Nat}(tm:Bb)(h:Ab)(v:EV){st:LoopState}{p:Option Code}(A:h.get l=some (.loop st p 144 19 tm [13] (Ek TT 144 0).2.2.1 (Ek TT 144 0).2.2.2 d0)):
 Ag TT disp K (d+1) true l [v] h=Adc (Ag TT disp K d false) (Ag TT disp K d true) K l (tmp tm 5) v h:=rr rfl rfl (rfl) A rfl (by kernel_rfl)
theorem Att(hd:0<=d):S1 disp K d 145 Aqn:=fun _=>rd rfl rfl H rfl
theorem Ar3(hd:1<=d):R1 disp K d 147 (Acr K):=fun _=>rl H hd
omit H in
theorem An3(c r:Ai)(K:Nat)(A:EV->EV->EV->Ab->R)(m:Nat):lpB false (V7 K c) c r K 148 1637 [(2,fun v tm h ds=>Kc c r K A (v 0) (v 10) (v 11) h),(1,fun v tm h ds=>Kc c r K A (v 0) (v 10) (v 11) h),(0,Afu false TT 148)] m=(fun m v tm h ds=>El c r K A m (v 0) (v 10) (v 11) (v 18) (v 19) h) m:=
 Qj (E:=fun m v tm h ds=>El c r K A m (v 0) (v 10) (v 11) (v 18) (v 19) h) rfl (fun m=>A14 fun v tm h ds=>by kernel_rfl) m
omit H in
theorem Aob(c r:Ai)(K:Nat)(m:Nat):lpB false (V7 K c) c r K 148 5 [(0,Afu false TT 148)] m=(fun m v tm h ds=>F4 c r K m (v 0) (v 10) (v 11) h) m:=
 Bub (E:=fun m v tm h ds=>F4 c r K m (v 0) (v 10) (v 11) h) rfl (fun m=>(cut [true,true,false,false,true,true,false] (An3 c r K (F4 c r K m) K) (by kernel_rfl) (by kernel_rfl) rfl)) (fun m=>A14 fun v tm h ds=>by kernel_rfl) m
theorem Aq0(hd:0<=d):S2 disp K d 148 Aka:=fun _ _=>rm (q:=false) (D:=V7 K (Ag TT disp K d false)) (by kernel_rfl) rfl rfl H (rfl) (cut [true,false] (Aob (Ag TT disp K d false) (Ag TT disp K d true) K K) (by kernel_rfl) (by kernel_rfl) rfl)
theorem Tp(hd:1<=d):R1 disp K d 149 (E5 K):=fun _=>rl H hd
theorem Hi(hd:1<=d):R1 disp K d 174 (Eb K):=fun _=>rl H hd
theorem Alm(hd:2<=d):R1 disp K d 175 (Pz K):=fun _=>ll H hd (fun d hd=>V1 (Hi H) hd<|rfl) 51 (e4 (Ip K) 3 9 10 11)
theorem Atm(hd:1<=d):R3 disp K d 187 (Sr K):=fun _ _ _=>rl H hd
theorem Auo(hd:1<=d):S1 disp K d 198 Aqo:=fun _=>ld rfl rfl H (V1 (Cw H) hd<|V1 (Ew H) hd<|rfl) 25 (fun c r=>e3 (Nd c r K) 0 9 10)
theorem Jb(hd:0<=d):S2 disp K d 201 Gf:=fun _ _=>ld rfl rfl H rfl 5 (fun c r=>e4 (Ci c r K) 0 5 6 7)
end
end Go.Ev
