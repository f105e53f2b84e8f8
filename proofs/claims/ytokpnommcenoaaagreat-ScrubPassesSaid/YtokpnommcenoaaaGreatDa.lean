import Derived.Test.YtokpnommcenoaaaGreatFun
import Derived.Test.YtokpnommcenoaaaGreatTab
set_option linter.all false
namespace Go.Ev
open Go.Proofs
set_option maxRecDepth 100000
set_option maxHeartbeats 4000000
variable {F:EV->EV->EV->EV->EV->Ab->R}{k d0 fuel:Nat}{fl:Bool}{T:Hj}{callV round:Ai}{Dq:Option Nat}{out:Nat->CD}{disp:Nat->Option FT}
section
noncomputable section
section
variable (fl:Bool)(T:Hj)(call callV round:Ai)(fuel fn n:Nat)(Dq:Option Nat)(out:Nat->CD)(ret:CD)
abbrev Bqb(p:List Bool):Hk->Code->Ak8->CD->Code × Ak8 × CD:=
 @List.rec Bool (fun _=>Hk->Code->Ak8->CD->Code × Ak8 × CD) (fun _ c env k=>(c,env,k))
  (fun s _ v H c env k=>match c with
   | .seq x y=>Ax s (v H.r y env k) (v H.l x env (Q1 fl T call callV round fuel fn n Dq out ret H.r y env k))
   | .cond _ x y=>Ax s (v H.r y env k) (v H.l x env k)
   | .block id x=>v H.l x ((id,k)::env) k
   | c=>(c,env,k)) p
end
def Btn:Nat:=have _:=@Us;have _:=@J0;have _:=@Q2;have _:=@Eg;have _:=@Arw;have _:=@Aag;have _:=@builtin;have _:=@J1;have _:=@N1;have _:=@Fi;have _:=@Cd;have _:=@Ij;0
def Btk(c:Code):Bool:=match c with | .loop _=>true|_=>false
@[reducible] def cH(q:Bool)(C c r:Ai)(K g:Nat)(H:Hk):CD:=let _:=Btn;Q1 q TT C c r K g (nOf TT g) none no0 (Agg q TT g) H (Om TT g) [] (Agg q TT g)
@[reducible] def lH(q:Bool)(C c r:Ai)(K g p:Nat):Code × Ak8 × CD:=Bqb q TT C c r K g (nOf TT g) none no0 (Agg q TT g) (pathOf p) .no (Om TT g) [] (Agg q TT g)
@[reducible] def Bgf(q:Bool)(C c r:Ai)(K g p:Nat)(X:CD):CD:=let _:=Btn;match lH q C c r K g p with
 | (.loop x,env,_)=>Ab8 q TT C c r K g (nOf TT g) none no0 (Agg q TT g) x env X
 | _=>X
@[reducible] def Bao(xs:List EV)(B:CD)(h:Ab):R:=let _:=Btn;B (A9e xs 0 u0) (setArgs xs 0 .nil) h []
@[reducible] def lpB(q:Bool)(C c r:Ai)(K g p:Nat)(env:Ak8)(m:Nat):CD:=A5i (fun v=>Ab8 q TT C c r K g (nOf TT g) none no0 (Agg q TT g) (Bu1 TT g (pathOf p)) env v) m
abbrev e0(X:Nat->A0):Nat->CD:=fun m _ _ h _=>X m h
abbrev e1(X:Nat->A1)(a:Nat):Nat->CD:=fun m v _ h _=>X m (v a) h
abbrev e2(X:Nat->A2)(a b:Nat):Nat->CD:=fun m v _ h _=>X m (v a) (v b) h
abbrev e3(X:Nat->A3)(a b c:Nat):Nat->CD:=fun m v _ h _=>X m (v a) (v b) (v c) h
abbrev e4(X:Nat->A4)(a b c d:Nat):Nat->CD:=fun m v _ h _=>X m (v a) (v b) (v c) (v d) h
abbrev e5(X:Nat->A5)(a b c d e:Nat):Nat->CD:=fun m v _ h _=>X m (v a) (v b) (v c) (v d) (v e) h
abbrev e6(X:Nat->A6)(a b c d e f:Nat):Nat->CD:=fun m v _ h _=>X m (v a) (v b) (v c) (v d) (v e) (v f) h
abbrev e7(X:Nat->A7)(a b c d e f i:Nat):Nat->CD:=fun m v _ h _=>X m (v a) (v b) (v c) (v d) (v e) (v f) (v i) h
abbrev e8(X:Nat->A8)(a b c d e f i j:Nat):Nat->CD:=fun m v _ h _=>X m (v a) (v b) (v c) (v d) (v e) (v f) (v i) (v j) h
abbrev e9(X:Nat->A9)(a b c d e f i j k:Nat):Nat->CD:=fun m v _ h _=>X m (v a) (v b) (v c) (v d) (v e) (v f) (v i) (v j) (v k) h
abbrev e10(X:Nat->A10)(a b c d e f i j k l:Nat):Nat->CD:=fun m v _ h _=>X m (v a) (v b) (v c) (v d) (v e) (v f) (v i) (v j) (v k) (v l) h
abbrev e11(X:Nat->A11)(a b c d e f i j k l n:Nat):Nat->CD:=fun m v _ h _=>X m (v a) (v b) (v c) (v d) (v e) (v f) (v i) (v j) (v k) (v l) (v n) h
end
section
variable{call:Ai}{fn n:Nat}{ret:CD}
theorem A7f:∀(p:List Bool) (H:Hk) (c:Code) (env:Ak8) (k:CD),atH fl T call callV round fuel fn n Dq out ret p H c env k=Ab8 fl T call callV round fuel fn n Dq out ret (Bqb fl T call callV round fuel fn n Dq out ret p H c env k).1 (Bqb fl T call callV round fuel fn n Dq out ret p H c env k).2.1 (Bqb fl T call callV round fuel fn n Dq out ret p H c env k).2.2
 | [],_,_,_,_=>rfl
 | s::p,H,c,env,k=>by
  cases c<;>first|rfl|exact A7f p _ _ _ _|(cases s<;>exact A7f p _ _ _ _)
end
section
variable{K m d g p:Nat}{q:Bool}{C:Nat->Ai}{D c r:Ai}{E:Nat->CD}{xs:List EV}{Y:Ab->R}{B:CD}
theorem Bug(v:Btk (lH q D c r K g p).1=true)(h0:E 0=fun _ _ _ _=>none)(hs:∀m A tm h ds,Bgf q D c r K g p (E m) A tm h ds=E (m+1) A tm h ds)(G:Atc (pathOf p) .no (Om TT g)=true):
 cH q D c r K g .no=cH q D c r K g (A0q (pathOf p) (E K) .no):=by
 refine Aao _ (pathOf p) .no (Om TT g) [] (Agg q TT g) G ?_;rw[A7f];have hs:=fun m=>A2m (hs m)
 show Ab8 q TT D c r K g (nOf TT g) none no0 (Agg q TT g) (lH q D c r K g p).1 (lH q D c r K g p).2.1 (lH q D c r K g p).2.2=E K;unfold Bgf at hs;generalize lH q D c r K g p=x at v hs⊢;obtain⟨J,env,k⟩:=x;cases J<;>first|exact Qv h0 hs K|cases v
abbrev R0(disp:Nat->Option FT)(K d g:Nat)(F:Ab->R):Prop:=∀h,Ag TT disp K d false g [] h=F h
abbrev S0(disp:Nat->Option FT)(K d g:Nat)(F:Ai->Ai->Nat->Ab->R):Prop:=∀h,Ag TT disp K (d+1) false g [] h=F (Ag TT disp K d false) (Ag TT disp K d true) K h
theorem V0 {F:Ab->R}{x:Ai}(e:k<=d->R0 disp K d g F)(hd:m<=d)(y:Ag TT disp K d false=x)(v:Nat.ble k m=true:=by rfl):Ag TT disp K d false=w0 g F x:=W0 (e (lq hd v)) y
abbrev R1(disp:Nat->Option FT)(K d g:Nat)(F:EV->Ab->R):Prop:=∀a h,Ag TT disp K d false g [a] h=F a h
abbrev S1(disp:Nat->Option FT)(K d g:Nat)(F:Ai->Ai->Nat->EV->Ab->R):Prop:=∀a h,Ag TT disp K (d+1) false g [a] h=F (Ag TT disp K d false) (Ag TT disp K d true) K a h
theorem V1 {F:EV->Ab->R}{x:Ai}(e:k<=d->R1 disp K d g F)(hd:m<=d)(y:Ag TT disp K d false=x)(v:Nat.ble k m=true:=by rfl):Ag TT disp K d false=w1 g F x:=W1 (e (lq hd v)) y
abbrev R2(disp:Nat->Option FT)(K d g:Nat)(F:EV->EV->Ab->R):Prop:=∀a b h,Ag TT disp K d false g [a,b] h=F a b h
abbrev S2(disp:Nat->Option FT)(K d g:Nat)(F:Ai->Ai->Nat->EV->EV->Ab->R):Prop:=∀a b h,Ag TT disp K (d+1) false g [a,b] h=F (Ag TT disp K d false) (Ag TT disp K d true) K a b h
theorem V2 {F:EV->EV->Ab->R}{x:Ai}(e:k<=d->R2 disp K d g F)(hd:m<=d)(y:Ag TT disp K d false=x)(v:Nat.ble k m=true:=by rfl):Ag TT disp K d false=w2 g F x:=W2 (e (lq hd v)) y
abbrev R3(disp:Nat->Option FT)(K d g:Nat)(F:EV->EV->EV->Ab->R):Prop:=∀a b e h,Ag TT disp K d false g [a,b,e] h=F a b e h
abbrev S3(disp:Nat->Option FT)(K d g:Nat)(F:Ai->Ai->Nat->EV->EV->EV->Ab->R):Prop:=∀a b e h,Ag TT disp K (d+1) false g [a,b,e] h=F (Ag TT disp K d false) (Ag TT disp K d true) K a b e h
theorem V3 {F:EV->EV->EV->Ab->R}{x:Ai}(e:k<=d->R3 disp K d g F)(hd:m<=d)(y:Ag TT disp K d false=x)(v:Nat.ble k m=true:=by rfl):Ag TT disp K d false=w3 g F x:=W3 (e (lq hd v)) y
abbrev R4(disp:Nat->Option FT)(K d g:Nat)(F:EV->EV->EV->EV->Ab->R):Prop:=∀a b e f h,Ag TT disp K d false g [a,b,e,f] h=F a b e f h
abbrev S4(disp:Nat->Option FT)(K d g:Nat)(F:Ai->Ai->Nat->EV->EV->EV->EV->Ab->R):Prop:=∀a b e f h,Ag TT disp K (d+1) false g [a,b,e,f] h=F (Ag TT disp K d false) (Ag TT disp K d true) K a b e f h
theorem V4 {F:EV->EV->EV->EV->Ab->R}{x:Ai}(e:k<=d->R4 disp K d g F)(hd:m<=d)(y:Ag TT disp K d false=x)(v:Nat.ble k m=true:=by rfl):Ag TT disp K d false=w4 g F x:=W4 (e (lq hd v)) y
abbrev R5(disp:Nat->Option FT)(K d g:Nat)(F:EV->EV->EV->EV->EV->Ab->R):Prop:=∀a b e f i h,Ag TT disp K d false g [a,b,e,f,i] h=F a b e f i h
abbrev S5(disp:Nat->Option FT)(K d g:Nat)(F:Ai->Ai->Nat->EV->EV->EV->EV->EV->Ab->R):Prop:=∀a b e f i h,Ag TT disp K (d+1) false g [a,b,e,f,i] h=F (Ag TT disp K d false) (Ag TT disp K d true) K a b e f i h
theorem V5{x:Ai}(e:k<=d->R5 disp K d g F)(hd:m<=d)(y:Ag TT disp K d false=x)(v:Nat.ble k m=true:=by rfl):Ag TT disp K d false=w5 g F x:=W5 (e (lq hd v)) y
abbrev S6(disp:Nat->Option FT)(K d g:Nat)(F:Ai->Ai->Nat->EV->EV->EV->EV->EV->EV->Ab->R):Prop:=∀a b e f i j h,Ag TT disp K (d+1) false g [a,b,e,f,i,j] h=F (Ag TT disp K d false) (Ag TT disp K d true) K a b e f i j h
theorem rf(v:Awc (Om TT g)=q)(L:Ag TT disp K d false=c)(M:Ag TT disp K d true=r)(e:c=D)(A:cH q D c r K g .no=B)(G:Bby TT g (Fl xs)=true:=by kernel_rfl)(J:∀h,Bao xs B h=Y h:=by intros;kernel_rfl)(h:Ab):Ax5 TT c r K g xs h=Y h:=by
 rw[Bjt G,v];exact(congrArg (fun C=>Bao xs (cH q C c r K g .no) h) e).trans ((congrArg (fun B=>Bao xs B h) A).trans (J h))
theorem rm(v:Awc (Om TT g)=q)(A:Ag TT disp K d false=c)(G:Ag TT disp K d true=r)(H:By disp)(e:c=D)(J:Q1 q TT D c r K g (nOf TT g) none no0 (Agg q TT g) .no (Om TT g) [] (Agg q TT g)=B)(L:Ayd g=true:=by kernel_rfl)(M:Bby TT g (Fl xs)=true:=by kernel_rfl)(O:∀h,Bao xs B h=Y h:=by intros;kernel_rfl)(h:Ab):Ag TT disp K (d+1) false g xs h=Y h:=by
 subst A G;have e0:Ag TT disp K (d+1) false g xs h = @Option.rec FT (fun _=>FnT) (Ax5 TT (Ag TT disp K d false) (Ag TT disp K d true) K g) (fun F=>F (Ag TT disp K d false) (Ag TT disp K d true) K) (disp g) xs h:=rfl;rw[e0,H.plain g L];exact rf v rfl rfl e J M O h
theorem rd(v:Ag TT disp K d false=c)(A:Ag TT disp K d true=r)(H:By disp)(e:c=D)(G:Ayd g=true:=by kernel_rfl)(J:Bby TT g (Fl xs)=true:=by kernel_rfl)(L:∀h,Bao xs (cH (Awc (Om TT g)) D c r K g .no) h=Y h:=by intros;kernel_rfl)(h:Ab):Ag TT disp K (d+1) false g xs h=Y h:=rm rfl v A H e rfl G J L h
theorem ld(A:Ag TT disp K d false=c)(G:Ag TT disp K d true=r)(H:By disp)(e:c=D)(p:Nat)(E:Ai->Ai->Nat->CD)(h0:E c r 0=fun _ _ _ _=>none:=by rfl)(J:Ayd g=true:=by kernel_rfl)(L:Bby TT g (Fl xs)=true:=by kernel_rfl)(M:Atc (pathOf p) .no (Om TT g)=true:=by kernel_rfl)
 (O:Btk (lH (Awc (Om TT g)) D c r K g p).1=true:=by kernel_rfl) (hs:∀m v tm h ds,Bgf (Awc (Om TT g)) D c r K g p (E c r m) v tm h ds=E c r (m+1) v tm h ds:=by intros;kernel_rfl)
 (P:∀h,Bao xs (cH (Awc (Om TT g)) D c r K g (A0q (pathOf p) (E c r K) .no)) h=Y h:=by intros;kernel_rfl) (h:Ab):Ag TT disp K (d+1) false g xs h=Y h:=rm rfl A G H e (Bug O h0 hs M) J L P h
theorem rl(H:By disp)(hd:m+1<=d)(e:∀d,m<=d->Ag TT disp K d false=C d:=by exact fun _ _=>rfl)(v:Ayd g=true:=by kernel_rfl)(A:Bby TT g (Fl xs)=true:=by kernel_rfl)(G:Awc (Om TT g)=false:=by kernel_rfl)(J:∀d c r h,Bao xs (cH false (C d) c r K g .no) h=Y h:=by intros;kernel_rfl)(h:Ab):Ag TT disp K d false g xs h=Y h:=by
 obtain⟨d,rfl⟩:∃e,d=e+1:=⟨d-1,by omega⟩;exact rm G rfl rfl H (e d (Nat.le_of_succ_le_succ hd)) rfl v A (J d _ _) h
theorem ll(H:By disp)(hd:m+1<=d)(e:∀d,m<=d->Ag TT disp K d false=C d)(p:Nat)(E:Nat->CD)(h0:E 0=fun _ _ _ _=>none:=by rfl)(A:Ayd g=true:=by kernel_rfl)(G:Bby TT g (Fl xs)=true:=by kernel_rfl)(J:Awc (Om TT g)=false:=by kernel_rfl)(L:Atc (pathOf p) .no (Om TT g)=true:=by kernel_rfl)
 (M:∀d c r,Btk (lH false (C d) c r K g p).1=true:=by intros;kernel_rfl) (hs:∀d c r m v tm h ds,Bgf false (C d) c r K g p (E m) v tm h ds=E (m+1) v tm h ds:=by intros;kernel_rfl)
 (O:∀d c r h,Bao xs (cH false (C d) c r K g (A0q (pathOf p) (E K) .no)) h=Y h:=by intros;kernel_rfl) (h:Ab):Ag TT disp K d false g xs h=Y h:=by
 obtain⟨d,rfl⟩:∃e,d=e+1:=⟨d-1,by omega⟩;exact rm J rfl rfl H (e d (Nat.le_of_succ_le_succ hd)) (Bug (M d _ _) h0 (hs d _ _) L) A G (O d _ _) h
theorem rr {l n:Nat}{st:LoopState}{j:Option Code}{tm v:Bb}{ps:List Tmp}{a b:Code}{h:Ab}{X:R}(A:Ag TT disp K d false=c)(G:Ag TT disp K d true=r)(e:c=D)(J:h.get l=some (.loop st j g n tm ps a b d0))(hs:Xf ps xs n tm=some v)
 (L:Bc4 TT D c r K l g n a b (Bk9 n ps xs (tmp tm)) v h []=X):Ag TT disp K (d+1) true l xs h=X:=by
 subst A G;rw[A86];unfold Ayf;rw[J];simp only;rw[hs];simp only;exact(congrArg (fun C=>Bc4 TT C (Ag TT disp K d false) (Ag TT disp K d true) K l g n a b (Bk9 n ps xs (tmp tm)) v h []) e).trans L
end
end
section
section
variable{call:Ai}{fn n:Nat}{ret:CD}
end
end
section
noncomputable section
section
variable (c r:Ai)(K l:Nat)(k0:A0)(k1:A1)(k2:A2)(k3:A3)(k4:A4)(k5:A5)(k6:A6)(k7:A7)(k8:A8)(k9:A9)(k10:A10)(k11:A11)(k12:A12)(m0:B0)(m1:B1)(m2:B2)(m3:B3)(m4:B4)(m5:B5)(m6:B6)(m7:B7)(m8:B8)(m9:B9)(m10:B10)(m11:B11)(m12:B12)(base:Nat)(s:DX)(tm:Bb)(a b d e f g i j n o p q t u w x y z aa ab ad ae af ag ai aj an ao ap aq au aw ax ay az ba bb bd be bf bg bi bj bn bo bp bq bt bu bw bx bz da db dd de df dg di dj dn dp dq dt du dw dx dy dz ea eb ed ee ef eg ei ej en eo ep eq et eu ew ex ey ez fa fb fd fe ff fg fi fj fn fo fp fq ft fu fw fx fy fz ga gb gd ge gf gg gi gj gn go gp gq gt gu gw gx gy gz ia ib ie ig ii ij io ip iq it iu iw ix iy iz ja jb:EV)(h:Ab)(ds:List Nat)
def Du:Ru K R:=(.mk:Sg 0x122203 [a] h).F
def Dn:Ru K R:=(.mk:Sg 0x122231fe314204209e9 [a] h).F
def Cn:Ru K R:=(.mk:Sg 0x1222f9e3 [a] h).F
def Gn:Ru K R:=(.mk:Sg 0x122223 [a] h).F
def Dy:Ru K R:=(.mk:Sg 0x122203 [a] h).F
def Lu:Ru K R:=(.mk:Sg 0x122213 [a] h).F
def Nl:Ru K R:=(.mk:Sg 0x122233 [a] h).F
def Py:Ru K R:=(.mk:Sg 0x122223 [a] h).F
def So:Ru K R:=(.mk:Sg 0x15ae41104e243623533c05ae05e [a] h [] [] [[.int .i64 0,.int .i64 0,.int .i64 0]]).F
def Sc:Ru K R:=(.mk:Sg 0x122233 [a] h).F
def Adz:Ru K R:=(.mk:Sg 0x122233003e314 [a,b] h).F
def Vb:R:=
 pkO d e fun f=>
 ifE f
 (some ((.int .i64 (-1)),h))
 (Adz K a b h)
def Es:R:=(.mk:Sg 0x12023541025684102723e210136503e2d00420e209e9 [a,b] h [Dr (Dn K),Ub (Vb K)]).F
def Apt:Ru K R:=
 pkA a b fun d=>
 some (d,h)
def Jk:R:=(.mk:Sg 0x1202200232005321e82a3223e [a,b,d] h [Ec (Apt K)]).F
def Ou:Ru K R:=
 pkA a b fun d=>
 some (d,h)
def U2:R:=(.mk:Sg 0x120220024200c0221e314c2a430be [a,b,d] h [Ec (Ou K)]).F
def Ty:R:=(.mk:Sg 0x1202430024630010223e414d2a00223e204212e9 [a] h [Jz (U2 K)]).F
def E5:Ru K R:=(.mk:Sg 0x1222101203 [a] h [Dr A8u]).F
def Af1:R:=(.mk:Sg 0x122210142116e263 [a,b] h [Dr (E5 K)]).F
def V6:R:=(.mk:Sg 0x1432000023285409e [a,b,d,e] h [Ec (Af1 K)]).F
def Vv:R:=(.mk:Sg 0x12024340025764002623e213e36301e2d00320e [a,b] h [Ub (V6 K)]).F
def Acr:Ru K R:=
 some (a,h)
def N5:Ru K R:=
 Ir g fun i=>
 k6 a b d e f i h
def G8(K:Nat)(k6:A6)(base:Nat)(s:DX)(a:EV)(b:EV)(d:EV)(e:EV)(f:EV)(g:EV)(i:EV)(j:EV)(n:EV)(h:Ab):R:=
 pkA j n fun o=>
 ifE o
 (N5 K k6 a b e f g i h)
 (N5 K k6 a b d f g i h)
def Ha:R:=
 wtE j
 (pkO n o fun p=>
 G8 K k6 base s a b d e f g i j p h)
 (G8 K k6 base s a b d e f g i j tU h)
def Np:R:=
 wfE o
 (J0 8 255 s h (fun h=>(E5 K f h)) fun p h s=>
 Aod 6 12 3711 base a s h fun s q=>
 Zl 1 q d fun t=>
 Ln 15 32383 base t s fun s=>Fw t h fun u=>
 J0 16 65535 s h (fun h=>(E5 K u h)) fun w h s=>
 Au4 p w fun x=>
 Ha K k6 base s a b d e g i j n o x h)
 (Ha K k6 base s a b d e g i j n o tU h)
def Abu:R:=
 Bac 1 e g h fun i=>
 W6 h fun base s=>
 Av5 g b fun j=>
 wtE j
 (Axd d (.int .i64 0) fun n=>
 Np K k6 base s a b d g i e f g j n h)
 (Np K k6 base s a b d g i e f g j tU h)
def G4(K:Nat):Nat->A6
 | 0=>fun _ _ _ _ _ _ _=>none
 | m+1=>fun a b d e f g h=>
  cE Ja .lss 3 g f
  (Abu K (G4 K m) a b d e f g h)
  (Acr K d h)
def Kc:R:=
 fE 6 a h fun d=>
 Hf d fun e=>
 G4 K K a b (.int .i64 (-1)) d e (.int .i64 0) h
def Uj:Ru K R:=
 some (a,h)
def Ue:Ru K R:=
 A9j d (.int .i64 2) fun e=>
 k3 a b e h
def Uc:R:=
 Ir b fun e=>
 Ue K k3 a e d h
def F1(K:Nat):Nat->A3
 | 0=>fun _ _ _ _=>none
 | m+1=>fun a b d h=>
  oE 3 a h fun e=>
  cE Ja .lss 3 d e
  (Uc K (F1 K m) a b d h)
  (Uj K b h)
def Lf:R:=(.mk:Sg 0x100102300264e9 [a] h [Jz (F1 K K)]).F
def Nx:Ru K R:=(.mk:Sg 0x122213e203 [a] h).F
def Pb:Ru K R:=(.mk:Sg 0x122213 [a] h).F
def Ago:Ru K R:=
 pkA a b fun d=>
 some (d,h)
def Acf:R:=(.mk:Sg 0x1202200232004321e82a10223e [a,b] h [Ec (Ago K)]).F
def Vp:Ru K R:=(.mk:Sg 0x1002200e21153f921007e [a] h [] [cu1 (fun a=>Bm (Df [(0,1),(1,1),(2,1),(3,1),(4,1)]) [.Al,.int .i64 0,.int .i64 0,.int .i64 0,.bool false] [(1,a)])]).F
def Vh:R:=(.mk:Sg 0x1310003e070200e6284309e [a,b,d] h [Dr (Vp K)]).F
def Mo:R:=(.mk:Sg 0x1202330023430015e0322ea2d10220e [a] h [Jz (Vh K)]).F
def Nv:Ru K R:=(.mk:Sg 0x122c021de231fe344204209e9 [a] h).F
def X9:Ru K R:=(.mk:Sg 0x1223023003e [a] h).F
def O2:R:=(.mk:Sg 0x121002221ce3023003e2101ee00e0023301e [a] h [Dr (X9 K)]).F
def Avx:Ru K R:=(.mk:Sg 0x1002200e2fce921007e2101 [a] h [Dr Arq] [cu1 (fun b=>Bm (Df [(0,1)]) [.Ae3] [(0,b)])]).F
def Awb:R:=(.mk:Sg 0x1310003e070200e6284309e [a,b,d] h [Dr (Avx K)]).F
def Arn:R:=(.mk:Sg 0x1202330023430001322ea2d10220e [a] h [Jz (Awb K)] [] [] [(.int .i64 4096)]).F
def Gz:Ru K R:=
 pkA a b fun d=>
 some (d,h)
def Gx:R:=(.mk:Sg 0x12022102421015e0c0230135402e2a430be [a,b,d] h [Jz (Jk K),Ec (Gz K)]).F
def Gw:R:=(.mk:Sg 0x12023310245310c000230134403e2a430be [a,b,d] h [Jz (Jk K),Jz (Gx K)]).F
def G1:R:=(.mk:Sg 0x120233102453102101334d2a430be [a,b,d] h [Dr (fun f=>Jk K f (.int .i64 1) (.int .i64 256)),Jz (Gw K)]).F
def Gy:R:=(.mk:Sg 0x1202331024531015e0c0230132403e2a430be [a,b,d] h [Jz (Jk K),Jz (G1 K)]).F
def Vw:R:=(.mk:Sg 0x1202431024631015e010230141403e2ad0602301204209e9 [a] h [Jz (Jk K),Jz (Gy K)]).F
def Ii:Ru K R:=(.mk:Sg 0x1222101de3023003e1021ee3021de234209e9 [a] h).F
def Qj:R:=(.mk:Sg 0x122251ee231fe08e4407e041021ee0123603e2721120ae231ee9301fea21fed0420ae521ee621fe1021ee80421032e77665606b3021ee231ee343410e211110e0ee209e9 [a] h [Dr (Nv K),builtin TT .min #[3,3]] [] [] [(.int .u64 1)]).F
def To:Ru K R:=
 pkA a b fun d=>
 some (d,h)
def Dw:R:=(.mk:Sg 0x12022102521010224e82116e6fae302e2a00223e5220126521c [a,b] h [Ec (Es K),Ec (To K)]).F
def Wh:Ru K (Ru r R):=(.mk:Sg 0x1002321627ff3fb17e61c27431f0e872101718e436e5406b200e4111e0ee [a,b,d] h [Dr (fun f=>Cd (List.replicate 4 (.int .i64 0)++List.replicate 64 (.int .u8 0)) 32 68 1 [(0,f)]),c 105]).F
def Aga:Ru K (Ru r (Ru c R)):=
 Be1 d (.int .i64 1) fun e=>
 k3 a b e h
def P6:R:=
 pkA e f fun g=>
 ifE g
 (Aga c r K k3 a b d h)
 (Wh c r K a b d h)
def Ix(c:Ai)(r:Ai)(K:Nat):Nat->A3
 | 0=>fun _ _ _ _=>none
 | m+1=>fun a b d h=>
  Au4 d (.int .i64 0) fun e=>
  wtE e
  (fE 1 a h fun f=>
  Be1 d (.int .i64 1) fun g=>
  Zl 68 f g fun i=>
  oE 0 i h fun j=>
  oE 0 b h fun n=>
  Au4 j n fun o=>
  P6 c r K (Ix c r K m) a b d e o h)
  (P6 c r K (Ix c r K m) a b d e tU h)
def Ag1:R:=(.mk:Sg 0x1254300213e213 [a,b] h [Jz (Ix c r K K)]).F
def Anl:R:=(.mk:Sg 0x17821007e0230123601e213e61300e0232820fe2101236e5312e9 [a,b] h [Dr (Ty K),Ec (Ag1 c r K)] [] [] [(.int .i64 256)]).F
def Ag9:R:=(.mk:Sg 0x12225221261ee2421131013033003e [a,b] h [Dr (fun a=>Kc K a (.int .i64 (-1))),Ec (Vv K),builtin TT .min #[3,3]]).F
def Ag2:Ru K R:=
 Ir f fun g=>
 k5 a b d e g h
def Agu:R:=(.mk:Sg 0x198725510251de210164116e [a,b,d,e,f] h [Dr (E5 K),cl5 (Ag2 K k5)]).F
def Lv(K:Nat):Nat->A5
 | 0=>fun _ _ _ _ _ _=>none
 | m+1=>fun a b d e f h=>
  cE Ja .lss 3 f e
  (Agu K (Lv K m) a b d e f h)
  (Ag9 K a b h)
def Ih:R:=(.mk:Sg 0x10023004500213e263 [a] h [cl5 (Lv K K)]).F
def Ayv:Ru K R:=(.mk:Sg 0x1002200e [a] h).F
def Ayn:Ru K R:=
 Ir e fun f=>
 k4 a b d f h
def Azc:R:=(.mk:Sg 0x1a976420321660c232115101303 [a,b,d,e,f] h [Dr (fun d=>Cd [.Bw] 220 1 1 [(0,d)]),Ec (Eg 220 1),Ub (Ayn K k4)]).F
def Ayj:R:=(.mk:Sg 0x187365510270200e5212e20ce2101 [a,b,d,e] h [Dr (Mo K),cl5 (Azc K k4)]).F
def Acb(K:Nat):Nat->A4
 | 0=>fun _ _ _ _ _=>none
 | m+1=>fun a b d e h=>
  cE Ja .lss 3 e d
  (Ayj K (Acb K m) a b d e h)
  (Ayv K b h)
def Ay9:R:=
 Bm (Df [(0,1),(1,1),(2,1),(3,1),(4,1)]) [.Al,(.int .i64 0),(.int .i64 0),(.int .i64 0),(.bool false)] [(1,b),(2,d)] fun e=>
 Q2 152 e h fun f h=>
 Acb K K b f a (.int .i64 0) h
def Ay5:R:=(.mk:Sg 0x154330003e070200e6286509e [a,b,d,e,f] h [Jz (Ay9 K)]).F
def Av9:R:=(.mk:Sg 0x12026545202487652020fe15e0621102e2d20fe2101 [a,b,d] h [Dr (fun a=>Acf K a (.int .i64 512)),Ec (Acf K),cl5 (Ay5 K)]).F
def Kh:R:=(.mk:Sg 0x122251ee231fe512e6410e484010e1021ee3101170ee [a,b] h [Dr (O2 K)]).F
def Ik:R:=(.mk:Sg 0x1706e200206e2005723301e20ae231ee9301fec21fe01e0420ae521ee821fe1021eea04c021de231fe7446043021ee231ee344214264e9 [a] h [Ec (Kh K)]).F
def Lw(K:Nat)(base:Nat)(s:DX)(a:EV)(b:EV)(h:Ab):R:=
 pkA a b fun d=>
 some (d,h)
def Qn:R:=
 pkA b d fun e=>
 wtE e
 (olE 3 11 2047 base a s h fun s f=>
 A8c (.int .i64 2) f fun g=>
 olE 2 14 9215 base a s h fun s i=>
 Ln 15 1023 base a s fun s=>Qp 6 a h fun j=>
 J0 16 33791 s h (fun h=>(Qj K j h)) fun n h s=>
 A8c i n fun o=>
 Az0 g o fun p=>
 Lw K base s e p h)
 (Lw K base s e tU h)
def Mz:R:=
 Q2 23 a h fun b h=>
 W6 h fun base s=>
 Ln 0 0 base b s fun s=>Qp 6 b h fun d=>
 J0 1 1 s h (fun h=>(Vw K d h)) fun e h s=>
 wtE e
 (Ln 3 7 base b s fun s=>Qp 6 b h fun f=>
 J0 4 15 s h (fun h=>(Ii K f h)) fun g h s=>
 olE 2 6 39 base b s h fun s i=>
 Az0 g i fun j=>
 Qn K base s b e j h)
 (Qn K base s b e tU h)
def Azk:Ru K R:=(.mk:Sg 0x1002200e287e9232007e001 [a] h [cl0 Avy] [cu2 (fun a b=>Bm (Df [(0,1),(1,1),(2,1),(3,1)]) [.Bw,.Al,.Al,.Al8] [(0,a),(3,b)])]).F
def Aqr:R:=(.mk:Sg 0x13110270200e5212e20ce432301 [a,b,d] h [Jz (Av9 K),Dr (Azk K)]).F
def Il(K:Nat)(base:Nat)(s:DX)(a:EV)(b:EV)(h:Ab):R:=
 pkA a b fun d=>
 some (d,h)
def Ug:R:=
 W6 h fun base s=>
 Ln 0 0 base a s fun s=>Qp 6 a h fun b=>
 J0 1 1 s h (fun h=>(Lf K b h)) fun d h s=>
 olE 2 3 4 base a s h fun s e=>
 Az0 d e fun f=>
 wtE f
 (olE 3 7 127 base a s h fun s g=>
 A8c (.int .i64 2) g fun i=>
 olE 2 10 575 base a s h fun s j=>
 Ln 11 63 base a s fun s=>Qp 6 a h fun n=>
 J0 12 2111 s h (fun h=>(Ik K n h)) fun o h s=>
 A8c j o fun p=>
 Az0 i p fun q=>
 Il K base s f q h)
 (Il K base s f tU h)
def Bq:R:=
 pkO b d fun e=>
 ifE e
 (some ((.bool false),h))
 (Ug K a h)
def Bz:R:=
 pkO b d fun e=>
 wfE e
 (oE 5 a h fun f=>
 Au4 f (.int .i64 64) fun g=>
 Bq K a e g h)
 (Bq K a e tU h)
def Ch:R:=
 pkO b d fun e=>
 wfE e
 (oE 5 a h fun f=>
 Axd f (.int .i64 4) fun g=>
 Bz K a e g h)
 (Bz K a e tU h)
def Cm:R:=
 pkO b d fun e=>
 wfE e
 (oE 4 a h fun f=>
 Au4 f (.int .i64 4) fun g=>
 Ch K a e g h)
 (Ch K a e tU h)
def Cs:R:=
 pkO b d fun e=>
 wfE e
 (oE 4 a h fun f=>
 Axd f (.int .i64 0) fun g=>
 Cm K a e g h)
 (Cm K a e tU h)
def C8:R:=
 pkO b d fun e=>
 wfE e
 (oE 3 a h fun f=>
 Au4 f (.int .i64 256) fun g=>
 Cs K a e g h)
 (Cs K a e tU h)
def Dp:R:=
 pkO b d fun e=>
 wfE e
 (oE 3 a h fun f=>
 Axd f (.int .i64 1) fun g=>
 C8 K a e g h)
 (C8 K a e tU h)
def D8:R:=
 pkO b d fun e=>
 wfE e
 (oE 2 a h fun f=>
 Au4 f (.int .i64 64) fun g=>
 Dp K a e g h)
 (Dp K a e tU h)
def Et:R:=
 pkO b d fun e=>
 wfE e
 (oE 2 a h fun f=>
 Axd f (.int .i64 4) fun g=>
 D8 K a e g h)
 (D8 K a e tU h)
def Fu:R:=
 pkO b d fun e=>
 wfE e
 (oE 1 a h fun f=>
 Au4 f (.int .i64 64) fun g=>
 Et K a e g h)
 (Et K a e tU h)
def Hw:R:=
 pkO b d fun e=>
 wfE e
 (oE 1 a h fun f=>
 Axd f (.int .i64 1) fun g=>
 Fu K a e g h)
 (Fu K a e tU h)
def H5:R:=
 Q2 114 a h fun b h=>
 oE 0 b h fun d=>
 Axd d (.int .i64 3) fun e=>
 wfE e
 (oE 0 b h fun f=>
 Au4 f (.int .i64 8) fun g=>
 Hw K b e g h)
 (Hw K b e tU h)
def Ayk:Ru K R:=(.mk:Sg 0x1002200e [a] h).F
def Ayq:Ru K R:=
 Ir e fun f=>
 k4 a b d f h
def Azd:R:=(.mk:Sg 0x1a976420321666c232115101363 [a,b,d,e,f] h [Dr (fun d=>Cd [.Bw] 199 1 1 [(0,d)]),Ec (Eg 199 1),Ub (Ayq K k4)]).F
def Ayw:R:=(.mk:Sg 0x198376510270200e5212e20ce2101214 [a,b,d,e] h [Dr (Arn K),cl5 (Azd K k4)]).F
def Ab1(K:Nat):Nat->A4
 | 0=>fun _ _ _ _ _=>none
 | m+1=>fun a b d e h=>
  cE Ja .lss 3 e d
  (Ayw K (Ab1 K m) a b d e h)
  (Ayk K b h)
def Ayx:R:=(.mk:Sg 0x1002364005042b8e921007e265 [a] h [Ub (Ab1 K K)] [cu1 (fun b=>Bm (Df [(0,6),(6,1)]) [.int .i64 0,.int .i64 0,.int .i64 0,.int .i64 0,.int .i64 0,.int .i64 0,.Al] [(0,b)])]).F
def Alv:R:=(.mk:Sg 0x1511009e070200e62820fe2101265209e9 [a] h [Dr (Mz K),Dr (Ayx K)]).F
def Ath:R:=(.mk:Sg 0x1002200e276e9818e2a5675007e22211618e21002e57565504b5f2e5502b365301b0ee [a,b,d,e] h [Dr (Dn K),Ec (Wg [.int .i64 0] 3)] [cu5 (fun a f g e n=>Bm (Df [(0,1),(1,6),(7,256),(263,1),(264,1),(265,1),(266,1),(267,1)]) ([.Bw]++List.replicate 6 (.int .i64 0)++List.replicate 256 (.int .u32 0)++[.Bw]++[.Al]++List.replicate 3 (.int .i64 0)) [(0,a),(1,f),(2,g),(3,e),(4,n),(5,.int .i64 (-1)),(6,.int .i64 (-1))])]).F
def Ra(K:Nat)(base:Nat)(s:DX)(a:EV)(b:EV)(d:EV)(e:EV)(f:EV)(g:EV)(h:Ab):R:=
 pkO f g fun i=>
 ifE i
 (some (.tuple [.Bw,(.int .i64 20)],h))
 (Ath K a b d e h)
def Abf:R:=
 pkO f g fun i=>
 wfE i
 (J0 12 4095 s h (fun h=>(Dy K a h)) fun j h s=>
 J0 13 8191 s h (fun h=>(Pb K j h)) fun n h s=>
 olE 2 15 18431 base b s h fun s o=>
 Av5 n o fun p=>
 Ra K base s a b d e i p h)
 (Ra K base s a b d e i tU h)
def Af5:R:=
 Q2 23 b h fun e h=>
 Q2 119 d h fun f h=>
 Qp 6 e h fun g=>
 Am (Alv K g h) fun i h=>
 x2E i fun j n=>
 W6 h fun base s=>
 J1 Alb (bin TT .neq 35) n (.int .i64 0) fun o=>
 wfE o
 (J0 4 15 s h (fun h=>(Dy K a h)) fun p h s=>
 J0 5 31 s h (fun h=>(Nx K p h)) fun q h s=>
 Ln 6 7 base e s fun s=>Qp 6 e h fun t=>
 J0 7 127 s h (fun h=>(Dn K t h)) fun u h s=>
 Av5 q u fun w=>
 Abf K base s a e f j o w h)
 (Abf K base s a e f j o tU h)
end
variable{K d:Nat}(H:By disp)
include H
theorem Jm(hd:1<=d):R1 disp K d 13 (Du K):=fun _=>rl H hd
theorem Ey(hd:1<=d):R1 disp K d 15 (Dn K):=fun _=>rl H hd
theorem Hz(hd:1<=d):R1 disp K d 17 (Cn K):=fun _=>rl H hd
theorem N7(hd:1<=d):R1 disp K d 22 (Gn K):=fun _=>rl H hd
theorem Ml(hd:1<=d):R1 disp K d 34 (Dy K):=fun _=>rl H hd
theorem Am4(hd:1<=d):R1 disp K d 36 (Lu K):=fun _=>rl H hd
theorem An4(hd:1<=d):R1 disp K d 37 (Nl K):=fun _=>rl H hd
theorem Al3(hd:1<=d):R1 disp K d 38 (Py K):=fun _=>rl H hd
theorem An7(hd:1<=d):R1 disp K d 54 (So K):=fun _=>rl H hd
theorem Aok(hd:1<=d):R1 disp K d 58 (Sc K):=fun _=>rl H hd
theorem Fq(hd:2<=d):R2 disp K d 76 (Es K):=fun _ _=>rl H hd fun d hd=>V1 (Ey H) hd<|rfl
theorem Ac8(hd:1<=d):R3 disp K d 83 (Jk K):=fun _ _ _=>rl H hd
theorem Ap0(hd:1<=d):R1 disp K d 104 (Ty K):=fun _=>rl H hd
theorem Ky(hd:1<=d):R1 disp K d 122 (E5 K):=fun _=>rl H hd
theorem Asn(hd:2<=d):R2 disp K d 123 (Vv K):=fun _ _=>rl H hd fun d hd=>V1 (Ky H) hd<|rfl
theorem Aac(hd:2<=d):R2 disp K d 124 (Kc K):=fun _ _=>ll H hd (fun d hd=>V1 (Ky H) hd<|rfl) 51 (e6 (G4 K) 0 1 5 11 12 13)
theorem Agh(hd:1<=d):R1 disp K d 129 (Lf K):=fun _=>ll H hd (fun _ _=>rfl) 51 (e3 (F1 K) 1 3 4)
theorem Z1(hd:1<=d):R1 disp K d 132 (Nx K):=fun _=>rl H hd
theorem Abk(hd:1<=d):R1 disp K d 133 (Pb K):=fun _=>rl H hd
theorem Azz(hd:1<=d):R2 disp K d 154 (Acf K):=fun _ _=>rl H hd
theorem Ahi(hd:1<=d):R1 disp K d 155 (Mo K):=fun _=>rl H hd
theorem Z2(hd:1<=d):R1 disp K d 184 (Nv K):=fun _=>rl H hd
theorem Akn(hd:1<=d):R1 disp K d 188 (O2 K):=fun _=>rl H hd
theorem A3k(hd:1<=d):R1 disp K d 189 (Arn K):=fun _=>rl H hd
theorem Asa(hd:2<=d):R1 disp K d 190 (Vw K):=fun _=>rl H hd fun d hd=>V3 (Ac8 H) hd<|rfl
theorem Ur(hd:1<=d):R1 disp K d 191 (Ii K):=fun _=>rl H hd
theorem Amc(hd:2<=d):R1 disp K d 192 (Qj K):=fun _=>rl H hd fun d hd=>V1 (Z2 H) hd<|rfl
theorem Ei(hd:3<=d):R2 disp K d 16 (Dw K):=fun _ _=>rl H hd fun d hd=>V2 (Fq H) hd<|rfl
theorem Ar7(hd:1<=d):S2 disp K d 46 Anl:=fun _ _=>ld rfl rfl H (V1 (Ap0 H) hd<|rfl) 55 (fun c r=>e3 (Ix c r K) 0 3 5)
theorem Adi(hd:3<=d):R1 disp K d 56 (Ih K):=fun _=>ll H hd (fun d hd=>V2 (Aac H) hd<|V2 (Asn H) hd<|V1 (Ky H) hd<|rfl) 51 (e5 (Lv K) 0 3 9 10 11)
theorem A74(hd:2<=d):R3 disp K d 90 (Av9 K):=fun _ _ _=>ll H hd (fun d hd=>V2 (Azz H) hd<|V1 (Ahi H) hd<|rfl) 103 (e4 (Acb K) 1 8 23 24)
theorem Acm(hd:2<=d):R1 disp K d 130 (Ik K):=fun _=>rl H hd fun d hd=>V1 (Akn H) hd<|rfl
theorem U7(hd:3<=d):R1 disp K d 134 (Mz K):=fun _=>rl H hd fun d hd=>V1 (Asa H) hd<|V1 (Ur H) hd<|V1 (Amc H) hd<|rfl
theorem A8k(hd:3<=d):R3 disp K d 43 (Aqr K):=fun _ _ _=>rl H hd fun d hd=>V3 (A74 H) hd<|rfl
theorem Ag8(hd:3<=d):R1 disp K d 61 (H5 K):=fun _=>rl H hd fun d hd=>V1 (Agh H) hd<|V1 (Acm H) hd<|rfl
theorem A6s(hd:4<=d):R1 disp K d 131 (Alv K):=fun _=>ll H hd (fun d hd=>V1 (U7 H) hd<|V1 (A3k H) hd<|rfl) 103 (e4 (Ab1 K) 1 4 14 15)
theorem A17(hd:5<=d):R3 disp K d 62 (Af5 K):=fun _ _ _=>rl H hd fun d hd=>V1 (A6s H) hd<|V1 (Ml H) hd<|V1 (Z1 H) hd<|V1 (Ey H) hd<|V1 (Abk H) hd<|rfl
end
end
noncomputable section
section
variable (c r:Ai)(K l:Nat)(k0:A0)(k1:A1)(k2:A2)(k3:A3)(k4:A4)(k5:A5)(k6:A6)(k7:A7)(k8:A8)(k9:A9)(k10:A10)(k11:A11)(k12:A12)(m0:B0)(m1:B1)(m2:B2)(m3:B3)(m4:B4)(m5:B5)(m6:B6)(m7:B7)(m8:B8)(m9:B9)(m10:B10)(m11:B11)(m12:B12)(base:Nat)(s:DX)(tm:Bb)(a b d e f g i j n o p q t u w x y z aa ab ad ae af ag ai aj an ao ap aq au aw ax ay az ba bb bd be bf bg bi bj bn bo bp bq bt bu bw bx bz da db dd de df dg di dj dn dp dq dt du dw dx dy dz ea eb ed ee ef eg ei ej en eo ep eq et eu ew ex ey ez fa fb fd fe ff fg fi fj fn fo fp fq ft fu fw fx fy fz ga gb gd ge gf gg gi gj gn go gp gq gt gu gw gx gy gz ia ib ie ig ii ij io ip iq it iu iw ix iy iz ja jb:EV)(h:Ab)(ds:List Nat)
def Mb:Ru K R:=(.mk:Sg 0x1203040304e4fde33fce32fbe3 [a] h).F
def Acy:Ru K R:=(.mk:Sg 0x122213 [a] h).F
def Acv:Ru K R:=
 Q2 49 a h fun d h=>
 Q2 3 b h fun e h=>
 some ((.func 80 [] [d,e]),h)
def Ans:Ru K R:=(.mk:Sg 0x100027e71204e276626542615e263 [a,b,d] h).F
def Ac3:R:=(.mk:Sg 0x154330003e0027e61204e26660007e01e286509e [a,b,d,e,f] h [Jz (Ans K)] [cu0 (Bm (Df [(0,1),(1,1),(2,1),(3,1),(4,1),(5,1)]) [.int .i64 0,.int .i64 0,.int .i64 0,.int .i64 0,.int .i64 0,.int .i64 0] [])]).F
def Ji:R:=(.mk:Sg 0x1202354500256875002723e213e46302e2d00420e027e05e [a,b] h [cl5 (Ac3 K)] [] [[.int .i64 0,.int .i64 0,.int .i64 0,.int .i64 0,.int .i64 0,.int .i64 0]]).F
def Alj:Ru K R:=(.mk:Sg 0x12242116e273 [a,b] h).F
def Aal:R:=(.mk:Sg 0x1432000023285409e [a,b,d,e] h [Ec (Alj K)]).F
def Lm:R:=(.mk:Sg 0x12024340025764002623e213e37301e2d00320e [a,b] h [Ub (Aal K)]).F
def Ama:Ru K R:=
 Q2 23 a h fun d h=>
 Q2 3 b h fun e h=>
 some ((.func 82 [] [e,d]),h)
def Bn:Ru K R:=(.mk:Sg 0x122203 [a] h).F
def R7:Ru K R:=(.mk:Sg 0x1000e5021624c [a] h).F
def X3:Ru K (Ru r (Ru c R)):=(.mk:Sg 0x100047e31204e2312e6312e5 [a,b] h).F
def X8:R:=(.mk:Sg 0x1432000ee0047e41204e2412e60007e01e28540be [a,b,d,e] h [Ec (X3 c r K)] [cu0 (Bm (Ll 1) (List.replicate 32 (.int .u8 0)) [])]).F
def Ah5:R:=(.mk:Sg 0x12026541024874100ee0215e702e4320104e2a30620e [a,b,d,e,f] h [c 71,Ub (X8 c r K)]).F
def Ahk:R:=(.mk:Sg 0x142ba95104047ec1204e2c12e60007e00e312e5212e624ff3fb17e047e05ea18e421ae20ce232011e57665604b273011e0ee [a,b,d,e] h [c 106,cl5 (Ah5 c r K)] [cu0 (Bm (Ll 1) (List.replicate 32 (.int .u8 0)) [])] [List.replicate 32 (.int .u8 0)]).F
def Sf:R:=(.mk:Sg 0x1765440010e0047e71204e2712e60007e01e3023701e6048047e61204e2612e60007e00e288709e [a,b,d,e,f,g,i] h [Ub (Ahk c r K)] [cu0 (Bm (Ll 1) (List.replicate 32 (.int .u8 0)) [])]).F
def Arh:R:=(.mk:Sg 0x1202438a97102465acb71000224e30403e2d00315e802e327e1606e20ce52201323047e05e [a,b] h [Ec (Ji K),cl7 (Sf c r K)] [] [List.replicate 32 (.int .u8 0),[.int .i64 0,.int .i64 0,.int .i64 0,.int .i64 0,.int .i64 0,.int .i64 0]]).F
def As4:Ru K R:=(.mk:Sg 0x147e31104e2312e6312e5 [a,b] h).F
def Atd:Ru K R:=
 Ir e fun f=>
 k4 a b d f h
def Ast:R:=
 Ap9 32 1 d e fun f=>
 stE 1 f a h fun h=>
 Atd K k4 a b d e h
def Vn(K:Nat):Nat->A4
 | 0=>fun _ _ _ _ _=>none
 | m+1=>fun a b d e h=>
  cE Ja .lss 3 e (.int .i64 32)
  (Ast K (Vn K m) a b d e h)
  (As4 K b d h)
def Amn:R:=(.mk:Sg 0x100234400047e05e047e05e [a] h [Ub (Vn K K)] [] [List.replicate 32 (.int .u8 0)]).F
def Aze:Ru K R:=
 some (a,h)
def Ay8:Ru K R:=
 Ir b fun d=>
 k2 a d h
def Azb:R:=(.mk:Sg 0x1652004226522319e31c0007e [a,b] h [Ec (Ay8 K k2)] [cu0 (Bm (Df [(0,1),(1,1)]) [.int .i64 0,.int .i64 0] [(0,.int .i64 (-1)),(1,.int .i64 (-1))])]).F
def Tf(K:Nat):Nat->A2
 | 0=>fun _ _ _=>none
 | m+1=>fun a b h=>
  cE Ja .lss 3 b (.int .i64 3)
  (Azb K (Tf K m) a b h)
  (Aze K a h)
def Apv:R:=(.mk:Sg 0x10022002c6e921007e [a] h [Ec (Tf K K)] [cu1 (fun a=>Bm (Df [(0,1),(1,6)]) [.Bw,.int .i64 0,.int .i64 0,.int .i64 0,.int .i64 0,.int .i64 0,.int .i64 0] [(0,a)])]).F
def Ao9:Ru K R:=(.mk:Sg 0x122274e926544007e23555ae9 [a,b,d,e] h [] [cu4 (fun a b d g=>Bm (Df [(0,1),(1,1),(2,1),(3,3),(6,1)]) [.Bw,.Bw,.Bw,.int .i64 0,.int .i64 0,.int .i64 0,.bool false] [(0,a),(1,b),(2,d),(3,g)])]).F
def Ah4:Ru K (Ru r R):=(.mk:Sg 0x12232201 [a,b] h [c 139]).F
def Ahw:R:=(.mk:Sg 0x143210222212e2101 [a,b] h [c 126,Ec (Ah4 c r K)]).F
def Sk:R:=
 pkO e f fun g=>
 ifE g
 (some (d,h))
 (Ahw c r K a b h)
def Ard:R:=(.mk:Sg 0x1202498510246ba51010225e30401e2d00315e802e327e0606e20ce42201223 [a,b] h [Ec (Ji K),cl5 (Sk c r K)] [] [[.int .i64 0,.int .i64 0,.int .i64 0,.int .i64 0,.int .i64 0,.int .i64 0]]).F
def Ani:Ru r R:=(.mk:Sg 0x12221112101203 [a] h [Dr (Bn K),c 140]).F
def Ahb:Ru K (Ru r R):=(.mk:Sg 0x1222101 [a] h [c 73]).F
def Af3:Ru K (Ru r (Ru c R)):=
 Ir e fun f=>
 k4 a b d f h
def Ag7:R:=(.mk:Sg 0x17654410222212e2320153116e [a,b,d,e] h [c 139,Ub (Af3 c r K k4)]).F
def Ma(c:Ai)(r:Ai)(K:Nat):Nat->A4
 | 0=>fun _ _ _ _ _=>none
 | m+1=>fun a b d e h=>
  cE Ja .lss 3 e d
  (Ag7 c r K (Ma c r K m) a b d e h)
  (Ahb c r K a h)
def Afq:R:=(.mk:Sg 0x100234410213e32201 [a,b] h [c 144,Ub (Ma c r K K)]).F
def Ann:R:=(.mk:Sg 0x15421003e0232820fe32201 [a,b] h [c 21,Ec (Afq c r K)]).F
def Aju:Ru K R:=
 Q2 43 a h fun b h=>
 some ((.func 146 [] [b]),h)
def Afx:Ru K R:=
 Q2 45 a h fun b h=>
 some ((.func 148 [] [b]),h)
def Cf:Ru K R:=(.mk:Sg 0x109e41104e246626531c009e05e [a] h [] [] [[.int .i64 0,.int .i64 0,.int .i64 0,.int .i64 0,.int .i64 0,.int .i64 0]]).F
def Ef:Ru K R:=(.mk:Sg 0x109e41104e246626530c009e05e [a] h [] [] [[.int .i64 0,.int .i64 0,.int .i64 0,.int .i64 0,.int .i64 0,.int .i64 0]]).F
def Gb:Ru K R:=(.mk:Sg 0x169e41104e24f2e62f2e537c069e05e [a] h [] [] [List.replicate 256 (.int .u32 0)]).F
def Aaw:Ru K (Ru r (Ru c R)):=(.mk:Sg 0x15027e31204e2366365 [a,b,d] h).F
def Pr:R:=(.mk:Sg 0x13200e3109806e3105021603e6c42162214e01e3c20ae224c3c12e0fe0315e701e8705e31042162214e01e3c20ae224c3c0ae00315e701e42662bffff5f06e17e027e05e05e18e20ce2467407fff4f01e723c004f00e210e63c21e03f9110e43c418e5404b273011e0ee [a,b,d] h [c 185,Jz (Aaw c r K)] [] [[.int .i64 0,.int .i64 0,.int .i64 0,.int .i64 0,.int .i64 0,.int .i64 0]]).F
def Akz:R:=(.mk:Sg 0x15433004021626c [a,b,d] h [Jz (Pr c r K)]).F
def Atf:R:=(.mk:Sg 0x13453204563100fe0027e51204e25660007e01e212e3027e51204e25660007e00e0ee0215e701e510123e28463027e05e3bde9 [a,b] h [c 73,Jz (Akz c r K),Jz (Pr c r K)] [cu0 (Bm (Df [(0,1),(1,1),(2,1),(3,1),(4,1),(5,1)]) [.int .i64 0,.int .i64 0,.int .i64 0,.int .i64 0,.int .i64 0,.int .i64 0] [])] [[.int .i64 0,.int .i64 0,.int .i64 0,.int .i64 0,.int .i64 0,.int .i64 0]]).F
def Azq:Ru K R:=
 pkA a b fun d=>
 some (d,h)
def Apm:R:=(.mk:Sg 0x12022002320060320e92a00223e [a] h [Ec (Azq K)]).F
def Wa:Ru K R:=
 pkO a b fun d=>
 some (d,h)
def Qs:R:=(.mk:Sg 0x1202220262207224e72211210130306e2d01424e [a,b,d] h [Dr (Cf K),Ec (Es K),Ec (Wa K)] [] [] [(.int .i64 (-1))]).F
def Gq:Ru K R:=(.mk:Sg 0x107e0200230023701e201ae42201203 [a,b] h [Ec A0z]).F
def Aay:Ru K R:=
 pkA a b fun d=>
 some (d,h)
def Ve:R:=(.mk:Sg 0x1202210262102720e21007e210130305e2a00323e [a,b] h [Dr (Cf K),Ec (Aay K)] [cu1 (fun f=>V9 3 false 0 f)]).F
def Aev:Ru K (Ru r (Ru c R)):=(.mk:Sg 0x1002200e [a] h).F
def Ad8:R:=(.mk:Sg 0x121000fe02200e53023301e [a] h [Dr (Aev c r K)]).F
def Ael:R:=(.mk:Sg 0x16120200200e5212e21112101203 [a,b] h [Dr (Bn K),c 140,Dr (Ad8 c r K)]).F
def Ut:Ru K (Ru r (Ru c R)):=
 Ir e fun f=>
 k4 a b d f h
def Adv:R:=(.mk:Sg 0x16432400724340040ae958 [a,b,d,e,f] h [Ub (Ut c r K k4)]).F
def Aeo:R:=(.mk:Sg 0x193876510200200e5212e20ce263301345 [a,b,d,e] h [c 195,cl5 (Adv c r K k4)]).F
def H7(c:Ai)(r:Ai)(K:Nat):Nat->A4
 | 0=>fun _ _ _ _ _=>none
 | m+1=>fun a b d e h=>
  cE Ja .lss 3 e (.int .i64 3)
  (Aeo c r K (H7 c r K m) a b d e h)
  (Ael c r K a d h)
def Aef:R:=
 H7 c r K K a b (.int .i64 0) (.int .i64 0) h
def Oz(c:Ai)(r:Ai)(K:Nat)(base:Nat)(s:DX)(a:EV)(b:EV)(d:EV)(e:EV)(h:Ab):R:=
 pkO d e fun f=>
 ifE f
 (some (.tuple [(.int .i64 0),(.int .i64 10)],h))
 (Aef c r K a b h)
def Akg:R:=
 Q2 163 b h fun d h=>
 W6 h fun base s=>
 Ln 0 0 base d s fun s=>Qp 4 d h fun e=>
 J0 1 1 s h (fun h=>(c 159 [e] h)) fun f h s=>
 Alz f fun g=>
 wfE g
 (olE 3 5 31 base d s h fun s i=>
 J0 6 63 s h (fun h=>(Ef K i h)) fun j h s=>
 Aod 0 10 911 base a s h fun s n=>
 J0 11 2047 s h (fun h=>(Cf K n h)) fun o h s=>
 J1 Alb (bin TT .neq 23) j o fun p=>
 Oz c r K base s a d g p h)
 (Oz c r K base s a d g tU h)
def Yo:Ru K (Ru r (Ru c R)):=
 pkA a b fun d=>
 some (d,h)
def Apg:R:=(.mk:Sg 0x12022202522000224e5221132303e2a32201 [a,b] h [c 21,Ec (Lm K),Ec (Yo c r K)]).F
def Abg:Ru K (Ru r (Ru c R)):=(.mk:Sg 0x1002 [] h).F
def Aci:R:=(.mk:Sg 0x10100ee0230ee0215e701e42201203 [a,b] h [c 197,cl0 (Abg c r K)]).F
def Ajk:R:=(.mk:Sg 0x1652402220ee0215e701e2282231212150300e00215e701e522112101203 [a,b] h [Dr (Bn K),c 196,Dr (Cn K),c 67,Ec (Aci c r K)]).F
def Ul(c:Ai)(r:Ai)(K:Nat)(tm:Bb)(a:EV)(h:Ab)(ds:List Nat):R:=
 Fw a h fun b=>
 uwE b h ds
def Alg:R:=
 (fun(tm:Bb) (ds:List Nat)=>
 Ax7 (.cells [.Al] 28) h fun d h=>
 Ar8 a fun e=>
 Ahh 2 e fun f=>
 Fw f h fun g=>
 Am (Acv K g b h) fun i h=>
 Us c TT 144 19 0 i ((((((((tm.put 4 (some .Al)).put 5 (some d)).put 7 (some a)).put 8 (some e)).put 9 (some f)).put 10 (some g)).put 11 (some b)).put 12 (some i)) h ds (fun h ds=>
 Ul c r K ((((((((tm.put 4 (some .Al)).put 5 (some d)).put 7 (some a)).put 8 (some e)).put 9 (some f)).put 10 (some g)).put 11 (some b)).put 12 (some i)) d h ds) (fun id h ds=>
 Ax (Nat.beq 0 id) (Ul c r K ((((((((tm.put 4 (some .Al)).put 5 (some d)).put 7 (some a)).put 8 (some e)).put 9 (some f)).put 10 (some g)).put 11 (some b)).put 12 (some i)) d h ds) (none)) (fun h ds=>
 Fi ds h fun h=>some (.Al,h))) ((Tr.nil.put 0 (some a)).put 1 (some b)) []
def W7:Ru K (Ru r (Ru c R)):=(.mk:Sg 0x1020251623211410120de [a,b] h [Dr (fun b=>Cd [.int .i64 0] 3 1 1 [(0,b)]),Ec (Eg 3 1),cl0 (Wb l true .ready none)]).F
def Adu:R:=
 Er l h fun h=>W7 c r K l a b h
def Aim:Ru K (Ru r R):=(.mk:Sg 0x1250200e32201 [a,b] h [c 74]).F
def Ajo:R:=(.mk:Sg 0x1232100040200e60123701e2101 [a] h [c 28,Ec (Aim c r K)] [] [] [(.int .i64 (-1))]).F
def Aqg:R:=(.mk:Sg 0x13120250200e31119282101 [a] h [c 198,c 73,Dr (Ajo c r K)]).F
def Adb:Ru K R:=
 Q2 199 a h fun b h=>
 some ((.func 199 [] [b]),h)
def Kw:Ru K (Ru r (Ru c R)):=
 Ir d fun e=>
 k3 a b e h
def Uw(c:Ai)(r:Ai)(K:Nat)(k3:A3)(k5:A5)(a:EV)(b:EV)(d:EV)(e:EV)(f:EV)(h:Ab):R:=
 Ir f fun g=>
 k5 a b d e g h
def Ie:R:=
 pkA g i fun j=>
 ifE j
 (some (.tuple [],h))
 (Uw c r K k3 k5 a b d e f h)
def Ad7:R:=(.mk:Sg 0x12028765471024a987671020fe3420103e2a01225e652007e [a,b,d,e,f] h [Ec (fun a g=>Sh c r a [g]),cl7 (Ie c r K k3 k5)] [cu2 (fun e f=>Azy 2 1 false 1 e f)] [] [(.int .i64 (-1))]).F
def Em(c:Ai)(r:Ai)(K:Nat)(k3:A3):Nat->A5
 | 0=>fun _ _ _ _ _ _=>none
 | m+1=>fun a b d e f h=>
  cE Ja .lss 3 f (.int .i64 2)
  (Ad7 c r K k3 (Em c r K k3 m) a b d e f h)
  (Kw c r K k3 a b d h)
def Ad1:R:=(.mk:Sg 0x1002987500232107e3142042c3e0206e432007e [a,b,d] h [cl5 (Em c r K k3 K)] [cu2 (fun b d=>Azy 3 2 true 2 b d),cu2 (fun g i=>Bm (Ll 1) [.int .i64 0,.int .i64 0] [(0,g),(1,i)])] [[.int .i64 0,.int .i64 0]]).F
def F9(c:Ai)(r:Ai)(K:Nat):Nat->A3
 | 0=>fun _ _ _ _=>none
 | m+1=>fun a b d h=>
  cE Ja .lss 3 d (.int .i64 3)
  (Ad1 c r K (F9 c r K m) a b d h)
  (some (.tuple [],h))
def Ak7:R:=(.mk:Sg 0x1002530026521c30de [a,b] h [Jz (F9 c r K K)]).F
abbrev Wd(K:Nat)(c:Ai):Ai:=c
def E6:Ru K R:=
 Q2 141 a h fun b h=>
 some ((.func 201 [] [b]),h)
def Ed:Ru K R:=(.mk:Sg 0x122233 [a] h).F
def Zz:Ru K R:=
 some (a,h)
def Rn:Ru K R:=
 Ir e fun f=>
 k4 a b d f h
def Z0:R:=(.mk:Sg 0x17654410876241040ae91023701e210153116e [a,b,d,e] h [Dr (Ed K),Ub (Rn K k4)]).F
def Iq(K:Nat):Nat->A4
 | 0=>fun _ _ _ _ _=>none
 | m+1=>fun a b d e h=>
  cE Ja .lss 3 e d
  (Z0 K (Iq K m) a b d e h)
  (Zz K a h)
def Qh:R:=(.mk:Sg 0x1002300400213e203 [a] h [Ub (Iq K K)]).F
def Tj:Ru K R:=(.mk:Sg 0x1000e000e321627ff3fb17e56115e02e21de20de271e7b23115ea02e5210ea73711e0ee321627ff3fb17e56115ea21de20de271e7b23115e402e5110e473711e0ee3ce1023701e204327e9 [a,b,d] h).F
def Ahx:Ru K (Ru r (Ru c R)):=(.mk:Sg 0x1402 [] h).F
def Ah3:Ru K (Ru r (Ru c R)):=
 Ir d fun e=>
 k3 a b e h
def Ahy:R:=(.mk:Sg 0x154331050232842201 [a,b,d] h [c 142,Jz (Ah3 c r K k3)]).F
def Na(c:Ai)(r:Ai)(K:Nat):Nat->A3
 | 0=>fun _ _ _ _=>none
 | m+1=>fun a b d h=>
  cE Ja .lss 3 d b
  (Ahy c r K (Na c r K m) a b d h)
  (Ahx c r K h)
def Apl:R:=(.mk:Sg 0x1002532021112101203 [a] h [Dr (Cf K),Dr (Dn K),Jz (Na c r K K)]).F
def Fo:Ru K (Ru r (Ru c R)):=
 Ir e fun f=>
 k4 a b d f h
def Fs:R:=(.mk:Sg 0x1ba98410000e22820fe296301265227e0606e26553615e [a,b,d,e] h [Jz (fun a e j=>Sh c r a [e,j]),Ub (Fo c r K k4)] [] [[.int .i64 0,.int .i64 0,.int .i64 0,.int .i64 0,.int .i64 0,.int .i64 0]]).F
def Cj(c:Ai)(r:Ai)(K:Nat):Nat->A4
 | 0=>fun _ _ _ _ _=>none
 | m+1=>fun a b d e h=>
  cE Ja .lss 3 e d
  (Fs c r K (Cj c r K m) a b d e h)
  (some (.tuple [],h))
def Gj:R:=(.mk:Sg 0x100234400213e30de [a,b] h [Ub (Cj c r K K)]).F
end
variable{K d:Nat}(H:By disp)
include H
theorem Amb(hd:1<=d):R1 disp K d 14 (Mb K):=fun _=>rl H hd
theorem Ar5(hd:1<=d):R1 disp K d 19 (Acy K):=fun _=>rl H hd
theorem Anw(hd:1<=d):R2 disp K d 23 (Acv K):=fun _ _=>rl H hd
theorem Iw(hd:1<=d):R2 disp K d 24 (Ji K):=fun _ _=>rl H hd
theorem Yc(hd:1<=d):R2 disp K d 25 (Lm K):=fun _ _=>rl H hd
theorem Ax0(hd:1<=d):R2 disp K d 26 (Ama K):=fun _ _=>rl H hd
theorem D4(hd:1<=d):R1 disp K d 33 (Bn K):=fun _=>rl H hd
theorem Aou(hd:1<=d):R1 disp K d 35 (R7 K):=fun _=>rl H hd
theorem Au3(hd:1<=d):S2 disp K d 47 Arh:=fun _ _=>rd rfl rfl H (V2 (Iw H) hd<|rfl)
theorem A1h(hd:1<=d):R1 disp K d 60 (Amn K):=fun _=>ll H hd (fun _ _=>rfl) 51 (e4 (Vn K) 0 2 3 5)
theorem A7i(hd:1<=d):R1 disp K d 65 (Apv K):=fun _=>ll H hd (fun _ _=>rfl) 51 (e2 (Tf K) 3 8)
theorem A8b(hd:1<=d):R4 disp K d 68 (Ao9 K):=fun _ _ _ _=>rl H hd
theorem At0(hd:1<=d):S2 disp K d 71 Ard:=fun _ _=>rd rfl rfl H (V2 (Iw H) hd<|rfl)
theorem Asc(hd:1<=d):S1 disp K d 72 Ani:=fun _=>rd rfl rfl H (V1 (D4 H) hd<|rfl)
theorem Asl(hd:0<=d):S2 disp K d 74 Ann:=fun _ _=>ld rfl rfl H rfl 51 (fun c r=>e4 (Ma c r K) 0 14 15 16)
theorem Avt(hd:1<=d):R1 disp K d 77 (Aju K):=fun _=>rl H hd
theorem Aum(hd:1<=d):R1 disp K d 78 (Afx K):=fun _=>rl H hd
theorem Cw(hd:1<=d):R1 disp K d 79 (Cf K):=fun _=>rl H hd
theorem Fg(hd:1<=d):R1 disp K d 88 (Ef K):=fun _=>rl H hd
theorem Xc(hd:1<=d):R1 disp K d 95 (Gb K):=fun _=>rl H hd
theorem Avw(hd:0<=d):S2 disp K d 127 Atf:=fun _ _=>rd rfl rfl H rfl
theorem Av0(hd:1<=d):R1 disp K d 135 (Apm K):=fun _=>rl H hd
theorem Asg(hd:3<=d):R3 disp K d 136 (Qs K):=fun _ _ _=>rl H hd fun d hd=>V1 (Cw H) hd<|V2 (Fq H) hd<|rfl
theorem U4(hd:1<=d):R2 disp K d 137 (Gq K):=fun _ _=>rl H hd
theorem Aiw(hd:2<=d):R2 disp K d 138 (Ve K):=fun _ _=>rl H hd fun d hd=>V1 (Cw H) hd<|rfl
theorem Ao2(hd:1<=d):S2 disp K d 141 Akg:=fun _ _=>ld rfl rfl H (V1 (Fg H) hd<|V1 (Cw H) hd<|V1 (D4 H) hd<|rfl) 103 (fun c r=>e4 (H7 c r K) 0 3 6 25)
theorem Auv(hd:1<=d):S2 disp K d 142 Apg:=fun _ _=>rd rfl rfl H (V2 (Yc H) hd<|rfl)
theorem An8(hd:1<=d):S2 disp K d 143 Ajk:=fun _ _=>rd rfl rfl H (V1 (D4 H) hd<|V1 (Hz H) hd<|rfl)
theorem Aqt(hd:1<=d):S2 disp K d 144 Alg:=fun _ _=>rd rfl rfl H (V2 (Anw H) hd<|rfl)
theorem Aku(hd:1<=d){l:Nat}(tm:Bb)(h:Ab)(v:EV){st:LoopState}{p:Option Code}(A:h.get l=some (.loop st p 144 19 tm [13] (Ek TT 144 0).2.2.1 (Ek TT 144 0).2.2.2 d0)):
 Ag TT disp K (d+1) true l [v] h=Adu (Ag TT disp K d false) (Ag TT disp K d true) K l (tmp tm 5) v h:=rr rfl rfl (rfl) A rfl (by kernel_rfl)
theorem At9(hd:0<=d):S1 disp K d 145 Aqg:=fun _=>rd rfl rfl H rfl
theorem Asb(hd:1<=d):R1 disp K d 147 (Adb K):=fun _=>rl H hd
omit H in
theorem Aol(c r:Ai)(K:Nat)(A:EV->EV->EV->Ab->R)(m:Nat):lpB false (Wd K c) c r K 148 1637 [(2,fun v tm h ds=>Kw c r K A (v 0) (v 10) (v 11) h),(1,fun v tm h ds=>Kw c r K A (v 0) (v 10) (v 11) h),(0,Agg false TT 148)] m=(fun m v tm h ds=>Em c r K A m (v 0) (v 10) (v 11) (v 18) (v 19) h) m:=
 Qv (E:=fun m v tm h ds=>Em c r K A m (v 0) (v 10) (v 11) (v 18) (v 19) h) rfl (fun m=>A2m fun v tm h ds=>by kernel_rfl) m
omit H in
theorem Aoa(c r:Ai)(K:Nat)(m:Nat):lpB false (Wd K c) c r K 148 5 [(0,Agg false TT 148)] m=(fun m v tm h ds=>F9 c r K m (v 0) (v 10) (v 11) h) m:=
 Buf (E:=fun m v tm h ds=>F9 c r K m (v 0) (v 10) (v 11) h) rfl (fun m=>(cut [true,true,false,false,true,true,false] (Aol c r K (F9 c r K m) K) (by kernel_rfl) (by kernel_rfl) rfl)) (fun m=>A2m fun v tm h ds=>by kernel_rfl) m
theorem Apa(hd:0<=d):S2 disp K d 148 Ak7:=fun _ _=>rm (q:=false) (D:=Wd K (Ag TT disp K d false)) (by kernel_rfl) rfl rfl H (rfl) (cut [true,false] (Aoa (Ag TT disp K d false) (Ag TT disp K d true) K K) (by kernel_rfl) (by kernel_rfl) rfl)
theorem T9(hd:1<=d):R1 disp K d 149 (E6 K):=fun _=>rl H hd
theorem Ht(hd:1<=d):R1 disp K d 174 (Ed K):=fun _=>rl H hd
theorem Aml(hd:2<=d):R1 disp K d 175 (Qh K):=fun _=>ll H hd (fun d hd=>V1 (Ht H) hd<|rfl) 51 (e4 (Iq K) 3 9 10 11)
theorem Atm(hd:1<=d):R3 disp K d 187 (Tj K):=fun _ _ _=>rl H hd
theorem Aui(hd:1<=d):S1 disp K d 198 Apl:=fun _=>ld rfl rfl H (V1 (Cw H) hd<|V1 (Ey H) hd<|rfl) 25 (fun c r=>e3 (Na c r K) 0 9 10)
theorem Jc(hd:0<=d):S2 disp K d 201 Gj:=fun _ _=>ld rfl rfl H rfl 5 (fun c r=>e4 (Cj c r K) 0 5 6 7)
end
end Go.Ev
