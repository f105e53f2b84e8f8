import Derived.Test.YtokpnommcenoaaaGreatFun
import Derived.Test.YtokpnommcenoaaaGreatTab
set_option linter.all false
namespace Go.Ev
open Go.Proofs
set_option maxRecDepth 100000
set_option maxHeartbeats 4000000
variable {F:EV->EV->EV->EV->EV->Ab->R}{K k d0 fuel:Nat}{fl:Bool}{T:Ih}{callV round:Ai}{Dp:Option Nat}{out:Nat->CD}{disp:Nat->Option FT}
section
noncomputable section
section
variable (fl:Bool)(T:Ih)(call callV round:Ai)(fuel fn n:Nat)(Dp:Option Nat)(out:Nat->CD)(ret:CD)
abbrev Bfx(p:List Bool):Hk->Code->Afy->CD->Code × Afy × CD:=
 @List.rec Bool (fun _=>Hk->Code->Afy->CD->Code × Afy × CD) (fun _ c env k=>(c,env,k))
  (fun s _ v H c env k=>match c with
   | .seq x y=>Bb s (v H.r y env k) (v H.l x env (Ou fl T call callV round fuel fn n Dp out ret H.r y env k))
   | .cond _ x y=>Bb s (v H.r y env k) (v H.l x env k)
   | .block id x=>v H.l x ((id,k)::env) k
   | c=>(c,env,k)) p
end
def Bn7:Nat:=have _:=@Q2;have _:=@Ds;have _:=@Py;have _:=@Em;have _:=@Aph;have _:=@Zq;have _:=@builtin;have _:=@Kv;have _:=@Qi;have _:=@Fp;have _:=@Cd;have _:=@I9;0
def Bmj(c:Code):Bool:=match c with | .loop _=>true|_=>false
@[reducible] def cH(q:Bool)(C c r:Ai)(K g:Nat)(H:Hk):CD:=let _:=Bn7;Ou q TT C c r K g (nOf TT g) none no0 (To q TT g) H (Iw TT g) [] (To q TT g)
@[reducible] def lH(q:Bool)(C c r:Ai)(K g p:Nat):Code × Afy × CD:=Bfx q TT C c r K g (nOf TT g) none no0 (To q TT g) (pathOf p) .no (Iw TT g) [] (To q TT g)
@[reducible] def Ba4(q:Bool)(C c r:Ai)(K g p:Nat)(X:CD):CD:=let _:=Bn7;match lH q C c r K g p with
 | (.loop x,env,_)=>Abo q TT C c r K g (nOf TT g) none no0 (To q TT g) x env X
 | _=>X
@[reducible] def A6t(xs:List EV)(B:CD)(h:Ab):R:=let _:=Bn7;B (A46 xs 0 u0) (setArgs xs 0 .nil) h []
@[reducible] def lpB(q:Bool)(C c r:Ai)(K g p:Nat)(env:Afy)(m:Nat):CD:=A1x (fun v=>Abo q TT C c r K g (nOf TT g) none no0 (To q TT g) (Bpo TT g (pathOf p)) env v) m
abbrev e0(X:Nat->A0):Nat->CD:=fun m _ _ h _=>X m h
abbrev e1(X:Nat->A1)(a:Nat):Nat->CD:=fun m v _ h _=>X m (v a) h
abbrev e2(X:Nat->A2)(a b:Nat):Nat->CD:=fun m v _ h _=>X m (v a) (v b) h
abbrev e3(X:Nat->A3)(a b c:Nat):Nat->CD:=fun m v _ h _=>X m (v a) (v b) (v c) h
abbrev e4(X:Nat->A4)(a b c d:Nat):Nat->CD:=fun m v _ h _=>X m (v a) (v b) (v c) (v d) h
abbrev e5(X:Nat->A5)(a b c d e:Nat):Nat->CD:=fun m v _ h _=>X m (v a) (v b) (v c) (v d) (v e) h
abbrev e6(X:Nat->A6)(a b c d e f:Nat):Nat->CD:=fun m v _ h _=>X m (v a) (v b) (v c) (v d) (v e) (v f) h
abbrev e7(X:Nat->A7)(a b c d e f i:Nat):Nat->CD:=fun m v _ h _=>X m (v a) (v b) (v c) (v d) (v e) (v f) (v i) h
abbrev e8(X:Nat->A8)(a b c d e f i j:Nat):Nat->CD:=fun m v _ h _=>X m (v a) (v b) (v c) (v d) (v e) (v f) (v i) (v j) h
abbrev e9(X:Nat->A9)(a b c d e f i j k:Nat):Nat->CD:=fun m v _ h _=>X m (v a) (v b) (v c) (v d) (v e) (v f) (v i) (v j) (v k) h
abbrev e10(X:Nat->A10)(a b c d e f i j k l:Nat):Nat->CD:=fun m v _ h _=>X m (v a) (v b) (v c) (v d) (v e) (v f) (v i) (v j) (v k) (v l) h
abbrev e11(X:Nat->A11)(a b c d e f i j k l n:Nat):Nat->CD:=fun m v _ h _=>X m (v a) (v b) (v c) (v d) (v e) (v f) (v i) (v j) (v k) (v l) (v n) h
end
section
variable{call:Ai}{fn n:Nat}{ret:CD}
theorem Axu:∀(p:List Bool) (H:Hk) (c:Code) (env:Afy) (k:CD),atH fl T call callV round fuel fn n Dp out ret p H c env k=Abo fl T call callV round fuel fn n Dp out ret (Bfx fl T call callV round fuel fn n Dp out ret p H c env k).1 (Bfx fl T call callV round fuel fn n Dp out ret p H c env k).2.1 (Bfx fl T call callV round fuel fn n Dp out ret p H c env k).2.2
 | [],_,_,_,_=>rfl
 | s::p,H,c,env,k=>by
  cases c<;>first|rfl|exact Axu p _ _ _ _|(cases s<;>exact Axu p _ _ _ _)
end
section
variable{m d g p:Nat}{q:Bool}{C:Nat->Ai}{D c r:Ai}{E:Nat->CD}{xs:List EV}{Y:Ab->R}{B:CD}
theorem Bpm(v:Bmj (lH q D c r K g p).1=true)(h0:E 0=fun _ _ _ _=>none)(hs:∀m A tm h ds,Ba4 q D c r K g p (E m) A tm h ds=E (m+1) A tm h ds)(G:Abe (pathOf p) .no (Iw TT g)=true):
 cH q D c r K g .no=cH q D c r K g (Axe (pathOf p) (E K) .no):=by
 refine Vx _ (pathOf p) .no (Iw TT g) [] (To q TT g) G ?_;rw[Axu];have hs:=fun m=>Aw8 (hs m)
 show Abo q TT D c r K g (nOf TT g) none no0 (To q TT g) (lH q D c r K g p).1 (lH q D c r K g p).2.1 (lH q D c r K g p).2.2=E K;unfold Ba4 at hs;generalize lH q D c r K g p=x at v hs⊢;obtain⟨J,env,k⟩:=x;cases J<;>first|exact Ow h0 hs K|cases v
abbrev R0(disp:Nat->Option FT)(K d g:Nat)(F:Ab->R):Prop:=∀h,Ag TT disp K d false g [] h=F h
abbrev S0(disp:Nat->Option FT)(K d g:Nat)(F:Ai->Ai->Nat->Ab->R):Prop:=∀h,Ag TT disp K (d+1) false g [] h=F (Ag TT disp K d false) (Ag TT disp K d true) K h
theorem V0 {F:Ab->R}{x:Ai}(e:k<=d->R0 disp K d g F)(hd:m<=d)(y:Ag TT disp K d false=x)(v:Nat.ble k m=true:=by rfl):Ag TT disp K d false=w0 g F x:=W0 (e (lq hd v)) y
abbrev R1(disp:Nat->Option FT)(K d g:Nat)(F:EV->Ab->R):Prop:=∀a h,Ag TT disp K d false g [a] h=F a h
abbrev S1(disp:Nat->Option FT)(K d g:Nat)(F:Ai->Ai->Nat->EV->Ab->R):Prop:=∀a h,Ag TT disp K (d+1) false g [a] h=F (Ag TT disp K d false) (Ag TT disp K d true) K a h
theorem V1 {F:EV->Ab->R}{x:Ai}(e:k<=d->R1 disp K d g F)(hd:m<=d)(y:Ag TT disp K d false=x)(v:Nat.ble k m=true:=by rfl):Ag TT disp K d false=w1 g F x:=W1 (e (lq hd v)) y
abbrev R2(disp:Nat->Option FT)(K d g:Nat)(F:EV->EV->Ab->R):Prop:=∀a b h,Ag TT disp K d false g [a,b] h=F a b h
abbrev S2(disp:Nat->Option FT)(K d g:Nat)(F:Ai->Ai->Nat->EV->EV->Ab->R):Prop:=∀a b h,Ag TT disp K (d+1) false g [a,b] h=F (Ag TT disp K d false) (Ag TT disp K d true) K a b h
theorem V2 {F:EV->EV->Ab->R}{x:Ai}(e:k<=d->R2 disp K d g F)(hd:m<=d)(y:Ag TT disp K d false=x)(v:Nat.ble k m=true:=by rfl):Ag TT disp K d false=w2 g F x:=W2 (e (lq hd v)) y
abbrev R3(disp:Nat->Option FT)(K d g:Nat)(F:EV->EV->EV->Ab->R):Prop:=∀a b e h,Ag TT disp K d false g [a,b,e] h=F a b e h
abbrev S3(disp:Nat->Option FT)(K d g:Nat)(F:Ai->Ai->Nat->EV->EV->EV->Ab->R):Prop:=∀a b e h,Ag TT disp K (d+1) false g [a,b,e] h=F (Ag TT disp K d false) (Ag TT disp K d true) K a b e h
theorem V3 {F:EV->EV->EV->Ab->R}{x:Ai}(e:k<=d->R3 disp K d g F)(hd:m<=d)(y:Ag TT disp K d false=x)(v:Nat.ble k m=true:=by rfl):Ag TT disp K d false=w3 g F x:=W3 (e (lq hd v)) y
abbrev R4(disp:Nat->Option FT)(K d g:Nat)(F:EV->EV->EV->EV->Ab->R):Prop:=∀a b e f h,Ag TT disp K d false g [a,b,e,f] h=F a b e f h
abbrev S4(disp:Nat->Option FT)(K d g:Nat)(F:Ai->Ai->Nat->EV->EV->EV->EV->Ab->R):Prop:=∀a b e f h,Ag TT disp K (d+1) false g [a,b,e,f] h=F (Ag TT disp K d false) (Ag TT disp K d true) K a b e f h
theorem V4 {F:EV->EV->EV->EV->Ab->R}{x:Ai}(e:k<=d->R4 disp K d g F)(hd:m<=d)(y:Ag TT disp K d false=x)(v:Nat.ble k m=true:=by rfl):Ag TT disp K d false=w4 g F x:=W4 (e (lq hd v)) y
abbrev R5(disp:Nat->Option FT)(K d g:Nat)(F:EV->EV->EV->EV->EV->Ab->R):Prop:=∀a b e f i h,Ag TT disp K d false g [a,b,e,f,i] h=F a b e f i h
abbrev S5(disp:Nat->Option FT)(K d g:Nat)(F:Ai->Ai->Nat->EV->EV->EV->EV->EV->Ab->R):Prop:=∀a b e f i h,Ag TT disp K (d+1) false g [a,b,e,f,i] h=F (Ag TT disp K d false) (Ag TT disp K d true) K a b e f i h
theorem V5{x:Ai}(e:k<=d->R5 disp K d g F)(hd:m<=d)(y:Ag TT disp K d false=x)(v:Nat.ble k m=true:=by rfl):Ag TT disp K d false=w5 g F x:=W5 (e (lq hd v)) y
abbrev S6(disp:Nat->Option FT)(K d g:Nat)(F:Ai->Ai->Nat->EV->EV->EV->EV->EV->EV->Ab->R):Prop:=∀a b e f i j h,Ag TT disp K (d+1) false g [a,b,e,f,i,j] h=F (Ag TT disp K d false) (Ag TT disp K d true) K a b e f i j h
theorem rf(v:Auf (Iw TT g)=q)(L:Ag TT disp K d false=c)(M:Ag TT disp K d true=r)(e:c=D)(A:cH q D c r K g .no=B)(G:A5d TT g (F9 xs)=true:=by kernel_rfl)(J:∀h,A6t xs B h=Y h:=by intros;kernel_rfl)(h:Ab):Axb TT c r K g xs h=Y h:=by
 rw[Bcs G,v];exact(congrArg (fun C=>A6t xs (cH q C c r K g .no) h) e).trans ((congrArg (fun B=>A6t xs B h) A).trans (J h))
theorem rm(v:Auf (Iw TT g)=q)(A:Ag TT disp K d false=c)(G:Ag TT disp K d true=r)(H:Ca disp)(e:c=D)(J:Ou q TT D c r K g (nOf TT g) none no0 (To q TT g) .no (Iw TT g) [] (To q TT g)=B)(L:Avc g=true:=by kernel_rfl)(M:A5d TT g (F9 xs)=true:=by kernel_rfl)(O:∀h,A6t xs B h=Y h:=by intros;kernel_rfl)(h:Ab):Ag TT disp K (d+1) false g xs h=Y h:=by
 subst A G;have e0:Ag TT disp K (d+1) false g xs h = @Option.rec FT (fun _=>FnT) (Axb TT (Ag TT disp K d false) (Ag TT disp K d true) K g) (fun F=>F (Ag TT disp K d false) (Ag TT disp K d true) K) (disp g) xs h:=rfl;rw[e0,H.plain g L];exact rf v rfl rfl e J M O h
theorem rd(v:Ag TT disp K d false=c)(A:Ag TT disp K d true=r)(H:Ca disp)(e:c=D)(G:Avc g=true:=by kernel_rfl)(J:A5d TT g (F9 xs)=true:=by kernel_rfl)(L:∀h,A6t xs (cH (Auf (Iw TT g)) D c r K g .no) h=Y h:=by intros;kernel_rfl)(h:Ab):Ag TT disp K (d+1) false g xs h=Y h:=rm rfl v A H e rfl G J L h
theorem ld(A:Ag TT disp K d false=c)(G:Ag TT disp K d true=r)(H:Ca disp)(e:c=D)(p:Nat)(E:Ai->Ai->Nat->CD)(h0:E c r 0=fun _ _ _ _=>none:=by rfl)(J:Avc g=true:=by kernel_rfl)(L:A5d TT g (F9 xs)=true:=by kernel_rfl)(M:Abe (pathOf p) .no (Iw TT g)=true:=by kernel_rfl)
 (O:Bmj (lH (Auf (Iw TT g)) D c r K g p).1=true:=by kernel_rfl) (hs:∀m v tm h ds,Ba4 (Auf (Iw TT g)) D c r K g p (E c r m) v tm h ds=E c r (m+1) v tm h ds:=by intros;kernel_rfl)
 (P:∀h,A6t xs (cH (Auf (Iw TT g)) D c r K g (Axe (pathOf p) (E c r K) .no)) h=Y h:=by intros;kernel_rfl) (h:Ab):Ag TT disp K (d+1) false g xs h=Y h:=rm rfl A G H e (Bpm O h0 hs M) J L P h
theorem rl(H:Ca disp)(hd:m+1<=d)(e:∀d,m<=d->Ag TT disp K d false=C d:=by exact fun _ _=>rfl)(v:Avc g=true:=by kernel_rfl)(A:A5d TT g (F9 xs)=true:=by kernel_rfl)(G:Auf (Iw TT g)=false:=by kernel_rfl)(J:∀d c r h,A6t xs (cH false (C d) c r K g .no) h=Y h:=by intros;kernel_rfl)(h:Ab):Ag TT disp K d false g xs h=Y h:=by
 obtain⟨d,rfl⟩:∃e,d=e+1:=⟨d-1,by omega⟩;exact rm G rfl rfl H (e d (Nat.le_of_succ_le_succ hd)) rfl v A (J d _ _) h
theorem ll(H:Ca disp)(hd:m+1<=d)(e:∀d,m<=d->Ag TT disp K d false=C d)(p:Nat)(E:Nat->CD)(h0:E 0=fun _ _ _ _=>none:=by rfl)(A:Avc g=true:=by kernel_rfl)(G:A5d TT g (F9 xs)=true:=by kernel_rfl)(J:Auf (Iw TT g)=false:=by kernel_rfl)(L:Abe (pathOf p) .no (Iw TT g)=true:=by kernel_rfl)
 (M:∀d c r,Bmj (lH false (C d) c r K g p).1=true:=by intros;kernel_rfl) (hs:∀d c r m v tm h ds,Ba4 false (C d) c r K g p (E m) v tm h ds=E (m+1) v tm h ds:=by intros;kernel_rfl)
 (O:∀d c r h,A6t xs (cH false (C d) c r K g (Axe (pathOf p) (E K) .no)) h=Y h:=by intros;kernel_rfl) (h:Ab):Ag TT disp K d false g xs h=Y h:=by
 obtain⟨d,rfl⟩:∃e,d=e+1:=⟨d-1,by omega⟩;exact rm J rfl rfl H (e d (Nat.le_of_succ_le_succ hd)) (Bpm (M d _ _) h0 (hs d _ _) L) A G (O d _ _) h
theorem rr {l n:Nat}{st:LoopState}{j:Option Code}{tm v:Ax}{ps:List Tmp}{a b:Code}{h:Ab}{X:R}(A:Ag TT disp K d false=c)(G:Ag TT disp K d true=r)(e:c=D)(J:h.get l=some (.loop st j g n tm ps a b d0))(hs:Vw ps xs n tm=some v)
 (L:Ban TT D c r K l g n a b (Bj4 n ps xs (tmp tm)) v h []=X):Ag TT disp K (d+1) true l xs h=X:=by
 subst A G;rw[A7q];unfold Au6;rw[J];simp only;rw[hs];simp only;exact(congrArg (fun C=>Ban TT C (Ag TT disp K d false) (Ag TT disp K d true) K l g n a b (Bj4 n ps xs (tmp tm)) v h []) e).trans L
end
end
section
section
variable{call:Ai}{fn n:Nat}{ret:CD}
theorem Axl:∀(p:List Bool) (H:Hk) (c:Code) (env:Afy) (k:CD),Abe p H c=true->(Bfx fl T call callV round fuel fn n Dp out ret p H c env k).1=Bmo p c
 | [],_,_,_,_,_=>rfl
 | s::p,H,c,env,k,G=>by
  have J:∀Y,H≠.here Y:=fun Y y=>by subst y;cases G
  cases c with
  | seq x y=>
   have A:Bb s (Abe p H.r y) (Abe p H.l x)=true:=by cases H<;>first|exact G|exact(J _ rfl).elim
   cases s<;>exact Axl p _ _ _ _ A
  | cond v x y=>
   have A:Bb s (Abe p H.r y) (Abe p H.l x)=true:=by cases H<;>first|exact G|exact(J _ rfl).elim
   cases s<;>exact Axl p _ _ _ _ A
  | block i x=>
   have A:Bb s false (Abe p H.l x)=true:=by cases H<;>first|exact G|exact(J _ rfl).elim
   cases s
   ·exact Axl p _ _ _ _ A
   ·cases A
  | _=>cases H<;>first|cases G|exact(J _ rfl).elim
end
theorem Boc {q:Bool}{D c r:Ai}{g:Nat}(p:Nat){H:Hk}{env:Afy}{X Z:CD}(e:lpB q D c r K g p env K=X)(rest:Ou q TT D c r K g (nOf TT g) none no0 (To q TT g) (Axe (pathOf p) X H) (Iw TT g) [] (To q TT g)=Z)
 (he:(Bfx q TT D c r K g (nOf TT g) none no0 (To q TT g) (pathOf p) H (Iw TT g) [] (To q TT g)).2.1=env:=by kernel_rfl) (v:Bmj (Bmo (pathOf p) (Iw TT g))=true:=by kernel_rfl) (A:Abe (pathOf p) H (Iw TT g)=true:=by kernel_rfl) :
 Ou q TT D c r K g (nOf TT g) none no0 (To q TT g) H (Iw TT g) [] (To q TT g)=Z:=by
 refine(Vx X (pathOf p) H (Iw TT g) [] (To q TT g) A ?_).trans rest;rw[Axu,Axl _ _ _ _ _ A,he,<-e];unfold lpB Bpo;generalize Bmo (pathOf p) (Iw TT g)=x at v⊢;cases x<;>first|rfl|cases v
end
section
noncomputable section
section
variable (c r:Ai)(K l:Nat)(k0:A0)(k1:A1)(k2:A2)(k3:A3)(k4:A4)(k5:A5)(k6:A6)(k7:A7)(k8:A8)(k9:A9)(k10:A10)(k11:A11)(k12:A12)(m0:B0)(m1:B1)(m2:B2)(m3:B3)(m4:B4)(m5:B5)(m6:B6)(m7:B7)(m8:B8)(m9:B9)(m10:B10)(m11:B11)(m12:B12)(base:Nat)(s:DX)(tm:Ax)(a b d e f g i j n o p q t u w x y z aa ab ad ae af ag ai aj an ao ap aq au aw ax ay az ba bb bd be bf bg bi bj bn bo bp bq bt bu bw bx bz da db dd de df dg di dj dn dp dq dt du dw dx dy dz ea eb ed ee ef eg ei ej en eo ep eq et eu ew ex ey ez fa fb fd fe ff fg fi fj fn fo fp fq ft fu fw fx fy fz ga gb gd ge gf gg gi gj gn go gp gq gt gu gw gx gy gz ia ib ie ig ii ij io ip iq it iu iw ix iy iz ja jb:EV)(h:Ab)(ds:List Nat)
def Ll:Ru K R:=(.mk:Sg 0x122203 [a] h).F
def Cz:Ru K R:=(.mk:Sg 0x122231fe314204209e9 [a] h).F
def Bw:Ru K R:=(.mk:Sg 0x1222f9e3 [a] h).F
def E1:Ru K R:=(.mk:Sg 0x122223 [a] h).F
def E3:Ru K R:=(.mk:Sg 0x122203 [a] h).F
def Q9:Ru K R:=(.mk:Sg 0x122233 [a] h).F
def Adb:Ru K R:=(.mk:Sg 0x122233003e314 [a,b] h).F
def Ty:R:=
 pkO d e fun f=>
 ifE f
 (some ((.int .i64 (-1)),h))
 (Adb K a b h)
def Eu:R:=(.mk:Sg 0x12023541025684102723e210136503e2d00420e209e9 [a,b] h [Fi (Cz K),Wd (Ty K)]).F
def Anu:Ru K R:=
 Yj a b fun d=>
 some (d,h)
def Jw:R:=(.mk:Sg 0x1202200232005321e82a3223e [a,b,d] h [E0 (Anu K)]).F
def Oo:Ru K R:=
 Yj a b fun d=>
 some (d,h)
def Uc:R:=(.mk:Sg 0x120220024200c0221e314c2a430be [a,b,d] h [E0 (Oo K)]).F
def Tf:R:=(.mk:Sg 0x1202430024630010223e414d2a00223e204212e9 [a] h [K4 (Uc K)]).F
def Fl:Ru K R:=(.mk:Sg 0x1222101203 [a] h [Fi A3p]).F
def Afu:R:=(.mk:Sg 0x122210142116e263 [a,b] h [Fi (Fl K)]).F
def U2:R:=(.mk:Sg 0x1432000023285409e [a,b,d,e] h [E0 (Afu K)]).F
def Uw:R:=(.mk:Sg 0x12024340025764002623e213e36301e2d00320e [a,b] h [Wd (U2 K)]).F
def Abi:Ru K R:=
 some (a,h)
def Mv:Ru K R:=
 J6 g fun i=>
 k6 a b d e f i h
def Hn(K:Nat)(k6:A6)(base:Nat)(s:DX)(a:EV)(b:EV)(d:EV)(e:EV)(f:EV)(g:EV)(i:EV)(j:EV)(n:EV)(h:Ab):R:=
 Yj j n fun o=>
 ifE o
 (Mv K k6 a b e f g i h)
 (Mv K k6 a b d f g i h)
def Hl:R:=
 wtE j
 (pkO n o fun p=>
 Hn K k6 base s a b d e f g i j p h)
 (Hn K k6 base s a b d e f g i j tU h)
def Nn:R:=
 wfE o
 (Ds 8 255 s h (fun h=>(Fl K f h)) fun p h s=>
 Am8 6 12 3711 base a s h fun s q=>
 X8 1 q d fun t=>
 Hb 15 32383 base t s fun s=>Dr t h fun u=>
 Ds 16 65535 s h (fun h=>(Fl K u h)) fun w h s=>
 Aqd p w fun x=>
 Hl K k6 base s a b d e g i j n o x h)
 (Hl K k6 base s a b d e g i j n o tU h)
def Aaf:R:=
 A62 1 e g h fun i=>
 Ts h fun base s=>
 Auh g b fun j=>
 wtE j
 (Af2 d (.int .i64 0) fun n=>
 Nn K k6 base s a b d g i e f g j n h)
 (Nn K k6 base s a b d g i e f g j tU h)
def Hq(K:Nat):Nat->A6
 | 0=>fun _ _ _ _ _ _ _=>none
 | m+1=>fun a b d e f g h=>
  cE K7 .lss 3 g f
  (Aaf K (Hq K m) a b d e f g h)
  (Abi K d h)
def Kg:R:=
 fE 6 a h fun d=>
 Hz d fun e=>
 Hq K K a b (.int .i64 (-1)) d e (.int .i64 0) h
def Tw:Ru K R:=
 some (a,h)
def Tn:Ru K R:=
 A8q d (.int .i64 2) fun e=>
 k3 a b e h
def Tl:R:=
 J6 b fun e=>
 Tn K k3 a e d h
def Gq(K:Nat):Nat->A3
 | 0=>fun _ _ _ _=>none
 | m+1=>fun a b d h=>
  oE 3 a h fun e=>
  cE K7 .lss 3 d e
  (Tl K (Gq K m) a b d h)
  (Tw K b h)
def Lf:R:=(.mk:Sg 0x100102300264e9 [a] h [K4 (Gq K K)]).F
def Ng:Ru K R:=(.mk:Sg 0x122213e203 [a] h).F
def O0:Ru K R:=(.mk:Sg 0x122213 [a] h).F
def Aex:Ru K R:=
 Yj a b fun d=>
 some (d,h)
def Abq:R:=(.mk:Sg 0x1202200232004321e82a10223e [a,b] h [E0 (Aex K)]).F
def Up:Ru K R:=(.mk:Sg 0x1002200e21153f921007e [a] h [] [cu1 (fun a=>Bu (D5 [(0,1),(1,1),(2,1),(3,1),(4,1)]) [.Ao,.int .i64 0,.int .i64 0,.int .i64 0,.bool false] [(1,a)])]).F
def Ur:R:=(.mk:Sg 0x1310003e070200e6284309e [a,b,d] h [Fi (Up K)]).F
def L7:R:=(.mk:Sg 0x1202330023430015e0322ea2d10220e [a] h [K4 (Ur K)]).F
def Mz:Ru K R:=(.mk:Sg 0x122c021de231fe344204209e9 [a] h).F
def Yf:Ru K R:=(.mk:Sg 0x1223023003e [a] h).F
def Oq:R:=(.mk:Sg 0x121002221ce3023003e2101ee00e0023301e [a] h [Fi (Yf K)]).F
def At3:Ru K R:=(.mk:Sg 0x1002200e2fce921007e2101 [a] h [Fi Apo] [cu1 (fun b=>Bu (D5 [(0,1)]) [.Ad3] [(0,b)])]).F
def As7:R:=(.mk:Sg 0x1310003e070200e6284309e [a,b,d] h [Fi (At3 K)]).F
def Apj:R:=(.mk:Sg 0x1202330023430001322ea2d10220e [a] h [K4 (As7 K)] [] [] [(.int .i64 4096)]).F
def Hf:Ru K R:=
 Yj a b fun d=>
 some (d,h)
def Hd:R:=(.mk:Sg 0x12022102421015e0c0230135402e2a430be [a,b,d] h [K4 (Jw K),E0 (Hf K)]).F
def Hh:R:=(.mk:Sg 0x12023310245310c000230134403e2a430be [a,b,d] h [K4 (Jw K),K4 (Hd K)]).F
def Hi:R:=(.mk:Sg 0x120233102453102101334d2a430be [a,b,d] h [Fi (fun f=>Jw K f (.int .i64 1) (.int .i64 256)),K4 (Hh K)]).F
def He:R:=(.mk:Sg 0x1202331024531015e0c0230132403e2a430be [a,b,d] h [K4 (Jw K),K4 (Hi K)]).F
def Ut:R:=(.mk:Sg 0x1202431024631015e010230141403e2ad0602301204209e9 [a] h [K4 (Jw K),K4 (He K)]).F
def Qe:Ru K R:=(.mk:Sg 0x1222101de3023003e1021ee3021de234209e9 [a] h).F
def Pg:R:=(.mk:Sg 0x122251ee231fe08e4407e041021ee0123603e2721120ae231ee9301fea21fed0420ae521ee621fe1021ee80421032e77665606b3021ee231ee343410e211110e0ee209e9 [a] h [Fi (Mz K),builtin TT .min #[3,3]] [] [] [(.int .u64 1)]).F
def Sw:Ru K R:=
 Yj a b fun d=>
 some (d,h)
def C9:R:=(.mk:Sg 0x12022102521010224e82116e6fae302e2a00223e5220126521c [a,b] h [E0 (Eu K),E0 (Sw K)]).F
def U7:Ru K (Ru r R):=(.mk:Sg 0x1002321627ff3fb17e61c27431f0e872101718e436e5406b200e4111e0ee [a,b,d] h [Fi (fun f=>Cd (List.replicate 4 (.int .i64 0)++List.replicate 64 (.int .u8 0)) 32 68 1 [(0,f)]),c 105]).F
def Aep:Ru K (Ru r (Ru c R)):=
 A9l d (.int .i64 1) fun e=>
 k3 a b e h
def Pn:R:=
 Yj e f fun g=>
 ifE g
 (Aep c r K k3 a b d h)
 (U7 c r K a b d h)
def Jf(c:Ai)(r:Ai)(K:Nat):Nat->A3
 | 0=>fun _ _ _ _=>none
 | m+1=>fun a b d h=>
  Aqd d (.int .i64 0) fun e=>
  wtE e
  (fE 1 a h fun f=>
  A9l d (.int .i64 1) fun g=>
  X8 68 f g fun i=>
  oE 0 i h fun j=>
  oE 0 b h fun n=>
  Aqd j n fun o=>
  Pn c r K (Jf c r K m) a b d e o h)
  (Pn c r K (Jf c r K m) a b d e tU h)
def Ael:R:=(.mk:Sg 0x1254300213e213 [a,b] h [K4 (Jf c r K K)]).F
def Amc:R:=(.mk:Sg 0x17821007e0230123601e213e61300e0232820fe2101236e5312e9 [a,b] h [Fi (Tf K),E0 (Ael c r K)] [] [] [(.int .i64 256)]).F
def Ae9:R:=(.mk:Sg 0x12225221261ee2421131013033003e [a,b] h [Fi (fun a=>Kg K a (.int .i64 (-1))),E0 (Uw K),builtin TT .min #[3,3]]).F
def Afg:Ru K R:=
 J6 f fun g=>
 k5 a b d e g h
def Aet:R:=(.mk:Sg 0x198725510251de210164116e [a,b,d,e,f] h [Fi (Fl K),cl5 (Afg K k5)]).F
def Ls(K:Nat):Nat->A5
 | 0=>fun _ _ _ _ _ _=>none
 | m+1=>fun a b d e f h=>
  cE K7 .lss 3 f e
  (Aet K (Ls K m) a b d e f h)
  (Ae9 K a b h)
def Iu:R:=(.mk:Sg 0x10023004500213e263 [a] h [cl5 (Ls K K)]).F
def Awn:Ru K R:=(.mk:Sg 0x1002200e [a] h).F
def Awk:Ru K R:=
 J6 e fun f=>
 k4 a b d f h
def Awo:R:=(.mk:Sg 0x1a976420321660c232115101303 [a,b,d,e,f] h [Fi (fun d=>Cd [.Cl] 220 1 1 [(0,d)]),E0 (Em 220 1),Wd (Awk K k4)]).F
def Avs:R:=(.mk:Sg 0x187365510270200e5212e20ce2101 [a,b,d,e] h [Fi (L7 K),cl5 (Awo K k4)]).F
def Aa3(K:Nat):Nat->A4
 | 0=>fun _ _ _ _ _=>none
 | m+1=>fun a b d e h=>
  cE K7 .lss 3 e d
  (Avs K (Aa3 K m) a b d e h)
  (Awn K b h)
def Awp:R:=
 Bu (D5 [(0,1),(1,1),(2,1),(3,1),(4,1)]) [.Ao,(.int .i64 0),(.int .i64 0),(.int .i64 0),(.bool false)] [(1,b),(2,d)] fun e=>
 Py 152 e h fun f h=>
 Aa3 K K b f a (.int .i64 0) h
def Awj:R:=(.mk:Sg 0x154330003e070200e6286509e [a,b,d,e,f] h [K4 (Awp K)]).F
def Aut:R:=(.mk:Sg 0x12026545202487652020fe15e0621102e2d20fe2101 [a,b,d] h [Fi (fun a=>Abq K a (.int .i64 512)),E0 (Abq K),cl5 (Awj K)]).F
def Kl:R:=(.mk:Sg 0x122251ee231fe512e6410e484010e1021ee3101170ee [a,b] h [Fi (Oq K)]).F
def Iy:R:=(.mk:Sg 0x1706e200206e2005723301e20ae231ee9301fec21fe01e0420ae521ee821fe1021eea04c021de231fe7446043021ee231ee344214264e9 [a] h [E0 (Kl K)]).F
def Lt(K:Nat)(base:Nat)(s:DX)(a:EV)(b:EV)(h:Ab):R:=
 Yj a b fun d=>
 some (d,h)
def Pe:R:=
 Yj b d fun e=>
 wtE e
 (olE 3 11 2047 base a s h fun s f=>
 A0k (.int .i64 2) f fun g=>
 olE 2 14 9215 base a s h fun s i=>
 Hb 15 1023 base a s fun s=>Oc 6 a h fun j=>
 Ds 16 33791 s h (fun h=>(Pg K j h)) fun n h s=>
 A0k i n fun o=>
 Atu g o fun p=>
 Lt K base s e p h)
 (Lt K base s e tU h)
def Mo:R:=
 Py 23 a h fun b h=>
 Ts h fun base s=>
 Hb 0 0 base b s fun s=>Oc 6 b h fun d=>
 Ds 1 1 s h (fun h=>(Ut K d h)) fun e h s=>
 wtE e
 (Hb 3 7 base b s fun s=>Oc 6 b h fun f=>
 Ds 4 15 s h (fun h=>(Qe K f h)) fun g h s=>
 olE 2 6 39 base b s h fun s i=>
 Atu g i fun j=>
 Pe K base s b e j h)
 (Pe K base s b e tU h)
def Avv:Ru K R:=(.mk:Sg 0x1002200e287e9232007e001 [a] h [cl0 As6] [cu2 (fun a b=>Bu (D5 [(0,1),(1,1),(2,1),(3,1)]) [.Cl,.Ao,.Ao,.Akk] [(0,a),(3,b)])]).F
def Ana:R:=(.mk:Sg 0x13110270200e5212e20ce432301 [a,b,d] h [K4 (Aut K),Fi (Avv K)]).F
def Ix(K:Nat)(base:Nat)(s:DX)(a:EV)(b:EV)(h:Ab):R:=
 Yj a b fun d=>
 some (d,h)
def Tq:R:=
 Ts h fun base s=>
 Hb 0 0 base a s fun s=>Oc 6 a h fun b=>
 Ds 1 1 s h (fun h=>(Lf K b h)) fun d h s=>
 olE 2 3 4 base a s h fun s e=>
 Atu d e fun f=>
 wtE f
 (olE 3 7 127 base a s h fun s g=>
 A0k (.int .i64 2) g fun i=>
 olE 2 10 575 base a s h fun s j=>
 Hb 11 63 base a s fun s=>Oc 6 a h fun n=>
 Ds 12 2111 s h (fun h=>(Iy K n h)) fun o h s=>
 A0k j o fun p=>
 Atu i p fun q=>
 Ix K base s f q h)
 (Ix K base s f tU h)
def Bp:R:=
 pkO b d fun e=>
 ifE e
 (some ((.bool false),h))
 (Tq K a h)
def Bv:R:=
 pkO b d fun e=>
 wfE e
 (oE 5 a h fun f=>
 Aqd f (.int .i64 64) fun g=>
 Bp K a e g h)
 (Bp K a e tU h)
def Cc:R:=
 pkO b d fun e=>
 wfE e
 (oE 5 a h fun f=>
 Af2 f (.int .i64 4) fun g=>
 Bv K a e g h)
 (Bv K a e tU h)
def Cg:R:=
 pkO b d fun e=>
 wfE e
 (oE 4 a h fun f=>
 Aqd f (.int .i64 4) fun g=>
 Cc K a e g h)
 (Cc K a e tU h)
def Cp:R:=
 pkO b d fun e=>
 wfE e
 (oE 4 a h fun f=>
 Af2 f (.int .i64 0) fun g=>
 Cg K a e g h)
 (Cg K a e tU h)
def C0:R:=
 pkO b d fun e=>
 wfE e
 (oE 3 a h fun f=>
 Aqd f (.int .i64 256) fun g=>
 Cp K a e g h)
 (Cp K a e tU h)
def Dn:R:=
 pkO b d fun e=>
 wfE e
 (oE 3 a h fun f=>
 Af2 f (.int .i64 1) fun g=>
 C0 K a e g h)
 (C0 K a e tU h)
def Ed:R:=
 pkO b d fun e=>
 wfE e
 (oE 2 a h fun f=>
 Aqd f (.int .i64 64) fun g=>
 Dn K a e g h)
 (Dn K a e tU h)
def Ew:R:=
 pkO b d fun e=>
 wfE e
 (oE 2 a h fun f=>
 Af2 f (.int .i64 4) fun g=>
 Ed K a e g h)
 (Ed K a e tU h)
def Gg:R:=
 pkO b d fun e=>
 wfE e
 (oE 1 a h fun f=>
 Aqd f (.int .i64 64) fun g=>
 Ew K a e g h)
 (Ew K a e tU h)
def Ic:R:=
 pkO b d fun e=>
 wfE e
 (oE 1 a h fun f=>
 Af2 f (.int .i64 1) fun g=>
 Gg K a e g h)
 (Gg K a e tU h)
def H9:R:=
 Py 114 a h fun b h=>
 oE 0 b h fun d=>
 Af2 d (.int .i64 3) fun e=>
 wfE e
 (oE 0 b h fun f=>
 Aqd f (.int .i64 8) fun g=>
 Ic K b e g h)
 (Ic K b e tU h)
def Awd:Ru K R:=(.mk:Sg 0x1002200e [a] h).F
def Aww:Ru K R:=
 J6 e fun f=>
 k4 a b d f h
def Awe:R:=(.mk:Sg 0x1a976420321666c232115101363 [a,b,d,e,f] h [Fi (fun d=>Cd [.Cl] 199 1 1 [(0,d)]),E0 (Em 199 1),Wd (Aww K k4)]).F
def Av5:R:=(.mk:Sg 0x198376510270200e5212e20ce2101214 [a,b,d,e] h [Fi (Apj K),cl5 (Awe K k4)]).F
def Aan(K:Nat):Nat->A4
 | 0=>fun _ _ _ _ _=>none
 | m+1=>fun a b d e h=>
  cE K7 .lss 3 e d
  (Av5 K (Aan K m) a b d e h)
  (Awd K b h)
def Av9:R:=(.mk:Sg 0x1002364005042b8e921007e265 [a] h [Wd (Aan K K)] [cu1 (fun b=>Bu (D5 [(0,6),(6,1)]) [.int .i64 0,.int .i64 0,.int .i64 0,.int .i64 0,.int .i64 0,.int .i64 0,.Ao] [(0,b)])]).F
def Ajg:R:=(.mk:Sg 0x1511009e070200e62820fe2101265209e9 [a] h [Fi (Mo K),Fi (Av9 K)]).F
def Aql:R:=(.mk:Sg 0x1002200e276e9818e2a5675007e22211618e21002e57565504b5f2e5502b365301b0ee [a,b,d,e] h [Fi (Cz K),E0 (Vb [.int .i64 0] 3)] [cu5 (fun a f g e n=>Bu (D5 [(0,1),(1,6),(7,256),(263,1),(264,1),(265,1),(266,1),(267,1)]) ([.Cl]++List.replicate 6 (.int .i64 0)++List.replicate 256 (.int .u32 0)++[.Cl]++[.Ao]++List.replicate 3 (.int .i64 0)) [(0,a),(1,f),(2,g),(3,e),(4,n),(5,.int .i64 (-1)),(6,.int .i64 (-1))])]).F
def Qm(K:Nat)(base:Nat)(s:DX)(a:EV)(b:EV)(d:EV)(e:EV)(f:EV)(g:EV)(h:Ab):R:=
 pkO f g fun i=>
 ifE i
 (some (.tuple [.Cl,(.int .i64 20)],h))
 (Aql K a b d e h)
def Zy:R:=
 pkO f g fun i=>
 wfE i
 (Ds 12 4095 s h (fun h=>(E3 K a h)) fun j h s=>
 Ds 13 8191 s h (fun h=>(O0 K j h)) fun n h s=>
 olE 2 15 18431 base b s h fun s o=>
 Auh n o fun p=>
 Qm K base s a b d e i p h)
 (Qm K base s a b d e i tU h)
def Aey:R:=
 Py 23 b h fun e h=>
 Py 119 d h fun f h=>
 Oc 6 e h fun g=>
 Ap (Ajg K g h) fun i h=>
 x2E i fun j n=>
 Ts h fun base s=>
 Kv Ake (bin TT .neq 35) n (.int .i64 0) fun o=>
 wfE o
 (Ds 4 15 s h (fun h=>(E3 K a h)) fun p h s=>
 Ds 5 31 s h (fun h=>(Ng K p h)) fun q h s=>
 Hb 6 7 base e s fun s=>Oc 6 e h fun t=>
 Ds 7 127 s h (fun h=>(Cz K t h)) fun u h s=>
 Auh q u fun w=>
 Zy K base s a e f j o w h)
 (Zy K base s a e f j o tU h)
end
variable{d:Nat}(H:Ca disp)
include H
theorem Aax(hd:1<=d):R1 disp K d 13 (Ll K):=fun _=>rl H hd
theorem E4(hd:1<=d):R1 disp K d 15 (Cz K):=fun _=>rl H hd
theorem Gn(hd:1<=d):R1 disp K d 17 (Bw K):=fun _=>rl H hd
theorem X6(hd:1<=d):R1 disp K d 22 (E1 K):=fun _=>rl H hd
theorem Qr(hd:1<=d):R1 disp K d 34 (E3 K):=fun _=>rl H hd
theorem Amj(hd:1<=d):R1 disp K d 58 (Q9 K):=fun _=>rl H hd
theorem F7(hd:2<=d):R2 disp K d 76 (Eu K):=fun _ _=>rl H hd fun d hd=>V1 (E4 H) hd<|rfl
theorem Abw(hd:1<=d):R3 disp K d 83 (Jw K):=fun _ _ _=>rl H hd
theorem An5(hd:1<=d):R1 disp K d 104 (Tf K):=fun _=>rl H hd
theorem Ky(hd:1<=d):R1 disp K d 122 (Fl K):=fun _=>rl H hd
theorem Aqf(hd:2<=d):R2 disp K d 123 (Uw K):=fun _ _=>rl H hd fun d hd=>V1 (Ky H) hd<|rfl
theorem Y5(hd:2<=d):R2 disp K d 124 (Kg K):=fun _ _=>ll H hd (fun d hd=>V1 (Ky H) hd<|rfl) 51 (e6 (Hq K) 0 1 5 11 12 13)
theorem Afj(hd:1<=d):R1 disp K d 129 (Lf K):=fun _=>ll H hd (fun _ _=>rfl) 51 (e3 (Gq K) 1 3 4)
theorem Y4(hd:1<=d):R1 disp K d 132 (Ng K):=fun _=>rl H hd
theorem Aa5(hd:1<=d):R1 disp K d 133 (O0 K):=fun _=>rl H hd
theorem Aw4(hd:1<=d):R2 disp K d 154 (Abq K):=fun _ _=>rl H hd
theorem Afw(hd:1<=d):R1 disp K d 155 (L7 K):=fun _=>rl H hd
theorem Yn(hd:1<=d):R1 disp K d 184 (Mz K):=fun _=>rl H hd
theorem Ajq(hd:1<=d):R1 disp K d 188 (Oq K):=fun _=>rl H hd
theorem A0r(hd:1<=d):R1 disp K d 189 (Apj K):=fun _=>rl H hd
theorem Ap0(hd:2<=d):R1 disp K d 190 (Ut K):=fun _=>rl H hd fun d hd=>V3 (Abw H) hd<|rfl
theorem Acf(hd:1<=d):R1 disp K d 191 (Qe K):=fun _=>rl H hd
theorem Akg(hd:2<=d):R1 disp K d 192 (Pg K):=fun _=>rl H hd fun d hd=>V1 (Yn H) hd<|rfl
theorem Ek(hd:3<=d):R2 disp K d 16 (C9 K):=fun _ _=>rl H hd fun d hd=>V2 (F7 H) hd<|rfl
theorem Ap5(hd:1<=d):S2 disp K d 46 Amc:=fun _ _=>ld rfl rfl H (V1 (An5 H) hd<|rfl) 55 (fun c r=>e3 (Jf c r K) 0 3 5)
theorem Acs(hd:3<=d):R1 disp K d 56 (Iu K):=fun _=>ll H hd (fun d hd=>V2 (Y5 H) hd<|V2 (Aqf H) hd<|V1 (Ky H) hd<|rfl) 51 (e5 (Ls K) 0 3 9 10 11)
theorem A3r(hd:2<=d):R3 disp K d 90 (Aut K):=fun _ _ _=>ll H hd (fun d hd=>V2 (Aw4 H) hd<|V1 (Afw H) hd<|rfl) 103 (e4 (Aa3 K) 1 8 23 24)
theorem Abs(hd:2<=d):R1 disp K d 130 (Iy K):=fun _=>rl H hd fun d hd=>V1 (Ajq H) hd<|rfl
theorem Ud(hd:3<=d):R1 disp K d 134 (Mo K):=fun _=>rl H hd fun d hd=>V1 (Ap0 H) hd<|V1 (Acf H) hd<|V1 (Akg H) hd<|rfl
theorem A3y(hd:3<=d):R3 disp K d 43 (Ana K):=fun _ _ _=>rl H hd fun d hd=>V3 (A3r H) hd<|rfl
theorem Afb(hd:3<=d):R1 disp K d 61 (H9 K):=fun _=>rl H hd fun d hd=>V1 (Afj H) hd<|V1 (Abs H) hd<|rfl
theorem A23(hd:4<=d):R1 disp K d 131 (Ajg K):=fun _=>ll H hd (fun d hd=>V1 (Ud H) hd<|V1 (A0r H) hd<|rfl) 103 (e4 (Aan K) 1 4 14 15)
theorem Ayl(hd:5<=d):R3 disp K d 62 (Aey K):=fun _ _ _=>rl H hd fun d hd=>V1 (A23 H) hd<|V1 (Qr H) hd<|V1 (Y4 H) hd<|V1 (E4 H) hd<|V1 (Aa5 H) hd<|rfl
end
end
noncomputable section
section
variable (c r:Ai)(K l:Nat)(k0:A0)(k1:A1)(k2:A2)(k3:A3)(k4:A4)(k5:A5)(k6:A6)(k7:A7)(k8:A8)(k9:A9)(k10:A10)(k11:A11)(k12:A12)(m0:B0)(m1:B1)(m2:B2)(m3:B3)(m4:B4)(m5:B5)(m6:B6)(m7:B7)(m8:B8)(m9:B9)(m10:B10)(m11:B11)(m12:B12)(base:Nat)(s:DX)(tm:Ax)(a b d e f g i j n o p q t u w x y z aa ab ad ae af ag ai aj an ao ap aq au aw ax ay az ba bb bd be bf bg bi bj bn bo bp bq bt bu bw bx bz da db dd de df dg di dj dn dp dq dt du dw dx dy dz ea eb ed ee ef eg ei ej en eo ep eq et eu ew ex ey ez fa fb fd fe ff fg fi fj fn fo fp fq ft fu fw fx fy fz ga gb gd ge gf gg gi gj gn go gp gq gt gu gw gx gy gz ia ib ie ig ii ij io ip iq it iu iw ix iy iz ja jb:EV)(h:Ab)(ds:List Nat)
def Hj:Ru K R:=(.mk:Sg 0x1203040304e4fde33fce32fbe3 [a] h).F
def Uu:Ru K R:=(.mk:Sg 0x122213 [a] h).F
def Pc:Ru K R:=
 Py 49 a h fun d h=>
 Py 3 b h fun e h=>
 some ((.func 80 [] [d,e]),h)
def Al4:Ru K R:=(.mk:Sg 0x100027e71204e276626542615e263 [a,b,d] h).F
def Ab7:R:=(.mk:Sg 0x154330003e0027e61204e26660007e01e286509e [a,b,d,e,f] h [K4 (Al4 K)] [cu0 (Bu (D5 [(0,1),(1,1),(2,1),(3,1),(4,1),(5,1)]) [.int .i64 0,.int .i64 0,.int .i64 0,.int .i64 0,.int .i64 0,.int .i64 0] [])]).F
def Jq:R:=(.mk:Sg 0x1202354500256875002723e213e46302e2d00420e027e05e [a,b] h [cl5 (Ab7 K)] [] [[.int .i64 0,.int .i64 0,.int .i64 0,.int .i64 0,.int .i64 0,.int .i64 0]]).F
def Ajm:Ru K R:=(.mk:Sg 0x12242116e273 [a,b] h).F
def Zg:R:=(.mk:Sg 0x1432000023285409e [a,b,d,e] h [E0 (Ajm K)]).F
def E2:R:=(.mk:Sg 0x12024340025764002623e213e37301e2d00320e [a,b] h [Wd (Zg K)]).F
def Tb:Ru K R:=
 Py 23 a h fun d h=>
 Py 3 b h fun e h=>
 some ((.func 82 [] [e,d]),h)
def Bx:Ru K R:=(.mk:Sg 0x122203 [a] h).F
def Rc:Ru K R:=(.mk:Sg 0x1000e5021624c [a] h).F
def Xx:Ru K (Ru r (Ru c R)):=(.mk:Sg 0x100047e31204e2312e6312e5 [a,b] h).F
def W6:R:=(.mk:Sg 0x1432000ee0047e41204e2412e60007e01e28540be [a,b,d,e] h [E0 (Xx c r K)] [cu0 (Bu (Nc 1) (List.replicate 32 (.int .u8 0)) [])]).F
def Agp:R:=(.mk:Sg 0x12026541024874100ee0215e702e4320104e2a30620e [a,b,d,e,f] h [c 71,Wd (W6 c r K)]).F
def Agc:R:=(.mk:Sg 0x142ba95104047ec1204e2c12e60007e00e312e5212e624ff3fb17e047e05ea18e421ae20ce232011e57665604b273011e0ee [a,b,d,e] h [c 106,cl5 (Agp c r K)] [cu0 (Bu (Nc 1) (List.replicate 32 (.int .u8 0)) [])] [List.replicate 32 (.int .u8 0)]).F
def Q6:R:=(.mk:Sg 0x1765440010e0047e71204e2712e60007e01e3023701e6048047e61204e2612e60007e00e288709e [a,b,d,e,f,g,i] h [Wd (Agc c r K)] [cu0 (Bu (Nc 1) (List.replicate 32 (.int .u8 0)) [])]).F
def Ao3:R:=(.mk:Sg 0x1202438a97102465acb71000224e30403e2d00315e802e327e1606e20ce52201323047e05e [a,b] h [E0 (Jq K),cl7 (Q6 c r K)] [] [List.replicate 32 (.int .u8 0),[.int .i64 0,.int .i64 0,.int .i64 0,.int .i64 0,.int .i64 0,.int .i64 0]]).F
def Aqv:Ru K R:=(.mk:Sg 0x147e31104e2312e6312e5 [a,b] h).F
def Aqu:Ru K R:=
 J6 e fun f=>
 k4 a b d f h
def Aq3:R:=
 Au9 32 1 d e fun f=>
 stE 1 f a h fun h=>
 Aqu K k4 a b d e h
def Um(K:Nat):Nat->A4
 | 0=>fun _ _ _ _ _=>none
 | m+1=>fun a b d e h=>
  cE K7 .lss 3 e (.int .i64 32)
  (Aq3 K (Um K m) a b d e h)
  (Aqv K b d h)
def Ak6:R:=(.mk:Sg 0x100234400047e05e047e05e [a] h [Wd (Um K K)] [] [List.replicate 32 (.int .u8 0)]).F
def Awf:Ru K R:=
 some (a,h)
def Awb:Ru K R:=
 J6 b fun d=>
 k2 a d h
def Avp:R:=(.mk:Sg 0x1652004226522319e31c0007e [a,b] h [E0 (Awb K k2)] [cu0 (Bu (D5 [(0,1),(1,1)]) [.int .i64 0,.int .i64 0] [(0,.int .i64 (-1)),(1,.int .i64 (-1))])]).F
def St(K:Nat):Nat->A2
 | 0=>fun _ _ _=>none
 | m+1=>fun a b h=>
  cE K7 .lss 3 b (.int .i64 3)
  (Avp K (St K m) a b h)
  (Awf K a h)
def Ao2:R:=(.mk:Sg 0x10022002c6e921007e [a] h [E0 (St K K)] [cu1 (fun a=>Bu (D5 [(0,1),(1,6)]) [.Cl,.int .i64 0,.int .i64 0,.int .i64 0,.int .i64 0,.int .i64 0,.int .i64 0] [(0,a)])]).F
def Aok:Ru K R:=(.mk:Sg 0x122274e926544007e23555ae9 [a,b,d,e] h [] [cu4 (fun a b d g=>Bu (D5 [(0,1),(1,1),(2,1),(3,3),(6,1)]) [.Cl,.Cl,.Cl,.int .i64 0,.int .i64 0,.int .i64 0,.bool false] [(0,a),(1,b),(2,d),(3,g)])]).F
def Rl:Ru K R:=
 some (a,h)
def Rb:Ru K R:=
 J6 f fun g=>
 k5 a b d e g h
def Rk:R:=(.mk:Sg 0x100edc2a5302a2212111262107e210121007e821de31464116e [a,b,d,e,f] h [Fi (Ak6 K),Fi (fun p=>Cd ([.int .i64 0]++List.replicate 32 (.int .u8 0)) 112 33 1 [(0,p)]),E0 (Em 112 33),cl5 (Rb K k5)] [cu1 (fun j=>Sj .u8 j),cu2 (fun g o=>Bu (D5 [(0,1),(1,32)]) ([.int .i64 0]++List.replicate 32 (.int .u8 0)) [(0,g),(1,o)])]).F
def Fy(K:Nat):Nat->A5
 | 0=>fun _ _ _ _ _ _=>none
 | m+1=>fun a b d e f h=>
  cE K7 .lss 3 f e
  (Rk K (Fy K m) a b d e f h)
  (Rl K b h)
def Oa:R:=(.mk:Sg 0x10023b04500213e234214e9 [a] h [cl5 (Fy K K)]).F
def Agq:Ru K (Ru r R):=(.mk:Sg 0x12232201 [a,b] h [c 139]).F
def Agh:R:=(.mk:Sg 0x143210222212e2101 [a,b] h [c 126,E0 (Agq c r K)]).F
def Re:R:=
 pkO e f fun g=>
 ifE g
 (some (d,h))
 (Agh c r K a b h)
def Aoh:R:=(.mk:Sg 0x1202498510246ba51010225e30401e2d00315e802e327e0606e20ce42201223 [a,b] h [E0 (Jq K),cl5 (Re c r K)] [] [[.int .i64 0,.int .i64 0,.int .i64 0,.int .i64 0,.int .i64 0,.int .i64 0]]).F
def Alq:Ru r R:=(.mk:Sg 0x12221112101203 [a] h [Fi (Bx K),c 140]).F
def Aev:Ru K (Ru r R):=(.mk:Sg 0x1222101 [a] h [c 73]).F
def Afh:Ru K (Ru r (Ru c R)):=
 J6 e fun f=>
 k4 a b d f h
def Afi:R:=(.mk:Sg 0x17654410222212e2320153116e [a,b,d,e] h [c 139,Wd (Afh c r K k4)]).F
def Lp(c:Ai)(r:Ai)(K:Nat):Nat->A4
 | 0=>fun _ _ _ _ _=>none
 | m+1=>fun a b d e h=>
  cE K7 .lss 3 e d
  (Afi c r K (Lp c r K m) a b d e h)
  (Aev c r K a h)
def Aek:R:=(.mk:Sg 0x100234410213e32201 [a,b] h [c 144,Wd (Lp c r K K)]).F
def All:R:=(.mk:Sg 0x15421003e0232820fe32201 [a,b] h [c 21,E0 (Aek c r K)]).F
def Aia:Ru K R:=
 Py 43 a h fun b h=>
 some ((.func 146 [] [b]),h)
def Ae7:Ru K R:=
 Py 45 a h fun b h=>
 some ((.func 148 [] [b]),h)
def Bz:Ru K R:=(.mk:Sg 0x109e41104e246626531c009e05e [a] h [] [] [[.int .i64 0,.int .i64 0,.int .i64 0,.int .i64 0,.int .i64 0,.int .i64 0]]).F
def Nz:Ru K R:=(.mk:Sg 0x109e41104e246626530c009e05e [a] h [] [] [[.int .i64 0,.int .i64 0,.int .i64 0,.int .i64 0,.int .i64 0,.int .i64 0]]).F
def K2:Ru K R:=(.mk:Sg 0x169e41104e24f2e62f2e537c069e05e [a] h [] [] [List.replicate 256 (.int .u32 0)]).F
def Zc:Ru K (Ru r (Ru c R)):=(.mk:Sg 0x15027e31204e2366365 [a,b,d] h).F
def O3:R:=(.mk:Sg 0x13200e3109806e3105021603e6c42162214e01e3c20ae224c3c12e0fe0315e701e8705e31042162214e01e3c20ae224c3c0ae00315e701e42662bffff5f06e17e027e05e05e18e20ce2467407fff4f01e723c004f00e210e63c21e03f9110e43c418e5404b273011e0ee [a,b,d] h [c 185,K4 (Zc c r K)] [] [[.int .i64 0,.int .i64 0,.int .i64 0,.int .i64 0,.int .i64 0,.int .i64 0]]).F
def Aiu:R:=(.mk:Sg 0x15433004021626c [a,b,d] h [K4 (O3 c r K)]).F
def Aqp:R:=(.mk:Sg 0x13453204563100fe0027e51204e25660007e01e212e3027e51204e25660007e00e0ee0215e701e510123e28463027e05e3bde9 [a,b] h [c 73,K4 (Aiu c r K),K4 (O3 c r K)] [cu0 (Bu (D5 [(0,1),(1,1),(2,1),(3,1),(4,1),(5,1)]) [.int .i64 0,.int .i64 0,.int .i64 0,.int .i64 0,.int .i64 0,.int .i64 0] [])] [[.int .i64 0,.int .i64 0,.int .i64 0,.int .i64 0,.int .i64 0,.int .i64 0]]).F
def Awi:Ru K R:=
 Yj a b fun d=>
 some (d,h)
def Ate:R:=(.mk:Sg 0x12022002320060320e92a00223e [a] h [E0 (Awi K)]).F
def U4:Ru K R:=
 pkO a b fun d=>
 some (d,h)
def Qd:R:=(.mk:Sg 0x1202220262207224e72211210130306e2d01424e [a,b,d] h [Fi (Bz K),E0 (Eu K),E0 (U4 K)] [] [] [(.int .i64 (-1))]).F
def Ha:Ru K R:=(.mk:Sg 0x107e0200230023701e201ae42201203 [a,b] h [E0 Ay1]).F
def Zr:Ru K R:=
 Yj a b fun d=>
 some (d,h)
def Un:R:=(.mk:Sg 0x1202210262102720e21007e210130305e2a00323e [a,b] h [Fi (Bz K),E0 (Zr K)] [cu1 (fun f=>Aii 3 false 0 f)]).F
def Ado:Ru K (Ru r (Ru c R)):=(.mk:Sg 0x1002200e [a] h).F
def Adn:R:=(.mk:Sg 0x121000fe02200e53023301e [a] h [Fi (Ado c r K)]).F
def Acj:R:=(.mk:Sg 0x16120200200e5212e21112101203 [a,b] h [Fi (Bx K),c 140,Fi (Adn c r K)]).F
def T2:Ru K (Ru r (Ru c R)):=
 J6 e fun f=>
 k4 a b d f h
def Adh:R:=(.mk:Sg 0x16432400724340040ae958 [a,b,d,e,f] h [Wd (T2 c r K k4)]).F
def Acp:R:=(.mk:Sg 0x193876510200200e5212e20ce263301345 [a,b,d,e] h [c 195,cl5 (Adh c r K k4)]).F
def Io(c:Ai)(r:Ai)(K:Nat):Nat->A4
 | 0=>fun _ _ _ _ _=>none
 | m+1=>fun a b d e h=>
  cE K7 .lss 3 e (.int .i64 3)
  (Acp c r K (Io c r K m) a b d e h)
  (Acj c r K a d h)
def Acv:R:=
 Io c r K K a b (.int .i64 0) (.int .i64 0) h
def On(c:Ai)(r:Ai)(K:Nat)(base:Nat)(s:DX)(a:EV)(b:EV)(d:EV)(e:EV)(h:Ab):R:=
 pkO d e fun f=>
 ifE f
 (some (.tuple [(.int .i64 0),(.int .i64 10)],h))
 (Acv c r K a b h)
def Ajv:R:=
 Py 163 b h fun d h=>
 Ts h fun base s=>
 Hb 0 0 base d s fun s=>Oc 4 d h fun e=>
 Ds 1 1 s h (fun h=>(c 159 [e] h)) fun f h s=>
 Afz f fun g=>
 wfE g
 (olE 3 5 31 base d s h fun s i=>
 Ds 6 63 s h (fun h=>(Nz K i h)) fun j h s=>
 Am8 0 10 911 base a s h fun s n=>
 Ds 11 2047 s h (fun h=>(Bz K n h)) fun o h s=>
 Kv Ake (bin TT .neq 23) j o fun p=>
 On c r K base s a d g p h)
 (On c r K base s a d g tU h)
def Wz:Ru K (Ru r (Ru c R)):=
 Yj a b fun d=>
 some (d,h)
def An1:R:=(.mk:Sg 0x12022202522000224e5221132303e2a32201 [a,b] h [c 21,E0 (E2 K),E0 (Wz c r K)]).F
def Abk:Ru K (Ru r (Ru c R)):=(.mk:Sg 0x1002 [] h).F
def Aad:R:=(.mk:Sg 0x10100ee0230ee0215e701e42201203 [a,b] h [c 197,cl0 (Abk c r K)]).F
def Agd:R:=(.mk:Sg 0x1652402220ee0215e701e2282231212150300e00215e701e522112101203 [a,b] h [Fi (Bx K),c 196,Fi (Bw K),c 67,E0 (Aad c r K)]).F
def Ua(c:Ai)(r:Ai)(K:Nat)(tm:Ax)(a:EV)(h:Ab)(ds:List Nat):R:=
 Dr a h fun b=>
 uwE b h ds
def Aj3:R:=
 (fun(tm:Ax) (ds:List Nat)=>
 Au8 (.cells [.Ao] 28) h fun d h=>
 Ap7 a fun e=>
 Ady 2 e fun f=>
 Dr f h fun g=>
 Ap (Pc K g b h) fun i h=>
 Q2 c TT 144 19 0 i ((((((((tm.put 4 (some .Ao)).put 5 (some d)).put 7 (some a)).put 8 (some e)).put 9 (some f)).put 10 (some g)).put 11 (some b)).put 12 (some i)) h ds (fun h ds=>
 Ua c r K ((((((((tm.put 4 (some .Ao)).put 5 (some d)).put 7 (some a)).put 8 (some e)).put 9 (some f)).put 10 (some g)).put 11 (some b)).put 12 (some i)) d h ds) (fun id h ds=>
 Bb (Nat.beq 0 id) (Ua c r K ((((((((tm.put 4 (some .Ao)).put 5 (some d)).put 7 (some a)).put 8 (some e)).put 9 (some f)).put 10 (some g)).put 11 (some b)).put 12 (some i)) d h ds) (none)) (fun h ds=>
 Fp ds h fun h=>some (.Ao,h))) ((Tr.nil.put 0 (some a)).put 1 (some b)) []
def Vv:Ru K (Ru r (Ru c R)):=(.mk:Sg 0x1020251623211410120de [a,b] h [Fi (fun b=>Cd [.int .i64 0] 3 1 1 [(0,b)]),E0 (Em 3 1),cl0 (Su l true .ready none)]).F
def Ac9:R:=
 Ff l h fun h=>Vv c r K l a b h
def Ah2:Ru K (Ru r R):=(.mk:Sg 0x1250200e32201 [a,b] h [c 74]).F
def Aho:R:=(.mk:Sg 0x1232100040200e60123701e2101 [a] h [c 28,E0 (Ah2 c r K)] [] [] [(.int .i64 (-1))]).F
def Ao9:R:=(.mk:Sg 0x13120250200e31119282101 [a] h [c 198,c 73,Fi (Aho c r K)]).F
def Acb:Ru K R:=
 Py 199 a h fun b h=>
 some ((.func 199 [] [b]),h)
def Ku:Ru K (Ru r (Ru c R)):=
 J6 d fun e=>
 k3 a b e h
def T8(c:Ai)(r:Ai)(K:Nat)(k3:A3)(k5:A5)(a:EV)(b:EV)(d:EV)(e:EV)(f:EV)(h:Ab):R:=
 J6 f fun g=>
 k5 a b d e g h
def Ik:R:=
 Yj g i fun j=>
 ifE j
 (some (.tuple [],h))
 (T8 c r K k3 k5 a b d e f h)
def Adq:R:=(.mk:Sg 0x12028765471024a987671020fe3420103e2a01225e652007e [a,b,d,e,f] h [E0 (fun a g=>Rn c r a [g]),cl7 (Ik c r K k3 k5)] [cu2 (fun e f=>Aw0 2 1 false 1 e f)] [] [(.int .i64 (-1))]).F
def Eo(c:Ai)(r:Ai)(K:Nat)(k3:A3):Nat->A5
 | 0=>fun _ _ _ _ _ _=>none
 | m+1=>fun a b d e f h=>
  cE K7 .lss 3 f (.int .i64 2)
  (Adq c r K k3 (Eo c r K k3 m) a b d e f h)
  (Ku c r K k3 a b d h)
def Adf:R:=(.mk:Sg 0x1002987500232107e3142042c3e0206e432007e [a,b,d] h [cl5 (Eo c r K k3 K)] [cu2 (fun b d=>Aw0 3 2 true 2 b d),cu2 (fun g i=>Bu (Nc 1) [.int .i64 0,.int .i64 0] [(0,g),(1,i)])] [[.int .i64 0,.int .i64 0]]).F
def Gs(c:Ai)(r:Ai)(K:Nat):Nat->A3
 | 0=>fun _ _ _ _=>none
 | m+1=>fun a b d h=>
  cE K7 .lss 3 d (.int .i64 3)
  (Adf c r K (Gs c r K m) a b d h)
  (some (.tuple [],h))
def Ai8:R:=(.mk:Sg 0x1002530026521c30de [a,b] h [K4 (Gs c r K K)]).F
abbrev Vd(K:Nat)(c:Ai):Ai:=c
def Fo:Ru K R:=
 Py 141 a h fun b h=>
 some ((.func 201 [] [b]),h)
def Ee:Ru K R:=(.mk:Sg 0x122233 [a] h).F
def Y0:Ru K R:=
 some (a,h)
def Qx:Ru K R:=
 J6 e fun f=>
 k4 a b d f h
def Y7:R:=(.mk:Sg 0x17654410876241040ae91023701e210153116e [a,b,d,e] h [Fi (Ee K),Wd (Qx K k4)]).F
def I8(K:Nat):Nat->A4
 | 0=>fun _ _ _ _ _=>none
 | m+1=>fun a b d e h=>
  cE K7 .lss 3 e d
  (Y7 K (I8 K m) a b d e h)
  (Y0 K a h)
def Ph:R:=(.mk:Sg 0x1002300400213e203 [a] h [Wd (I8 K K)]).F
def R6:Ru K R:=(.mk:Sg 0x1000e000e321627ff3fb17e56115e02e21de20de271e7b23115ea02e5210ea73711e0ee321627ff3fb17e56115ea21de20de271e7b23115e402e5110e473711e0ee3ce1023701e204327e9 [a,b,d] h).F
def Ah7:Ru K (Ru r (Ru c R)):=(.mk:Sg 0x1402 [] h).F
def Ah4:Ru K (Ru r (Ru c R)):=
 J6 d fun e=>
 k3 a b e h
def Ahp:R:=(.mk:Sg 0x154331050232842201 [a,b,d] h [c 142,K4 (Ah4 c r K k3)]).F
def Np(c:Ai)(r:Ai)(K:Nat):Nat->A3
 | 0=>fun _ _ _ _=>none
 | m+1=>fun a b d h=>
  cE K7 .lss 3 d b
  (Ahp c r K (Np c r K m) a b d h)
  (Ah7 c r K h)
def Am4:R:=(.mk:Sg 0x1002532021112101203 [a] h [Fi (Bz K),Fi (Cz K),K4 (Np c r K K)]).F
def Gd:Ru K (Ru r (Ru c R)):=
 J6 e fun f=>
 k4 a b d f h
def Gf:R:=(.mk:Sg 0x1ba98410000e22820fe296301265227e0606e26553615e [a,b,d,e] h [K4 (fun a e j=>Rn c r a [e,j]),Wd (Gd c r K k4)] [] [[.int .i64 0,.int .i64 0,.int .i64 0,.int .i64 0,.int .i64 0,.int .i64 0]]).F
def Ce(c:Ai)(r:Ai)(K:Nat):Nat->A4
 | 0=>fun _ _ _ _ _=>none
 | m+1=>fun a b d e h=>
  cE K7 .lss 3 e d
  (Gf c r K (Ce c r K m) a b d e h)
  (some (.tuple [],h))
def G2:R:=(.mk:Sg 0x100234400213e30de [a,b] h [Wd (Ce c r K K)]).F
end
variable{d:Nat}(H:Ca disp)
include H
theorem Xn(hd:1<=d):R1 disp K d 14 (Hj K):=fun _=>rl H hd
theorem Aqg(hd:1<=d):R1 disp K d 19 (Uu K):=fun _=>rl H hd
theorem Acd(hd:1<=d):R2 disp K d 23 (Pc K):=fun _ _=>rl H hd
theorem Jm(hd:1<=d):R2 disp K d 24 (Jq K):=fun _ _=>rl H hd
theorem Mr(hd:1<=d):R2 disp K d 25 (E2 K):=fun _ _=>rl H hd
theorem Ajy(hd:1<=d):R2 disp K d 26 (Tb K):=fun _ _=>rl H hd
theorem Ey(hd:1<=d):R1 disp K d 33 (Bx K):=fun _=>rl H hd
theorem Amq(hd:1<=d):R1 disp K d 35 (Rc K):=fun _=>rl H hd
theorem Arc(hd:1<=d):S2 disp K d 47 Ao3:=fun _ _=>rd rfl rfl H (V2 (Jm H) hd<|rfl)
theorem Ax6(hd:1<=d):R1 disp K d 60 (Ak6 K):=fun _=>ll H hd (fun _ _=>rfl) 51 (e4 (Um K) 0 2 3 5)
theorem A22(hd:1<=d):R1 disp K d 65 (Ao2 K):=fun _=>ll H hd (fun _ _=>rfl) 51 (e2 (St K) 3 8)
theorem A4l(hd:1<=d):R4 disp K d 68 (Aok K):=fun _ _ _ _=>rl H hd
theorem Ab3(hd:2<=d):R1 disp K d 69 (Oa K):=fun _=>ll H hd (fun d hd=>V1 (Ax6 H) hd<|rfl) 51 (e5 (Fy K) 1 3 7 8 9)
theorem Ard(hd:1<=d):S2 disp K d 71 Aoh:=fun _ _=>rd rfl rfl H (V2 (Jm H) hd<|rfl)
theorem Aqa(hd:1<=d):S1 disp K d 72 Alq:=fun _=>rd rfl rfl H (V1 (Ey H) hd<|rfl)
theorem Ap1(hd:0<=d):S2 disp K d 74 All:=fun _ _=>ld rfl rfl H rfl 51 (fun c r=>e4 (Lp c r K) 0 14 15 16)
theorem Atp(hd:1<=d):R1 disp K d 77 (Aia K):=fun _=>rl H hd
theorem Arl(hd:1<=d):R1 disp K d 78 (Ae7 K):=fun _=>rl H hd
theorem Cw(hd:1<=d):R1 disp K d 79 (Bz K):=fun _=>rl H hd
theorem Yb(hd:1<=d):R1 disp K d 88 (Nz K):=fun _=>rl H hd
theorem Aix(hd:1<=d):R1 disp K d 95 (K2 K):=fun _=>rl H hd
theorem Asu(hd:0<=d):S2 disp K d 127 Aqp:=fun _ _=>rd rfl rfl H rfl
theorem A4r(hd:1<=d):R1 disp K d 135 (Ate K):=fun _=>rl H hd
theorem Ap9(hd:3<=d):R3 disp K d 136 (Qd K):=fun _ _ _=>rl H hd fun d hd=>V1 (Cw H) hd<|V2 (F7 H) hd<|rfl
theorem T3(hd:1<=d):R2 disp K d 137 (Ha K):=fun _ _=>rl H hd
theorem Ahw(hd:2<=d):R2 disp K d 138 (Un K):=fun _ _=>rl H hd fun d hd=>V1 (Cw H) hd<|rfl
theorem Am9(hd:1<=d):S2 disp K d 141 Ajv:=fun _ _=>ld rfl rfl H (V1 (Yb H) hd<|V1 (Cw H) hd<|V1 (Ey H) hd<|rfl) 103 (fun c r=>e4 (Io c r K) 0 3 6 25)
theorem Asj(hd:1<=d):S2 disp K d 142 An1:=fun _ _=>rd rfl rfl H (V2 (Mr H) hd<|rfl)
theorem Amt(hd:1<=d):S2 disp K d 143 Agd:=fun _ _=>rd rfl rfl H (V1 (Ey H) hd<|V1 (Gn H) hd<|rfl)
theorem Ant(hd:1<=d):S2 disp K d 144 Aj3:=fun _ _=>rd rfl rfl H (V2 (Acd H) hd<|rfl)
theorem Ajn(hd:1<=d){l:Nat}(tm:Ax)(h:Ab)(v:EV){st:LoopState}{p:Option Code}(A:h.get l=some (.loop st p 144 19 tm [13] (Dt TT 144 0).2.2.1 (Dt TT 144 0).2.2.2 d0)):
 Ag TT disp K (d+1) true l [v] h=Ac9 (Ag TT disp K d false) (Ag TT disp K d true) K l (tmp tm 5) v h:=rr rfl rfl (rfl) A rfl (by kernel_rfl)
theorem Asc(hd:0<=d):S1 disp K d 145 Ao9:=fun _=>rd rfl rfl H rfl
theorem Ap2(hd:1<=d):R1 disp K d 147 (Acb K):=fun _=>rl H hd
omit H in
theorem Amk(c r:Ai)(K:Nat)(A:EV->EV->EV->Ab->R)(m:Nat):lpB false (Vd K c) c r K 148 1637 [(2,fun v tm h ds=>Ku c r K A (v 0) (v 10) (v 11) h),(1,fun v tm h ds=>Ku c r K A (v 0) (v 10) (v 11) h),(0,To false TT 148)] m=(fun m v tm h ds=>Eo c r K A m (v 0) (v 10) (v 11) (v 18) (v 19) h) m:=
 Ow (E:=fun m v tm h ds=>Eo c r K A m (v 0) (v 10) (v 11) (v 18) (v 19) h) rfl (fun m=>Aw8 fun v tm h ds=>by kernel_rfl) m
omit H in
theorem Amv(c r:Ai)(K:Nat)(m:Nat):lpB false (Vd K c) c r K 148 5 [(0,To false TT 148)] m=(fun m v tm h ds=>Gs c r K m (v 0) (v 10) (v 11) h) m:=
 Bpt (E:=fun m v tm h ds=>Gs c r K m (v 0) (v 10) (v 11) h) rfl (fun m=>(cut [true,true,false,false,true,true,false] (Amk c r K (Gs c r K m) K) (by kernel_rfl) (by kernel_rfl) rfl)) (fun m=>Aw8 fun v tm h ds=>by kernel_rfl) m
theorem Anj(hd:0<=d):S2 disp K d 148 Ai8:=fun _ _=>rm (q:=false) (D:=Vd K (Ag TT disp K d false)) (by kernel_rfl) rfl rfl H (rfl) (cut [true,false] (Amv (Ag TT disp K d false) (Ag TT disp K d true) K K) (by kernel_rfl) (by kernel_rfl) rfl)
theorem S8(hd:1<=d):R1 disp K d 149 (Fo K):=fun _=>rl H hd
theorem Ia(hd:1<=d):R1 disp K d 174 (Ee K):=fun _=>rl H hd
theorem Akb(hd:2<=d):R1 disp K d 175 (Ph K):=fun _=>ll H hd (fun d hd=>V1 (Ia H) hd<|rfl) 51 (e4 (I8 K) 3 9 10 11)
theorem Ar9(hd:1<=d):R3 disp K d 187 (R6 K):=fun _ _ _=>rl H hd
theorem Ara(hd:1<=d):S1 disp K d 198 Am4:=fun _=>ld rfl rfl H (V1 (Cw H) hd<|V1 (E4 H) hd<|rfl) 25 (fun c r=>e3 (Np c r K) 0 9 10)
theorem Jp(hd:0<=d):S2 disp K d 201 G2:=fun _ _=>ld rfl rfl H rfl 5 (fun c r=>e4 (Ce c r K) 0 5 6 7)
end
end Go.Ev
