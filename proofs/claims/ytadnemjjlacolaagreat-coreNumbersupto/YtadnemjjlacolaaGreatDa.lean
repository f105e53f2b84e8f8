import Derived.Test.YtadnemjjlacolaaGreatFun
import Derived.Test.YtadnemjjlacolaaGreatTab
set_option linter.all false
namespace Go.Ev
open Go.Proofs
set_option maxRecDepth 100000
set_option maxHeartbeats 4000000
variable {F:EV->EV->EV->EV->EV->Aa->R}{k d0:Nat}{disp:Nat->Option FT}
section
noncomputable section
section
variable (fl:Bool)(T:H7)(call callV round:Ai)(fuel fn n:Nat)(Dc:Option Nat)(out:Nat->CD)(ret:CD)
abbrev Bmy(p:List Bool):Hk->Code->Aih->CD->Code × Aih × CD:=
 @List.rec Bool (fun _=>Hk->Code->Aih->CD->Code × Aih × CD) (fun _ c env k=>(c,env,k))
  (fun s _ v H c env k=>match c with
   | .seq x y=>Ba s (v H.r y env k) (v H.l x env (Pz fl T call callV round fuel fn n Dc out ret H.r y env k))
   | .cond _ x y=>Ba s (v H.r y env k) (v H.l x env k)
   | .block id x=>v H.l x ((id,k)::env) k
   | c=>(c,env,k)) p
end
def Bns:Nat:=have _:=@Wd;have _:=@L6;have _:=@Sh;have _:=@D9;have _:=@Ao0;have _:=@Ys;have _:=@builtin;have _:=@Kk;have _:=@Ps;have _:=@Fp;have _:=@Bx;have _:=@It;0
def Bov(c:Code):Bool:=match c with | .loop _=>true|_=>false
@[reducible] def cH(q:Bool)(C c r:Ai)(K g:Nat)(H:Hk):CD:=let _:=Bns;Pz q TT C c r K g (nOf TT g) none no0 (Afb q TT g) H (Nt TT g) [] (Afb q TT g)
@[reducible] def lH(q:Bool)(C c r:Ai)(K g p:Nat):Code × Aih × CD:=Bmy q TT C c r K g (nOf TT g) none no0 (Afb q TT g) (pathOf p) .no (Nt TT g) [] (Afb q TT g)
@[reducible] def Bb6(q:Bool)(C c r:Ai)(K g p:Nat)(X:CD):CD:=let _:=Bns;match lH q C c r K g p with
 | (.loop x,env,_)=>Aad q TT C c r K g (nOf TT g) none no0 (Afb q TT g) x env X
 | _=>X
@[reducible] def A6t(xs:List EV)(B:CD)(h:Aa):R:=let _:=Bns;B (A79 xs 0 u0) (setArgs xs 0 .nil) h []
@[reducible] def lpB(q:Bool)(C c r:Ai)(K g p:Nat)(env:Aih)(m:Nat):CD:=A1l (fun v=>Aad q TT C c r K g (nOf TT g) none no0 (Afb q TT g) (Bp8 TT g (pathOf p)) env v) m
abbrev e0(X:Nat->A0):Nat->CD:=fun m _ _ h _=>X m h
abbrev e1(X:Nat->A1)(a:Nat):Nat->CD:=fun m v _ h _=>X m (v a) h
abbrev e2(X:Nat->A2)(a b:Nat):Nat->CD:=fun m v _ h _=>X m (v a) (v b) h
abbrev e3(X:Nat->A3)(a b c:Nat):Nat->CD:=fun m v _ h _=>X m (v a) (v b) (v c) h
abbrev e4(X:Nat->A4)(a b c d:Nat):Nat->CD:=fun m v _ h _=>X m (v a) (v b) (v c) (v d) h
abbrev e5(X:Nat->A5)(a b c d e:Nat):Nat->CD:=fun m v _ h _=>X m (v a) (v b) (v c) (v d) (v e) h
abbrev e6(X:Nat->A6)(a b c d e f:Nat):Nat->CD:=fun m v _ h _=>X m (v a) (v b) (v c) (v d) (v e) (v f) h
abbrev e7(X:Nat->A7)(a b c d e f i:Nat):Nat->CD:=fun m v _ h _=>X m (v a) (v b) (v c) (v d) (v e) (v f) (v i) h
abbrev e8(X:Nat->A8)(a b c d e f i j:Nat):Nat->CD:=fun m v _ h _=>X m (v a) (v b) (v c) (v d) (v e) (v f) (v i) (v j) h
abbrev e9(X:Nat->A9)(a b c d e f i j k:Nat):Nat->CD:=fun m v _ h _=>X m (v a) (v b) (v c) (v d) (v e) (v f) (v i) (v j) (v k) h
abbrev e10(X:Nat->A10)(a b c d e f i j k l:Nat):Nat->CD:=fun m v _ h _=>X m (v a) (v b) (v c) (v d) (v e) (v f) (v i) (v j) (v k) (v l) h
abbrev e11(X:Nat->A11)(a b c d e f i j k l n:Nat):Nat->CD:=fun m v _ h _=>X m (v a) (v b) (v c) (v d) (v e) (v f) (v i) (v j) (v k) (v l) (v n) h
end
section
variable {fl:Bool}{T:H7}{call callV round:Ai}{fuel fn n:Nat}{Dc:Option Nat}{out:Nat->CD}{ret:CD}
theorem A3l:∀(p:List Bool) (H:Hk) (c:Code) (env:Aih) (k:CD),atH fl T call callV round fuel fn n Dc out ret p H c env k=Aad fl T call callV round fuel fn n Dc out ret (Bmy fl T call callV round fuel fn n Dc out ret p H c env k).1 (Bmy fl T call callV round fuel fn n Dc out ret p H c env k).2.1 (Bmy fl T call callV round fuel fn n Dc out ret p H c env k).2.2
 | [],_,_,_,_=>rfl
 | s::p,H,c,env,k=>by
  cases c<;>first|rfl|exact A3l p _ _ _ _|(cases s<;>exact A3l p _ _ _ _)
end
section
variable{K m d g p:Nat}{q:Bool}{C:Nat->Ai}{D c r:Ai}{E:Nat->CD}{xs:List EV}{Y:Aa->R}{B:CD}
theorem Bp3(v:Bov (lH q D c r K g p).1=true)(h0:E 0=fun _ _ _ _=>none)(hs:∀m A tm h ds,Bb6 q D c r K g p (E m) A tm h ds=E (m+1) A tm h ds)(G:Apz (pathOf p) .no (Nt TT g)=true):
 cH q D c r K g .no=cH q D c r K g (Aya (pathOf p) (E K) .no):=by
 refine Yo _ (pathOf p) .no (Nt TT g) [] (Afb q TT g) G ?_;rw[A3l];have hs:=fun m=>A2r (hs m)
 show Aad q TT D c r K g (nOf TT g) none no0 (Afb q TT g) (lH q D c r K g p).1 (lH q D c r K g p).2.1 (lH q D c r K g p).2.2=E K;unfold Bb6 at hs;generalize lH q D c r K g p=x at v hs⊢;obtain⟨J,env,k⟩:=x;cases J<;>first|exact Uc h0 hs K|cases v
abbrev R0(disp:Nat->Option FT)(K d g:Nat)(F:Aa->R):Prop:=∀h,Ag TT disp K d false g [] h=F h
abbrev S0(disp:Nat->Option FT)(K d g:Nat)(F:Ai->Ai->Nat->Aa->R):Prop:=∀h,Ag TT disp K (d+1) false g [] h=F (Ag TT disp K d false) (Ag TT disp K d true) K h
theorem V0 {F:Aa->R}{x:Ai}(e:k<=d->R0 disp K d g F)(hd:m<=d)(y:Ag TT disp K d false=x)(v:Nat.ble k m=true:=by rfl):Ag TT disp K d false=w0 g F x:=W0 (e (lq hd v)) y
abbrev R1(disp:Nat->Option FT)(K d g:Nat)(F:EV->Aa->R):Prop:=∀a h,Ag TT disp K d false g [a] h=F a h
abbrev S1(disp:Nat->Option FT)(K d g:Nat)(F:Ai->Ai->Nat->EV->Aa->R):Prop:=∀a h,Ag TT disp K (d+1) false g [a] h=F (Ag TT disp K d false) (Ag TT disp K d true) K a h
theorem V1 {F:EV->Aa->R}{x:Ai}(e:k<=d->R1 disp K d g F)(hd:m<=d)(y:Ag TT disp K d false=x)(v:Nat.ble k m=true:=by rfl):Ag TT disp K d false=w1 g F x:=W1 (e (lq hd v)) y
abbrev R2(disp:Nat->Option FT)(K d g:Nat)(F:EV->EV->Aa->R):Prop:=∀a b h,Ag TT disp K d false g [a,b] h=F a b h
abbrev S2(disp:Nat->Option FT)(K d g:Nat)(F:Ai->Ai->Nat->EV->EV->Aa->R):Prop:=∀a b h,Ag TT disp K (d+1) false g [a,b] h=F (Ag TT disp K d false) (Ag TT disp K d true) K a b h
theorem V2 {F:EV->EV->Aa->R}{x:Ai}(e:k<=d->R2 disp K d g F)(hd:m<=d)(y:Ag TT disp K d false=x)(v:Nat.ble k m=true:=by rfl):Ag TT disp K d false=w2 g F x:=W2 (e (lq hd v)) y
abbrev R3(disp:Nat->Option FT)(K d g:Nat)(F:EV->EV->EV->Aa->R):Prop:=∀a b e h,Ag TT disp K d false g [a,b,e] h=F a b e h
abbrev S3(disp:Nat->Option FT)(K d g:Nat)(F:Ai->Ai->Nat->EV->EV->EV->Aa->R):Prop:=∀a b e h,Ag TT disp K (d+1) false g [a,b,e] h=F (Ag TT disp K d false) (Ag TT disp K d true) K a b e h
theorem V3 {F:EV->EV->EV->Aa->R}{x:Ai}(e:k<=d->R3 disp K d g F)(hd:m<=d)(y:Ag TT disp K d false=x)(v:Nat.ble k m=true:=by rfl):Ag TT disp K d false=w3 g F x:=W3 (e (lq hd v)) y
abbrev R4(disp:Nat->Option FT)(K d g:Nat)(F:EV->EV->EV->EV->Aa->R):Prop:=∀a b e f h,Ag TT disp K d false g [a,b,e,f] h=F a b e f h
abbrev S4(disp:Nat->Option FT)(K d g:Nat)(F:Ai->Ai->Nat->EV->EV->EV->EV->Aa->R):Prop:=∀a b e f h,Ag TT disp K (d+1) false g [a,b,e,f] h=F (Ag TT disp K d false) (Ag TT disp K d true) K a b e f h
theorem V4 {F:EV->EV->EV->EV->Aa->R}{x:Ai}(e:k<=d->R4 disp K d g F)(hd:m<=d)(y:Ag TT disp K d false=x)(v:Nat.ble k m=true:=by rfl):Ag TT disp K d false=w4 g F x:=W4 (e (lq hd v)) y
abbrev R5(disp:Nat->Option FT)(K d g:Nat)(F:EV->EV->EV->EV->EV->Aa->R):Prop:=∀a b e f i h,Ag TT disp K d false g [a,b,e,f,i] h=F a b e f i h
abbrev S5(disp:Nat->Option FT)(K d g:Nat)(F:Ai->Ai->Nat->EV->EV->EV->EV->EV->Aa->R):Prop:=∀a b e f i h,Ag TT disp K (d+1) false g [a,b,e,f,i] h=F (Ag TT disp K d false) (Ag TT disp K d true) K a b e f i h
theorem V5{x:Ai}(e:k<=d->R5 disp K d g F)(hd:m<=d)(y:Ag TT disp K d false=x)(v:Nat.ble k m=true:=by rfl):Ag TT disp K d false=w5 g F x:=W5 (e (lq hd v)) y
abbrev S6(disp:Nat->Option FT)(K d g:Nat)(F:Ai->Ai->Nat->EV->EV->EV->EV->EV->EV->Aa->R):Prop:=∀a b e f i j h,Ag TT disp K (d+1) false g [a,b,e,f,i,j] h=F (Ag TT disp K d false) (Ag TT disp K d true) K a b e f i j h
theorem rf(v:At7 (Nt TT g)=q)(L:Ag TT disp K d false=c)(M:Ag TT disp K d true=r)(e:c=D)(A:cH q D c r K g .no=B)(G:A64 TT g (Fz xs)=true:=by kernel_rfl)(J:∀h,A6t xs B h=Y h:=by intros;kernel_rfl)(h:Aa):A0c TT c r K g xs h=Y h:=by
 rw[Bev G,v];exact(congrArg (fun C=>A6t xs (cH q C c r K g .no) h) e).trans ((congrArg (fun B=>A6t xs B h) A).trans (J h))
theorem rm(v:At7 (Nt TT g)=q)(A:Ag TT disp K d false=c)(G:Ag TT disp K d true=r)(H:Bv disp)(e:c=D)(J:Pz q TT D c r K g (nOf TT g) none no0 (Afb q TT g) .no (Nt TT g) [] (Afb q TT g)=B)(L:Auq g=true:=by kernel_rfl)(M:A64 TT g (Fz xs)=true:=by kernel_rfl)(O:∀h,A6t xs B h=Y h:=by intros;kernel_rfl)(h:Aa):Ag TT disp K (d+1) false g xs h=Y h:=by
 subst A G;have e0:Ag TT disp K (d+1) false g xs h = @Option.rec FT (fun _=>FnT) (A0c TT (Ag TT disp K d false) (Ag TT disp K d true) K g) (fun F=>F (Ag TT disp K d false) (Ag TT disp K d true) K) (disp g) xs h:=rfl;rw[e0,H.plain g L];exact rf v rfl rfl e J M O h
theorem rd(v:Ag TT disp K d false=c)(A:Ag TT disp K d true=r)(H:Bv disp)(e:c=D)(G:Auq g=true:=by kernel_rfl)(J:A64 TT g (Fz xs)=true:=by kernel_rfl)(L:∀h,A6t xs (cH (At7 (Nt TT g)) D c r K g .no) h=Y h:=by intros;kernel_rfl)(h:Aa):Ag TT disp K (d+1) false g xs h=Y h:=rm rfl v A H e rfl G J L h
theorem ld(A:Ag TT disp K d false=c)(G:Ag TT disp K d true=r)(H:Bv disp)(e:c=D)(p:Nat)(E:Ai->Ai->Nat->CD)(h0:E c r 0=fun _ _ _ _=>none:=by rfl)(J:Auq g=true:=by kernel_rfl)(L:A64 TT g (Fz xs)=true:=by kernel_rfl)(M:Apz (pathOf p) .no (Nt TT g)=true:=by kernel_rfl)
 (O:Bov (lH (At7 (Nt TT g)) D c r K g p).1=true:=by kernel_rfl) (hs:∀m v tm h ds,Bb6 (At7 (Nt TT g)) D c r K g p (E c r m) v tm h ds=E c r (m+1) v tm h ds:=by intros;kernel_rfl)
 (P:∀h,A6t xs (cH (At7 (Nt TT g)) D c r K g (Aya (pathOf p) (E c r K) .no)) h=Y h:=by intros;kernel_rfl) (h:Aa):Ag TT disp K (d+1) false g xs h=Y h:=rm rfl A G H e (Bp3 O h0 hs M) J L P h
theorem rl(H:Bv disp)(hd:m+1<=d)(e:∀d,m<=d->Ag TT disp K d false=C d:=by exact fun _ _=>rfl)(v:Auq g=true:=by kernel_rfl)(A:A64 TT g (Fz xs)=true:=by kernel_rfl)(G:At7 (Nt TT g)=false:=by kernel_rfl)(J:∀d c r h,A6t xs (cH false (C d) c r K g .no) h=Y h:=by intros;kernel_rfl)(h:Aa):Ag TT disp K d false g xs h=Y h:=by
 obtain⟨d,rfl⟩:∃e,d=e+1:=⟨d-1,by omega⟩;exact rm G rfl rfl H (e d (Nat.le_of_succ_le_succ hd)) rfl v A (J d _ _) h
theorem ll(H:Bv disp)(hd:m+1<=d)(e:∀d,m<=d->Ag TT disp K d false=C d)(p:Nat)(E:Nat->CD)(h0:E 0=fun _ _ _ _=>none:=by rfl)(A:Auq g=true:=by kernel_rfl)(G:A64 TT g (Fz xs)=true:=by kernel_rfl)(J:At7 (Nt TT g)=false:=by kernel_rfl)(L:Apz (pathOf p) .no (Nt TT g)=true:=by kernel_rfl)
 (M:∀d c r,Bov (lH false (C d) c r K g p).1=true:=by intros;kernel_rfl) (hs:∀d c r m v tm h ds,Bb6 false (C d) c r K g p (E m) v tm h ds=E (m+1) v tm h ds:=by intros;kernel_rfl)
 (O:∀d c r h,A6t xs (cH false (C d) c r K g (Aya (pathOf p) (E K) .no)) h=Y h:=by intros;kernel_rfl) (h:Aa):Ag TT disp K d false g xs h=Y h:=by
 obtain⟨d,rfl⟩:∃e,d=e+1:=⟨d-1,by omega⟩;exact rm J rfl rfl H (e d (Nat.le_of_succ_le_succ hd)) (Bp3 (M d _ _) h0 (hs d _ _) L) A G (O d _ _) h
theorem rr {l n:Nat}{st:LoopState}{j:Option Code}{tm v:Az}{ps:List Tmp}{a b:Code}{h:Aa}{X:R}(A:Ag TT disp K d false=c)(G:Ag TT disp K d true=r)(e:c=D)(J:h.get l=some (.loop st j g n tm ps a b d0))(hs:Vg ps xs n tm=some v)
 (L:A9p TT D c r K l g n a b (Bi9 n ps xs (tmp tm)) v h []=X):Ag TT disp K (d+1) true l xs h=X:=by
 subst A G;rw[A6u];unfold Auy;rw[J];simp only;rw[hs];simp only;exact(congrArg (fun C=>A9p TT C (Ag TT disp K d false) (Ag TT disp K d true) K l g n a b (Bi9 n ps xs (tmp tm)) v h []) e).trans L
end
end
section
noncomputable section
section
variable (c r:Ai)(K l:Nat)(k0:A0)(k1:A1)(k2:A2)(k3:A3)(k4:A4)(k5:A5)(k6:A6)(k7:A7)(k8:A8)(k9:A9)(k10:A10)(k11:A11)(k12:A12)(m0:B0)(m1:B1)(m2:B2)(m3:B3)(m4:B4)(m5:B5)(m6:B6)(m7:B7)(m8:B8)(m9:B9)(m10:B10)(m11:B11)(m12:B12)(base:Nat)(s:DX)(tm:Az)(a b d e f g i j n o p q t u w x y z aa ab ad ae af ag ai aj an ao ap aq au aw ax ay az ba bb bd be bf bg bi bj bn bo bp bq bt bu bw bx bz da db dd de df dg di dj dn dp dq dt du dw dx dy dz ea eb ed ee ef eg ei ej en eo ep eq et eu ew ex ey ez fa fb fd fe ff fg fi fj fn fo fp fq ft fu fw fx fy fz ga gb gd ge gf gg gi gj gn go gp gq gt gu gw gx gy gz ia ib ie ig ii ij io ip iq it iu iw ix iy iz ja jb:EV)(h:Aa)(ds:List Nat)
def Sw:Ru K R:=(.mk:Sg 0x122203 [a] h).F
def J2:Ru K R:=(.mk:Sg 0x122c021de231fe344204209e9 [a] h).F
def Ci:Ru K R:=(.mk:Sg 0x1222f9e3 [a] h).F
def Dn:Ru K R:=(.mk:Sg 0x122231fe314204209e9 [a] h).F
def Q2:Ru K R:=(.mk:Sg 0x137e41104e243623533c037e05e [a] h [] [] [[.int .i64 0,.int .i64 0,.int .i64 0]]).F
def Ack:Ru K R:=(.mk:Sg 0x122233003e314 [a,b] h).F
def T1:R:=
 pkO d e fun f=>
 ifE f
 (some ((.int .i64 (-1)),h))
 (Ack K a b h)
def Ed:R:=(.mk:Sg 0x12023541025684102723e210136503e2d00420e209e9 [a,b] h [Es (Dn K),Vp (T1 K)]).F
def E3:Ru K R:=(.mk:Sg 0x1222101203 [a] h [Es A25]).F
def Aej:R:=(.mk:Sg 0x122210142116e263 [a,b] h [Es (E3 K)]).F
def Um:R:=(.mk:Sg 0x1432000023285409e [a,b,d,e] h [El (Aej K)]).F
def Uf:R:=(.mk:Sg 0x12024340025764002623e213e36301e2d00320e [a,b] h [Vp (Um K)]).F
def Aa9:Ru K R:=
 some (a,h)
def Mh:Ru K R:=
 K3 g fun i=>
 k6 a b d e f i h
def G8(K:Nat)(k6:A6)(base:Nat)(s:DX)(a:EV)(b:EV)(d:EV)(e:EV)(f:EV)(g:EV)(i:EV)(j:EV)(n:EV)(h:Aa):R:=
 pkA j n fun o=>
 ifE o
 (Mh K k6 a b e f g i h)
 (Mh K k6 a b d f g i h)
def He:R:=
 wtE j
 (pkO n o fun p=>
 G8 K k6 base s a b d e f g i j p h)
 (G8 K k6 base s a b d e f g i j tU h)
def Nj:R:=
 wfE o
 (L6 8 255 s h (fun h=>(E3 K f h)) fun p h s=>
 Aq4 6 12 3711 base a s h fun s q=>
 Aac 1 q d fun t=>
 Ov 15 32383 base t s fun s=>Ez t h fun u=>
 L6 16 65535 s h (fun h=>(E3 K u h)) fun w h s=>
 Auk p w fun x=>
 He K k6 base s a b d e g i j n o x h)
 (He K k6 base s a b d e g i j n o tU h)
def Aal:R:=
 A6d 1 e g h fun i=>
 Aaa h fun base s=>
 Ayf g b fun j=>
 wtE j
 (Auw d (.int .i64 0) fun n=>
 Nj K k6 base s a b d g i e f g j n h)
 (Nj K k6 base s a b d g i e f g j tU h)
def Hb(K:Nat):Nat->A6
 | 0=>fun _ _ _ _ _ _ _=>none
 | m+1=>fun a b d e f g h=>
  cE Ky .lss 3 g f
  (Aal K (Hb K m) a b d e f g h)
  (Aa9 K d h)
def J3:R:=
 fE 6 a h fun d=>
 H5 d fun e=>
 Hb K K a b (.int .i64 (-1)) d e (.int .i64 0) h
def Tg:Ru K R:=
 some (a,h)
def Te:Ru K R:=
 Baq d (.int .i64 2) fun e=>
 k3 a b e h
def Sz:R:=
 K3 b fun e=>
 Te K k3 a e d h
def Gc(K:Nat):Nat->A3
 | 0=>fun _ _ _ _=>none
 | m+1=>fun a b d h=>
  oE 3 a h fun e=>
  cE Ky .lss 3 d e
  (Sz K (Gc K m) a b d h)
  (Tg K b h)
def Kx:R:=(.mk:Sg 0x10010230024ae9 [a] h [K7 (Gc K K)]).F
def Ek:Ru K R:=(.mk:Sg 0x122203 [a] h).F
def Mw:Ru K R:=(.mk:Sg 0x122213e203 [a] h).F
def Oa:Ru K R:=(.mk:Sg 0x122213 [a] h).F
def Ww:Ru K R:=(.mk:Sg 0x1223023003e [a] h).F
def N4:R:=(.mk:Sg 0x121002221ce3023003e2101ee00e0023301e [a] h [Es (Ww K)]).F
def Ads:Ru K R:=
 pkA a b fun d=>
 some (d,h)
def Aat:R:=(.mk:Sg 0x1202200232004321e82a10223e [a,b] h [El (Ads K)]).F
def T3:Ru K R:=(.mk:Sg 0x1002200e2bce921007e [a] h [] [cu1 (fun a=>Bq (Dh [(0,1),(1,1),(2,1),(3,1),(4,1)]) [.Ao,.int .i64 0,.int .i64 0,.int .i64 0,.bool false] [(1,a)])]).F
def T5:R:=(.mk:Sg 0x1310003e070200e6284309e [a,b,d] h [Es (T3 K)]).F
def Ly:R:=(.mk:Sg 0x1202330023430015e0322ea2d10220e [a] h [K7 (T5 K)]).F
def Aub:Ru K R:=(.mk:Sg 0x1002200e2a2e921007e2101 [a] h [Es Ao7] [cu1 (fun b=>Bq (Dh [(0,1)]) [.Ac8] [(0,b)])]).F
def Ats:R:=(.mk:Sg 0x1310003e070200e6284309e [a,b,d] h [Es (Aub K)]).F
def Ao9:R:=(.mk:Sg 0x1202330023430001322ea2d10220e [a] h [K7 (Ats K)] [] [] [(.int .i64 4096)]).F
def Pu:Ru K R:=(.mk:Sg 0x1222101de3023003e1021ee3021de234209e9 [a] h).F
def Pg:R:=(.mk:Sg 0x122251ee231fe08e4407e041021ee0123603e2721120ae231ee9301fea21fed0420ae521ee621fe1021ee80421032e77665606b3021ee231ee343410e211110e0ee209e9 [a] h [Es (J2 K),builtin TT .min #[3,3]] [] [] [(.int .u64 1)]).F
def Ane:Ru K R:=
 pkA a b fun d=>
 some (d,h)
def K8:R:=(.mk:Sg 0x1202200232005321e82a3223e [a,b,d] h [El (Ane K)]).F
def Qy:Ru K R:=(.mk:Sg 0x122233 [a] h).F
def Aef:R:=(.mk:Sg 0x12225221261ee2421131013033003e [a,b] h [Es (fun a=>J3 K a (.int .i64 (-1))),El (Uf K),builtin TT .min #[3,3]]).F
def Aed:Ru K R:=
 K3 f fun g=>
 k5 a b d e g h
def Afa:R:=(.mk:Sg 0x198725510251de210164116e [a,b,d,e,f] h [Es (E3 K),cl5 (Aed K k5)]).F
def Lk(K:Nat):Nat->A5
 | 0=>fun _ _ _ _ _ _=>none
 | m+1=>fun a b d e f h=>
  cE Ky .lss 3 f e
  (Afa K (Lk K m) a b d e f h)
  (Aef K a b h)
def Gw:R:=(.mk:Sg 0x10023004500213e263 [a] h [cl5 (Lk K K)]).F
def Sb:Ru K R:=
 pkA a b fun d=>
 some (d,h)
def Ej:R:=(.mk:Sg 0x12022102521010224e82116e6fae302e2a00223e5220126521c [a,b] h [El (Ed K),El (Sb K)]).F
def J8:R:=(.mk:Sg 0x122251ee231fe512e6410e484010e1021ee3101170ee [a,b] h [Es (N4 K)]).F
def Ia:R:=(.mk:Sg 0x1706e200206e2005723301e20ae231ee9301fec21fe01e0420ae521ee821fe1021eea04c021de231fe7446043021ee231ee34421424ae9 [a] h [El (J8 K)]).F
def Av5:Ru K R:=(.mk:Sg 0x1002200e [a] h).F
def Awb:Ru K R:=
 K3 e fun f=>
 k4 a b d f h
def Awe:R:=(.mk:Sg 0x1a976420321660c232115101303 [a,b,d,e,f] h [Es (fun d=>Bx [.Ga] 184 1 1 [(0,d)]),El (D9 184 1),Vp (Awb K k4)]).F
def Avn:R:=(.mk:Sg 0x187365510270200e5212e20ce2101 [a,b,d,e] h [Es (Ly K),cl5 (Awe K k4)]).F
def Zp(K:Nat):Nat->A4
 | 0=>fun _ _ _ _ _=>none
 | m+1=>fun a b d e h=>
  cE Ky .lss 3 e d
  (Avn K (Zp K m) a b d e h)
  (Av5 K b h)
def Av0:R:=
 Bq (Dh [(0,1),(1,1),(2,1),(3,1),(4,1)]) [.Ao,(.int .i64 0),(.int .i64 0),(.int .i64 0),(.bool false)] [(1,b),(2,d)] fun e=>
 Sh 183 e h fun f h=>
 Zp K K b f a (.int .i64 0) h
def Av6:R:=(.mk:Sg 0x154330003e070200e6286509e [a,b,d,e,f] h [K7 (Av0 K)]).F
def Asv:R:=(.mk:Sg 0x12026545202487652020fe15e0621102e2d20fe2101 [a,b,d] h [Es (fun a=>Aat K a (.int .i64 512)),El (Aat K),cl5 (Av6 K)]).F
def G2:Ru K R:=
 pkA a b fun d=>
 some (d,h)
def G4:R:=(.mk:Sg 0x12022102421015e0c0230135402e2a430be [a,b,d] h [K7 (K8 K),El (G2 K)]).F
def G1:R:=(.mk:Sg 0x12023310245310c000230134403e2a430be [a,b,d] h [K7 (K8 K),K7 (G4 K)]).F
def G6:R:=(.mk:Sg 0x120233102453102101334d2a430be [a,b,d] h [Es (fun f=>K8 K f (.int .i64 1) (.int .i64 256)),K7 (G1 K)]).F
def G3:R:=(.mk:Sg 0x1202331024531015e0c0230132403e2a430be [a,b,d] h [K7 (K8 K),K7 (G6 K)]).F
def Ui:R:=(.mk:Sg 0x1202431024631015e010230141403e2ad0602301204209e9 [a] h [K7 (K8 K),K7 (G3 K)]).F
def Ib(K:Nat)(base:Nat)(s:DX)(a:EV)(b:EV)(h:Aa):R:=
 pkA a b fun d=>
 some (d,h)
def Td:R:=
 Aaa h fun base s=>
 Ov 0 0 base a s fun s=>Ox 6 a h fun b=>
 L6 1 1 s h (fun h=>(Kx K b h)) fun d h s=>
 olE 2 3 4 base a s h fun s e=>
 Awx d e fun f=>
 wtE f
 (olE 3 7 127 base a s h fun s g=>
 A4a (.int .i64 2) g fun i=>
 olE 2 10 575 base a s h fun s j=>
 Ov 11 63 base a s fun s=>Ox 6 a h fun n=>
 L6 12 2111 s h (fun h=>(Ia K n h)) fun o h s=>
 A4a j o fun p=>
 Awx i p fun q=>
 Ib K base s f q h)
 (Ib K base s f tU h)
def Bp:R:=
 pkO b d fun e=>
 ifE e
 (some ((.bool false),h))
 (Td K a h)
def Bu:R:=
 pkO b d fun e=>
 wfE e
 (oE 5 a h fun f=>
 Auk f (.int .i64 64) fun g=>
 Bp K a e g h)
 (Bp K a e tU h)
def Bw:R:=
 pkO b d fun e=>
 wfE e
 (oE 5 a h fun f=>
 Auw f (.int .i64 4) fun g=>
 Bu K a e g h)
 (Bu K a e tU h)
def Cg:R:=
 pkO b d fun e=>
 wfE e
 (oE 4 a h fun f=>
 Auk f (.int .i64 4) fun g=>
 Bw K a e g h)
 (Bw K a e tU h)
def Cp:R:=
 pkO b d fun e=>
 wfE e
 (oE 4 a h fun f=>
 Auw f (.int .i64 0) fun g=>
 Cg K a e g h)
 (Cg K a e tU h)
def Cu:R:=
 pkO b d fun e=>
 wfE e
 (oE 3 a h fun f=>
 Auk f (.int .i64 256) fun g=>
 Cp K a e g h)
 (Cp K a e tU h)
def C9:R:=
 pkO b d fun e=>
 wfE e
 (oE 3 a h fun f=>
 Auw f (.int .i64 1) fun g=>
 Cu K a e g h)
 (Cu K a e tU h)
def D3:R:=
 pkO b d fun e=>
 wfE e
 (oE 2 a h fun f=>
 Auk f (.int .i64 64) fun g=>
 C9 K a e g h)
 (C9 K a e tU h)
def Eg:R:=
 pkO b d fun e=>
 wfE e
 (oE 2 a h fun f=>
 Auw f (.int .i64 4) fun g=>
 D3 K a e g h)
 (D3 K a e tU h)
def Ft:R:=
 pkO b d fun e=>
 wfE e
 (oE 1 a h fun f=>
 Auk f (.int .i64 64) fun g=>
 Eg K a e g h)
 (Eg K a e tU h)
def Hp:R:=
 pkO b d fun e=>
 wfE e
 (oE 1 a h fun f=>
 Auw f (.int .i64 1) fun g=>
 Ft K a e g h)
 (Ft K a e tU h)
def Hu:R:=
 Sh 88 a h fun b h=>
 oE 0 b h fun d=>
 Auw d (.int .i64 3) fun e=>
 wfE e
 (oE 0 b h fun f=>
 Auk f (.int .i64 8) fun g=>
 Hp K b e g h)
 (Hp K b e tU h)
def Av3:Ru K R:=(.mk:Sg 0x1002200e281e9232007e001 [a] h [cl0 Asd] [cu2 (fun a b=>Bq (Dh [(0,1),(1,1),(2,1),(3,1)]) [.Ga,.Ao,.Ao,.Akg] [(0,a),(3,b)])]).F
def An8:R:=(.mk:Sg 0x13110270200e5212e20ce432301 [a,b,d] h [K7 (Asv K),Es (Av3 K)]).F
def Lf(K:Nat)(base:Nat)(s:DX)(a:EV)(b:EV)(h:Aa):R:=
 pkA a b fun d=>
 some (d,h)
def Pe:R:=
 pkA b d fun e=>
 wtE e
 (olE 3 11 2047 base a s h fun s f=>
 A4a (.int .i64 2) f fun g=>
 olE 2 14 9215 base a s h fun s i=>
 Ov 15 1023 base a s fun s=>Ox 6 a h fun j=>
 L6 16 33791 s h (fun h=>(Pg K j h)) fun n h s=>
 A4a i n fun o=>
 Awx g o fun p=>
 Lf K base s e p h)
 (Lf K base s e tU h)
def Md:R:=
 Sh 23 a h fun b h=>
 Aaa h fun base s=>
 Ov 0 0 base b s fun s=>Ox 6 b h fun d=>
 L6 1 1 s h (fun h=>(Ui K d h)) fun e h s=>
 wtE e
 (Ov 3 7 base b s fun s=>Ox 6 b h fun f=>
 L6 4 15 s h (fun h=>(Pu K f h)) fun g h s=>
 olE 2 6 39 base b s h fun s i=>
 Awx g i fun j=>
 Pe K base s b e j h)
 (Pe K base s b e tU h)
def Av1:Ru K R:=(.mk:Sg 0x1002200e [a] h).F
def Awh:Ru K R:=
 K3 e fun f=>
 k4 a b d f h
def Awg:R:=(.mk:Sg 0x1a976420321666c232115101363 [a,b,d,e,f] h [Es (fun d=>Bx [.Ga] 124 1 1 [(0,d)]),El (D9 124 1),Vp (Awh K k4)]).F
def Avr:R:=(.mk:Sg 0x198376510270200e5212e20ce2101214 [a,b,d,e] h [Es (Ao9 K),cl5 (Awg K k4)]).F
def Aa6(K:Nat):Nat->A4
 | 0=>fun _ _ _ _ _=>none
 | m+1=>fun a b d e h=>
  cE Ky .lss 3 e d
  (Avr K (Aa6 K m) a b d e h)
  (Av1 K b h)
def Avf:R:=(.mk:Sg 0x10023640050426de921007e265 [a] h [Vp (Aa6 K K)] [cu1 (fun b=>Bq (Dh [(0,6),(6,1)]) [.int .i64 0,.int .i64 0,.int .i64 0,.int .i64 0,.int .i64 0,.int .i64 0,.Ao] [(0,b)])]).F
def Aid:R:=(.mk:Sg 0x1511009e070200e62820fe2101265209e9 [a] h [Es (Md K),Es (Avf K)]).F
def Aqb:R:=(.mk:Sg 0x1002200e261e9818e2a5675007e22211618e21002e57565504b5f2e5502b365301b0ee [a,b,d,e] h [Es (Dn K),El (Uu [.int .i64 0] 3)] [cu5 (fun a f g e n=>Bq (Dh [(0,1),(1,6),(7,256),(263,1),(264,1),(265,1),(266,1),(267,1)]) ([.Ga]++List.replicate 6 (.int .i64 0)++List.replicate 256 (.int .u32 0)++[.Ga]++[.Ao]++List.replicate 3 (.int .i64 0)) [(0,a),(1,f),(2,g),(3,e),(4,n),(5,.int .i64 (-1)),(6,.int .i64 (-1))])]).F
def Qa(K:Nat)(base:Nat)(s:DX)(a:EV)(b:EV)(d:EV)(e:EV)(f:EV)(g:EV)(h:Aa):R:=
 pkO f g fun i=>
 ifE i
 (some (.tuple [.Ga,(.int .i64 20)],h))
 (Aqb K a b d e h)
def Zb:R:=
 pkO f g fun i=>
 wfE i
 (L6 12 4095 s h (fun h=>(Ek K a h)) fun j h s=>
 L6 13 8191 s h (fun h=>(Oa K j h)) fun n h s=>
 olE 2 15 18431 base b s h fun s o=>
 Ayf n o fun p=>
 Qa K base s a b d e i p h)
 (Qa K base s a b d e i tU h)
def Aeg:R:=
 Sh 23 b h fun e h=>
 Sh 96 d h fun f h=>
 Ox 6 e h fun g=>
 Ap (Aid K g h) fun i h=>
 x2E i fun j n=>
 Aaa h fun base s=>
 Kk Ajg (bin TT .neq 35) n (.int .i64 0) fun o=>
 wfE o
 (L6 4 15 s h (fun h=>(Ek K a h)) fun p h s=>
 L6 5 31 s h (fun h=>(Mw K p h)) fun q h s=>
 Ov 6 7 base e s fun s=>Ox 6 e h fun t=>
 L6 7 127 s h (fun h=>(Dn K t h)) fun u h s=>
 Ayf q u fun w=>
 Zb K base s a e f j o w h)
 (Zb K base s a e f j o tU h)
end
variable{K d:Nat}(H:Bv disp)
include H
theorem Zw(hd:1<=d):R1 disp K d 14 (Sw K):=fun _=>rl H hd
theorem Qp(hd:1<=d):R1 disp K d 21 (J2 K):=fun _=>rl H hd
theorem F2(hd:1<=d):R1 disp K d 22 (Ci K):=fun _=>rl H hd
theorem Fl(hd:1<=d):R1 disp K d 24 (Dn K):=fun _=>rl H hd
theorem Alo(hd:1<=d):R1 disp K d 32 (Q2 K):=fun _=>rl H hd
theorem Fu(hd:2<=d):R2 disp K d 69 (Ed K):=fun _ _=>rl H hd fun d hd=>V1 (Fl H) hd<|rfl
theorem Kt(hd:1<=d):R1 disp K d 70 (E3 K):=fun _=>rl H hd
theorem Apg(hd:2<=d):R2 disp K d 71 (Uf K):=fun _ _=>rl H hd fun d hd=>V1 (Kt H) hd<|rfl
theorem Yl(hd:2<=d):R2 disp K d 72 (J3 K):=fun _ _=>ll H hd (fun d hd=>V1 (Kt H) hd<|rfl) 51 (e6 (Hb K) 0 1 5 11 12 13)
theorem Adt(hd:1<=d):R1 disp K d 86 (Kx K):=fun _=>ll H hd (fun _ _=>rfl) 51 (e3 (Gc K) 1 3 4)
theorem Qo(hd:1<=d):R1 disp K d 90 (Ek K):=fun _=>rl H hd
theorem Yk(hd:1<=d):R1 disp K d 91 (Mw K):=fun _=>rl H hd
theorem Aa5(hd:1<=d):R1 disp K d 92 (Oa K):=fun _=>rl H hd
theorem Ajh(hd:1<=d):R1 disp K d 121 (N4 K):=fun _=>rl H hd
theorem Awq(hd:1<=d):R2 disp K d 122 (Aat K):=fun _ _=>rl H hd
theorem Afg(hd:1<=d):R1 disp K d 123 (Ly K):=fun _=>rl H hd
theorem Azr(hd:1<=d):R1 disp K d 124 (Ao9 K):=fun _=>rl H hd
theorem Acg(hd:1<=d):R1 disp K d 126 (Pu K):=fun _=>rl H hd
theorem Ajv(hd:2<=d):R1 disp K d 127 (Pg K):=fun _=>rl H hd fun d hd=>V1 (Qp H) hd<|rfl
theorem Ala(hd:1<=d):R3 disp K d 151 (K8 K):=fun _ _ _=>rl H hd
theorem Ame(hd:1<=d):R1 disp K d 153 (Qy K):=fun _=>rl H hd
theorem Tk(hd:3<=d):R1 disp K d 23 (Gw K):=fun _=>ll H hd (fun d hd=>V2 (Yl H) hd<|V2 (Apg H) hd<|V1 (Kt H) hd<|rfl) 51 (e5 (Lk K) 0 3 9 10 11)
theorem Gp(hd:3<=d):R2 disp K d 67 (Ej K):=fun _ _=>rl H hd fun d hd=>V2 (Fu H) hd<|rfl
theorem Aa2(hd:2<=d):R1 disp K d 87 (Ia K):=fun _=>rl H hd fun d hd=>V1 (Ajh H) hd<|rfl
theorem A4g(hd:2<=d):R3 disp K d 88 (Asv K):=fun _ _ _=>ll H hd (fun d hd=>V2 (Awq H) hd<|V1 (Afg H) hd<|rfl) 103 (e4 (Zp K) 1 8 23 24)
theorem Apk(hd:2<=d):R1 disp K d 125 (Ui K):=fun _=>rl H hd fun d hd=>V3 (Ala H) hd<|rfl
theorem Ad1(hd:3<=d):R1 disp K d 48 (Hu K):=fun _=>rl H hd fun d hd=>V1 (Adt H) hd<|V1 (Aa2 H) hd<|rfl
theorem A2l(hd:3<=d):R3 disp K d 49 (An8 K):=fun _ _ _=>rl H hd fun d hd=>V3 (A4g H) hd<|rfl
theorem Ts(hd:3<=d):R1 disp K d 93 (Md K):=fun _=>rl H hd fun d hd=>V1 (Apk H) hd<|V1 (Acg H) hd<|V1 (Ajv H) hd<|rfl
theorem A21(hd:4<=d):R1 disp K d 89 (Aid K):=fun _=>ll H hd (fun d hd=>V1 (Ts H) hd<|V1 (Azr H) hd<|rfl) 103 (e4 (Aa6 K) 1 4 14 15)
theorem Ayr(hd:5<=d):R3 disp K d 50 (Aeg K):=fun _ _ _=>rl H hd fun d hd=>V1 (A21 H) hd<|V1 (Qo H) hd<|V1 (Yk H) hd<|V1 (Fl H) hd<|V1 (Aa5 H) hd<|rfl
end
end
noncomputable section
section
variable (c r:Ai)(K l:Nat)(k0:A0)(k1:A1)(k2:A2)(k3:A3)(k4:A4)(k5:A5)(k6:A6)(k7:A7)(k8:A8)(k9:A9)(k10:A10)(k11:A11)(k12:A12)(m0:B0)(m1:B1)(m2:B2)(m3:B3)(m4:B4)(m5:B5)(m6:B6)(m7:B7)(m8:B8)(m9:B9)(m10:B10)(m11:B11)(m12:B12)(base:Nat)(s:DX)(tm:Az)(a b d e f g i j n o p q t u w x y z aa ab ad ae af ag ai aj an ao ap aq au aw ax ay az ba bb bd be bf bg bi bj bn bo bp bq bt bu bw bx bz da db dd de df dg di dj dn dp dq dt du dw dx dy dz ea eb ed ee ef eg ei ej en eo ep eq et eu ew ex ey ez fa fb fd fe ff fg fi fj fn fo fp fq ft fu fw fx fy fz ga gb gd ge gf gg gi gj gn go gp gq gt gu gw gx gy gz ia ib ie ig ii ij io ip iq it iu iw ix iy iz ja jb:EV)(h:Aa)(ds:List Nat)
def Ll:Ru K R:=(.mk:Sg 0x1203040304e4fde33fce32fbe3 [a] h).F
def Ai4:Ru K R:=(.mk:Sg 0x12242116e273 [a,b] h).F
def Ym:R:=(.mk:Sg 0x1432000023285409e [a,b,d,e] h [El (Ai4 K)]).F
def Qd:R:=(.mk:Sg 0x12024340025764002623e213e37301e2d00320e [a,b] h [Vp (Ym K)]).F
def Adp:Ru K (Ru r R):=(.mk:Sg 0x1222101 [a] h [c 61]).F
def Ad3:Ru K (Ru r (Ru c R)):=
 K3 e fun f=>
 k4 a b d f h
def Adu:R:=(.mk:Sg 0x17654410222212e2320153116e [a,b,d,e] h [c 74,Vp (Ad3 c r K k4)]).F
def Lu(c:Ai)(r:Ai)(K:Nat):Nat->A4
 | 0=>fun _ _ _ _ _=>none
 | m+1=>fun a b d e h=>
  cE Ky .lss 3 e d
  (Adu c r K (Lu c r K m) a b d e h)
  (Adp c r K a h)
def Aee:R:=(.mk:Sg 0x100234410213e32201 [a,b] h [c 73,Vp (Lu c r K K)]).F
def Abm:R:=(.mk:Sg 0x15421003e0232820fe32201 [a,b] h [c 19,El (Aee c r K)]).F
def Akw:Ru K R:=(.mk:Sg 0x100021e71204e276626542615e263 [a,b,d] h).F
def Abk:R:=(.mk:Sg 0x154330003e0021e61204e26660007e01e286509e [a,b,d,e,f] h [K7 (Akw K)] [cu0 (Bq (Dh [(0,1),(1,1),(2,1),(3,1),(4,1),(5,1)]) [.int .i64 0,.int .i64 0,.int .i64 0,.int .i64 0,.int .i64 0,.int .i64 0] [])]).F
def K4:R:=(.mk:Sg 0x1202354500256875002723e213e46302e2d00420e021e05e [a,b] h [cl5 (Abk K)] [] [[.int .i64 0,.int .i64 0,.int .i64 0,.int .i64 0,.int .i64 0,.int .i64 0]]).F
def Agq:Ru K (Ru r R):=(.mk:Sg 0x1250200e32201 [a,b] h [c 27]).F
def Afo:R:=(.mk:Sg 0x1232100040200e60123701e2101 [a] h [c 33,El (Agq c r K)] [] [] [(.int .i64 (-1))]).F
def Amr:R:=(.mk:Sg 0x13120250200e31119282101 [a] h [c 81,c 61,Es (Afo c r K)]).F
def Aps:Ru K R:=(.mk:Sg 0x123e31104e2312e6312e5 [a,b] h).F
def Aqi:Ru K R:=
 K3 e fun f=>
 k4 a b d f h
def Apx:R:=
 Auo 32 1 d e fun f=>
 stE 1 f a h fun h=>
 Aqi K k4 a b d e h
def Ua(K:Nat):Nat->A4
 | 0=>fun _ _ _ _ _=>none
 | m+1=>fun a b d e h=>
  cE Ky .lss 3 e (.int .i64 32)
  (Apx K (Ua K m) a b d e h)
  (Aps K b d h)
def Ake:R:=(.mk:Sg 0x100234400023e05e023e05e [a] h [Vp (Ua K K)] [] [List.replicate 32 (.int .u8 0)]).F
def Ahi:Ru K (Ru r (Ru c R)):=(.mk:Sg 0x100023e31204e2312e6312e5 [a,b] h).F
def Ag0:R:=(.mk:Sg 0x1432000ee0023e41204e2412e60007e01e28540be [a,b,d,e] h [El (Ahi c r K)] [cu0 (Bq (Nb 1) (List.replicate 32 (.int .u8 0)) [])]).F
def Ago:R:=(.mk:Sg 0x12026541024874100ee0215e702e4320104e2a30620e [a,b,d,e,f] h [c 59,Vp (Ag0 c r K)]).F
def Af1:R:=(.mk:Sg 0x142ba95104023ec1204e2c12e60007e00e312e5212e624ff3fb17e023e05ea18e421ae20ce232011e57665604b273011e0ee [a,b,d,e] h [c 18,cl5 (Ago c r K)] [cu0 (Bq (Nb 1) (List.replicate 32 (.int .u8 0)) [])] [List.replicate 32 (.int .u8 0)]).F
def Rg:R:=(.mk:Sg 0x1765440010e0023e71204e2712e60007e01e3023701e6048023e61204e2612e60007e00e288709e [a,b,d,e,f,g,i] h [Vp (Af1 c r K)] [cu0 (Bq (Nb 1) (List.replicate 32 (.int .u8 0)) [])]).F
def Ann:R:=(.mk:Sg 0x1202438a97102465acb71000224e30403e2d00315e802e321e1606e20ce52201323023e05e [a,b] h [El (K4 K),cl7 (Rg c r K)] [] [List.replicate 32 (.int .u8 0),[.int .i64 0,.int .i64 0,.int .i64 0,.int .i64 0,.int .i64 0,.int .i64 0]]).F
def Avy:Ru K R:=
 some (a,h)
def Av8:Ru K R:=
 K3 b fun d=>
 k2 a d h
def Avh:R:=(.mk:Sg 0x1652004226522319e31c0007e [a,b] h [El (Av8 K k2)] [cu0 (Bq (Dh [(0,1),(1,1)]) [.int .i64 0,.int .i64 0] [(0,.int .i64 (-1)),(1,.int .i64 (-1))])]).F
def Rq(K:Nat):Nat->A2
 | 0=>fun _ _ _=>none
 | m+1=>fun a b h=>
  cE Ky .lss 3 b (.int .i64 3)
  (Avh K (Rq K m) a b h)
  (Avy K a h)
def Anf:R:=(.mk:Sg 0x100220028ae921007e [a] h [El (Rq K K)] [cu1 (fun a=>Bq (Dh [(0,1),(1,6)]) [.Ga,.int .i64 0,.int .i64 0,.int .i64 0,.int .i64 0,.int .i64 0,.int .i64 0] [(0,a)])]).F
def Anu:Ru K R:=(.mk:Sg 0x12225fe926544007e235537e9 [a,b,d,e] h [] [cu4 (fun a b d g=>Bq (Dh [(0,1),(1,1),(2,1),(3,3),(6,1)]) [.Ga,.Ga,.Ga,.int .i64 0,.int .i64 0,.int .i64 0,.bool false] [(0,a),(1,b),(2,d),(3,g)])]).F
def Qv:Ru K R:=
 some (a,h)
def Qr:Ru K R:=
 K3 f fun g=>
 k5 a b d e g h
def Qz:R:=(.mk:Sg 0x100edc2a5302a2212111262107e210121007e821de31464116e [a,b,d,e,f] h [Es (Ake K),Es (fun p=>Bx ([.int .i64 0]++List.replicate 32 (.int .u8 0)) 84 33 1 [(0,p)]),El (D9 84 33),cl5 (Qr K k5)] [cu1 (fun j=>R6 .u8 j),cu2 (fun g o=>Bq (Dh [(0,1),(1,32)]) ([.int .i64 0]++List.replicate 32 (.int .u8 0)) [(0,g),(1,o)])]).F
def Fj(K:Nat):Nat->A5
 | 0=>fun _ _ _ _ _ _=>none
 | m+1=>fun a b d e f h=>
  cE Ky .lss 3 f e
  (Qz K (Fj K m) a b d e f h)
  (Qv K b h)
def Ns:R:=(.mk:Sg 0x10023b04500213e234214e9 [a] h [cl5 (Fj K K)]).F
def Af5:Ru K (Ru r R):=(.mk:Sg 0x12232201 [a,b] h [c 74]).F
def Afx:R:=(.mk:Sg 0x143210222212e2101 [a,b] h [c 77,El (Af5 c r K)]).F
def Qs:R:=
 pkO e f fun g=>
 ifE g
 (some (d,h))
 (Afx c r K a b h)
def An5:R:=(.mk:Sg 0x1202498510246ba51010225e30401e2d00315e802e321e0606e20ce42201223 [a,b] h [El (K4 K),cl5 (Qs c r K)] [] [[.int .i64 0,.int .i64 0,.int .i64 0,.int .i64 0,.int .i64 0,.int .i64 0]]).F
def Ch:Ru K R:=(.mk:Sg 0x122203 [a] h).F
def E5:Ru K R:=
 Sh 113 a h fun b h=>
 some ((.func 104 [] [b]),h)
def Ca:Ru K R:=(.mk:Sg 0x109e41104e246626531c009e05e [a] h [] [] [[.int .i64 0,.int .i64 0,.int .i64 0,.int .i64 0,.int .i64 0,.int .i64 0]]).F
def Ahy:Ru K R:=
 Sh 57 a h fun b h=>
 some ((.func 113 [] [b]),h)
def Yn:Ru K R:=
 pkA a b fun d=>
 some (d,h)
def Ub:R:=(.mk:Sg 0x1202210262102720e21007e210130305e2a00323e [a,b] h [Es (Ca K),El (Yn K)] [cu1 (fun f=>Ahq 3 false 0 f)]).F
def On:Ru K (Ru r (Ru c R)):=(.mk:Sg 0x15021e31204e2366365 [a,b,d] h).F
def Sr:R:=(.mk:Sg 0x13200e3109806e3105021603e6c42162214e01e3c20ae224c3c12e0fe0315e701e8705e31042162214e01e3c20ae224c3c0ae00315e701e42662bffff5f06e17e021e05e05e18e20ce2467407fff4f01e723c004f00e210e63c21e03f9110e43c418e5404b273011e0ee [a,b,d] h [c 115,K7 (On c r K)] [] [[.int .i64 0,.int .i64 0,.int .i64 0,.int .i64 0,.int .i64 0,.int .i64 0]]).F
def Auu:R:=(.mk:Sg 0x15433004021626c [a,b,d] h [K7 (Sr c r K)]).F
def Ahw:R:=(.mk:Sg 0x13453204563100fe0021e51204e25660007e01e212e3021e51204e25660007e00e0ee0215e701e510123e28463021e05e375e9 [a,b] h [c 61,K7 (Auu c r K),K7 (Sr c r K)] [cu0 (Bq (Dh [(0,1),(1,1),(2,1),(3,1),(4,1),(5,1)]) [.int .i64 0,.int .i64 0,.int .i64 0,.int .i64 0,.int .i64 0,.int .i64 0] [])] [[.int .i64 0,.int .i64 0,.int .i64 0,.int .i64 0,.int .i64 0,.int .i64 0]]).F
def Agl:Ru K (Ru r (Ru c R)):=(.mk:Sg 0x1402 [] h).F
def Agj:Ru K (Ru r (Ru c R)):=
 K3 d fun e=>
 k3 a b e h
def Agt:R:=(.mk:Sg 0x154331050232842201 [a,b,d] h [c 100,K7 (Agj c r K k3)]).F
def Mg(c:Ai)(r:Ai)(K:Nat):Nat->A3
 | 0=>fun _ _ _ _=>none
 | m+1=>fun a b d h=>
  cE Ky .lss 3 d b
  (Agt c r K (Mg c r K m) a b d h)
  (Agl c r K h)
def Am9:R:=(.mk:Sg 0x1002532021112101203 [a] h [Es (Ca K),Es (Dn K),K7 (Mg c r K K)]).F
def Avj:Ru K R:=
 pkA a b fun d=>
 some (d,h)
def As1:R:=(.mk:Sg 0x12022002320060320e92a00223e [a] h [El (Avj K)]).F
def Un:Ru K R:=
 pkO a b fun d=>
 some (d,h)
def Px:R:=(.mk:Sg 0x1202220262207224e72211210130306e2d01424e [a,b,d] h [Es (Ca K),El (Ed K),El (Un K)] [] [] [(.int .i64 (-1))]).F
def Aet:Ru K R:=
 Sh 100 a h fun b h=>
 some ((.func 128 [] [b]),h)
def Gt:Ru K R:=(.mk:Sg 0x107e0200230023701e201ae42201203 [a,b] h [El Ax2]).F
def Xv:Ru K (Ru r (Ru c R)):=
 pkA a b fun d=>
 some (d,h)
def Am4:R:=(.mk:Sg 0x12022202522000224e5221132303e2a32201 [a,b] h [c 19,El (Qd K),El (Xv c r K)]).F
def An3:Ru K (Ru r (Ru c R)):=(.mk:Sg 0x1002 [] h).F
def Ant:R:=(.mk:Sg 0x10100ee0230ee0215e701e42201203 [a,b] h [c 134,cl0 (An3 c r K)]).F
def Afy:R:=(.mk:Sg 0x1652402220ee0215e701e2282231212150300e00215e701e522112101203 [a,b] h [Es (Ch K),c 133,Es (Ci K),c 56,El (Ant c r K)]).F
def Fy:Ru K (Ru r (Ru c R)):=
 K3 e fun f=>
 k4 a b d f h
def F1:R:=(.mk:Sg 0x1ba98410000e22820fe296301265221e0606e26553615e [a,b,d,e] h [K7 (fun a e j=>S7 c r a [e,j]),Vp (Fy c r K k4)] [] [[.int .i64 0,.int .i64 0,.int .i64 0,.int .i64 0,.int .i64 0,.int .i64 0]]).F
def Bz(c:Ai)(r:Ai)(K:Nat):Nat->A4
 | 0=>fun _ _ _ _ _=>none
 | m+1=>fun a b d e h=>
  cE Ky .lss 3 e d
  (F1 c r K (Bz c r K m) a b d e h)
  (some (.tuple [],h))
def Gr:R:=(.mk:Sg 0x100234400213e30de [a,b] h [Vp (Bz c r K K)]).F
def Z2:Ru K R:=
 Sh 43 a h fun d h=>
 Sh 3 b h fun e h=>
 some ((.func 144 [] [d,e]),h)
def Abl:Ru K R:=
 Sh 124 a h fun b h=>
 some ((.func 145 [] [b]),h)
def R9:Ru K R:=(.mk:Sg 0x1000e000e321627ff3fb17e56115e02e21de20de271e7b23115ea02e5210ea73711e0ee321627ff3fb17e56115ea21de20de271e7b23115e402e5110e473711e0ee3ce1023701e204321e9 [a,b,d] h).F
def Nv:Ru K R:=(.mk:Sg 0x109e41104e246626530c009e05e [a] h [] [] [[.int .i64 0,.int .i64 0,.int .i64 0,.int .i64 0,.int .i64 0,.int .i64 0]]).F
def Km:Ru K (Ru r (Ru c R)):=
 K3 d fun e=>
 k3 a b e h
def Tx(c:Ai)(r:Ai)(K:Nat)(k3:A3)(k5:A5)(a:EV)(b:EV)(d:EV)(e:EV)(f:EV)(h:Aa):R:=
 K3 f fun g=>
 k5 a b d e g h
def H4:R:=
 pkA g i fun j=>
 ifE j
 (some (.tuple [],h))
 (Tx c r K k3 k5 a b d e f h)
def Acs:R:=(.mk:Sg 0x12028765471024a987671020fe3420103e2a01225e652007e [a,b,d,e,f] h [El (fun a g=>S7 c r a [g]),cl7 (H4 c r K k3 k5)] [cu2 (fun e f=>Awy 2 1 false 1 e f)] [] [(.int .i64 (-1))]).F
def Eb(c:Ai)(r:Ai)(K:Nat)(k3:A3):Nat->A5
 | 0=>fun _ _ _ _ _ _=>none
 | m+1=>fun a b d e f h=>
  cE Ky .lss 3 f (.int .i64 2)
  (Acs c r K k3 (Eb c r K k3 m) a b d e f h)
  (Km c r K k3 a b d h)
def Abw:R:=(.mk:Sg 0x1002987500232107e314204287e0206e432007e [a,b,d] h [cl5 (Eb c r K k3 K)] [cu2 (fun b d=>Awy 3 2 true 2 b d),cu2 (fun g i=>Bq (Nb 1) [.int .i64 0,.int .i64 0] [(0,g),(1,i)])] [[.int .i64 0,.int .i64 0]]).F
def Ge(c:Ai)(r:Ai)(K:Nat):Nat->A3
 | 0=>fun _ _ _ _=>none
 | m+1=>fun a b d h=>
  cE Ky .lss 3 d (.int .i64 3)
  (Abw c r K (Ge c r K m) a b d h)
  (some (.tuple [],h))
def Ai8:R:=(.mk:Sg 0x1002530026521c30de [a,b] h [K7 (Ge c r K K)]).F
abbrev Uk(K:Nat)(c:Ai):Ai:=c
def Rf:Ru K R:=(.mk:Sg 0x1000e5021624c [a] h).F
def Ki:Ru K R:=(.mk:Sg 0x152e41104e24f2e62f2e537c052e05e [a] h [] [] [List.replicate 256 (.int .u32 0)]).F
def D5:Ru K R:=(.mk:Sg 0x122233 [a] h).F
def Yj:Ru K R:=
 some (a,h)
def Qm:Ru K R:=
 K3 e fun f=>
 k4 a b d f h
def Yg:R:=(.mk:Sg 0x17654410876241040ae91023701e210153116e [a,b,d,e] h [Es (D5 K),Vp (Qm K k4)]).F
def Ij(K:Nat):Nat->A4
 | 0=>fun _ _ _ _ _=>none
 | m+1=>fun a b d e h=>
  cE Ky .lss 3 e d
  (Yg K (Ij K m) a b d e h)
  (Yj K a h)
def O3:R:=(.mk:Sg 0x1002300400213e203 [a] h [Vp (Ij K K)]).F
def Alj:Ru r R:=(.mk:Sg 0x12221112101203 [a] h [Es (Ch K),c 98]).F
def Tl(c:Ai)(r:Ai)(K:Nat)(tm:Az)(a:EV)(h:Aa)(ds:List Nat):R:=
 Ez a h fun b=>
 uwE b h ds
def Ai2:R:=
 (fun(tm:Az) (ds:List Nat)=>
 Aun (.cells [.Ao] 28) h fun d h=>
 Arw a fun e=>
 Aht 2 e fun f=>
 Ez f h fun g=>
 Ap (Z2 K g b h) fun i h=>
 Wd c TT 73 19 0 i ((((((((tm.put 4 (some .Ao)).put 5 (some d)).put 7 (some a)).put 8 (some e)).put 9 (some f)).put 10 (some g)).put 11 (some b)).put 12 (some i)) h ds (fun h ds=>
 Tl c r K ((((((((tm.put 4 (some .Ao)).put 5 (some d)).put 7 (some a)).put 8 (some e)).put 9 (some f)).put 10 (some g)).put 11 (some b)).put 12 (some i)) d h ds) (fun id h ds=>
 Ba (Nat.beq 0 id) (Tl c r K ((((((((tm.put 4 (some .Ao)).put 5 (some d)).put 7 (some a)).put 8 (some e)).put 9 (some f)).put 10 (some g)).put 11 (some b)).put 12 (some i)) d h ds) (none)) (fun h ds=>
 Fp ds h fun h=>some (.Ao,h))) ((Tr.nil.put 0 (some a)).put 1 (some b)) []
def U4:Ru K (Ru r (Ru c R)):=(.mk:Sg 0x1020251623211410120de [a,b] h [Es (fun b=>Bx [.int .i64 0] 3 1 1 [(0,b)]),El (D9 3 1),cl0 (Wa l true .ready none)]).F
def Abs:R:=
 E1 l h fun h=>U4 c r K l a b h
def Ab5:Ru K (Ru r (Ru c R)):=(.mk:Sg 0x1002200e [a] h).F
def Ac1:R:=(.mk:Sg 0x121000fe02200e53023301e [a] h [Es (Ab5 c r K)]).F
def Ab6:R:=(.mk:Sg 0x16120200200e5212e21112101203 [a,b] h [Es (Ch K),c 98,Es (Ac1 c r K)]).F
def Ac3:Ru K (Ru r (Ru c R)):=
 K3 e fun f=>
 k4 a b d f h
def Acd:R:=(.mk:Sg 0x16432400724340040ae958 [a,b,d,e,f] h [Vp (Ac3 c r K k4)]).F
def Ab2:R:=(.mk:Sg 0x193876510200200e5212e20ce263301345 [a,b,d,e] h [c 132,cl5 (Acd c r K k4)]).F
def Kl(c:Ai)(r:Ai)(K:Nat):Nat->A4
 | 0=>fun _ _ _ _ _=>none
 | m+1=>fun a b d e h=>
  cE Ky .lss 3 e (.int .i64 3)
  (Ab2 c r K (Kl c r K m) a b d e h)
  (Ab6 c r K a d h)
def Ab1:R:=
 Kl c r K K a b (.int .i64 0) (.int .i64 0) h
def Tj(c:Ai)(r:Ai)(K:Nat)(base:Nat)(s:DX)(a:EV)(b:EV)(d:EV)(e:EV)(h:Aa):R:=
 pkO d e fun f=>
 ifE f
 (some (.tuple [(.int .i64 0),(.int .i64 10)],h))
 (Ab1 c r K a b h)
def Aie:R:=
 Sh 160 b h fun d h=>
 Aaa h fun base s=>
 Ov 0 0 base d s fun s=>Ox 4 d h fun e=>
 L6 1 1 s h (fun h=>(c 131 [e] h)) fun f h s=>
 An0 f fun g=>
 wfE g
 (olE 3 5 31 base d s h fun s i=>
 L6 6 63 s h (fun h=>(Nv K i h)) fun j h s=>
 Aq4 0 10 911 base a s h fun s n=>
 L6 11 2047 s h (fun h=>(Ca K n h)) fun o h s=>
 Kk Ajg (bin TT .neq 23) j o fun p=>
 Tj c r K base s a d g p h)
 (Tj c r K base s a d g tU h)
end
variable{K d:Nat}(H:Bv disp)
include H
theorem Akp(hd:1<=d):R1 disp K d 15 (Ll K):=fun _=>rl H hd
theorem Afm(hd:1<=d):R2 disp K d 26 (Qd K):=fun _ _=>rl H hd
theorem Aci(hd:0<=d):S2 disp K d 27 Abm:=fun _ _=>ld rfl rfl H rfl 51 (fun c r=>e4 (Lu c r K) 0 14 15 16)
theorem La(hd:1<=d):R2 disp K d 31 (K4 K):=fun _ _=>rl H hd
theorem Arl(hd:0<=d):S1 disp K d 34 Amr:=fun _=>rd rfl rfl H rfl
theorem Ayd(hd:1<=d):R1 disp K d 46 (Ake K):=fun _=>ll H hd (fun _ _=>rfl) 51 (e4 (Ua K) 0 2 3 5)
theorem Aqy(hd:1<=d):S2 disp K d 47 Ann:=fun _ _=>rd rfl rfl H (V2 (La H) hd<|rfl)
theorem A35(hd:1<=d):R1 disp K d 53 (Anf K):=fun _=>ll H hd (fun _ _=>rfl) 51 (e2 (Rq K) 3 8)
theorem A24(hd:1<=d):R4 disp K d 57 (Anu K):=fun _ _ _ _=>rl H hd
theorem Abn(hd:2<=d):R1 disp K d 58 (Ns K):=fun _=>ll H hd (fun d hd=>V1 (Ayd H) hd<|rfl) 51 (e5 (Fj K) 1 3 7 8 9)
theorem Aqt(hd:1<=d):S2 disp K d 59 An5:=fun _ _=>rd rfl rfl H (V2 (La H) hd<|rfl)
theorem Eh(hd:1<=d):R1 disp K d 62 (Ch K):=fun _=>rl H hd
theorem Su(hd:1<=d):R1 disp K d 64 (E5 K):=fun _=>rl H hd
theorem Cy(hd:1<=d):R1 disp K d 68 (Ca K):=fun _=>rl H hd
theorem Atr(hd:1<=d):R1 disp K d 75 (Ahy K):=fun _=>rl H hd
theorem Af7(hd:2<=d):R2 disp K d 76 (Ub K):=fun _ _=>rl H hd fun d hd=>V1 (Cy H) hd<|rfl
theorem Aha(hd:0<=d):S2 disp K d 78 Ahw:=fun _ _=>rd rfl rfl H rfl
theorem Ar4(hd:1<=d):S1 disp K d 81 Am9:=fun _=>ld rfl rfl H (V1 (Cy H) hd<|V1 (Fl H) hd<|rfl) 25 (fun c r=>e3 (Mg c r K) 0 9 10)
theorem A23(hd:1<=d):R1 disp K d 94 (As1 K):=fun _=>rl H hd
theorem Apb(hd:3<=d):R3 disp K d 95 (Px K):=fun _ _ _=>rl H hd fun d hd=>V1 (Cy H) hd<|V2 (Fu H) hd<|rfl
theorem Aqs(hd:1<=d):R1 disp K d 96 (Aet K):=fun _=>rl H hd
theorem Ty(hd:1<=d):R2 disp K d 97 (Gt K):=fun _ _=>rl H hd
theorem Arb(hd:1<=d):S2 disp K d 100 Am4:=fun _ _=>rd rfl rfl H (V2 (Afm H) hd<|rfl)
theorem Alr(hd:1<=d):S2 disp K d 101 Afy:=fun _ _=>rd rfl rfl H (V1 (Eh H) hd<|V1 (F2 H) hd<|rfl)
theorem I8(hd:0<=d):S2 disp K d 104 Gr:=fun _ _=>ld rfl rfl H rfl 5 (fun c r=>e4 (Bz c r K) 0 5 6 7)
theorem Ak7(hd:1<=d):R2 disp K d 111 (Z2 K):=fun _ _=>rl H hd
theorem Apl(hd:1<=d):R1 disp K d 114 (Abl K):=fun _=>rl H hd
theorem Aqo(hd:1<=d):R3 disp K d 116 (R9 K):=fun _ _ _=>rl H hd
theorem Wx(hd:1<=d):R1 disp K d 120 (Nv K):=fun _=>rl H hd
omit H in
theorem Al5(c r:Ai)(K:Nat)(A:EV->EV->EV->Aa->R)(m:Nat):lpB false (Uk K c) c r K 128 1637 [(2,fun v tm h ds=>Km c r K A (v 0) (v 10) (v 11) h),(1,fun v tm h ds=>Km c r K A (v 0) (v 10) (v 11) h),(0,Afb false TT 128)] m=(fun m v tm h ds=>Eb c r K A m (v 0) (v 10) (v 11) (v 18) (v 19) h) m:=
 Uc (E:=fun m v tm h ds=>Eb c r K A m (v 0) (v 10) (v 11) (v 18) (v 19) h) rfl (fun m=>A2r fun v tm h ds=>by kernel_rfl) m
omit H in
theorem Al3(c r:Ai)(K:Nat)(m:Nat):lpB false (Uk K c) c r K 128 5 [(0,Afb false TT 128)] m=(fun m v tm h ds=>Ge c r K m (v 0) (v 10) (v 11) h) m:=
 Bp1 (E:=fun m v tm h ds=>Ge c r K m (v 0) (v 10) (v 11) h) rfl (fun m=>(cut [true,true,false,false,true,true,false] (Al5 c r K (Ge c r K m) K) (by kernel_rfl) (by kernel_rfl) rfl)) (fun m=>A2r fun v tm h ds=>by kernel_rfl) m
theorem Aof(hd:0<=d):S2 disp K d 128 Ai8:=fun _ _=>rm (q:=false) (D:=Uk K (Ag TT disp K d false)) (by kernel_rfl) rfl rfl H (rfl) (cut [true,false] (Al3 (Ag TT disp K d false) (Ag TT disp K d true) K K) (by kernel_rfl) (by kernel_rfl) rfl)
theorem Al6(hd:1<=d):R1 disp K d 182 (Rf K):=fun _=>rl H hd
theorem Ajl(hd:1<=d):R1 disp K d 185 (Ki K):=fun _=>rl H hd
theorem Hj(hd:1<=d):R1 disp K d 214 (D5 K):=fun _=>rl H hd
theorem Aka(hd:2<=d):R1 disp K d 228 (O3 K):=fun _=>ll H hd (fun d hd=>V1 (Hj H) hd<|rfl) 51 (e4 (Ij K) 3 9 10 11)
theorem Apm(hd:1<=d):S1 disp K d 60 Alj:=fun _=>rd rfl rfl H (V1 (Eh H) hd<|rfl)
theorem Aoc(hd:1<=d):S2 disp K d 73 Ai2:=fun _ _=>rd rfl rfl H (V2 (Ak7 H) hd<|rfl)
theorem Ai0(hd:1<=d){l:Nat}(tm:Az)(h:Aa)(v:EV){st:LoopState}{p:Option Code}(A:h.get l=some (.loop st p 73 19 tm [13] (E4 TT 73 0).2.2.1 (E4 TT 73 0).2.2.2 d0)):
 Ag TT disp K (d+1) true l [v] h=Abs (Ag TT disp K d false) (Ag TT disp K d true) K l (tmp tm 5) v h:=rr rfl rfl (rfl) A rfl (by kernel_rfl)
theorem Am6(hd:1<=d):S2 disp K d 99 Aie:=fun _ _=>ld rfl rfl H (V1 (Wx H) hd<|V1 (Cy H) hd<|V1 (Eh H) hd<|rfl) 103 (fun c r=>e4 (Kl c r K) 0 3 6 25)
end
end Go.Ev
