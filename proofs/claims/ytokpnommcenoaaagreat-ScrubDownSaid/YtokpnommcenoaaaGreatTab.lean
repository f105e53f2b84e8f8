import Derived.Test.YtokpnommcenoaaaGreatProg
import Derived.Test.YtokpnommcenoaaaGreatEvSix
set_option linter.all false
namespace Go.Ev
open Go.Proofs
variable {α:Type}
noncomputable def fn2:Tr Func:=Fo Tryz.prog.funcs.toList 0 .nil
noncomputable def ty2:Tr TypeInfo:=Fo Tryz.prog.types.toList 0 .nil
def Btp:List (Nat × List Nat):=[(179,List.replicate 2 0),(71,List.replicate 2 0),(23,List.replicate 6 0),(53,List.replicate 6 0),(85,List.replicate 32 0),(100,[1,0,0,0,0,0,0,0,0,0,1]),(245,List.replicate 44 0),(247,List.replicate 49 0),(119,List.replicate 256 0)]
noncomputable def TT:Hh:=Bfk fn2 ty2 Btp [179,71]
noncomputable abbrev TP:Program:=Tryz.prog
theorem Bn4:Tryz.prog.follows .mixedOrders=true:=by kernel_rfl
theorem Bm8:(Tryz.prog.funcs.toList.all fun f=>!(f.name == "runtime.NumGoroutine"))=true:=by kernel_rfl
theorem Bp9:(Btp.all fun x=>decide (flat Tryz.prog 6 x.1=some x.2)&&isA Tryz.prog x.1&&!(Tryz.prog.eqGuardType Tryz.prog.depth x.1))=true:=by kernel_rfl
theorem Br4:Akm Tryz.prog 179=true:=by kernel_rfl
theorem Bpr:A2g Tryz.prog 71=true:=by kernel_rfl
theorem A4l:Pe TP TT:=Bnt Bn4 Bm8 (fun x d=>by
 have:=dP.1 Bp9 x d;simp only[bL,bM,Bool.not_eq_true']at this;exact⟨this.1.1,this.1.2,this.2⟩) (fun t a=>by
 rcases bW.1 a with rfl|a
 ·exact .inl Br4
 ·rw[aP]at a;subst a;exact .inr Bpr)
noncomputable def Bse(g:Nat):Bool:=Ax (Nat.beq g 48) false (Ax (Nat.beq g 41) false (Ax (Nat.beq g 29) false (Ax (Nat.beq g 10) false (Ax (Nat.beq g 63) false (Ax (Nat.beq g 105) false true)))))
noncomputable section
abbrev Ru {α:Type}(_:α)(β:Type):Type:=β
abbrev A0:=Ab->R
abbrev B0:=Bb->Ab->List Nat->R
abbrev A1:=EV->Ab->R
abbrev B1:=Bb->EV->Ab->List Nat->R
abbrev A2:=EV->EV->Ab->R
abbrev B2:=Bb->EV->EV->Ab->List Nat->R
abbrev A3:=EV->EV->EV->Ab->R
abbrev B3:=Bb->EV->EV->EV->Ab->List Nat->R
abbrev A4:=EV->EV->EV->EV->Ab->R
abbrev B4:=Bb->EV->EV->EV->EV->Ab->List Nat->R
abbrev A5:=EV->EV->EV->EV->EV->Ab->R
abbrev B5:=Bb->EV->EV->EV->EV->EV->Ab->List Nat->R
abbrev A6:=EV->EV->EV->EV->EV->EV->Ab->R
abbrev B6:=Bb->EV->EV->EV->EV->EV->EV->Ab->List Nat->R
abbrev A7:=EV->EV->EV->EV->EV->EV->EV->Ab->R
abbrev B7:=Bb->EV->EV->EV->EV->EV->EV->EV->Ab->List Nat->R
abbrev A8:=EV->EV->EV->EV->EV->EV->EV->EV->Ab->R
abbrev B8:=Bb->EV->EV->EV->EV->EV->EV->EV->EV->Ab->List Nat->R
abbrev A9:=EV->EV->EV->EV->EV->EV->EV->EV->EV->Ab->R
abbrev B9:=Bb->EV->EV->EV->EV->EV->EV->EV->EV->EV->Ab->List Nat->R
abbrev A10:=EV->EV->EV->EV->EV->EV->EV->EV->EV->EV->Ab->R
abbrev B10:=Bb->EV->EV->EV->EV->EV->EV->EV->EV->EV->EV->Ab->List Nat->R
abbrev A11:=EV->EV->EV->EV->EV->EV->EV->EV->EV->EV->EV->Ab->R
abbrev B11:=Bb->EV->EV->EV->EV->EV->EV->EV->EV->EV->EV->EV->Ab->List Nat->R
abbrev A12:=EV->EV->EV->EV->EV->EV->EV->EV->EV->EV->EV->EV->Ab->R
abbrev B12:=Bb->EV->EV->EV->EV->EV->EV->EV->EV->EV->EV->EV->EV->Ab->List Nat->R
abbrev tU:EV:=.tuple []
def oE(c:Nat)(v:EV)(h:Ab)(k:EV->R):R:=Ag8 c v fun v=>Fy v h k
def fE(c:Nat)(v:EV)(h:Ab)(k:EV->R):R:=Ars v fun v=>oE c v h k
def noE(c:Nat)(v:EV)(k:EV->R):R:=Ars v fun v=>Ag8 c v k
def olE(c:Nat)(i:Nat)(b:Nat)(base:Nat)(v:EV)(s:DX)(h:Ab)(kd:DX->EV->R):R:=Ag8 c v fun v=>Le i b base v s fun s=>Fy v h (kd s)
def Aod(c:Nat)(i:Nat)(b:Nat)(base:Nat)(v:EV)(s:DX)(h:Ab)(kd:DX->EV->R):R:=Ars v fun v=>olE c i b base v s h kd
def A8z(n:Nat)(v:EV)(w:EV)(h:Ab)(k:EV->R):R:=Aal n v w fun v=>Fy v h k
def nsE(n:Nat)(l:List EV)(t:Nat)(x:EV)(h:Ab)(kh:EV->Ab->R):R:=Ax0 (.cells l t) h fun v h=>stE n v x h (kh v)
def x2E(v:EV)(kk:EV->EV->R):R:=Asy 0 v fun a=>Asy 1 v (kk a)
def pkA(x:EV)(y:EV)(k:EV->R):R:=As2 x y (.bool false) k
def pkO(x:EV)(y:EV)(k:EV->R):R:=As2 x (.bool true) y k
def wtE(v:EV)(p:R)(q:R):R:=Ax (D6 v true) p q
def wfE(v:EV)(p:R)(q:R):R:=Ax (D6 v false) p q
def uwE(v:EV)(h:Ab)(ds:List Nat):R:=Fi ds h fun h=>some (v,h)
def cE(g:IG)(f:BinOp)(t:Nat)(x:EV)(y:EV)(p:R)(q:R):R:=Ko g (bin TT f t) x y fun v=>ifE v p q
def A9f(x:EV)(p:R)(q:R):R:=cE Aoa .neq 35 x (.int .i64 0) p q
def I6(x:EV)(k:EV->R):R:=Ko A3o (bin TT .add 3) x (.int .i64 1) k
def Bdj(x:EV)(y:EV)(k:EV->R):R:=Ko A3o (bin TT .add 3) x y k
def Bb0(x:EV)(y:EV)(k:EV->R):R:=Ko Ber (bin TT .sub 3) x y k
def A6d(x:EV)(y:EV)(k:EV->R):R:=Ko Bhq (bin TT .mul 3) x y k
def Avz(x:EV)(y:EV)(k:EV->R):R:=Ko Iy (bin TT .lss 3) x y k
def Azo(x:EV)(y:EV)(k:EV->R):R:=Ko Bdb (bin TT .leq 3) x y k
def At0(x:EV)(y:EV)(k:EV->R):R:=Ko Baf (bin TT .gtr 3) x y k
def A8u(x:EV)(y:EV)(k:EV->R):R:=Ko Bcy (bin TT .geq 3) x y k
def A62(x:EV)(y:EV)(k:EV->R):R:=Ko Aj7 (bin TT .eql 3) x y k
def A0u(x:EV)(y:EV)(k:EV->R):R:=Ko Aoa (bin TT .neq 3) x y k
abbrev Zi:Prop:=
 (∀(g:IG) (f:BinOp) (t:Nat) (x:EV) (y:EV) (p:R) (q:R),cE g f t x y p q=Ko g (bin TT f t) x y fun v=>ifE v p q) /\
 (∀(x:EV) (p:R) (q:R),A9f x p q=cE Aoa .neq 35 x (.int .i64 0) p q) /\
 (∀(x:EV) (k:EV->R),I6 x k=Ko A3o (bin TT .add 3) x (.int .i64 1) k) /\
 (∀(x:EV) (y:EV) (k:EV->R),Bdj x y k=Ko A3o (bin TT .add 3) x y k) /\
 (∀(x:EV) (y:EV) (k:EV->R),Bb0 x y k=Ko Ber (bin TT .sub 3) x y k) /\
 (∀(x:EV) (y:EV) (k:EV->R),A6d x y k=Ko Bhq (bin TT .mul 3) x y k) /\
 (∀(x:EV) (y:EV) (k:EV->R),Avz x y k=Ko Iy (bin TT .lss 3) x y k) /\
 (∀(x:EV) (y:EV) (k:EV->R),Azo x y k=Ko Bdb (bin TT .leq 3) x y k) /\
 (∀(x:EV) (y:EV) (k:EV->R),At0 x y k=Ko Baf (bin TT .gtr 3) x y k) /\
 (∀(x:EV) (y:EV) (k:EV->R),A8u x y k=Ko Bcy (bin TT .geq 3) x y k) /\
 (∀(x:EV) (y:EV) (k:EV->R),A62 x y k=Ko Aj7 (bin TT .eql 3) x y k) /\
 (∀(x:EV) (y:EV) (k:EV->R),A0u x y k=Ko Aoa (bin TT .neq 3) x y k)
abbrev Zs:Prop:=
 (∀(c:Nat) (v:EV) (h:Ab) (k:EV->R),oE c v h k=Ag8 c v fun v=>Fy v h k) /\
 (∀(c:Nat) (v:EV) (h:Ab) (k:EV->R),fE c v h k=Ars v fun v=>oE c v h k) /\
 (∀(c:Nat) (v:EV) (k:EV->R),noE c v k=Ars v fun v=>Ag8 c v k) /\
 (∀(c:Nat) (i:Nat) (b:Nat) (base:Nat) (v:EV) (s:DX) (h:Ab) (kd:DX->EV->R),olE c i b base v s h kd=Ag8 c v fun v=>Le i b base v s fun s=>Fy v h (kd s)) /\
 (∀(c:Nat) (i:Nat) (b:Nat) (base:Nat) (v:EV) (s:DX) (h:Ab) (kd:DX->EV->R),Aod c i b base v s h kd=Ars v fun v=>olE c i b base v s h kd) /\
 (∀(n:Nat) (v:EV) (w:EV) (h:Ab) (k:EV->R),A8z n v w h k=Aal n v w fun v=>Fy v h k) /\
 (∀(n:Nat) (l:List EV) (t:Nat) (x:EV) (h:Ab) (kh:EV->Ab->R),nsE n l t x h kh=Ax0 (.cells l t) h fun v h=>stE n v x h (kh v)) /\
 (∀(v:EV) (kk:EV->EV->R),x2E v kk=Asy 0 v fun a=>Asy 1 v (kk a)) /\
 (∀(x:EV) (y:EV) (k:EV->R),pkA x y k=As2 x y (.bool false) k) /\
 (∀(x:EV) (y:EV) (k:EV->R),pkO x y k=As2 x (.bool true) y k) /\
 (∀(v:EV) (p:R) (q:R),wtE v p q=Ax (D6 v true) p q) /\
 (∀(v:EV) (p:R) (q:R),wfE v p q=Ax (D6 v false) p q) /\
 (∀(v:EV) (h:Ab) (ds:List Nat),uwE v h ds=Fi ds h fun h=>some (v,h))
theorem dzi:Zi:=by refine⟨?_,?_,?_,?_,?_,?_,?_,?_,?_,?_,?_,?_⟩<;>intros<;>rfl
theorem dz:Zs:=by refine⟨?_,?_,?_,?_,?_,?_,?_,?_,?_,?_,?_,?_,?_⟩<;>intros<;>rfl
theorem dq:Zs/\Zi:=⟨dz,dzi⟩
section
variable {c:Nat}{i:Nat}{b:Nat}{base:Nat}{n:Nat}{t:Nat}{v:EV}{w:EV}{x:EV}{y:EV}{s:DX}{h:Ab}{k:EV->R}{p:R}{q:R}{kd:DX->EV->R}{kh:EV->Ab->R}{kk:EV->EV->R}{g:IG}{f:BinOp}{l:List EV}{ds:List Nat}{v' w' x' y':EV}{l':List EV}
@[congr] theorem oE.cg(e0:v=v'):oE c v h k=oE c v' h k:=by rw[e0]
@[congr] theorem fE.cg(e0:v=v'):fE c v h k=fE c v' h k:=by rw[e0]
@[congr] theorem noE.cg(e0:v=v'):noE c v k=noE c v' k:=by rw[e0]
@[congr] theorem olE.cg(e0:v=v'):olE c i b base v s h kd=olE c i b base v' s h kd:=by rw[e0]
@[congr] theorem Aod.cg(e0:v=v'):Aod c i b base v s h kd=Aod c i b base v' s h kd:=by rw[e0]
@[congr] theorem A8z.cg(e0:v=v')(e1:w=w'):A8z n v w h k=A8z n v' w' h k:=by rw[e0,e1]
@[congr] theorem nsE.cg(e0:x=x')(e1:l=l'):nsE n l t x h kh=nsE n l' t x' h kh:=by rw[e0,e1]
@[congr] theorem x2E.cg(e0:v=v'):x2E v kk=x2E v' kk:=by rw[e0]
@[congr] theorem pkA.cg(e0:x=x'):pkA x y k=pkA x' y k:=by rw[e0]
@[congr] theorem pkO.cg(e0:x=x'):pkO x y k=pkO x' y k:=by rw[e0]
@[congr] theorem wtE.cg(e0:v=v'):wtE v p q=wtE v' p q:=by rw[e0]
@[congr] theorem wfE.cg(e0:v=v'):wfE v p q=wfE v' p q:=by rw[e0]
@[congr] theorem cE.cg(e0:x=x')(e1:y=y'):cE g f t x y p q=cE g f t x' y' p q:=by rw[e0,e1]
@[congr] theorem A9f.cg(e0:x=x'):A9f x p q=A9f x' p q:=by rw[e0]
@[congr] theorem I6.cg(e0:x=x'):I6 x k=I6 x' k:=by rw[e0]
@[congr] theorem Bdj.cg(e0:x=x')(e1:y=y'):Bdj x y k=Bdj x' y' k:=by rw[e0,e1]
@[congr] theorem Bb0.cg(e0:x=x')(e1:y=y'):Bb0 x y k=Bb0 x' y' k:=by rw[e0,e1]
@[congr] theorem A6d.cg(e0:x=x')(e1:y=y'):A6d x y k=A6d x' y' k:=by rw[e0,e1]
@[congr] theorem Avz.cg(e0:x=x')(e1:y=y'):Avz x y k=Avz x' y' k:=by rw[e0,e1]
@[congr] theorem Azo.cg(e0:x=x')(e1:y=y'):Azo x y k=Azo x' y' k:=by rw[e0,e1]
@[congr] theorem At0.cg(e0:x=x')(e1:y=y'):At0 x y k=At0 x' y' k:=by rw[e0,e1]
@[congr] theorem A8u.cg(e0:x=x')(e1:y=y'):A8u x y k=A8u x' y' k:=by rw[e0,e1]
@[congr] theorem A62.cg(e0:x=x')(e1:y=y'):A62 x y k=A62 x' y' k:=by rw[e0,e1]
@[congr] theorem A0u.cg(e0:x=x')(e1:y=y'):A0u x y k=A0u x' y' k:=by rw[e0,e1]
end
end
noncomputable section
abbrev NM:=List EV->Ab->R
abbrev UM:=List EV->(EV->R)->R
def cl0(F:Ab->R):NM:=fun x h=>match x with | []=>F h|_=>none
def Dq(F:EV->Ab->R):NM:=fun x h=>match x with | [a]=>F a h|_=>none
def D7(F:EV->EV->Ab->R):NM:=fun x h=>match x with | [a,b]=>F a b h|_=>none
def Jx(F:EV->EV->EV->Ab->R):NM:=fun x h=>match x with | [a,b,c]=>F a b c h|_=>none
def Sx(F:EV->EV->EV->EV->Ab->R):NM:=fun x h=>match x with | [a,b,c,d]=>F a b c d h|_=>none
def cl5(F:EV->EV->EV->EV->EV->Ab->R):NM:=fun x h=>match x with | [a,b,c,d,e]=>F a b c d e h|_=>none
def cl6(F:EV->EV->EV->EV->EV->EV->Ab->R):NM:=fun x h=>match x with | [a,b,c,d,e,f]=>F a b c d e f h|_=>none
def cl7(F:EV->EV->EV->EV->EV->EV->EV->Ab->R):NM:=fun x h=>match x with | [a,b,c,d,e,f,i]=>F a b c d e f i h|_=>none
def cl8(F:EV->EV->EV->EV->EV->EV->EV->EV->Ab->R):NM:=fun x h=>match x with | [a,b,c,d,e,f,i,j]=>F a b c d e f i j h|_=>none
def cl9(F:EV->EV->EV->EV->EV->EV->EV->EV->EV->Ab->R):NM:=fun x h=>match x with | [a,b,c,d,e,f,i,j,k]=>F a b c d e f i j k h|_=>none
def Btm(F:EV->EV->EV->EV->EV->EV->EV->EV->EV->EV->Ab->R):NM:=fun x h=>match x with | [a,b,c,d,e,f,i,j,k,l]=>F a b c d e f i j k l h|_=>none
def Bt3(F:EV->EV->EV->EV->EV->EV->EV->EV->EV->EV->EV->Ab->R):NM:=fun x h=>match x with | [a,b,c,d,e,f,i,j,k,l,m]=>F a b c d e f i j k l m h|_=>none
def Bul(F:EV->EV->EV->EV->EV->EV->EV->EV->EV->EV->EV->EV->Ab->R):NM:=fun x h=>match x with | [a,b,c,d,e,f,i,j,k,l,m,n]=>F a b c d e f i j k l m n h|_=>none
def cu0(F:(EV->R)->R):UM:=fun x k=>match x with | []=>F k|_=>none
def cu1(F:EV->(EV->R)->R):UM:=fun x k=>match x with | [a]=>F a k|_=>none
def cu2(F:EV->EV->(EV->R)->R):UM:=fun x k=>match x with | [a,b]=>F a b k|_=>none
def cu3(F:EV->EV->EV->(EV->R)->R):UM:=fun x k=>match x with | [a,b,c]=>F a b c k|_=>none
def cu4(F:EV->EV->EV->EV->(EV->R)->R):UM:=fun x k=>match x with | [a,b,c,d]=>F a b c d k|_=>none
def cu5(F:EV->EV->EV->EV->EV->(EV->R)->R):UM:=fun x k=>match x with | [a,b,c,d,e]=>F a b c d e k|_=>none
def cu6(F:EV->EV->EV->EV->EV->EV->(EV->R)->R):UM:=fun x k=>match x with | [a,b,c,d,e,f]=>F a b c d e f k|_=>none
def nth(d:α):List α->Nat->α
 | [],_=>d
 | a::_,0=>a
 | _::r,n+1=>nth d r n
def kc:List EV:=[(.int .i64 0),(.int .i64 1),tU,(.int .i64 2),(.bool false),(.bool true),(.int .i64 3),.Bu,(.int .i64 5),(.int .i64 7),(.int .u8 0),.Al,(.int .i64 4),(.int .i64 8),(.int .i64 10),(.int .i64 11),(.int .i64 12),(.int .i64 13),(.int .i64 14),(.int .i64 15),(.int .i64 16),(.int .i64 17),(.int .i64 18),(.int .i64 20),(.int .i64 30),(.int .i64 31),(.int .i64 32),(.int .i64 33),(.int .i64 34),(.int .i64 40),(.int .i64 41),(.int .i64 42),(.int .i64 43),(.int .i64 44),(.int .i64 48),(.int .i64 64)]
def tk:Nat->Nat->List Nat
 | 0,_=>[]
 | f+1,n=>if n=1 then[]else if n%16=14 then(n/16%256+14)::tk f (n/4096)else if n%16=15 then(n/256%16^(n/16%16))::tk f (n/256/16^(n/16%16))else n%16::tk f (n/16)
def rT:List Nat->(Nat->List Nat->R)->R
 | t::n,k=>k t n
 | [],_=>none
def rW(C e:List EV)(k:EV->List Nat->R):Nat->List Nat->R
 | 0,n=>rT n fun i n=>k (nth tU kc i) n
 | 1,n=>rT n fun i n=>k (nth tU C i) n
 | x+2,n=>k (nth tU e x) n
def rV(C e:List EV)(n:List Nat)(k:EV->List Nat->R):R:=rT n fun q n=>rW C e k q n
def rL(C e:List EV):Nat->List Nat->(List EV->List Nat->R)->R
 | 0,n,k=>k [] n
 | m+1,n,k=>rV C e n fun v n=>rL C e m n fun l n=>k (v::l) n
def rR(C e:List EV):Nat->List Nat->(List RV->R)->R
 | 0,_,k=>k []
 | m+1,n,k=>rT n fun q n=>rV C e n fun v n=>nth none [rR C e m n fun l=>k (.v v::l),rT n fun t n=>rR C e m n fun l=>k (.c v t::l)] q
def rC(N:List NM)(C e:List EV)(n:List Nat)(k:(Ab->R)->List Nat->R):R:=rT n fun j n=>rT n fun m n=>rL C e m n fun l n=>k (nth (fun _ _=>none) N j l) n
def gOf(n:Nat)(k:IG->BinOp->R):R:=nth none [k A3o .add,k Ber .sub,k Bhq .mul,k Iy .lss,k Bdb .leq,k Baf .gtr,k Bcy .geq,k Aj7 .eql,k Aoa .neq] n
def bOf(n:Nat):BinOp:=nth .shr [.quo,.rem,.and,.or,.xor,.shl,.shr] n
def dk(N:List NM)(U:List UM)(Z:List (List EV))(C:List EV):Nat->List Nat->Nat->DX->List EV->Ab->R
 | f+1,q::n,base,s,e,h=>nth (fun _=>none) [
 fun n=>rC N C e n fun c _=>c h,
 fun n=>rC N C e n fun c n=>Am (c h) fun v h=>dk N U Z C f n base s (v::e) h,
 fun n=>rV C e n fun v _=>some (v,h),
 fun n=>rT n fun p0 n=>rV C e n fun p1 n=>fE p0 p1 h fun v=>dk N U Z C f n base s (v::e) h,
 fun n=>rT n fun p0 n=>rV C e n fun p1 n=>oE p0 p1 h fun v=>dk N U Z C f n base s (v::e) h,
 fun n=>rT n fun p0 n=>rV C e n fun p1 n=>Q2 p0 p1 h fun v=>dk N U Z C f n base s (v::e) h,
 fun n=>rT n fun p0 n=>rV C e n fun p1 n=>rV C e n fun a n=>stE p0 p1 a h fun h=>dk N U Z C f n base s e h,
 fun n=>rT n fun i n=>rT n fun b n=>rC N C e n fun c n=>Js i b s h (fun h=>c h) fun v h s=>dk N U Z C f n base s (v::e) h,
 fun n=>rV C e n fun p0 n=>rT n fun L n=>ifE p0 (dk N U Z C f n base s e h) (dk N U Z C f (n.drop L) base s e h),
 fun n=>rT n fun p0 n=>rV C e n fun p1 n=>P9 p0 p1 h fun v h=>dk N U Z C f n base s (v::e) h,
 fun n=>rV C e n fun p0 n=>rT n fun L n=>wtE p0 (dk N U Z C f n base s e h) (dk N U Z C f (n.drop L) base s e h),
 fun n=>rT n fun p0 n=>rT n fun p1 n=>rV C e n fun a n=>Le p0 p1 base a s fun s=>dk N U Z C f n base s e h,
 fun n=>rT n fun p0 n=>rV C e n fun p1 n=>noE p0 p1 fun v=>dk N U Z C f n base s (v::e) h,
 fun n=>rV C e n fun p0 n=>rT n fun L n=>wfE p0 (dk N U Z C f n base s e h) (dk N U Z C f (n.drop L) base s e h),
 fun n=>rT n fun m n=>rL C e m n fun l _=>some (.tuple l,h),
 fun n=>rT n fun g n=>rT n fun t n=>rV C e n fun x n=>rV C e n fun y n=>rT n fun L n=>gOf g fun g o=>cE g o t x y (dk N U Z C f n base s e h) (dk N U Z C f (n.drop L) base s e h),
 fun n=>rT n fun g n=>rT n fun t n=>rV C e n fun x n=>rV C e n fun y n=>gOf g fun g o=>Ko g (bin TT o t) x y fun v=>dk N U Z C f n base s (v::e) h,
 fun n=>rT n fun g n=>rT n fun t n=>rV C e n fun x n=>rV C e n fun y n=>Agi (bin TT (bOf g) t) x y fun v=>dk N U Z C f n base s (v::e) h,
 fun n=>rT n fun m n=>rR C e m n fun l=>Ii TT l h,
 fun n=>rT n fun t n=>rT n fun z n=>Ax0 (.cells (nth [] Z z) t) h fun v h=>dk N U Z C f n base s (v::e) h,
 fun n=>rT n fun m n=>rT n fun z n=>rT n fun t n=>rV C e n fun x n=>nsE m (nth [] Z z) t x h fun v h=>dk N U Z C f n base s (v::e) h,
 fun n=>rT n fun j n=>rT n fun m n=>rL C e m n fun l n=>nth (fun _ _=>none) U j l fun v=>dk N U Z C f n base s (v::e) h,
 fun n=>none,
 fun n=>rV C e n fun p0 n=>rV C e n fun p1 n=>pkO p0 p1 fun v=>dk N U Z C f n base s (v::e) h,
 fun n=>rV C e n fun p0 n=>I6 p0 fun v=>dk N U Z C f n base s (v::e) h,
 fun n=>rV C e n fun p0 n=>rV C e n fun p1 n=>pkA p0 p1 fun v=>dk N U Z C f n base s (v::e) h,
 fun n=>rV C e n fun p0 n=>x2E p0 fun v w=>dk N U Z C f n base s (w::v::e) h,
 fun n=>rV C e n fun p0 n=>Fy p0 h fun v=>dk N U Z C f n base s (v::e) h,
 fun n=>Wm h fun base s=>dk N U Z C f n base s e h,
 fun n=>rV C e n fun p0 n=>Aq5 p0 fun v=>dk N U Z C f n base s (v::e) h,
 fun n=>rT n fun p0 n=>rT n fun p1 n=>rT n fun a n=>rV C e n fun d n=>olE p0 p1 a base d s h fun s v=>dk N U Z C f n base s (v::e) h,
 fun n=>rT n fun p0 n=>rT n fun p1 n=>rT n fun a n=>rV C e n fun d n=>Aod p0 p1 a base d s h fun s v=>dk N U Z C f n base s (v::e) h,
 fun n=>rV C e n fun p0 n=>rT n fun L n=>A9f p0 (dk N U Z C f n base s e h) (dk N U Z C f (n.drop L) base s e h),
 fun n=>rV C e n fun p0 n=>Hc p0 fun v=>dk N U Z C f n base s (v::e) h,
 fun n=>rT n fun p0 n=>rV C e n fun p1 n=>Ag8 p0 p1 fun v=>dk N U Z C f n base s (v::e) h,
 fun n=>rT n fun p0 n=>rV C e n fun p1 n=>rV C e n fun a n=>Aal p0 p1 a fun v=>dk N U Z C f n base s (v::e) h,
 fun n=>rT n fun p0 n=>rV C e n fun p1 n=>rV C e n fun a n=>A8z p0 p1 a h fun v=>dk N U Z C f n base s (v::e) h,
 fun n=>rT n fun p0 n=>rT n fun p1 n=>rV C e n fun a n=>Bhi p0 p1 a s fun s=>dk N U Z C f n base s e h,
 fun n=>rT n fun p0 n=>Bci p0 h s fun s=>dk N U Z C f n base s e h,
 fun n=>rT n fun p0 n=>rT n fun p1 n=>rV C e n fun a n=>rV C e n fun d n=>Axi p0 p1 a d fun v=>dk N U Z C f n base s (v::e) h,
 fun n=>rT n fun p0 n=>rV C e n fun p1 n=>Asy p0 p1 fun v=>dk N U Z C f n base s (v::e) h,
 fun n=>rV C e n fun p0 n=>Ars p0 fun v=>dk N U Z C f n base s (v::e) h,
 fun n=>rV C e n fun p0 n=>Bc1 p0 fun v=>dk N U Z C f n base s (v::e) h,
 fun n=>rV C e n fun p0 n=>rV C e n fun p1 n=>Bdj p0 p1 fun v=>dk N U Z C f n base s (v::e) h,
 fun n=>rV C e n fun p0 n=>rV C e n fun p1 n=>Bb0 p0 p1 fun v=>dk N U Z C f n base s (v::e) h,
 fun n=>rV C e n fun p0 n=>rV C e n fun p1 n=>A6d p0 p1 fun v=>dk N U Z C f n base s (v::e) h,
 fun n=>rV C e n fun p0 n=>rV C e n fun p1 n=>Avz p0 p1 fun v=>dk N U Z C f n base s (v::e) h,
 fun n=>rV C e n fun p0 n=>rV C e n fun p1 n=>Azo p0 p1 fun v=>dk N U Z C f n base s (v::e) h,
 fun n=>rV C e n fun p0 n=>rV C e n fun p1 n=>At0 p0 p1 fun v=>dk N U Z C f n base s (v::e) h,
 fun n=>rV C e n fun p0 n=>rV C e n fun p1 n=>A8u p0 p1 fun v=>dk N U Z C f n base s (v::e) h,
 fun n=>rV C e n fun p0 n=>rV C e n fun p1 n=>A62 p0 p1 fun v=>dk N U Z C f n base s (v::e) h,
 fun n=>rV C e n fun p0 n=>rV C e n fun p1 n=>A0u p0 p1 fun v=>dk N U Z C f n base s (v::e) h,
 fun n=>rT n fun p0 n=>rV C e n fun p1 n=>A2e p0 p1 fun v=>dk N U Z C f n base s (v::e) h] q n
 | _,_,_,_,_,_=>none
def s0:DX:=⟨0,[],[],[],[]⟩
inductive Nf:R->R->Prop where
 | mk (x:R):Nf x x
structure Dm(x y:R):Prop where
structure Sg(n:Nat)(e:List EV)(h:Ab)(N:List NM:=[])(U:List UM:=[])(Z:List (List EV):=[])(C:List EV:=[]) where mk ::
 {t:List Nat}
 {F:R}
 (p:tk 900 n=t:=by
  simp only[tk,↓reduceIte,Nat.reduceMod,Nat.reduceDiv,Nat.reduceEqDiff,Nat.reduceAdd,Nat.reducePow]
  first|done|rfl)
 (q:Dm (dk N U Z C 300 t 0 s0 e h) F:=by
  refine' (?f:∀x y,Nf x y->Dm x y) _ _ ?m
  case m=>
   dsimp only[dk,rT,rW,rV,rL,rR,rC,nth,kc,gOf,bOf,List.drop,cl0,Dq,D7,Jx,Sx,cl5,cl6,cl7,cl8,cl9,Btm,Bt3,Bul,cu0,cu1,cu2,cu3,cu4,cu5,cu6];exact .mk _
  case f=>
   intros;exact⟨⟩)
theorem dr:Zs/\Zi:=⟨dz,dzi⟩
end
end Go.Ev
