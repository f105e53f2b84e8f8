import Derived.Test.YtoihakbgidodkaaGreatProg
import Derived.Test.YtoihakbgidodkaaGreatEvFive
set_option linter.all false
namespace Go.Ev
noncomputable section
open Go.Proofs
set_option maxRecDepth 100000
set_option maxHeartbeats 4000000
variable {disp:Nat->Option FT}{K d0 sz base:Nat}{v:EV}{h h' h0:Ab}{P Q:EV->Ab->Prop}{l' xs:List EV}{ps:List (Nat × EV)}{F:EV->EV->EV->EV->EV->Ab->R}{kh:EV->Ab->R}{α:Type}{ke:EV->Ab->DX->R}
def ZY:Tr Func:=F0 Tryz.prog.funcs.toList 0 .nil
def ZZ:Tr TypeInfo:=F0 Tryz.prog.types.toList 0 .nil
def FP:List (Nat × List Nat):=[(239,List.replicate 2 0),(189,List.replicate 2 0),(23,List.replicate 6 0),(87,List.replicate 6 0),(81,List.replicate 32 0),(134,List.replicate 44 0),(136,List.replicate 49 0),(73,List.replicate 256 0),(45,List.replicate 3 0)]
def TT:Ij:=sF ZY ZZ FP [239,189]
abbrev TP:Program:=Tryz.prog
theorem Z':Tryz.prog.follows .mixedOrders=true:=by kernel_rfl
theorem Z_:(Tryz.prog.funcs.toList.all fun f=>!(f.name == "runtime.NumGoroutine"))=true:=by kernel_rfl
theorem γ:(FP.all fun x=>decide (flat Tryz.prog 6 x.1=some x.2)&&hY Tryz.prog x.1&&!(Tryz.prog.eqGuardType Tryz.prog.depth x.1))=true:=by kernel_rfl
theorem δ:qm Tryz.prog 239=true:=by kernel_rfl
theorem ε:qn Tryz.prog 189=true:=by kernel_rfl
theorem vX:Qc TP TT:=ζ Z' Z_ (fun x G=>by
 have:=dG.1 γ x G;simp only[aX,aW,Bool.not_eq_true']at this;exact⟨this.1.1,this.1.2,this.2⟩) (fun t A=>by
 rcases bZ.1 A with rfl|A
 ·exact .inl δ
 ·rw[aN]at A;subst A;exact .inr ε)
def η(g:Nat):Bool:=Bc (Nat.beq g 5) false (Bc (Nat.beq g 24) false (Bc (Nat.beq g 89) false true))
noncomputable section
abbrev Ru {α:Type}(_:α)(β:Type):Type:=β
abbrev A0:=Ab->R
abbrev B0:=Ay->Ab->List Nat->R
abbrev A1:=EV->Ab->R
abbrev B1:=Ay->EV->Ab->List Nat->R
abbrev A2:=EV->EV->Ab->R
abbrev B2:=Ay->EV->EV->Ab->List Nat->R
abbrev A3:=EV->EV->EV->Ab->R
abbrev B3:=Ay->EV->EV->EV->Ab->List Nat->R
abbrev A4:=EV->EV->EV->EV->Ab->R
abbrev B4:=Ay->EV->EV->EV->EV->Ab->List Nat->R
abbrev A5:=EV->EV->EV->EV->EV->Ab->R
abbrev B5:=Ay->EV->EV->EV->EV->EV->Ab->List Nat->R
abbrev A6:=EV->EV->EV->EV->EV->EV->Ab->R
abbrev B6:=Ay->EV->EV->EV->EV->EV->EV->Ab->List Nat->R
abbrev A7:=EV->EV->EV->EV->EV->EV->EV->Ab->R
abbrev B7:=Ay->EV->EV->EV->EV->EV->EV->EV->Ab->List Nat->R
abbrev A8:=EV->EV->EV->EV->EV->EV->EV->EV->Ab->R
abbrev B8:=Ay->EV->EV->EV->EV->EV->EV->EV->EV->Ab->List Nat->R
abbrev A9:=EV->EV->EV->EV->EV->EV->EV->EV->EV->Ab->R
abbrev B9:=Ay->EV->EV->EV->EV->EV->EV->EV->EV->EV->Ab->List Nat->R
abbrev mB:=EV->EV->EV->EV->EV->EV->EV->EV->EV->EV->Ab->R
abbrev nt:=Ay->EV->EV->EV->EV->EV->EV->EV->EV->EV->EV->Ab->List Nat->R
abbrev mC:=EV->EV->EV->EV->EV->EV->EV->EV->EV->EV->EV->Ab->R
abbrev nu:=Ay->EV->EV->EV->EV->EV->EV->EV->EV->EV->EV->EV->Ab->List Nat->R
abbrev nv:=EV->EV->EV->EV->EV->EV->EV->EV->EV->EV->EV->EV->Ab->R
abbrev ny:=Ay->EV->EV->EV->EV->EV->EV->EV->EV->EV->EV->EV->EV->Ab->List Nat->R
abbrev tU:EV:=.tuple []
def oE(c:Nat)(v:EV)(h:Ab)(k:EV->R):R:=iE c v fun v=>Ec v h k
def fE(c:Nat)(v:EV)(h:Ab)(k:EV->R):R:=ju v fun v=>oE c v h k
def nA(c:Nat)(v:EV)(k:EV->R):R:=ju v fun v=>iE c v k
def gZ(c:Nat)(i:Nat)(b:Nat)(base:Nat)(v:EV)(s:DX)(h:Ab)(kd:DX->EV->R):R:=iE c v fun v=>O0 i b base v s fun s=>Ec v h (kd s)
def jv(c:Nat)(i:Nat)(b:Nat)(base:Nat)(v:EV)(s:DX)(h:Ab)(kd:DX->EV->R):R:=ju v fun v=>gZ c i b base v s h kd
def mD(n:Nat)(v:EV)(w:EV)(h:Ab)(k:EV->R):R:=Wn n v w fun v=>Ec v h k
def kG(n:Nat)(l:List EV)(t:Nat)(x:EV)(h:Ab)(kh:EV->Ab->R):R:=jN (.cells l t) h fun v h=>f_ n v x h (kh v)
def mE(v:EV)(kk:EV->EV->R):R:=kH 0 v fun a=>kH 1 v (kk a)
def gJ(x:EV)(y:EV)(k:EV->R):R:=kI x y (.bool false) k
def gX(x:EV)(y:EV)(k:EV->R):R:=kI x (.bool true) y k
def iF(v:EV)(p:R)(q:R):R:=Bc (E4 v true) p q
def gP(v:EV)(p:R)(q:R):R:=Bc (E4 v false) p q
def sG(v:EV)(h:Ab)(ds:List Nat):R:=Fv ds h fun h=>some (v,h)
def cE(g:IG)(f:BinOp)(t:Nat)(x:EV)(y:EV)(p:R)(q:R):R:=K1 g (bin TT f t) x y fun v=>gQ v p q
def qo(x:EV)(p:R)(q:R):R:=cE iK .neq 35 x (.int .i64 0) p q
def Je(x:EV)(k:EV->R):R:=K1 kJ (bin TT .add 3) x (.int .i64 1) k
def mF(x:EV)(y:EV)(k:EV->R):R:=K1 kJ (bin TT .add 3) x y k
def nB(x:EV)(y:EV)(k:EV->R):R:=K1 nC (bin TT .sub 3) x y k
def lR(x:EV)(y:EV)(k:EV->R):R:=K1 oL (bin TT .mul 3) x y k
def jO(x:EV)(y:EV)(k:EV->R):R:=K1 Ji (bin TT .lss 3) x y k
def jZ(x:EV)(y:EV)(k:EV->R):R:=K1 nE (bin TT .leq 3) x y k
def jw(x:EV)(y:EV)(k:EV->R):R:=K1 mG (bin TT .gtr 3) x y k
def mH(x:EV)(y:EV)(k:EV->R):R:=K1 nG (bin TT .geq 3) x y k
def nH(x:EV)(y:EV)(k:EV->R):R:=K1 iH (bin TT .eql 3) x y k
def ko(x:EV)(y:EV)(k:EV->R):R:=K1 iK (bin TT .neq 3) x y k
abbrev Zi:Prop:=
 (∀(g:IG) (f:BinOp) (t:Nat) (x:EV) (y:EV) (p:R) (q:R),cE g f t x y p q=K1 g (bin TT f t) x y fun v=>gQ v p q) /\
 (∀(x:EV) (p:R) (q:R),qo x p q=cE iK .neq 35 x (.int .i64 0) p q) /\
 (∀(x:EV) (k:EV->R),Je x k=K1 kJ (bin TT .add 3) x (.int .i64 1) k) /\
 (∀(x:EV) (y:EV) (k:EV->R),mF x y k=K1 kJ (bin TT .add 3) x y k) /\
 (∀(x:EV) (y:EV) (k:EV->R),nB x y k=K1 nC (bin TT .sub 3) x y k) /\
 (∀(x:EV) (y:EV) (k:EV->R),lR x y k=K1 oL (bin TT .mul 3) x y k) /\
 (∀(x:EV) (y:EV) (k:EV->R),jO x y k=K1 Ji (bin TT .lss 3) x y k) /\
 (∀(x:EV) (y:EV) (k:EV->R),jZ x y k=K1 nE (bin TT .leq 3) x y k) /\
 (∀(x:EV) (y:EV) (k:EV->R),jw x y k=K1 mG (bin TT .gtr 3) x y k) /\
 (∀(x:EV) (y:EV) (k:EV->R),mH x y k=K1 nG (bin TT .geq 3) x y k) /\
 (∀(x:EV) (y:EV) (k:EV->R),nH x y k=K1 iH (bin TT .eql 3) x y k) /\
 (∀(x:EV) (y:EV) (k:EV->R),ko x y k=K1 iK (bin TT .neq 3) x y k)
abbrev Zs:Prop:=
 (∀(c:Nat) (v:EV) (h:Ab) (k:EV->R),oE c v h k=iE c v fun v=>Ec v h k) /\
 (∀(c:Nat) (v:EV) (h:Ab) (k:EV->R),fE c v h k=ju v fun v=>oE c v h k) /\
 (∀(c:Nat) (v:EV) (k:EV->R),nA c v k=ju v fun v=>iE c v k) /\
 (∀(c:Nat) (i:Nat) (b:Nat) (base:Nat) (v:EV) (s:DX) (h:Ab) (kd:DX->EV->R),gZ c i b base v s h kd=iE c v fun v=>O0 i b base v s fun s=>Ec v h (kd s)) /\
 (∀(c:Nat) (i:Nat) (b:Nat) (base:Nat) (v:EV) (s:DX) (h:Ab) (kd:DX->EV->R),jv c i b base v s h kd=ju v fun v=>gZ c i b base v s h kd) /\
 (∀(n:Nat) (v:EV) (w:EV) (h:Ab) (k:EV->R),mD n v w h k=Wn n v w fun v=>Ec v h k) /\
 (∀(n:Nat) (l:List EV) (t:Nat) (x:EV) (h:Ab) (kh:EV->Ab->R),kG n l t x h kh=jN (.cells l t) h fun v h=>f_ n v x h (kh v)) /\
 (∀(v:EV) (kk:EV->EV->R),mE v kk=kH 0 v fun a=>kH 1 v (kk a)) /\
 (∀(x:EV) (y:EV) (k:EV->R),gJ x y k=kI x y (.bool false) k) /\
 (∀(x:EV) (y:EV) (k:EV->R),gX x y k=kI x (.bool true) y k) /\
 (∀(v:EV) (p:R) (q:R),iF v p q=Bc (E4 v true) p q) /\
 (∀(v:EV) (p:R) (q:R),gP v p q=Bc (E4 v false) p q) /\
 (∀(v:EV) (h:Ab) (ds:List Nat),sG v h ds=Fv ds h fun h=>some (v,h))
theorem sH:Zi:=by refine⟨?_,?_,?_,?_,?_,?_,?_,?_,?_,?_,?_,?_⟩<;>intros<;>rfl
theorem dz:Zs:=by refine⟨?_,?_,?_,?_,?_,?_,?_,?_,?_,?_,?_,?_,?_⟩<;>intros<;>rfl
theorem dq:Zs/\Zi:=⟨dz,sH⟩
section
variable {c:Nat}{i:Nat}{b:Nat}{n:Nat}{t:Nat}{w:EV}{x:EV}{y:EV}{s:DX}{k:EV->R}{p:R}{q:R}{kd:DX->EV->R}{kk:EV->EV->R}{g:IG}{f:BinOp}{l:List EV}{ds:List Nat}{v' w' x' y':EV}
@[congr] theorem oE.cg(e0:v=v'):oE c v h k=oE c v' h k:=by rw[e0]
@[congr] theorem fE.cg(e0:v=v'):fE c v h k=fE c v' h k:=by rw[e0]
@[congr] theorem nA.cg(e0:v=v'):nA c v k=nA c v' k:=by rw[e0]
@[congr] theorem gZ.cg(e0:v=v'):gZ c i b base v s h kd=gZ c i b base v' s h kd:=by rw[e0]
@[congr] theorem jv.cg(e0:v=v'):jv c i b base v s h kd=jv c i b base v' s h kd:=by rw[e0]
@[congr] theorem mD.cg(e0:v=v')(e1:w=w'):mD n v w h k=mD n v' w' h k:=by rw[e0,e1]
@[congr] theorem kG.cg(e0:x=x')(e1:l=l'):kG n l t x h kh=kG n l' t x' h kh:=by rw[e0,e1]
@[congr] theorem mE.cg(e0:v=v'):mE v kk=mE v' kk:=by rw[e0]
@[congr] theorem gJ.cg(e0:x=x'):gJ x y k=gJ x' y k:=by rw[e0]
@[congr] theorem gX.cg(e0:x=x'):gX x y k=gX x' y k:=by rw[e0]
@[congr] theorem iF.cg(e0:v=v'):iF v p q=iF v' p q:=by rw[e0]
@[congr] theorem gP.cg(e0:v=v'):gP v p q=gP v' p q:=by rw[e0]
@[congr] theorem cE.cg(e0:x=x')(e1:y=y'):cE g f t x y p q=cE g f t x' y' p q:=by rw[e0,e1]
@[congr] theorem qo.cg(e0:x=x'):qo x p q=qo x' p q:=by rw[e0]
@[congr] theorem Je.cg(e0:x=x'):Je x k=Je x' k:=by rw[e0]
@[congr] theorem mF.cg(e0:x=x')(e1:y=y'):mF x y k=mF x' y' k:=by rw[e0,e1]
@[congr] theorem nB.cg(e0:x=x')(e1:y=y'):nB x y k=nB x' y' k:=by rw[e0,e1]
@[congr] theorem lR.cg(e0:x=x')(e1:y=y'):lR x y k=lR x' y' k:=by rw[e0,e1]
@[congr] theorem jO.cg(e0:x=x')(e1:y=y'):jO x y k=jO x' y' k:=by rw[e0,e1]
@[congr] theorem jZ.cg(e0:x=x')(e1:y=y'):jZ x y k=jZ x' y' k:=by rw[e0,e1]
@[congr] theorem jw.cg(e0:x=x')(e1:y=y'):jw x y k=jw x' y' k:=by rw[e0,e1]
@[congr] theorem mH.cg(e0:x=x')(e1:y=y'):mH x y k=mH x' y' k:=by rw[e0,e1]
@[congr] theorem nH.cg(e0:x=x')(e1:y=y'):nH x y k=nH x' y' k:=by rw[e0,e1]
@[congr] theorem ko.cg(e0:x=x')(e1:y=y'):ko x y k=ko x' y' k:=by rw[e0,e1]
end
end
section
noncomputable section
abbrev NM:=List EV->Ab->R
abbrev UM:=List EV->(EV->R)->R
def cl0(F:Ab->R):NM:=fun x h=>match x with | []=>F h|_=>none
def Ew(F:EV->Ab->R):NM:=fun x h=>match x with | [a]=>F a h|_=>none
def Ea(F:EV->EV->Ab->R):NM:=fun x h=>match x with | [a,b]=>F a b h|_=>none
def K3(F:EV->EV->EV->Ab->R):NM:=fun x h=>match x with | [a,b,c]=>F a b c h|_=>none
def Vr(F:EV->EV->EV->EV->Ab->R):NM:=fun x h=>match x with | [a,b,c,d]=>F a b c d h|_=>none
def cl5(F:EV->EV->EV->EV->EV->Ab->R):NM:=fun x h=>match x with | [a,b,c,d,e]=>F a b c d e h|_=>none
def cl6(F:EV->EV->EV->EV->EV->EV->Ab->R):NM:=fun x h=>match x with | [a,b,c,d,e,f]=>F a b c d e f h|_=>none
def cl7(F:EV->EV->EV->EV->EV->EV->EV->Ab->R):NM:=fun x h=>match x with | [a,b,c,d,e,f,i]=>F a b c d e f i h|_=>none
def cl8(F:EV->EV->EV->EV->EV->EV->EV->EV->Ab->R):NM:=fun x h=>match x with | [a,b,c,d,e,f,i,j]=>F a b c d e f i j h|_=>none
def cl9(F:EV->EV->EV->EV->EV->EV->EV->EV->EV->Ab->R):NM:=fun x h=>match x with | [a,b,c,d,e,f,i,j,k]=>F a b c d e f i j k h|_=>none
def Bn6(F:EV->EV->EV->EV->EV->EV->EV->EV->EV->EV->Ab->R):NM:=fun x h=>match x with | [a,b,c,d,e,f,i,j,k,l]=>F a b c d e f i j k l h|_=>none
def Bgq(F:EV->EV->EV->EV->EV->EV->EV->EV->EV->EV->EV->Ab->R):NM:=fun x h=>match x with | [a,b,c,d,e,f,i,j,k,l,m]=>F a b c d e f i j k l m h|_=>none
def Bps(F:EV->EV->EV->EV->EV->EV->EV->EV->EV->EV->EV->EV->Ab->R):NM:=fun x h=>match x with | [a,b,c,d,e,f,i,j,k,l,m,n]=>F a b c d e f i j k l m n h|_=>none
def cu0(F:(EV->R)->R):UM:=fun x k=>match x with | []=>F k|_=>none
def cu1(F:EV->(EV->R)->R):UM:=fun x k=>match x with | [a]=>F a k|_=>none
def cu2(F:EV->EV->(EV->R)->R):UM:=fun x k=>match x with | [a,b]=>F a b k|_=>none
def cu3(F:EV->EV->EV->(EV->R)->R):UM:=fun x k=>match x with | [a,b,c]=>F a b c k|_=>none
def cu4(F:EV->EV->EV->EV->(EV->R)->R):UM:=fun x k=>match x with | [a,b,c,d]=>F a b c d k|_=>none
def cu5(F:EV->EV->EV->EV->EV->(EV->R)->R):UM:=fun x k=>match x with | [a,b,c,d,e]=>F a b c d e k|_=>none
def cu6(F:EV->EV->EV->EV->EV->EV->(EV->R)->R):UM:=fun x k=>match x with | [a,b,c,d,e,f]=>F a b c d e f k|_=>none
def nth(d:α):List α->Nat->α
 | [],_=>d
 | a::_,0=>a
 | _::r,n+1=>nth d r n
def kc:List EV:=[(.int .i64 0),(.int .i64 1),tU,(.int .i64 2),(.bool false),(.bool true),(.int .i64 3),.F7,(.int .i64 5),(.int .i64 7),(.int .u8 0),.Am,(.int .i64 4),(.int .i64 8),(.int .i64 10),(.int .i64 11),(.int .i64 12),(.int .i64 13),(.int .i64 14),(.int .i64 15),(.int .i64 16),(.int .i64 17),(.int .i64 18),(.int .i64 20),(.int .i64 30),(.int .i64 31),(.int .i64 32),(.int .i64 33),(.int .i64 34),(.int .i64 40),(.int .i64 41),(.int .i64 42),(.int .i64 43),(.int .i64 44),(.int .i64 48),(.int .i64 64)]
def tk:Nat->Nat->List Nat
 | 0,_=>[]
 | f+1,n=>if n=1 then[]else if n%16=14 then(n/16%256+14)::tk f (n/4096)else if n%16=15 then(n/256%16^(n/16%16))::tk f (n/256/16^(n/16%16))else n%16::tk f (n/16)
def rT:List Nat->(Nat->List Nat->R)->R
 | t::n,k=>k t n
 | [],_=>none
def rW(C e:List EV)(k:EV->List Nat->R):Nat->List Nat->R
 | 0,n=>rT n fun i n=>k (nth tU kc i) n
 | 1,n=>rT n fun i n=>k (nth tU C i) n
 | x+2,n=>k (nth tU e x) n
def rV(C e:List EV)(n:List Nat)(k:EV->List Nat->R):R:=rT n fun q n=>rW C e k q n
def rL(C e:List EV):Nat->List Nat->(List EV->List Nat->R)->R
 | 0,n,k=>k [] n
 | m+1,n,k=>rV C e n fun v n=>rL C e m n fun l n=>k (v::l) n
def rR(C e:List EV):Nat->List Nat->(List RV->R)->R
 | 0,_,k=>k []
 | m+1,n,k=>rT n fun q n=>rV C e n fun v n=>nth none [rR C e m n fun l=>k (.v v::l),rT n fun t n=>rR C e m n fun l=>k (.c v t::l)] q
def rC(N:List NM)(C e:List EV)(n:List Nat)(k:(Ab->R)->List Nat->R):R:=rT n fun j n=>rT n fun m n=>rL C e m n fun l n=>k (nth (fun _ _=>none) N j l) n
def gOf(n:Nat)(k:IG->BinOp->R):R:=nth none [k kJ .add,k nC .sub,k oL .mul,k Ji .lss,k nE .leq,k mG .gtr,k nG .geq,k iH .eql,k iK .neq] n
def bOf(n:Nat):BinOp:=nth .shr [.quo,.rem,.and,.or,.xor,.shl,.shr] n
def dk(N:List NM)(U:List UM)(Z:List (List EV))(C:List EV):Nat->List Nat->Nat->DX->List EV->Ab->R
 | f+1,q::n,base,s,e,h=>nth (fun _=>none) [
 fun n=>rC N C e n fun c _=>c h,
 fun n=>rC N C e n fun c n=>Ao (c h) fun v h=>dk N U Z C f n base s (v::e) h,
 fun n=>rV C e n fun v _=>some (v,h),
 fun n=>rT n fun p0 n=>rV C e n fun p1 n=>fE p0 p1 h fun v=>dk N U Z C f n base s (v::e) h,
 fun n=>rT n fun p0 n=>rV C e n fun p1 n=>oE p0 p1 h fun v=>dk N U Z C f n base s (v::e) h,
 fun n=>rT n fun p0 n=>rV C e n fun p1 n=>Q4 p0 p1 h fun v=>dk N U Z C f n base s (v::e) h,
 fun n=>rT n fun p0 n=>rV C e n fun p1 n=>rV C e n fun p2 n=>f_ p0 p1 p2 h fun h=>dk N U Z C f n base s e h,
 fun n=>rT n fun i n=>rT n fun b n=>rC N C e n fun c n=>Mc i b s h (fun h=>c h) fun v h s=>dk N U Z C f n base s (v::e) h,
 fun n=>rV C e n fun p0 n=>rT n fun L n=>gQ p0 (dk N U Z C f n base s e h) (dk N U Z C f (n.drop L) base s e h),
 fun n=>rT n fun p0 n=>rV C e n fun p1 n=>Sb p0 p1 h fun v h=>dk N U Z C f n base s (v::e) h,
 fun n=>rV C e n fun p0 n=>rT n fun L n=>iF p0 (dk N U Z C f n base s e h) (dk N U Z C f (n.drop L) base s e h),
 fun n=>rT n fun p0 n=>rT n fun p1 n=>rV C e n fun p2 n=>O0 p0 p1 base p2 s fun s=>dk N U Z C f n base s e h,
 fun n=>rT n fun p0 n=>rV C e n fun p1 n=>nA p0 p1 fun v=>dk N U Z C f n base s (v::e) h,
 fun n=>rV C e n fun p0 n=>rT n fun L n=>gP p0 (dk N U Z C f n base s e h) (dk N U Z C f (n.drop L) base s e h),
 fun n=>rT n fun m n=>rL C e m n fun l _=>some (.tuple l,h),
 fun n=>rT n fun g n=>rT n fun t n=>rV C e n fun x n=>rV C e n fun y n=>rT n fun L n=>gOf g fun g o=>cE g o t x y (dk N U Z C f n base s e h) (dk N U Z C f (n.drop L) base s e h),
 fun n=>rT n fun g n=>rT n fun t n=>rV C e n fun x n=>rV C e n fun y n=>gOf g fun g o=>K1 g (bin TT o t) x y fun v=>dk N U Z C f n base s (v::e) h,
 fun n=>rT n fun g n=>rT n fun t n=>rV C e n fun x n=>rV C e n fun y n=>im (bin TT (bOf g) t) x y fun v=>dk N U Z C f n base s (v::e) h,
 fun n=>rT n fun m n=>rR C e m n fun l=>Iq TT l h,
 fun n=>rT n fun t n=>rT n fun z n=>jN (.cells (nth [] Z z) t) h fun v h=>dk N U Z C f n base s (v::e) h,
 fun n=>rT n fun m n=>rT n fun z n=>rT n fun t n=>rV C e n fun x n=>kG m (nth [] Z z) t x h fun v h=>dk N U Z C f n base s (v::e) h,
 fun n=>rT n fun j n=>rT n fun m n=>rL C e m n fun l n=>nth (fun _ _=>none) U j l fun v=>dk N U Z C f n base s (v::e) h,
 fun n=>none,
 fun n=>rV C e n fun p0 n=>rV C e n fun p1 n=>gX p0 p1 fun v=>dk N U Z C f n base s (v::e) h,
 fun n=>rV C e n fun p0 n=>Je p0 fun v=>dk N U Z C f n base s (v::e) h,
 fun n=>rV C e n fun p0 n=>rV C e n fun p1 n=>gJ p0 p1 fun v=>dk N U Z C f n base s (v::e) h,
 fun n=>rV C e n fun p0 n=>mE p0 fun v w=>dk N U Z C f n base s (w::v::e) h,
 fun n=>rV C e n fun p0 n=>Ec p0 h fun v=>dk N U Z C f n base s (v::e) h,
 fun n=>jc h fun base s=>dk N U Z C f n base s e h,
 fun n=>rV C e n fun p0 n=>i_ p0 fun v=>dk N U Z C f n base s (v::e) h,
 fun n=>rT n fun p0 n=>rT n fun p1 n=>rT n fun p2 n=>rV C e n fun A n=>gZ p0 p1 p2 base A s h fun s v=>dk N U Z C f n base s (v::e) h,
 fun n=>rT n fun p0 n=>rT n fun p1 n=>rT n fun p2 n=>rV C e n fun A n=>jv p0 p1 p2 base A s h fun s v=>dk N U Z C f n base s (v::e) h,
 fun n=>rV C e n fun p0 n=>rT n fun L n=>qo p0 (dk N U Z C f n base s e h) (dk N U Z C f (n.drop L) base s e h),
 fun n=>rV C e n fun p0 n=>Gi p0 fun v=>dk N U Z C f n base s (v::e) h,
 fun n=>rT n fun p0 n=>rV C e n fun p1 n=>iE p0 p1 fun v=>dk N U Z C f n base s (v::e) h,
 fun n=>rT n fun p0 n=>rV C e n fun p1 n=>rV C e n fun p2 n=>Wn p0 p1 p2 fun v=>dk N U Z C f n base s (v::e) h,
 fun n=>rT n fun p0 n=>rV C e n fun p1 n=>rV C e n fun p2 n=>mD p0 p1 p2 h fun v=>dk N U Z C f n base s (v::e) h,
 fun n=>rT n fun p0 n=>rT n fun p1 n=>rV C e n fun p2 n=>oM p0 p1 p2 s fun s=>dk N U Z C f n base s e h,
 fun n=>rT n fun p0 n=>nJ p0 h s fun s=>dk N U Z C f n base s e h,
 fun n=>rT n fun p0 n=>rT n fun p1 n=>rV C e n fun p2 n=>rV C e n fun A n=>jP p0 p1 p2 A fun v=>dk N U Z C f n base s (v::e) h,
 fun n=>rT n fun p0 n=>rV C e n fun p1 n=>kH p0 p1 fun v=>dk N U Z C f n base s (v::e) h,
 fun n=>rV C e n fun p0 n=>ju p0 fun v=>dk N U Z C f n base s (v::e) h,
 fun n=>rV C e n fun p0 n=>nK p0 fun v=>dk N U Z C f n base s (v::e) h,
 fun n=>rV C e n fun p0 n=>rV C e n fun p1 n=>mF p0 p1 fun v=>dk N U Z C f n base s (v::e) h,
 fun n=>rV C e n fun p0 n=>rV C e n fun p1 n=>nB p0 p1 fun v=>dk N U Z C f n base s (v::e) h,
 fun n=>rV C e n fun p0 n=>rV C e n fun p1 n=>lR p0 p1 fun v=>dk N U Z C f n base s (v::e) h,
 fun n=>rV C e n fun p0 n=>rV C e n fun p1 n=>jO p0 p1 fun v=>dk N U Z C f n base s (v::e) h,
 fun n=>rV C e n fun p0 n=>rV C e n fun p1 n=>jZ p0 p1 fun v=>dk N U Z C f n base s (v::e) h,
 fun n=>rV C e n fun p0 n=>rV C e n fun p1 n=>jw p0 p1 fun v=>dk N U Z C f n base s (v::e) h,
 fun n=>rV C e n fun p0 n=>rV C e n fun p1 n=>mH p0 p1 fun v=>dk N U Z C f n base s (v::e) h,
 fun n=>rV C e n fun p0 n=>rV C e n fun p1 n=>nH p0 p1 fun v=>dk N U Z C f n base s (v::e) h,
 fun n=>rV C e n fun p0 n=>rV C e n fun p1 n=>ko p0 p1 fun v=>dk N U Z C f n base s (v::e) h,
 fun n=>rT n fun p0 n=>rV C e n fun p1 n=>nL p0 p1 fun v=>dk N U Z C f n base s (v::e) h] q n
 | _,_,_,_,_,_=>none
def s0:DX:=⟨0,[],[],[],[]⟩
inductive Nf:R->R->Prop where
 | mk (x:R):Nf x x
structure Dm(x y:R):Prop where
structure Sg(n:Nat)(e:List EV)(h:Ab)(N:List NM:=[])(U:List UM:=[])(Z:List (List EV):=[])(C:List EV:=[]) where mk ::
 {t:List Nat}
 {F:R}
 (p:tk 900 n=t:=by
  simp only[tk,↓reduceIte,Nat.reduceMod,Nat.reduceDiv,Nat.reduceEqDiff,Nat.reduceAdd,Nat.reducePow]
  first|done|rfl)
 (q:Dm (dk N U Z C 300 t 0 s0 e h) F:=by
  refine' (?f:∀x y,Nf x y->Dm x y) _ _ ?m
  case m=>
   dsimp only[dk,rT,rW,rV,rL,rR,rC,nth,kc,gOf,bOf,List.drop,cl0,Ew,Ea,K3,Vr,cl5,cl6,cl7,cl8,cl9,Bn6,Bgq,Bps,cu0,cu1,cu2,cu3,cu4,cu5,cu6];exact .mk _
  case f=>
   intros;exact⟨⟩)
theorem dr:Zs/\Zi:=⟨dz,sH⟩
end
end
noncomputable section
def iB(x:Nat):Nat:=Bc (Nat.beq (Nat.land x 1) 1) (Nat.xor (Nat.div x 2) 2197175160) (Nat.div x 2)
def θ:Nat->Nat->List EV:=@Nat.rec (fun _=>Nat->List EV) (fun _=>[]) fun _ A i=>.int .u32 (.ofNat (iB (iB (iB (iB (iB (iB (iB (iB i)))))))))::A (Nat.succ i)
def Bh:List EV:=θ 256 0
def Tu:EV:=.agg Bh
def A4o:FT:=fun _ _ _ args h=>@List.rec EV (fun _=>R) (some (Tu,h)) (fun _ _ _=>none) args
def oN(_:Nat)(h:Ab):R:=some (Tu,h)
end
def Avt(g:Nat):Bool:=η g
structure Cf(disp:Nat->Option FT):Prop where
 plain:∀g,Avt g=true->disp g=none
 crc:disp 24=some A4o
theorem FQ(H:Cf disp){d:Nat}(hd:1<=d)(h:Ab):Ag TT disp K d false 24 [] h=oN K h:=by
 obtain⟨d,rfl⟩:∃e,d=e+1:=⟨d-1,a_⟩;rw[vY H.crc];rfl
section
def Ok(x:R)(Q:EV->Ab->Prop):Prop:=∃v h,x=some (v,h)/\Q v h
theorem Ok.ret(q:Q v h):Ok (some (v,h)) Q:=⟨v,h,rfl,q⟩
theorem Ok.mono {x:R}(a:Ok x P)(b:∀v h,P v h->Q v h):Ok x Q:=by
 obtain⟨v,h,e,p⟩:=a;exact⟨v,h,e,b v h p⟩
theorem Ok.Ao {x:R}{k:EV->Ab->R}(a:Ok x P)(b:∀v h,P v h->Ok (k v h) Q):Ok (Ao x k) Q:=by
 obtain⟨v,h,e,p⟩:=a;rw[e];exact b v h p
theorem Ok.eq {x y:R}(e:x=y)(a:Ok y Q):Ok x Q:=by rw[e];exact a
def HB(h:Ab):Prop:=∀q o,h.get q=some o->q<h.next
theorem HB.new(a:HB h)(o:Ds):HB (h.new o):=fun q x e=>by
 rw[Ab.Kz]at e;split at e
 next A=>rw[Ab.Dd];omega
 ·exact Nat.lt_succ_of_lt (a q x e)
theorem HB.put(a:HB h){i:Nat}(hi:i<h.next)(o:Ds):HB (h.put i o):=fun q x e=>by
 rw[Ab.get_put]at e;split at e
 next A=>subst A;exact hi
 ·exact a q x e
theorem HB.del(a:HB h)(i:Nat):HB (h.del i):=fun q x e=>by
 rw[Ab.kK]at e;split at e
 ·cases e
 ·exact a q x e
structure As(S:Nat->Prop)(h h':Ab):Prop where
 get:∀i,i<h.next->¬S i->h'.get i=h.get i
 next:h.next<=h'.next
 mw:∀w,w<=h.mw->w<=h.next->(∀i,S i->w<=i)->w<=h'.mw
 hb:HB h->HB h'
abbrev Ext:Ab->Ab->Prop:=As fun _=>False
variable {S T:Nat->Prop}{h1 h2 h3:Ab}
theorem As.refl(h:Ab):As S h h:=⟨fun _ _ _=>rfl,aD _,fun _ a _ _=>a,id⟩
theorem As.trans(a:As S h1 h2)(b:As S h2 h3):As S h1 h3:=
 ⟨fun i hi hs=>by rw[b.get i (aL hi a.next) hs,a.get i hi hs],bS a.next b.next,
  fun w w1 w2 w3=>b.mw w (a.mw w w1 w2 w3) (bS w2 a.next) w3,fun x=>b.hb (a.hb x)⟩
theorem As.mono(a:As S h h')(st:∀i,S i->T i):As T h h':=⟨fun i hi hs=>a.get i hi fun x=>hs (st i x),a.next,fun w w1 w2 w3=>a.mw w w1 w2 fun i hi=>w3 i (st i hi),a.hb⟩
theorem As.then(a:As S h1 h2)(b:As T h2 h3)(st:∀i,T i->i<h1.next->S i):As S h1 h3:=by
 refine⟨fun i hi hs=>by rw[b.get i (aL hi a.next) fun x=>hs (st i x hi),a.get i hi hs],bS a.next b.next,fun w w1 w2 w3=>?_,fun x=>b.hb (a.hb x)⟩;refine b.mw w (a.mw w w1 w2 w3) (bS w2 a.next) fun i hi=>?_
 by_cases A:i<h1.next
 ·exact w3 i (st i hi A)
 ·omega
theorem Ext.to(a:Ext h h'):As S h h':=a.mono fun _ x=>x.elim
theorem As.new(h:Ab)(o:Ds):As S h (h.new o):=
 ⟨fun i hi _=>Ba o hi,by rw[Ab.Dd];omega,fun w w1 _ _=>by rw[Ab.ι];exact w1,fun x=>x.new o⟩
theorem As.put(h:Ab){i:Nat}(hi:S i\/h.next<=i)(A:HB h->i<h.next)(o:Ds):As S h (h.put i o):=by
 refine⟨fun j hj hs=>Af o fun e=>?_,by rw[Ab.P9];exact aD _,fun w w1 w2 w3=>?_,fun x=>x.put (A x) o⟩
 ·subst e;rcases hi with hi|hi
  ·exact hs hi
  ·omega
 ·rw[Ab.mI]
  rcases hi with hi|hi
  ·have:=w3 i hi;omega
  ·omega
theorem As.del(h:Ab){i:Nat}(hi:S i\/h.next<=i):As S h (h.del i):=by
 refine⟨fun j hj hs=>κ fun e=>?_,by rw[Ab.qp];exact aD _,fun w w1 w2 w3=>?_,fun x=>x.del i⟩
 ·subst e;rcases hi with hi|hi
  ·exact hs hi
  ·omega
 ·rw[Ab.qs]
  rcases hi with hi|hi
  ·have:=w3 i hi;omega
  ·omega
theorem As.Aq(x:As S h0 h){i:Nat}(hi:S i\/h0.next<=i)(A:i<h.next)(o:Ds):As S h0 (h.put i o):=
 x.then (T:=fun j=>j=i) (As.put (S:=fun j=>j=i) h (.inl rfl) (fun _=>A) o) fun j hj G=>by
  have e:j=i:=hj;subst e;rcases hi with hi|hi
  ·exact hi
  ·omega
theorem As.Dn(x:As S h0 h)(o:Ds):As S h0 (h.new o):=x.trans (As.new _ _)
theorem As.at(c:As S h h')(hb:HB h){i:Nat}{o:Ds}(g:h.get i=some o)(A:¬S i):h'.get i=some o:=by rw[c.get i (hb i o g) A];exact g
theorem Ext.at(c:Ext h h')(hb:HB h){i:Nat}{o:Ds}(g:h.get i=some o):h'.get i=some o:=As.at c hb g id
theorem Bf {i j:Nat}{o o':Ds}(a:h.get i=some o)(b:h.get j=some o')(n:o≠o'):i≠j:=fun e=>n (by rw[e,b]at a;cases a;rfl)
def Ab.lift(h:Ab):Ab:=⟨h.t,h.next,h.next⟩
structure iO(h h':Ab):Prop where
 get:∀i,h'.get i=h.get i
 next:h'.next=h.next
theorem jq(h:Ab)(i:Nat):h.get i=h.t.get i:=by cases h;rfl
theorem Bx(h:Ab)(i:Nat):h.lift.get i=h.get i:=by rw[jq,jq];rfl
theorem qu(h:Ab):h.lift.next=h.next:=rfl
theorem Dj(a:HB h):HB h.lift:=fun q o e=>a q o (by rw[<-Bx];exact e)
theorem iO.lift(h:Ab):iO h h.lift:=⟨Bx h,rfl⟩
theorem iO.hb(a:iO h h')(b:HB h):HB h':=fun q o e=>by rw[a.next];exact b q o (by rw[<-a.get];exact e)
section
variable {i b:Nat}{s:DX}{call:Ab->R}{k:EV->Ab->DX->R}
theorem Ok.Mc(hb:Afc b s=true)(A:loose b s.nw = [])(G:Ok (call h.lift) P)(he:∀v h1,P v h1->Ext h.lift h1)
 (hk:∀v h1 h2,P v h1->iO h1 h2->Ext h h2->Ok (k v h2 (s.big i)) Q):Ok (Mc i b s h call k) Q:=by
 obtain⟨v,h1,e,p⟩:=G;have x:=he v h1 p;have J:Ks b s h=h.lift:=by unfold Ks;rw[A];rfl
 have hm:h.next<=h1.mw:=x.mw h.next (aD _) (aD _) fun _ y=>y.elim
 have L:Ev.Mc i b s h call k=k v ⟨h1.t,h1.next,h.mw⟩ (s.big i):=by
  show Bc (Afc b s) (Ev.Ao (call (Ks b s h)) fun v h'=>Pe i b s h h' fun s h=>k v h s) none=_;rw[hb,Aj,J,e];show Pe i b s h h1 (fun s h=>k v h s)=_;unfold Pe;rw[aO hm,Aj,A];rfl
 rw[L];refine hk v h1 _ p ⟨fun i=>by rw[jq,jq],rfl⟩ ⟨fun i hi M=>?_,x.next,fun w w1 _ _=>w1,fun y=>?_⟩
 ·rw[jq];show h1.t.get i=_;rw[<-jq,x.get i hi M,Bx]
 ·exact iO.hb (h:=h1) ⟨fun i=>by rw[jq,jq],rfl⟩ (x.hb (Dj y))
theorem Ok.bE(A:Ok (call h.lift) P)(he:∀v h1,P v h1->Ext h.lift h1)(hk:∀v h1 h2,P v h1->iO h1 h2->Ext h h2->Ok (k v h2 (s.big i)) Q)(hb:Afc b s=true:=by kernel_rfl)(G:loose b s.nw = []:=by kernel_rfl):Ok (Ev.Mc i b s h call k) Q:=Ok.Mc hb G A he hk
theorem Ok.pV(hb:Afc b s=true)(A:loose b s.nw = [])(J:∀w,Yj b w s.Cx=true)(L:Ok (call h.lift) P)(he:∀v h1,P v h1->As S h.lift h1)
 (hk:∀v h1 h2 s',P v h1->iO h1 h2->As S h h2->(s'=s.big i\/∃w,s'=s.iC i w/\w=h1.mw)->Ok (k v h2 s') Q):Ok (Ev.Mc i b s h call k) Q:=by
 obtain⟨v,h1,e,p⟩:=L;have x:=he v h1 p;have M:Ks b s h=h.lift:=by unfold Ks;rw[A];rfl
 have O:Ev.Mc i b s h call k=Pe i b s h h1 fun s h=>k v h s:=by
  show Bc (Afc b s) (Ev.Ao (call (Ks b s h)) fun v h'=>Pe i b s h h' fun s h=>k v h s) none=_;rw[hb,Aj,M,e];rfl
 rw[O];unfold Pe;rw[A];have sm:∀w,iO h1 ⟨h1.t,h1.next,w⟩:=fun w=>⟨fun i=>by rw[jq,jq],rfl⟩
 have G:∀w i,i<h.next->¬S i->(⟨h1.t,h1.next,w⟩:Ab).get i=h.get i:=fun w i hi U=>by
  rw[(sm w).get,x.get i hi U,Bx]
 cases hle:Nat.ble h.next h1.mw with
 | true=>
  rw[Aj];exact hk v h1 _ _ p (sm _) ⟨G _,x.next,fun w w1 _ _=>w1,fun y=>(sm _).hb (x.hb (Dj y))⟩ (.inl rfl)
 | false=>
  rw[Bo,J,Aj];refine hk v h1 _ _ p (sm _) ⟨G _,x.next,fun w w1 w2 w3=>?_,fun y=>(sm _).hb (x.hb (Dj y))⟩ (.inr ⟨_,rfl,rfl⟩);have:=x.mw w w2 w2 w3;show w<=Bc (Nat.ble h.mw h1.mw) h.mw h1.mw;rw[Bq];split<;>assumption
theorem Ok.bC(A:Ok (call h.lift) P)(he:∀v h1,P v h1->As S h.lift h1)
 (hk:∀v h1 h2 s',P v h1->iO h1 h2->As S h h2->(s'=s.big i\/∃w,s'=s.iC i w/\w=h1.mw)->Ok (k v h2 s') Q) (hb:Afc b s=true:=by kernel_rfl) (G:loose b s.nw = []:=by kernel_rfl) (J:∀w,Yj b w s.Cx=true:=by exact fun _=>by kernel_rfl):Ok (Ev.Mc i b s h call k) Q:=Ok.pV hb G J A he hk
theorem Cp {i b q o:Nat}{s:DX}{k:DX->R}(A:q<base)(G:Bc (Fc b q s.st) (Yl b q s.lou) false=true):O0 i b base (.ptr q o) s k=k (s.ld i q):=by
 show Bc (sI b base q s) _ none=_;unfold sI;rw[aO (show Nat.succ q<=base from A),Aj,G,Aj]
theorem Jg {i b q o:Nat}{s:DX}{k:DX->R}(A:q<base)(G:Bc (Fc b q s.st) (Yl b q s.lou) false=true:=by kernel_rfl):O0 i b base (.ptr q o) s k=k (s.ld i q):=Cp A G
theorem J1 {i b q o:Nat}{s:DX}{k:DX->R}(A:sJ b q s=true:=by kernel_rfl):oM i b (.ptr q o) s k=k (s.sto i q):=by
 show Bc (sJ b q s) _ none=_;rw[A,Aj]
end
section
variable {i o c n s j len:Nat}{l:List EV}{t:TypeId}{k:EV->R}
def rowOf:Ds->Option (List EV)
 | .cells l _=>some l
 | .vec l _ _=>some l
 | _=>none
theorem Al {x:Ds}(G:h.get i=some x)(A:rowOf x=some l)(J:l[o]? = some v):Ec (.ptr i o) h k=k v:=by
 show oB _ (jY (h.get i) o 1)=_;rw[G];have L:Ly l o 1=some [v]:=by
  obtain⟨h1,h2⟩:=aZ.1 J;rw[Eg a_,cm h1,h2];rfl
 cases x<;>first|(cases A;done)|(cases A;show oB _ (Ly l o 1)=_;rw[L];rfl)
theorem Lg {q off A rm:Nat}{op:Bool}{kd:IntKind}(hj:j<A):Wn sz (.slice q off A rm op) (.int kd (j:Int)) k=k (.ptr q (off+j*sz)):=μ hj k kd
theorem Cu {x:Ds}(G:h.get i=some x)(A:rowOf x=some l)(J:Ly l o n=some l'):Q4 n (.ptr i o) h k=k (.agg l'):=by
 show oB _ (jY (h.get i) o n)=_;rw[G];cases x<;>first|(cases A;done)|(cases A;show oB _ (Ly l o n)=_;rw[J];rfl)
theorem ly {kk:Ab->R}(A:h.get i=some (.cells l t))(G:v.plain=true)(J:Fp v.cells=n)(L:Mf l o v.cells=some l'):f_ n (.ptr i o) v h kk=kk (h.put i (.cells l' t)):=by
 show Bc v.plain (Bc (Nat.beq (Fp v.cells) n) (mJ h i (fun l=>Mf l o v.cells) kk) none) none=_;rw[G,Aj,J,cO,Aj,ν A,L];rfl
theorem FR {kk:Ab->R}{z:Nat}(A:h.get i=some (.vec l t z))(G:v.plain=true)(J:Fp v.cells=n)(L:Mf l o v.cells=some l'):f_ n (.ptr i o) v h kk=kk (h.put i (.vec l' t z)):=by
 show Bc v.plain (Bc (Nat.beq (Fp v.cells) n) (mJ h i (fun l=>Mf l o v.cells) kk) none) none=_;rw[G,Aj,J,cO,Aj];unfold mJ;rw[A];simp only;rw[L];rfl
theorem Ok.st {kk:Ab->R}(l':List EV)(A:h.get i=some (.cells l t))(G:v.plain=true)(J:Fp v.cells=n)(L:Mf l o v.cells=some l')(hk:Ok (kk (h.put i (.cells l' t))) Q):Ok (f_ n (.ptr i o) v h kk) Q:=by
 rw[ly A G J L];exact hk
theorem nW(h:Ab)(o:Ds):∃h',h.new o=h'/\Ext h h'/\h'.get h.next=some o/\h'.next=h.next+1:=⟨_,rfl,As.new _ _,Ad _ _,rfl⟩
theorem nP(h:Ab)(z o:Ds):∃h',(h.new z).put h.next o=h'/\Ext h h'/\h'.get h.next=some o/\h'.next=h.next+1:=⟨_,rfl,(As.new h _:Ext _ _).Aq (.inr (aD _)) (aT _) _,Ae _ _ _,rfl⟩
theorem Ok.mk {z:List EV}{kk:Ab->R}(G:z.length=n)(A:xs.length=n)(hk:∀h',Ext h h'->h'.get h.next=some (.cells xs t)->h'.next=h.next+1->Ok (kk h') Q):Ok (f_ n (.ptr h.next 0) (.agg xs) (h.new (.cells z t)) kk) Q:=by
 obtain⟨h',e,a,b,c⟩:=nP h (.cells z t) (.cells xs t);refine Ok.st xs (Ad _ _) rfl (by show Fp xs=n;rw[Bb,A]) (Bn (by show z.length=xs.length;rw[G,A])) ?_;rw[e];exact hk h' a b c
theorem Ok.gK {kk:Ab->R}(G:h.get i=some (.cells l t))(J:v.plain=true)(A:v.cells = [v])(L:o<l.length)(hk:Ok (kk (h.put i (.cells (l.set o v) t))) Q):Ok (f_ 1 (.ptr i o) v h kk) Q:=by
 rw[ly G J (by rw[A];rfl) (by rw[A];exact FU v l o L)];exact hk
theorem WW(A:v.plain=true):Sb t v h kh=kh (.ptr h.next 0) (h.new (.cells v.cells t)):=by unfold Sb;rw[A,Aj]
theorem FV {a b:EV}{x:Bool}:kI (.bool x) a b k=Bc x (k a) (k b):=rfl
theorem Ar:Ao (some (v,h')) kh=kh v h':=rfl
theorem kB {q off A:Nat}{kd:IntKind}(hj:j<A):jP A sz (.ptr q off) (.int kd (j:Int)) k=k (.ptr q (off+j*sz)):=by
 show Bc (Nat.ble (Nat.succ j) A) _ none=_;rw[aO hj,Aj];rfl
theorem FO {kd A:IntKind}{x:Int}:Sh kd (.int A x) k=k (.int kd (Cr kd x)):=rfl
theorem ξ {kd:IntKind}{x:Int}:nK (.int kd x) k=k (.int kd (Cr kd (0-x))):=rfl
theorem vM(A:l[o]? = some v):kL o false 0 (.agg l) k=k v:=by
 show oB k (kq l o)=_;rw[sK,A];rfl
theorem Ax {place:Nat->Option (Nat × Nat)}{z:List EV}(A:iU place ps z=some l):Bt place z ps k=k (.agg l):=by
 unfold Bt;rw[A];rfl
theorem Ak {l:List EV}{n:Nat}(A:l.length=n):Ly l 0 n=some l:=by
 subst A;rw[Eg a_,cZ,cM]
theorem Cn {n:Int}(h1 : -9223372036854775808<=n:=by omega)(h2:n<=9223372036854775807:=by omega):Cr .i64 n=n:=FW h1 a_
end
theorem qv {b:Int}{T:Ij}{t:Nat}{a:Int}{k:EV->R}(hb:0<b)(h1:0<=a)(h2:a<9223372036854775808):im (bin T .quo t) (.int .i64 a) (.int .i64 b) k=k (.int .i64 (a/b)):=by
 obtain⟨n,rfl⟩:=bD (Int.le_of_lt hb);show oB k (Bc (iN (.ofNat n) 0) none (some (.int .i64 (Cr .i64 (a.tdiv (.ofNat n))))))=_;have:iN (.ofNat n) 0=false:=by
  show Nat.beq n 0=false;cases n with
  | zero=>exact absurd hb c_
  | succ n=>rfl
 rw[this,Bo];have e:a.tdiv (.ofNat n)=a/n:=Int.tdiv_eq_ediv_of_nonneg h1;have h3:a/(n:Int)<=a:=Int.ediv_le_self _ h1;have h4:0<=a/(n:Int):=Int.ediv_nonneg h1 a_;rw[e,FW a_ a_];rfl
section
variable {v' w w' a a' b b' x':EV}{x y r r':R}{k:EV->R}{kk:Ab->R}{kd:DX->R}{kb:Nat->DX->R}
@[congr] theorem Ok.c {Q:EV->Ab->Prop}(e:r=r'):Ok r Q=Ok r' Q:=by rw[e]
@[congr] theorem Bc.c {α:Type}{p q:Bool}{x y:α}(e:p=q):Bc p x y=Bc q x y:=by rw[e]
@[congr] theorem oB.c {α β:Type}{k:α->Option β}{p q:Option α}(e:p=q):oB k p=oB k q:=by rw[e]
@[congr] theorem Ao.c(e:r=r'):Ao r kh=Ao r' kh:=by rw[e]
@[congr] theorem Ec.c(e:v=v'):Ec v h k=Ec v' h k:=by rw[e]
@[congr] theorem Q4.c {n:Nat}(e:v=v'):Q4 n v h k=Q4 n v' h k:=by rw[e]
@[congr] theorem f_.c {n:Nat}(e:a=a')(e':v=v'):f_ n a v h kk=f_ n a' v' h kk:=by rw[e,e']
@[congr] theorem jN.c {o o':Ds}(e:o=o'):jN o h kh=jN o' h kh:=by rw[e]
@[congr] theorem Sb.c {t:Nat}(e:v=v'):Sb t v h kh=Sb t v' h kh:=by rw[e]
@[congr] theorem K1.c {g:IG}{f:EV->EV->Option EV}(e:v=v')(e':w=w'):K1 g f v w k=K1 g f v' w' k:=by rw[e,e']
@[congr] theorem im.c {f:EV->EV->Option EV}(e:v=v')(e':w=w'):im f v w k=im f v' w' k:=by rw[e,e']
@[congr] theorem kI.c(e:v=v'):kI v a b k=kI v' a b k:=by rw[e]
@[congr] theorem i_.c(e:v=v'):i_ v k=i_ v' k:=by rw[e]
@[congr] theorem nK.c(e:v=v'):nK v k=nK v' k:=by rw[e]
@[congr] theorem ju.c(e:v=v'):ju v k=ju v' k:=by rw[e]
@[congr] theorem iE.c {n:Nat}(e:v=v'):iE n v k=iE n v' k:=by rw[e]
@[congr] theorem jP.c {n m:Nat}(e:v=v')(e':w=w'):jP n m v w k=jP n m v' w' k:=by rw[e,e']
@[congr] theorem Wn.c {n:Nat}(e:v=v')(e':w=w'):Wn n v w k=Wn n v' w' k:=by rw[e,e']
@[congr] theorem jX.c {n m q:Nat}{g:Bool}(e:v=v')(e':w=w'):jX n m g q v w k=jX n m g q v' w' k:=by rw[e,e']
@[congr] theorem kL.c {n m:Nat}{g:Bool}(e:v=v'):kL n g m v k=kL n g m v' k:=by rw[e]
@[congr] theorem Sh.c {c:IntKind}(e:v=v'):Sh c v k=Sh c v' k:=by rw[e]
@[congr] theorem kH.c {n:Nat}(e:v=v'):kH n v k=kH n v' k:=by rw[e]
@[congr] theorem Gi.c(e:v=v'):Gi v k=Gi v' k:=by rw[e]
@[congr] theorem nL.c {n:Nat}(e:v=v'):nL n v k=nL n v' k:=by rw[e]
@[congr] theorem Bt.c {place:Nat->Option (Nat × Nat)}{z:List EV}{ps A:List (Nat × EV)}(e:ps=A):Bt place z ps k=Bt place z A k:=by rw[e]
@[congr] theorem h_.c {n:Nat}{L A hi G M J:Option EV}(e:v=v')(e1:L=A)(e2:hi=G)(e3:M=J):h_ n v L hi M k=h_ n v' A G J k:=by rw[e,e1,e2,e3]
@[congr] theorem Oz.c {n m:Nat}{L A hi G M J:Option EV}(e:v=v')(e1:L=A)(e2:hi=G)(e3:M=J):Oz n m v L hi M k=Oz n m v' A G J k:=by rw[e,e1,e2,e3]
@[congr] theorem gQ.c(e:v=v'):gQ v x y=gQ v' x y:=by rw[e]
@[congr] theorem jc.c(e:h=h'):jc h kb=jc h' kb:=by rw[e]
@[congr] theorem O0.c {i b base:Nat}{s:DX}(e:v=v'):O0 i b base v s kd=O0 i b base v' s kd:=by rw[e]
@[congr] theorem oM.c {i b:Nat}{s:DX}(e:v=v'):oM i b v s kd=oM i b v' s kd:=by rw[e]
@[congr] theorem nJ.c {i:Nat}{s s':DX}(e:s=s'):nJ i h s kd=nJ i h s' kd:=by rw[e]
@[congr] theorem Mc.c {i b:Nat}{s s':DX}{call:Ab->R}(e:s=s'):Mc i b s h call ke=Mc i b s' h call ke:=by rw[e]
@[congr] theorem Yk.c {c:Ah}{T:Ij}{g n i:Nat}{tm:Ay}{ds:List Nat}{k1:Ab->List Nat->R}{k2:Nat->Ab->List Nat->R}{k3:Ab->List Nat->R}(e:v=v'):Yk c T g n i v tm h ds k1 k2 k3=Yk c T g n i v' tm h ds k1 k2 k3:=by rw[e]
@[congr] theorem oJ.c {c:Ah}{T:Ij}{g n i l0:Nat}{tm:Ay}{ds:List Nat}{k1:Ab->List Nat->R}{k2:Nat->Ab->List Nat->R}{k3:Ab->List Nat->R}(e:v=v'):oJ c T g n i l0 v tm h ds k1 k2 k3=oJ c T g n i l0 v' tm h ds k1 k2 k3:=by rw[e]
@[congr] theorem D8.c {l:Nat}(e:h=h'):D8 l h kk=D8 l h' kk:=by rw[e]
end
theorem Cx{i:Nat}{x:Ds}{l:List EV}(G:h.get i=some x)(A:rowOf x=some l):∀(o:Nat) (k:EV->R),Ec (.ptr i o) h k=oB k l[o]?:=by
 intro o k;cases J:l[o]? with
 | some v=>exact Al G A J
 | none=>
  show oB _ (jY (h.get i) o 1)=_;rw[G];have L:l.length<=o:=List.getElem?_eq_none_iff.1 J;have M:Ly l o 1=none:=by
   rw[mK,Sy,List.drop_eq_nil_of_le L];rfl
  cases x<;>first|(cases A;done)|(cases A;show oB _ (Ly l o 1)=_;rw[M];rfl)
theorem Cz{i:Nat}{x:Ds}{l:List EV}(G:h.get i=some x)(A:rowOf x=some l):∀(n o:Nat) (k:EV->R),Q4 n (.ptr i o) h k=oB (fun l=>k (.agg l)) (Ly l o n):=by
 intro n o k;show oB _ (jY (h.get i) o n)=_;rw[G];cases x<;>first|(cases A;done)|(cases A;rfl)
theorem Aa:Zs/\Zi /\
 (∀(i o:Nat) (k:EV->R),ju (.ptr i o) k=k (.ptr i o))/\(∀(c i o:Nat) (k:EV->R),iE c (.ptr i o) k=k (.ptr i (o+c))) /\
 (∀(o:Ds) (h:Ab) (k:EV->Ab->R),jN o h k=k (.ptr h.next 0) (h.new o)) /\
 (∀(t:Nat) (c:IntKind) (n:Int) (h:Ab) (k:EV->Ab->R),Sb t (.int c n) h k=k (.ptr h.next 0) (h.new (.cells [.int c n] t))) /\
 (∀(t:Nat) (l:List EV) (h:Ab) (k:EV->Ab->R),Sb t (.agg l) h k=k (.ptr h.next 0) (h.new (.cells l t))) /\
 (∀(t i o:Nat) (h:Ab) (k:EV->Ab->R),Sb t (.ptr i o) h k=k (.ptr h.next 0) (h.new (.cells [.ptr i o] t))) /\
 (∀(t i o n m:Nat) (p:Bool) (h:Ab) (k:EV->Ab->R),Sb t (.slice i o n m p) h k=k (.ptr h.next 0) (h.new (.cells [.slice i o n m p] t))) /\
 (∀(t:Nat) (h:Ab) (k:EV->Ab->R),Sb t .Am h k=k (.ptr h.next 0) (h.new (.cells [.Am] t))) /\
 (∀(x:Bool) (a b:EV) (k:EV->R),kI (.bool x) a b k=Bc x (k a) (k b)) /\
 (∀(x:Bool) (k:EV->R),i_ (.bool x) k=Bc x (k (.bool false)) (k (.bool true))) /\
 (∀(x:Bool) (a b:R),gQ (.bool x) a b=Bc x a b) /\
 (∀(k:EV->R),Gi .Am k=k (.int .i64 0))/\(∀(q off A rm:Nat) (op:Bool) (k:EV->R),Gi (.slice q off A rm op) k=k (.int .i64 (A:Int))) /\
 (∀(o:Nat) (l:List EV) (k:EV->R),kH o (.tuple l) k=oB k l[o]?) /\
 (∀(h:Ab) (k:Nat->DX->R),jc h k=k h.next ⟨0,[],[],[],[]⟩)/\(∀(i:Nat) (h:Ab) (s:DX) (k:DX->R),nJ i h s k=k (s.new i h.next)) /\
 (∀(v:EV) (h:Ab) (k:EV->Ab->R),Ao (some (v,h)) k=k v h) /\
 (∀(o:Nat) (l:List EV) (k:EV->R),kL o false 0 (.agg l) k=oB k l[o]?) /\
 (∀(c G:IntKind) (n:Int) (k:EV->R),Sh c (.int G n) k=k (.int c (Cr c n))) /\
 (∀(x y:R),Bc true x y=x)/\(∀(x y:R),Bc false x y=y)/\(Bc true true false=true)/\(Bc false true false=false)/\(Bc true false true=false)/\(Bc false false true=true)/\jl true=false/\jl false=true /\
 (∀(k:EV->R) (v:EV),oB k (some v)=k v)/\(∀(h:Ab) (v:EV),Iq TT [.v v] h=some (v,h))/\(∀(h:Ab) (v w:EV),Iq TT [.v v,.v w] h=some (.tuple [v,w],h))/\(∀(h:Ab) (v w x:EV),Iq TT [.v v,.v w,.v x] h=some (.tuple [v,w,x],h)) /\
 (∀(h:Ab) (k:Ab->R),Fv [] h k=k h)/\(∀(p:EV) (r:List EV),(p::r)[0]? = some p)/\(∀(p:EV) (r:List EV) (n:Nat),(p::r)[n+1]? = r[n]?)/\(∀n:Nat,0+n=n)/\(∀(k:List EV->R) (l:List EV),oB k (some l)=k l):=
 ⟨dz,sH,fun _ _ _=>rfl,fun _ _ _ _=>rfl,fun _ _ _=>rfl,fun _ _ _ _ _=>rfl,fun _ _ _ _=>rfl,fun _ _ _ _ _=>rfl,fun _ _ _ _ _ _ _ _=>rfl,fun _ _ _=>rfl,fun _ _ _ _=>rfl,fun _ _=>rfl,fun _ _ _=>rfl,
  fun _=>rfl,fun _ _ _ _ _ _=>rfl,fun o l k=>by show oB k (kq l o)=_;rw[sK],fun _ _=>rfl,fun _ _ _ _=>rfl,fun _ _ _=>rfl,fun o l k=>by show oB k (kq l o)=_;rw[sK],fun _ _ _ _=>rfl,
  fun _ _=>rfl,fun _ _=>rfl,rfl,rfl,rfl,rfl,rfl,rfl,fun _ _=>rfl,fun _ _=>rfl,fun _ _ _=>rfl,fun _ _ _ _=>rfl,fun _ _=>rfl,fun _ _=>rfl,fun _ _ _=>rfl,bJ,fun _ _=>rfl⟩
theorem Au:
 (∀(s:DX) (i q:Nat),s.ld i q=⟨s.bg,s.nw,(Nat.shiftLeft 1 i,q)::s.Cx,s.lou,s.st⟩)/\(∀(s:DX) (i q:Nat),s.new i q=⟨s.bg,(Nat.shiftLeft 1 i,q)::s.nw,s.Cx,s.lou,s.st⟩) /\
 (∀(s:DX) (i:Nat),s.big i=⟨Nat.lor s.bg (Nat.shiftLeft 1 i),s.nw,s.Cx,s.lou,s.st⟩)/\(∀(b q:Nat),Fc b q []=true)/\(∀(b q:Nat),Yl b q []=true):=
 ⟨fun _ _ _=>rfl,fun _ _ _=>rfl,fun _ _=>rfl,fun _ _=>rfl,fun _ _=>rfl⟩
theorem Ac:Zs/\Zi /\
 (∀(g:IG) (f:EV->EV->Option EV) (x y:Int) (k:EV->R),K1 g f (.int .i64 x) (.int .i64 y) k=k (g .i64 x y)) /\
 (∀(c:IntKind) (a b:Int),Ji c a b=.bool (decide (a<b)))/\(∀(c:IntKind) (a b:Int),nE c a b=.bool (decide (a<=b))) /\
 (∀(c:IntKind) (a b:Int),mG c a b=.bool (decide (b<a)))/\(∀(c:IntKind) (a b:Int),nG c a b=.bool (decide (b<=a))) /\
 (∀(c:IntKind) (a b:Int),iH c a b=.bool (decide (a=b)))/\(∀(c:IntKind) (a b:Int),iK c a b=.bool (decide (¬a=b))) /\
 (∀(c:IntKind) (a b:Int),kJ c a b=.int c (Cr c (a+b)))/\(∀(c:IntKind) (a b:Int),nC c a b=.int c (Cr c (a-b)))/\(∀(c:IntKind) (a b:Int),oL c a b=.int c (Cr c (a*b))) /\
 (∀(b w:Bool),E4 (.bool b) w=Bc b w (jl w))/\(∀w,E4 (.tuple []) w=false):=
 ⟨dz,sH,fun _ _ _ _ _=>rfl,fun _ a b=>by rw[ο,qx],fun _ a b=>by rw[π,qx,sL];congr 1;exact eU.2 a_,
  fun _ a b=>by rw[ς,qx],fun _ a b=>by rw[τ,qx,sL];congr 1;exact eU.2 a_,
  fun _ a b=>by rw[υ,pY],fun _ a b=>by rw[FX,pY,sL],
  fun _ a b=>by rw[φ,χ],fun _ a b=>by unfold nC;rw[ψ],fun _ a b=>rfl,fun _ _=>rfl,fun _=>rfl⟩
end
def Ce(h:Ab)(s:EV)(q:Nat)(e:TypeId)(sz len:Nat)(l:List EV):Prop:=
 (len=0/\l = []/\(s=.Am\/∃b,s=.slice b 0 0 0 false))\/(0<len/\s=.slice q 0 len len true/\h.get q=some (.vec l e sz)/\l.length=len*sz)
theorem Ce.nil(h:Ab)(q:Nat)(e:TypeId)(sz:Nat):Ce h .Am q e sz 0 []:=.inl ⟨rfl,rfl,.inl rfl⟩
theorem Ce.empty(h:Ab)(b q:Nat)(e:TypeId)(sz:Nat):Ce h (.slice b 0 0 0 false) q e sz 0 []:=.inl ⟨rfl,rfl,.inr ⟨_,rfl⟩⟩
theorem Ce.frame {s:EV}{q:Nat}{e:TypeId}{len:Nat}{l:List EV}(r:Ce h s q e sz len l)(g:0<len->h'.get q=h.get q):Ce h' s q e sz len l:=by
 rcases r with r|⟨a,b,c,d⟩
 ·exact .inl r
 ·exact .inr ⟨a,b,by rw[g a];exact c,d⟩
theorem Ce.len {s:EV}{q:Nat}{e:TypeId}{len:Nat}{l:List EV}(r:Ce h s q e sz len l):lenOf s=some len:=by
 rcases r with⟨rfl,_,rfl|⟨_,rfl⟩⟩|⟨_,rfl,_⟩<;>rfl
theorem Ce.Gi {s:EV}{q:Nat}{e:TypeId}{len:Nat}{l:List EV}(r:Ce h s q e sz len l)(k:EV->R):Ev.Gi s k=k (.int .i64 (len:Int)):=by
 unfold Ev.Gi;rw[r.len];rfl
theorem Ce.plain {s:EV}{q:Nat}{e:TypeId}{len:Nat}{l:List EV}(r:Ce h s q e sz len l):s.plain=true/\s.cells = [s]:=by
 rcases r with⟨rfl,_,rfl|⟨_,rfl⟩⟩|⟨_,rfl,_⟩<;>exact⟨rfl,rfl⟩
theorem Ce.size {s:EV}{q:Nat}{e:TypeId}{len:Nat}{l:List EV}(r:Ce h s q e sz len l):l.length=len*sz:=by
 rcases r with⟨rfl,rfl,_⟩|⟨_,_,_,d⟩
 ·rw[fT];rfl
 ·exact d
theorem Ce.ix {s:EV}{q:Nat}{e:TypeId}{len:Nat}{l:List EV}(r:Ce h s q e sz len l){j:Nat}(hj:j<len)(kd:IntKind)(k:EV->R):Wn sz s (.int kd (j:Int)) k=k (.ptr q (j*sz)):=by
 rcases r with⟨rfl,_,_⟩|⟨_,rfl,_,_⟩
 ·omega
 ·rw[Lg hj,bJ]
theorem Ce.block {s:EV}{q:Nat}{e:TypeId}{len:Nat}{l:List EV}(r:Ce h s q e sz len l)(A:0<len):h.get q=some (.vec l e sz):=by
 rcases r with⟨rfl,_,_⟩|⟨_,_,c,_⟩
 ·omega
 ·exact c
theorem Ce.slice {s:EV}{q:Nat}{e:TypeId}{len:Nat}{l:List EV}(r:Ce h s q e sz len l)(A:0<len):s=.slice q 0 len len true:=by
 rcases r with⟨rfl,_,_⟩|⟨_,c,_⟩
 ·omega
 ·exact c
theorem Zd {s x:EV}{q:Nat}{e:TypeId}{len n:Nat}{l new:List EV}(r:Ce h s q e sz len l)(G:lenOf x=some n)(V:0<n)(A:n<=65536)(M:len<=1048576)(J:Lm h sz n x=some new)(hs:new.length=n*sz):
 ∃h',D9 e sz s x h=some (.slice h.next 0 (len+n) (len+n) true,h')/\Ce h' (.slice h.next 0 (len+n) (len+n) true) h.next e sz (len+n) (l++new)/\h'.next=h.next+1/\As (fun i=>0<len/\i=q) h h':=by
 have e0:Nat.beq n 0=false:=by cases n with|zero=>omega|succ n=>rfl
 rcases r with⟨rfl,rfl,rfl|⟨b,rfl⟩⟩|⟨U,rfl,O,hlen⟩
 ·refine⟨h.new (.vec new e sz),?_,.inr ⟨a_,rfl,?_,by rw[dN,bJ];exact hs⟩,rfl,As.new _ _⟩
  ·unfold D9
   simp only[G,G1,e0,Bo,J,aO A,Aj,bJ]
  ·rw[Ad];rfl
 ·have e2:Nat.ble (Nat.add 0 n) 0=false:=by cases n with|zero=>omega|succ n=>show Nat.ble (0+(n+1)) 0=false;rw[bJ];rfl
  have e3:Lm h sz 0 (.slice b 0 0 0 false)=some []:=rfl;refine⟨h.new (.vec new e sz),?_,.inr ⟨a_,rfl,?_,by rw[dN,bJ];exact hs⟩,rfl,As.new _ _⟩
  ·unfold D9
   simp only[G,G1,e0,Bo,J,e3,e2,aO A,aO M,Aj];rfl
  ·rw[Ad];rfl
 ·have L:Lm h sz len (.slice q 0 len len true)=some l:=by
   show Bc (Nat.beq len 0) (some []) (Uw h q 0 (Nat.mul len sz))=_;have:Nat.beq len 0=false:=by cases len with|zero=>omega|succ n=>rfl
   rw[this,Bo];unfold Uw lS;rw[O];exact Ak hlen
  refine⟨(h.del q).new (.vec (l++new) e sz),?_,.inr ⟨a_,rfl,?_,by rw[aF,hlen,hs,fQ]⟩,rfl,?_⟩
  ·unfold D9
   simp only[G,G1,e0,Bo,J,L,O,aO A,aO M,Aj];rw[show Nat.beq 0 0=true from rfl,Aj,cO,Aj,Bb,hlen,show Nat.beq (len*sz) (Nat.mul len sz)=true from cO _,Aj,cO,Aj,cO,Aj,pO];rfl
  ·rw[show h.next=(h.del q).next from rfl,Ad]
  ·exact(As.del h (.inl ⟨U,rfl⟩)).trans (As.new _ _)
theorem Vt {z:List EV}{e:TypeId}(G:v.plain=true)(J:z.length=sz)(A:v.cells.length=sz)(hs:sz<=65536:=by omega):Bv z e sz 1 [(0,v)] h=some (.slice h.next 0 1 1 false,h.new (.cells v.cells e)):=by
 unfold Bv;rw[aO (show Nat.mul 1 sz<=65536 by show 1*sz<=65536;omega),Aj];have L:iU (Mg sz) [(0,v)] (rep z 1)=some v.cells:=by
  show oB (sM fun off size=>Bc v.plain (Bc (Nat.beq (Fp v.cells) size) (oB _ (Mf (rep z 1) off v.cells)) none) none) (Mg sz 0)=_;show Bc v.plain (Bc (Nat.beq (Fp v.cells) sz) (oB _ (Mf (rep z 1) (Nat.mul 0 sz) v.cells)) none) none=_;rw[G,Aj,Bb,A,cO,Aj];have:rep z 1=z:=by show z++[]=z;rw[cT]
  rw[this,show Nat.mul 0 sz=0 from fT sz,Bn (by rw[J,A])];rfl
 rw[L];rfl
theorem Xb {b:Nat}{e:TypeId}{l:List EV}(hb:h.get b=some (.cells l e))(A:l.length=sz):Lm h sz 1 (.slice b 0 1 1 false)=some l:=by
 show Bc (Nat.beq 1 0) (some []) (Uw h b 0 (Nat.mul 1 sz))=_;rw[show Nat.beq 1 0=false from rfl,Bo];unfold Uw lS;rw[hb];exact Ak (by rw[A];show sz=1*sz;omega)
theorem Ny {s:EV}{q:Nat}{e:TypeId}{len:Nat}{l z:List EV}{k:EV->Ab->R}(r:Ce h s q e sz len l)(hb:HB h)(J:v.plain=true)(L:z.length=sz)(A:v.cells.length=sz)(hs:sz<=65536)(G:len<=1048575)
 (hk:∀h',Ce h' (.slice (h.next+1) 0 (len+1) (len+1) true) (h.next+1) e sz (len+1) (l++v.cells)->h'.next=h.next+2->As (fun i=>0<len/\i=q) h h'->Ok (k (.slice (h.next+1) 0 (len+1) (len+1) true) h') Q) :
 Ok (Ao (Bv z e sz 1 [(0,v)] h) fun w h=>Ao (D9 e sz s w h) k) Q:=by
 rw[Vt J L A hs,Ar];have M:Ce (h.new (.cells v.cells e)) s q e sz len l:=r.frame fun G=>Ba _ (hb q _ (r.block G))
 obtain⟨h',e1,O,U,c2⟩:=Zd (n:=1) (x:=.slice h.next 0 1 1 false) M rfl a_ a_ a_ (Xb (Ad _ _) A) (by rw[A];omega);rw[e1,Ar];exact hk h' O U ((As.new h _).trans c2)
section
noncomputable section
section
variable (fl:Bool)(T:Ij)(call b_ round:Ah)(fuel fn n:Nat)(Dl:Option Nat)(out:Nat->CD)(ret:CD)
abbrev sN(p:List Bool):Hk->Code->iI->CD->Code × iI × CD:=
 @List.rec Bool (fun _=>Hk->Code->iI->CD->Code × iI × CD) (fun _ c env k=>(c,env,k))
  (fun s _ A H c env k=>match c with
   | .seq x y=>Bc s (A H.r y env k) (A H.l x env (P8 fl T call b_ round fuel fn n Dl out ret H.r y env k))
   | .cond _ x y=>Bc s (A H.r y env k) (A H.l x env k)
   | .block id x=>A H.l x ((id,k)::env) k
   | c=>(c,env,k)) p
end
def vZ:Nat:=have _:=@Yk;have _:=@Mc;have _:=@Sb;have _:=@D9;have _:=@oO;have _:=@Zr;have _:=@builtin;have _:=@K1;have _:=@Oz;have _:=@Fv;have _:=@Bv;have _:=@Iq;0
def v7(c:Code):Bool:=match c with | .loop _=>true|_=>false
@[reducible] def cH(q:Bool)(C c r:Ah)(K g:Nat)(H:Hk):CD:=let _:=vZ;P8 q TT C c r K g (kM TT g) none mL (jz q TT g) H (N0 TT g) [] (jz q TT g)
@[reducible] def lH(q:Bool)(C c r:Ah)(K g p:Nat):Code × iI × CD:=sN q TT C c r K g (kM TT g) none mL (jz q TT g) (pathOf p) .no (N0 TT g) [] (jz q TT g)
@[reducible] def sO(q:Bool)(C c r:Ah)(K g p:Nat)(X:CD):CD:=let _:=vZ;match lH q C c r K g p with
 | (.loop x,env,_)=>jd q TT C c r K g (kM TT g) none mL (jz q TT g) x env X
 | _=>X
@[reducible] def mM(xs:List EV)(B:CD)(h:Ab):R:=let _:=vZ;B (qy xs 0 u0) (setArgs xs 0 .nil) h []
@[reducible] def j4(q:Bool)(C c r:Ah)(K g p:Nat)(env:iI)(m:Nat):CD:=oP (fun A=>jd q TT C c r K g (kM TT g) none mL (jz q TT g) (ω TT g (pathOf p)) env A) m
abbrev e0(X:Nat->A0):Nat->CD:=fun m _ _ h _=>X m h
abbrev e1(X:Nat->A1)(a:Nat):Nat->CD:=fun m A _ h _=>X m (A a) h
abbrev e2(X:Nat->A2)(a b:Nat):Nat->CD:=fun m A _ h _=>X m (A a) (A b) h
abbrev e3(X:Nat->A3)(a b c:Nat):Nat->CD:=fun m A _ h _=>X m (A a) (A b) (A c) h
abbrev e4(X:Nat->A4)(a b c d:Nat):Nat->CD:=fun m A _ h _=>X m (A a) (A b) (A c) (A d) h
abbrev e5(X:Nat->A5)(a b c d e:Nat):Nat->CD:=fun m A _ h _=>X m (A a) (A b) (A c) (A d) (A e) h
abbrev e6(X:Nat->A6)(a b c d e f:Nat):Nat->CD:=fun m A _ h _=>X m (A a) (A b) (A c) (A d) (A e) (A f) h
abbrev e7(X:Nat->A7)(a b c d e f i:Nat):Nat->CD:=fun m A _ h _=>X m (A a) (A b) (A c) (A d) (A e) (A f) (A i) h
abbrev e8(X:Nat->A8)(a b c d e f i j:Nat):Nat->CD:=fun m A _ h _=>X m (A a) (A b) (A c) (A d) (A e) (A f) (A i) (A j) h
abbrev e9(X:Nat->A9)(a b c d e f i j k:Nat):Nat->CD:=fun m A _ h _=>X m (A a) (A b) (A c) (A d) (A e) (A f) (A i) (A j) (A k) h
abbrev vj(X:Nat->mB)(a b c d e f i j k l:Nat):Nat->CD:=fun m A _ h _=>X m (A a) (A b) (A c) (A d) (A e) (A f) (A i) (A j) (A k) (A l) h
abbrev S_(X:Nat->mC)(a b c d e f i j k l n:Nat):Nat->CD:=fun m A _ h _=>X m (A a) (A b) (A c) (A d) (A e) (A f) (A i) (A j) (A k) (A l) (A n) h
end
section
variable {fl:Bool}{T:Ij}{call b_ round:Ah}{fuel fn n:Nat}{Dl:Option Nat}{out:Nat->CD}{ret:CD}
theorem v8:∀(p:List Bool) (H:Hk) (c:Code) (env:iI) (k:CD),nM fl T call b_ round fuel fn n Dl out ret p H c env k=jd fl T call b_ round fuel fn n Dl out ret (sN fl T call b_ round fuel fn n Dl out ret p H c env k).1 (sN fl T call b_ round fuel fn n Dl out ret p H c env k).2.1 (sN fl T call b_ round fuel fn n Dl out ret p H c env k).2.2
 | [],_,_,_,_=>rfl
 | s::p,H,c,env,k=>by
  cases c<;>first|rfl|exact v8 p _ _ _ _|(cases s<;>exact v8 p _ _ _ _)
end
section
variable{m d g p:Nat}{q:Bool}{C:Nat->Ah}{D c r:Ah}{E:Nat->CD}{Y:Ab->R}{B:CD}
theorem FY(A:v7 (lH q D c r K g p).1=true)(h0:E 0=fun _ _ _ _=>none)(hs:∀m G tm h ds,sO q D c r K g p (E m) G tm h ds=E (m+1) G tm h ds)(J:kN (pathOf p) .no (N0 TT g)=true):
 cH q D c r K g .no=cH q D c r K g (kr (pathOf p) (E K) .no):=by
 refine Z0 _ (pathOf p) .no (N0 TT g) [] (jz q TT g) J ?_;rw[v8];have hs:=fun m=>jQ (hs m)
 show jd q TT D c r K g (kM TT g) none mL (jz q TT g) (lH q D c r K g p).1 (lH q D c r K g p).2.1 (lH q D c r K g p).2.2=E K;unfold sO at hs;generalize lH q D c r K g p=x at A hs⊢;obtain⟨L,env,k⟩:=x;cases L<;>first|exact O1 h0 hs K|cases A
abbrev R0(disp:Nat->Option FT)(K d g:Nat)(F:Ab->R):Prop:=∀h,Ag TT disp K d false g [] h=F h
abbrev S0(disp:Nat->Option FT)(K d g:Nat)(F:Ah->Ah->Nat->Ab->R):Prop:=∀h,Ag TT disp K (d+1) false g [] h=F (Ag TT disp K d false) (Ag TT disp K d true) K h
theorem V0 {F:Ab->R}{k:Nat}{x:Ah}(e:k<=d->R0 disp K d g F)(hd:m<=d)(y:Ag TT disp K d false=x)(hk:Nat.ble k m=true:=by rfl):Ag TT disp K d false=w0 g F x:=W0 (e (lq hd hk)) y
abbrev R1(disp:Nat->Option FT)(K d g:Nat)(F:EV->Ab->R):Prop:=∀a h,Ag TT disp K d false g [a] h=F a h
abbrev S1(disp:Nat->Option FT)(K d g:Nat)(F:Ah->Ah->Nat->EV->Ab->R):Prop:=∀a h,Ag TT disp K (d+1) false g [a] h=F (Ag TT disp K d false) (Ag TT disp K d true) K a h
theorem V1 {F:EV->Ab->R}{k:Nat}{x:Ah}(e:k<=d->R1 disp K d g F)(hd:m<=d)(y:Ag TT disp K d false=x)(hk:Nat.ble k m=true:=by rfl):Ag TT disp K d false=w1 g F x:=W1 (e (lq hd hk)) y
abbrev R2(disp:Nat->Option FT)(K d g:Nat)(F:EV->EV->Ab->R):Prop:=∀a b h,Ag TT disp K d false g [a,b] h=F a b h
abbrev S2(disp:Nat->Option FT)(K d g:Nat)(F:Ah->Ah->Nat->EV->EV->Ab->R):Prop:=∀a b h,Ag TT disp K (d+1) false g [a,b] h=F (Ag TT disp K d false) (Ag TT disp K d true) K a b h
theorem V2 {F:EV->EV->Ab->R}{k:Nat}{x:Ah}(e:k<=d->R2 disp K d g F)(hd:m<=d)(y:Ag TT disp K d false=x)(hk:Nat.ble k m=true:=by rfl):Ag TT disp K d false=w2 g F x:=W2 (e (lq hd hk)) y
abbrev R3(disp:Nat->Option FT)(K d g:Nat)(F:EV->EV->EV->Ab->R):Prop:=∀a b e h,Ag TT disp K d false g [a,b,e] h=F a b e h
abbrev S3(disp:Nat->Option FT)(K d g:Nat)(F:Ah->Ah->Nat->EV->EV->EV->Ab->R):Prop:=∀a b e h,Ag TT disp K (d+1) false g [a,b,e] h=F (Ag TT disp K d false) (Ag TT disp K d true) K a b e h
theorem V3 {F:EV->EV->EV->Ab->R}{k:Nat}{x:Ah}(e:k<=d->R3 disp K d g F)(hd:m<=d)(y:Ag TT disp K d false=x)(hk:Nat.ble k m=true:=by rfl):Ag TT disp K d false=w3 g F x:=W3 (e (lq hd hk)) y
abbrev R4(disp:Nat->Option FT)(K d g:Nat)(F:EV->EV->EV->EV->Ab->R):Prop:=∀a b e f h,Ag TT disp K d false g [a,b,e,f] h=F a b e f h
abbrev S4(disp:Nat->Option FT)(K d g:Nat)(F:Ah->Ah->Nat->EV->EV->EV->EV->Ab->R):Prop:=∀a b e f h,Ag TT disp K (d+1) false g [a,b,e,f] h=F (Ag TT disp K d false) (Ag TT disp K d true) K a b e f h
theorem V4 {F:EV->EV->EV->EV->Ab->R}{k:Nat}{x:Ah}(e:k<=d->R4 disp K d g F)(hd:m<=d)(y:Ag TT disp K d false=x)(hk:Nat.ble k m=true:=by rfl):Ag TT disp K d false=w4 g F x:=W4 (e (lq hd hk)) y
abbrev R5(disp:Nat->Option FT)(K d g:Nat)(F:EV->EV->EV->EV->EV->Ab->R):Prop:=∀a b e f i h,Ag TT disp K d false g [a,b,e,f,i] h=F a b e f i h
abbrev S5(disp:Nat->Option FT)(K d g:Nat)(F:Ah->Ah->Nat->EV->EV->EV->EV->EV->Ab->R):Prop:=∀a b e f i h,Ag TT disp K (d+1) false g [a,b,e,f,i] h=F (Ag TT disp K d false) (Ag TT disp K d true) K a b e f i h
theorem V5{k:Nat}{x:Ah}(e:k<=d->R5 disp K d g F)(hd:m<=d)(y:Ag TT disp K d false=x)(hk:Nat.ble k m=true:=by rfl):Ag TT disp K d false=w5 g F x:=W5 (e (lq hd hk)) y
abbrev S6(disp:Nat->Option FT)(K d g:Nat)(F:Ah->Ah->Nat->EV->EV->EV->EV->EV->EV->Ab->R):Prop:=∀a b e f i j h,Ag TT disp K (d+1) false g [a,b,e,f,i,j] h=F (Ag TT disp K d false) (Ag TT disp K d true) K a b e f i j h
theorem rf(A:jF (N0 TT g)=q)(L:Ag TT disp K d false=c)(M:Ag TT disp K d true=r)(e:c=D)(G:cH q D c r K g .no=B)(hk:mN TT g (Fp xs)=true:=by kernel_rfl)(J:∀h,mM xs B h=Y h:=by intros;kernel_rfl)(h:Ab):kO TT c r K g xs h=Y h:=by
 rw[Α hk,A];exact(congrArg (fun C=>mM xs (cH q C c r K g .no) h) e).trans ((congrArg (fun B=>mM xs B h) G).trans (J h))
theorem rm(A:jF (N0 TT g)=q)(G:Ag TT disp K d false=c)(J:Ag TT disp K d true=r)(H:Cf disp)(e:c=D)(L:P8 q TT D c r K g (kM TT g) none mL (jz q TT g) .no (N0 TT g) [] (jz q TT g)=B)(M:Avt g=true:=by kernel_rfl)(hk:mN TT g (Fp xs)=true:=by kernel_rfl)(O:∀h,mM xs B h=Y h:=by intros;kernel_rfl)(h:Ab):Ag TT disp K (d+1) false g xs h=Y h:=by
 subst G J;have e0:Ag TT disp K (d+1) false g xs h = @Option.rec FT (fun _=>oQ) (kO TT (Ag TT disp K d false) (Ag TT disp K d true) K g) (fun F=>F (Ag TT disp K d false) (Ag TT disp K d true) K) (disp g) xs h:=rfl;rw[e0,H.plain g M];exact rf A rfl rfl e L hk O h
theorem rd(A:Ag TT disp K d false=c)(G:Ag TT disp K d true=r)(H:Cf disp)(e:c=D)(J:Avt g=true:=by kernel_rfl)(hk:mN TT g (Fp xs)=true:=by kernel_rfl)(L:∀h,mM xs (cH (jF (N0 TT g)) D c r K g .no) h=Y h:=by intros;kernel_rfl)(h:Ab):Ag TT disp K (d+1) false g xs h=Y h:=rm rfl A G H e rfl J hk L h
theorem ld(G:Ag TT disp K d false=c)(J:Ag TT disp K d true=r)(H:Cf disp)(e:c=D)(p:Nat)(E:Ah->Ah->Nat->CD)(h0:E c r 0=fun _ _ _ _=>none:=by rfl)(L:Avt g=true:=by kernel_rfl)(hk:mN TT g (Fp xs)=true:=by kernel_rfl)(M:kN (pathOf p) .no (N0 TT g)=true:=by kernel_rfl)
 (O:v7 (lH (jF (N0 TT g)) D c r K g p).1=true:=by kernel_rfl) (hs:∀m A tm h ds,sO (jF (N0 TT g)) D c r K g p (E c r m) A tm h ds=E c r (m+1) A tm h ds:=by intros;kernel_rfl)
 (U:∀h,mM xs (cH (jF (N0 TT g)) D c r K g (kr (pathOf p) (E c r K) .no)) h=Y h:=by intros;kernel_rfl) (h:Ab):Ag TT disp K (d+1) false g xs h=Y h:=rm rfl G J H e (FY O h0 hs M) L hk U h
theorem rl(H:Cf disp)(hd:m+1<=d)(e:∀d,m<=d->Ag TT disp K d false=C d:=by exact fun _ _=>rfl)(A:Avt g=true:=by kernel_rfl)(hk:mN TT g (Fp xs)=true:=by kernel_rfl)(G:jF (N0 TT g)=false:=by kernel_rfl)(J:∀d c r h,mM xs (cH false (C d) c r K g .no) h=Y h:=by intros;kernel_rfl)(h:Ab):Ag TT disp K d false g xs h=Y h:=by
 obtain⟨d,rfl⟩:∃e,d=e+1:=⟨d-1,a_⟩;exact rm G rfl rfl H (e d (eH hd)) rfl A hk (J d _ _) h
theorem ll(H:Cf disp)(hd:m+1<=d)(e:∀d,m<=d->Ag TT disp K d false=C d)(p:Nat)(E:Nat->CD)(h0:E 0=fun _ _ _ _=>none:=by rfl)(G:Avt g=true:=by kernel_rfl)(hk:mN TT g (Fp xs)=true:=by kernel_rfl)(J:jF (N0 TT g)=false:=by kernel_rfl)(L:kN (pathOf p) .no (N0 TT g)=true:=by kernel_rfl)
 (M:∀d c r,v7 (lH false (C d) c r K g p).1=true:=by intros;kernel_rfl) (hs:∀d c r m A tm h ds,sO false (C d) c r K g p (E m) A tm h ds=E (m+1) A tm h ds:=by intros;kernel_rfl)
 (O:∀d c r h,mM xs (cH false (C d) c r K g (kr (pathOf p) (E K) .no)) h=Y h:=by intros;kernel_rfl) (h:Ab):Ag TT disp K d false g xs h=Y h:=by
 obtain⟨d,rfl⟩:∃e,d=e+1:=⟨d-1,a_⟩;exact rm J rfl rfl H (e d (eH hd)) (FY (M d _ _) h0 (hs d _ _) L) G hk (O d _ _) h
theorem rr {l n:Nat}{st:LoopState}{j:Option Code}{tm A:Ay}{ps:List Tmp}{a b:Code}{X:R}(G:Ag TT disp K d false=c)(J:Ag TT disp K d true=r)(e:c=D)(L:h.get l=some (.loop st j g n tm ps a b d0))(hs:Vy ps xs n tm=some A)
 (M:v_ TT D c r K l g n a b (qz n ps xs (tmp tm)) A h []=X):Ag TT disp K (d+1) true l xs h=X:=by
 subst G J;rw[Β];unfold oR;rw[L];simp only;rw[hs];simp only;exact(congrArg (fun C=>v_ TT C (Ag TT disp K d false) (Ag TT disp K d true) K l g n a b (qz n ps xs (tmp tm)) A h []) e).trans M
end
end
section
noncomputable section
section
variable (c r:Ah)(K l:Nat)(k0:A0)(k1:A1)(k2:A2)(k3:A3)(k4:A4)(k5:A5)(k6:A6)(k7:A7)(k8:A8)(k9:A9)(oS:mB)(oT:mC)(oU:nv)(m0:B0)(m1:B1)(m2:B2)(m3:B3)(m4:B4)(m5:B5)(m6:B6)(m7:B7)(m8:B8)(m9:B9)(oV:nt)(oW:nu)(oX:ny)(base:Nat)(s:DX)(tm:Ay)(a b d e f g i j n o p q t u w x y z aa ab ad ae af ag ai aj an ao ap aq au aw ax ay az ba bb bd be bf bg bi bj bn bo bp bq bt bu bw bx bz da db dd de df dg di dj dn dp dq dt du dw dx dy dz ea eb ed ee ef eg ei ej en eo ep eq et eu ew ex ey ez fa fb fd fe ff fg fi fj fn fo fp fq ft fu fw fx fy fz ga gb gd ge gf gg gi gj gn go gp gq gt gu gw gx gy gz ia ib ie ig ii ij io ip iq it iu iw ix iy iz ja jb:EV)(h:Ab)(ds:List Nat)
def Zm:Ru K R:=(.mk:Sg 0x122203 [a] h).F
def Eu:Ru K R:=(.mk:Sg 0x122203 [a] h).F
def Dq:Ru K R:=(.mk:Sg 0x122231fe314204209e9 [a] h).F
def Ci:Ru K R:=(.mk:Sg 0x1222f9e3 [a] h).F
def T4:Ru K R:=
 some (a,h)
def Tw:Ru K R:=
 mF d (.int .i64 2) fun e=>
 k3 a b e h
def Ty:R:=
 Je b fun e=>
 Tw K k3 a e d h
def Gc(K:Nat):Nat->A3
 | 0=>fun _ _ _ _=>none
 | m+1=>fun a b d h=>
  oE 3 a h fun e=>
  cE Ji .lss 3 d e
  (Ty K (Gc K m) a b d h)
  (T4 K b h)
def K6:R:=(.mk:Sg 0x10010230024ee9 [a] h [K3 (Gc K K)]).F
def Ns:Ru K R:=(.mk:Sg 0x122213e203 [a] h).F
def Ox:Ru K R:=(.mk:Sg 0x122213 [a] h).F
def Of:Ru K R:=
 gJ a b fun d=>
 some (d,h)
def T7:R:=(.mk:Sg 0x120220024200c0221e314c2a430be [a,b,d] h [Ea (Of K)]).F
def Tk:R:=(.mk:Sg 0x1202430024630010223e414d2a00223e204214e9 [a] h [K3 (T7 K)]).F
def Qd:Ru K R:=(.mk:Sg 0x1222101de3023003e1021ee3021de234209e9 [a] h).F
def My:Ru K R:=(.mk:Sg 0x122c021de231fe344204209e9 [a] h).F
def X7:Ru K R:=(.mk:Sg 0x1223023003e [a] h).F
def Oc:R:=(.mk:Sg 0x121002221ce3023003e2101ee00e0023301e [a] h [Ew (X7 K)]).F
def wa:Ru K R:=
 gJ a b fun d=>
 some (d,h)
def qA:R:=(.mk:Sg 0x1202200232004321e82a10223e [a,b] h [Ea (wa K)]).F
def Ut:Ru K R:=(.mk:Sg 0x1002200e2a2e921007e [a] h [] [cu1 (fun a=>Bt (D1 [(0,1),(1,1),(2,1),(3,1),(4,1)]) [.Am,.int .i64 0,.int .i64 0,.int .i64 0,.bool false] [(1,a)])]).F
def Us:R:=(.mk:Sg 0x1310003e070200e6284309e [a,b,d] h [Ew (Ut K)]).F
def L6:R:=(.mk:Sg 0x1202330023430015e0322ea2d10220e [a] h [K3 (Us K)]).F
def FZ:Ru K R:=(.mk:Sg 0x1002200e2b9e921007e2101 [a] h [Ew sP] [cu1 (fun b=>Bt (D1 [(0,1)]) [.Aea] [(0,b)])]).F
def F_:R:=(.mk:Sg 0x1310003e070200e6284309e [a,b,d] h [Ew (FZ K)]).F
def sQ:R:=(.mk:Sg 0x1202330023430001322ea2d10220e [a] h [K3 (F_ K)] [] [] [(.int .i64 4096)]).F
def Pb:R:=(.mk:Sg 0x122251ee231fe08e4407e041021ee0123603e2721120ae231ee9301fea21fed0420ae521ee621fe1021ee80421032e77665606b3021ee231ee343410e211110e0ee209e9 [a] h [Ew (My K),builtin TT .min #[3,3]] [] [] [(.int .u64 1)]).F
def E8:Ru K R:=(.mk:Sg 0x1222101203 [a] h [Ew sR]).F
def GA:R:=(.mk:Sg 0x122210142116e263 [a,b] h [Ew (E8 K)]).F
def U5:R:=(.mk:Sg 0x1432000023285409e [a,b,d,e] h [Ea (GA K)]).F
def U2:R:=(.mk:Sg 0x12024340025764002623e213e36301e2d00320e [a,b] h [Vr (U5 K)]).F
def GB:Ru K R:=
 some (a,h)
def Mu:Ru K R:=
 Je g fun i=>
 k6 a b d e f i h
def Hc(K:Nat)(k6:A6)(base:Nat)(s:DX)(a:EV)(b:EV)(d:EV)(e:EV)(f:EV)(g:EV)(i:EV)(j:EV)(n:EV)(h:Ab):R:=
 gJ j n fun o=>
 gQ o
 (Mu K k6 a b e f g i h)
 (Mu K k6 a b d f g i h)
def Hb:R:=
 iF j
 (gX n o fun p=>
 Hc K k6 base s a b d e f g i j p h)
 (Hc K k6 base s a b d e f g i j tU h)
def Ng:R:=
 gP o
 (Mc 8 255 s h (fun h=>(E8 K f h)) fun p h s=>
 jv 6 12 3711 base a s h fun s q=>
 Wn 1 q d fun t=>
 O0 15 32383 base t s fun s=>Ec t h fun u=>
 Mc 16 65535 s h (fun h=>(E8 K u h)) fun w h s=>
 jw p w fun x=>
 Hb K k6 base s a b d e g i j n o x h)
 (Hb K k6 base s a b d e g i j n o tU h)
def GC:R:=
 mD 1 e g h fun i=>
 jc h fun base s=>
 ko g b fun j=>
 iF j
 (jO d (.int .i64 0) fun n=>
 Ng K k6 base s a b d g i e f g j n h)
 (Ng K k6 base s a b d g i e f g j tU h)
def He(K:Nat):Nat->A6
 | 0=>fun _ _ _ _ _ _ _=>none
 | m+1=>fun a b d e f g h=>
  cE Ji .lss 3 g f
  (GC K (He K m) a b d e f g h)
  (GB K d h)
def Jy:R:=
 fE 6 a h fun d=>
 Gi d fun e=>
 He K K a b (.int .i64 (-1)) d e (.int .i64 0) h
def Rz:Ru K R:=(.mk:Sg 0x122233 [a] h).F
def GD:Ru K R:=
 gJ a b fun d=>
 some (d,h)
def K9:R:=(.mk:Sg 0x1202200232005321e82a3223e [a,b,d] h [Ea (GD K)]).F
def GF:Ru K R:=(.mk:Sg 0x122233003e314 [a,b] h).F
def Kl:R:=
 gX d e fun f=>
 gQ f
 (some ((.int .i64 (-1)),h))
 (GF K a b h)
def De:R:=(.mk:Sg 0x12023541025684102723e210136503e2d00420e209e9 [a,b] h [Ew (Dq K),Vr (Kl K)]).F
def Vi:Ru K (Ru r R):=(.mk:Sg 0x1002321627ff3fb17e61c27431f0e872101718e436e5406b200e4111e0ee [a,b,d] h [Ew (fun f=>Bv (List.replicate 4 (.int .i64 0)++List.replicate 64 (.int .u8 0)) 34 68 1 [(0,f)]),c 89]).F
def GG:Ru K (Ru r (Ru c R)):=
 nB d (.int .i64 1) fun e=>
 k3 a b e h
def Pd:R:=
 gJ e f fun g=>
 gQ g
 (GG c r K k3 a b d h)
 (Vi c r K a b d h)
def Iy(c:Ah)(r:Ah)(K:Nat):Nat->A3
 | 0=>fun _ _ _ _=>none
 | m+1=>fun a b d h=>
  jw d (.int .i64 0) fun e=>
  iF e
  (fE 1 a h fun f=>
  nB d (.int .i64 1) fun g=>
  Wn 68 f g fun i=>
  oE 0 i h fun j=>
  oE 0 b h fun n=>
  jw j n fun o=>
  Pd c r K (Iy c r K m) a b d e o h)
  (Pd c r K (Iy c r K m) a b d e tU h)
def GH:R:=(.mk:Sg 0x1254300213e213 [a,b] h [K3 (Iy c r K K)]).F
def GI:R:=(.mk:Sg 0x17821007e0230123601e213e61300e0232820fe2101236e5314e9 [a,b] h [Ew (Tk K),Ea (GH c r K)] [] [] [(.int .i64 256)]).F
def Si:Ru K R:=
 gJ a b fun d=>
 some (d,h)
def Et:R:=(.mk:Sg 0x12022102521010224e82116e6fae302e2a00223e5220126521c [a,b] h [Ea (De K),Ea (Si K)]).F
def Ka:R:=(.mk:Sg 0x122251ee231fe512e6410e484010e1021ee3101170ee [a,b] h [Ew (Oc K)]).F
def Io:R:=(.mk:Sg 0x1706e200206e2005723301e20ae231ee9301fec21fe01e0420ae521ee821fe1021eea04c021de231fe7446043021ee231ee34421424ee9 [a] h [Ea (Ka K)]).F
def GJ:Ru K R:=(.mk:Sg 0x1002200e [a] h).F
def GK:Ru K R:=
 Je e fun f=>
 k4 a b d f h
def GL:R:=(.mk:Sg 0x1a976420321660c232115101303 [a,b,d,e,f] h [Ew (fun d=>Bv [.F7] 128 1 1 [(0,d)]),Ea (D9 128 1),Vr (GK K k4)]).F
def GM:R:=(.mk:Sg 0x187365510270200e500218e801e20ce2101 [a,b,d,e] h [Ew (L6 K),cl5 (GL K k4)]).F
def qB(K:Nat):Nat->A4
 | 0=>fun _ _ _ _ _=>none
 | m+1=>fun a b d e h=>
  cE Ji .lss 3 e d
  (GM K (qB K m) a b d e h)
  (GJ K b h)
def GN:R:=
 Bt (D1 [(0,1),(1,1),(2,1),(3,1),(4,1)]) [.Am,(.int .i64 0),(.int .i64 0),(.int .i64 0),(.bool false)] [(1,b),(2,d)] fun e=>
 Sb 131 e h fun f h=>
 qB K K b f a (.int .i64 0) h
def GO:R:=(.mk:Sg 0x154330003e070200e6286509e [a,b,d,e,f] h [K3 (GN K)]).F
def sT:R:=(.mk:Sg 0x12026545202487652020fe15e0621102e2d20fe2101 [a,b,d] h [Ew (fun a=>qA K a (.int .i64 512)),Ea (qA K),cl5 (GO K)]).F
def GP:R:=(.mk:Sg 0x12225221261ee2421131013033003e [a,b] h [Ew (fun a=>Jy K a (.int .i64 (-1))),Ea (U2 K),builtin TT .min #[3,3]]).F
def GQ:Ru K R:=
 Je f fun g=>
 k5 a b d e g h
def GR:R:=(.mk:Sg 0x198725510251de210164116e [a,b,d,e,f] h [Ew (E8 K),cl5 (GQ K k5)]).F
def Lp(K:Nat):Nat->A5
 | 0=>fun _ _ _ _ _ _=>none
 | m+1=>fun a b d e f h=>
  cE Ji .lss 3 f e
  (GR K (Lp K m) a b d e f h)
  (GP K a b h)
def Ik:R:=(.mk:Sg 0x10023004500213e263 [a] h [cl5 (Lp K K)]).F
def G7:Ru K R:=
 gJ a b fun d=>
 some (d,h)
def G9:R:=(.mk:Sg 0x12022102421015e0c0230135402e2a430be [a,b,d] h [K3 (K9 K),Ea (G7 K)]).F
def G8:R:=(.mk:Sg 0x12023310245310c000230134403e2a430be [a,b,d] h [K3 (K9 K),K3 (G9 K)]).F
def G3:R:=(.mk:Sg 0x120233102453102101334d2a430be [a,b,d] h [Ew (fun f=>K9 K f (.int .i64 1) (.int .i64 256)),K3 (G8 K)]).F
def G6:R:=(.mk:Sg 0x1202331024531015e0c0230132403e2a430be [a,b,d] h [K3 (K9 K),K3 (G3 K)]).F
def U0:R:=(.mk:Sg 0x1202431024631015e010230141403e2ad0602301204209e9 [a] h [K3 (K9 K),K3 (G6 K)]).F
def Im(K:Nat)(base:Nat)(s:DX)(a:EV)(b:EV)(h:Ab):R:=
 gJ a b fun d=>
 some (d,h)
def Tx:R:=
 jc h fun base s=>
 O0 0 0 base a s fun s=>Q4 6 a h fun b=>
 Mc 1 1 s h (fun h=>(K6 K b h)) fun d h s=>
 gZ 2 3 4 base a s h fun s e=>
 jZ d e fun f=>
 iF f
 (gZ 3 7 127 base a s h fun s g=>
 lR (.int .i64 2) g fun i=>
 gZ 2 10 575 base a s h fun s j=>
 O0 11 63 base a s fun s=>Q4 6 a h fun n=>
 Mc 12 2111 s h (fun h=>(Io K n h)) fun o h s=>
 lR j o fun p=>
 jZ i p fun q=>
 Im K base s f q h)
 (Im K base s f tU h)
def Br:R:=
 gX b d fun e=>
 gQ e
 (some ((.bool false),h))
 (Tx K a h)
def Bu:R:=
 gX b d fun e=>
 gP e
 (oE 5 a h fun f=>
 jw f (.int .i64 64) fun g=>
 Br K a e g h)
 (Br K a e tU h)
def Bz:R:=
 gX b d fun e=>
 gP e
 (oE 5 a h fun f=>
 jO f (.int .i64 4) fun g=>
 Bu K a e g h)
 (Bu K a e tU h)
def Ch:R:=
 gX b d fun e=>
 gP e
 (oE 4 a h fun f=>
 jw f (.int .i64 4) fun g=>
 Bz K a e g h)
 (Bz K a e tU h)
def Cs:R:=
 gX b d fun e=>
 gP e
 (oE 4 a h fun f=>
 jO f (.int .i64 0) fun g=>
 Ch K a e g h)
 (Ch K a e tU h)
def Cy:R:=
 gX b d fun e=>
 gP e
 (oE 3 a h fun f=>
 jw f (.int .i64 256) fun g=>
 Cs K a e g h)
 (Cs K a e tU h)
def Dg:R:=
 gX b d fun e=>
 gP e
 (oE 3 a h fun f=>
 jO f (.int .i64 1) fun g=>
 Cy K a e g h)
 (Cy K a e tU h)
def D4:R:=
 gX b d fun e=>
 gP e
 (oE 2 a h fun f=>
 jw f (.int .i64 64) fun g=>
 Dg K a e g h)
 (Dg K a e tU h)
def Ep:R:=
 gX b d fun e=>
 gP e
 (oE 2 a h fun f=>
 jO f (.int .i64 4) fun g=>
 D4 K a e g h)
 (D4 K a e tU h)
def F4:R:=
 gX b d fun e=>
 gP e
 (oE 1 a h fun f=>
 jw f (.int .i64 64) fun g=>
 Ep K a e g h)
 (Ep K a e tU h)
def Hs:R:=
 gX b d fun e=>
 gP e
 (oE 1 a h fun f=>
 jO f (.int .i64 1) fun g=>
 F4 K a e g h)
 (F4 K a e tU h)
def Hz:R:=
 Sb 92 a h fun b h=>
 oE 0 b h fun d=>
 jO d (.int .i64 3) fun e=>
 gP e
 (oE 0 b h fun f=>
 jw f (.int .i64 8) fun g=>
 Hs K b e g h)
 (Hs K b e tU h)
def GS:Ru K R:=(.mk:Sg 0x1002200e268e9232007e001 [a] h [cl0 sU] [cu2 (fun a b=>Bt (D1 [(0,1),(1,1),(2,1),(3,1)]) [.F7,.Am,.Am,.Aku] [(0,a),(3,b)])]).F
def qC:R:=(.mk:Sg 0x13110270200e500218e801e20ce432301 [a,b,d] h [K3 (sT K),Ew (GS K)]).F
def L0(K:Nat)(base:Nat)(s:DX)(a:EV)(b:EV)(h:Ab):R:=
 gJ a b fun d=>
 some (d,h)
def P7:R:=
 gJ b d fun e=>
 iF e
 (gZ 3 11 2047 base a s h fun s f=>
 lR (.int .i64 2) f fun g=>
 gZ 2 14 9215 base a s h fun s i=>
 O0 15 1023 base a s fun s=>Q4 6 a h fun j=>
 Mc 16 33791 s h (fun h=>(Pb K j h)) fun n h s=>
 lR i n fun o=>
 jZ g o fun p=>
 L0 K base s e p h)
 (L0 K base s e tU h)
def Mq:R:=
 Sb 23 a h fun b h=>
 jc h fun base s=>
 O0 0 0 base b s fun s=>Q4 6 b h fun d=>
 Mc 1 1 s h (fun h=>(U0 K d h)) fun e h s=>
 iF e
 (O0 3 7 base b s fun s=>Q4 6 b h fun f=>
 Mc 4 15 s h (fun h=>(Qd K f h)) fun g h s=>
 gZ 2 6 39 base b s h fun s i=>
 jZ g i fun j=>
 P7 K base s b e j h)
 (P7 K base s b e tU h)
def GU:Ru K R:=(.mk:Sg 0x1002200e [a] h).F
def GV:Ru K R:=
 Je e fun f=>
 k4 a b d f h
def GW:R:=(.mk:Sg 0x1a976420321666c232115101363 [a,b,d,e,f] h [Ew (fun d=>Bv [.F7] 166 1 1 [(0,d)]),Ea (D9 166 1),Vr (GV K k4)]).F
def GX:R:=(.mk:Sg 0x198376510270200e500218e801e20ce2101214 [a,b,d,e] h [Ew (sQ K),cl5 (GW K k4)]).F
def qD(K:Nat):Nat->A4
 | 0=>fun _ _ _ _ _=>none
 | m+1=>fun a b d e h=>
  cE Ji .lss 3 e d
  (GX K (qD K m) a b d e h)
  (GU K b h)
def GY:R:=(.mk:Sg 0x100236400504297e921007e265 [a] h [Vr (qD K K)] [cu1 (fun b=>Bt (D1 [(0,6),(6,1)]) [.int .i64 0,.int .i64 0,.int .i64 0,.int .i64 0,.int .i64 0,.int .i64 0,.Am] [(0,b)])]).F
def oY:R:=(.mk:Sg 0x1511009e070200e62820fe2101265209e9 [a] h [Ew (Mq K),Ew (GY K)]).F
def GZ:R:=(.mk:Sg 0x1002200e263e9818e2a5675007e22211618e21002e57565504b5f2e5502b365301b0ee [a,b,d,e] h [Ew (Dq K),Ea (Pr [.int .i64 0] 3)] [cu5 (fun a f g e n=>Bt (D1 [(0,1),(1,6),(7,256),(263,1),(264,1),(265,1),(266,1),(267,1)]) ([.F7]++List.replicate 6 (.int .i64 0)++List.replicate 256 (.int .u32 0)++[.F7]++[.Am]++List.replicate 3 (.int .i64 0)) [(0,a),(1,f),(2,g),(3,e),(4,n),(5,.int .i64 (-1)),(6,.int .i64 (-1))])]).F
def Qm(K:Nat)(base:Nat)(s:DX)(a:EV)(b:EV)(d:EV)(e:EV)(f:EV)(g:EV)(h:Ab):R:=
 gX f g fun i=>
 gQ i
 (some (.tuple [.F7,(.int .i64 20)],h))
 (GZ K a b d e h)
def Z8:R:=
 gX f g fun i=>
 gP i
 (Mc 12 4095 s h (fun h=>(Eu K a h)) fun j h s=>
 Mc 13 8191 s h (fun h=>(Ox K j h)) fun n h s=>
 gZ 2 15 18431 base b s h fun s o=>
 ko n o fun p=>
 Qm K base s a b d e i p h)
 (Qm K base s a b d e i tU h)
def qE:R:=
 Sb 23 b h fun e h=>
 Sb 73 d h fun f h=>
 Q4 6 e h fun g=>
 Ao (oY K g h) fun i h=>
 mE i fun j n=>
 jc h fun base s=>
 K1 iK (bin TT .neq 38) n (.int .i64 0) fun o=>
 gP o
 (Mc 4 15 s h (fun h=>(Eu K a h)) fun p h s=>
 Mc 5 31 s h (fun h=>(Ns K p h)) fun q h s=>
 O0 6 7 base e s fun s=>Q4 6 e h fun t=>
 Mc 7 127 s h (fun h=>(Dq K t h)) fun u h s=>
 ko q u fun w=>
 Z8 K base s a e f j o w h)
 (Z8 K base s a e f j o tU h)
end
variable{d:Nat}(H:Cf disp)
include H
theorem Γ(hd:1<=d):R1 disp K d 14 (Zm K):=fun _=>rl H hd
theorem Qr(hd:1<=d):R1 disp K d 21 (Eu K):=fun _=>rl H hd
theorem Fs(hd:1<=d):R1 disp K d 26 (Dq K):=fun _=>rl H hd
theorem H6(hd:1<=d):R1 disp K d 40 (Ci K):=fun _=>rl H hd
theorem Δ(hd:1<=d):R1 disp K d 72 (K6 K):=fun _=>ll H hd (fun _ _=>rfl) 51 (e3 (Gc K) 1 3 4)
theorem Ys(hd:1<=d):R1 disp K d 76 (Ns K):=fun _=>rl H hd
theorem G'(hd:1<=d):R1 disp K d 77 (Ox K):=fun _=>rl H hd
theorem Ε(hd:1<=d):R1 disp K d 88 (Tk K):=fun _=>rl H hd
theorem G_(hd:1<=d):R1 disp K d 101 (Qd K):=fun _=>rl H hd
theorem Y4(hd:1<=d):R1 disp K d 107 (My K):=fun _=>rl H hd
theorem Ζ(hd:1<=d):R1 disp K d 113 (Oc K):=fun _=>rl H hd
theorem Η(hd:1<=d):R2 disp K d 114 (qA K):=fun _ _=>rl H hd
theorem Θ(hd:1<=d):R1 disp K d 115 (L6 K):=fun _=>rl H hd
theorem Ι(hd:1<=d):R1 disp K d 116 (sQ K):=fun _=>rl H hd
theorem Κ(hd:2<=d):R1 disp K d 118 (Pb K):=fun _=>rl H hd fun d hd=>V1 (Y4 H) hd<|rfl
theorem Kq(hd:1<=d):R1 disp K d 123 (E8 K):=fun _=>rl H hd
theorem Λ(hd:2<=d):R2 disp K d 124 (U2 K):=fun _ _=>rl H hd fun d hd=>V1 (Kq H) hd<|rfl
theorem Y9(hd:2<=d):R2 disp K d 125 (Jy K):=fun _ _=>ll H hd (fun d hd=>V1 (Kq H) hd<|rfl) 51 (e6 (He K) 0 1 5 11 12 13)
theorem Μ(hd:1<=d):R1 disp K d 131 (Rz K):=fun _=>rl H hd
theorem HA(hd:1<=d):R3 disp K d 152 (K9 K):=fun _ _ _=>rl H hd
theorem Ez(hd:2<=d):R2 disp K d 8 (De K):=fun _ _=>rl H hd fun d hd=>V1 (Fs H) hd<|rfl
theorem Ν(hd:1<=d):S2 disp K d 50 GI:=fun _ _=>ld rfl rfl H (V1 (Ε H) hd<|rfl) 55 (fun c r=>e3 (Iy c r K) 0 3 5)
theorem Gr(hd:3<=d):R2 disp K d 65 (Et K):=fun _ _=>rl H hd fun d hd=>V2 (Ez H) hd<|rfl
theorem Ξ(hd:2<=d):R1 disp K d 73 (Io K):=fun _=>rl H hd fun d hd=>V1 (Ζ H) hd<|rfl
theorem Ο(hd:2<=d):R3 disp K d 74 (sT K):=fun _ _ _=>ll H hd (fun d hd=>V2 (Η H) hd<|V1 (Θ H) hd<|rfl) 103 (e4 (qB K) 1 8 23 24)
theorem HC(hd:3<=d):R1 disp K d 86 (Ik K):=fun _=>ll H hd (fun d hd=>V2 (Y9 H) hd<|V2 (Λ H) hd<|V1 (Kq H) hd<|rfl) 51 (e5 (Lp K) 0 3 9 10 11)
theorem Ρ(hd:2<=d):R1 disp K d 117 (U0 K):=fun _=>rl H hd fun d hd=>V3 (HA H) hd<|rfl
theorem Τ(hd:3<=d):R1 disp K d 33 (Hz K):=fun _=>rl H hd fun d hd=>V1 (Δ H) hd<|V1 (Ξ H) hd<|rfl
theorem Υ(hd:3<=d):R3 disp K d 34 (qC K):=fun _ _ _=>rl H hd fun d hd=>V3 (Ο H) hd<|rfl
theorem Uj(hd:3<=d):R1 disp K d 78 (Mq K):=fun _=>rl H hd fun d hd=>V1 (Ρ H) hd<|V1 (G_ H) hd<|V1 (Κ H) hd<|rfl
theorem Φ(hd:4<=d):R1 disp K d 75 (oY K):=fun _=>ll H hd (fun d hd=>V1 (Uj H) hd<|V1 (Ι H) hd<|rfl) 103 (e4 (qD K) 1 4 14 15)
theorem Χ(hd:5<=d):R3 disp K d 35 (qE K):=fun _ _ _=>rl H hd fun d hd=>V1 (Φ H) hd<|V1 (Qr H) hd<|V1 (Ys H) hd<|V1 (Fs H) hd<|V1 (G' H) hd<|rfl
end
end
section
noncomputable section
section
variable (c r:Ah)(K l:Nat)(k0:A0)(k1:A1)(k2:A2)(k3:A3)(k4:A4)(k5:A5)(k6:A6)(k7:A7)(k8:A8)(k9:A9)(oS:mB)(oT:mC)(oU:nv)(m0:B0)(m1:B1)(m2:B2)(m3:B3)(m4:B4)(m5:B5)(m6:B6)(m7:B7)(m8:B8)(m9:B9)(oV:nt)(oW:nu)(oX:ny)(base:Nat)(s:DX)(tm:Ay)(a b d e f g i j n o p q t u w x y z aa ab ad ae af ag ai aj an ao ap aq au aw ax ay az ba bb bd be bf bg bi bj bn bo bp bq bt bu bw bx bz da db dd de df dg di dj dn dp dq dt du dw dx dy dz ea eb ed ee ef eg ei ej en eo ep eq et eu ew ex ey ez fa fb fd fe ff fg fi fj fn fo fp fq ft fu fw fx fy fz ga gb gd ge gf gg gi gj gn go gp gq gt gu gw gx gy gz ia ib ie ig ii ij io ip iq it iu iw ix iy iz ja jb:EV)(h:Ab)(ds:List Nat)
def Bw:Ru K R:=(.mk:Sg 0x122203 [a] h).F
def yI:Ru K R:=(.mk:Sg 0x12242116e273 [a,b] h).F
def Zy:R:=(.mk:Sg 0x1432000023285409e [a,b,d,e] h [Ea (yI K)]).F
def Qq:R:=(.mk:Sg 0x12024340025764002623e213e37301e2d00320e [a,b] h [Vr (Zy K)]).F
def FM:Ru K R:=(.mk:Sg 0x143e31104e2312e6312e5 [a,b] h).F
def FL:Ru K R:=
 Je e fun f=>
 k4 a b d f h
def FK:R:=
 jP 32 1 d e fun f=>
 f_ 1 f a h fun h=>
 FL K k4 a b d e h
def Ur(K:Nat):Nat->A4
 | 0=>fun _ _ _ _ _=>none
 | m+1=>fun a b d e h=>
  cE Ji .lss 3 e (.int .i64 32)
  (FK K (Ur K m) a b d e h)
  (FM K b d h)
def sE:R:=(.mk:Sg 0x100234400043e05e043e05e [a] h [Vr (Ur K K)] [] [List.replicate 32 (.int .u8 0)]).F
def yH:Ru K R:=(.mk:Sg 0x100049e71204e276626542615e263 [a,b,d] h).F
def uY:R:=(.mk:Sg 0x154330003e0049e61204e26660007e01e286509e [a,b,d,e,f] h [K3 (yH K)] [cu0 (Bt (D1 [(0,1),(1,1),(2,1),(3,1),(4,1),(5,1)]) [.int .i64 0,.int .i64 0,.int .i64 0,.int .i64 0,.int .i64 0,.int .i64 0] [])]).F
def K4:R:=(.mk:Sg 0x1202354500256875002723e213e46302e2d00420e049e05e [a,b] h [cl5 (uY K)] [] [[.int .i64 0,.int .i64 0,.int .i64 0,.int .i64 0,.int .i64 0,.int .i64 0]]).F
def Ye:Ru K (Ru r (Ru c R)):=(.mk:Sg 0x100043e31204e2312e6312e5 [a,b] h).F
def Xu:R:=(.mk:Sg 0x1432000ee0043e41204e2412e60007e01e28540be [a,b,d,e] h [Ea (Ye c r K)] [cu0 (Bt (Mg 1) (List.replicate 32 (.int .u8 0)) [])]).F
def FA:R:=(.mk:Sg 0x12026541024874100ee0218e702e4320104e2a30620e [a,b,d,e,f] h [c 46,Vr (Xu c r K)]).F
def E_:R:=(.mk:Sg 0x142ba95104043ec1204e2c12e60007e00e00318e801e5212e624ff3fb17e043e05ea18e421ae20ce232011e57665604b273011e0ee [a,b,d,e] h [c 71,cl5 (FA c r K)] [cu0 (Bt (Mg 1) (List.replicate 32 (.int .u8 0)) [])] [List.replicate 32 (.int .u8 0)]).F
def R6:R:=(.mk:Sg 0x1765440010e0043e71204e2712e60007e01e3023701e6048043e61204e2612e60007e00e288709e [a,b,d,e,f,g,i] h [Vr (E_ c r K)] [cu0 (Bt (Mg 1) (List.replicate 32 (.int .u8 0)) [])]).F
def EZ:R:=(.mk:Sg 0x1202438a97102465acb71000224e30403e2d00318e802e349e1606e20ce52201323043e05e [a,b] h [Ea (K4 K),cl7 (R6 c r K)] [] [List.replicate 32 (.int .u8 0),[.int .i64 0,.int .i64 0,.int .i64 0,.int .i64 0,.int .i64 0,.int .i64 0]]).F
def FE:Ru K R:=
 some (a,h)
def FD:Ru K R:=
 Je b fun d=>
 k2 a d h
def FC:R:=(.mk:Sg 0x1652004226522319e31c0007e [a,b] h [Ea (FD K k2)] [cu0 (Bt (D1 [(0,1),(1,1)]) [.int .i64 0,.int .i64 0] [(0,.int .i64 (-1)),(1,.int .i64 (-1))])]).F
def Sq(K:Nat):Nat->A2
 | 0=>fun _ _ _=>none
 | m+1=>fun a b h=>
  cE Ji .lss 3 b (.int .i64 3)
  (FC K (Sq K m) a b h)
  (FE K a h)
def qe:R:=(.mk:Sg 0x1002200270e921007e [a] h [Ea (Sq K K)] [cu1 (fun a=>Bt (D1 [(0,1),(1,6)]) [.F7,.int .i64 0,.int .i64 0,.int .i64 0,.int .i64 0,.int .i64 0,.int .i64 0] [(0,a)])]).F
def qj:Ru K R:=(.mk:Sg 0x122261e926544007e23551fe9 [a,b,d,e] h [] [cu4 (fun a b d g=>Bt (D1 [(0,1),(1,1),(2,1),(3,3),(6,1)]) [.F7,.F7,.F7,.int .i64 0,.int .i64 0,.int .i64 0,.bool false] [(0,a),(1,b),(2,d),(3,g)])]).F
def Rv:Ru K R:=
 some (a,h)
def Ra:Ru K R:=
 Je f fun g=>
 k5 a b d e g h
def Rg:R:=(.mk:Sg 0x100edc2a5302a2212111262107e210121007e821de31464116e [a,b,d,e,f] h [Ew (sE K),Ew (fun p=>Bv ([.int .i64 0]++List.replicate 32 (.int .u8 0)) 84 33 1 [(0,p)]),Ea (D9 84 33),cl5 (Ra K k5)] [cu1 (fun j=>Sh .u8 j),cu2 (fun g o=>Bt (D1 [(0,1),(1,32)]) ([.int .i64 0]++List.replicate 32 (.int .u8 0)) [(0,g),(1,o)])]).F
def Fo(K:Nat):Nat->A5
 | 0=>fun _ _ _ _ _ _=>none
 | m+1=>fun a b d e f h=>
  cE Ji .lss 3 f e
  (Rg K (Fo K m) a b d e f h)
  (Rv K b h)
def Fe:R:=(.mk:Sg 0x10023b04500213e234216e9 [a] h [cl5 (Fo K K)]).F
def EW:Ru K (Ru r R):=(.mk:Sg 0x12232201 [a,b] h [c 84]).F
def EU:R:=(.mk:Sg 0x14321022200218e801e2101 [a,b] h [c 68,Ea (EW c r K)]).F
def Rw:R:=
 gX e f fun g=>
 gQ g
 (some (d,h))
 (EU c r K a b h)
def ET:R:=(.mk:Sg 0x1202498510246ba51010225e30401e2d00318e802e349e0606e20ce42201223 [a,b] h [Ea (K4 K),cl5 (Rw c r K)] [] [[.int .i64 0,.int .i64 0,.int .i64 0,.int .i64 0,.int .i64 0,.int .i64 0]]).F
def EX:Ru r R:=(.mk:Sg 0x12221112101203 [a] h [Ew (Bw K),c 52]).F
def DF:Ru K (Ru r R):=(.mk:Sg 0x1222101 [a] h [c 17]).F
def DE:Ru K (Ru r (Ru c R)):=
 Je e fun f=>
 k4 a b d f h
def DD:R:=(.mk:Sg 0x1765441022200218e801e2320153116e [a,b,d,e] h [c 84,Vr (DE c r K k4)]).F
def Lq(c:Ah)(r:Ah)(K:Nat):Nat->A4
 | 0=>fun _ _ _ _ _=>none
 | m+1=>fun a b d e h=>
  cE Ji .lss 3 e d
  (DD c r K (Lq c r K m) a b d e h)
  (DF c r K a h)
def DJ:R:=(.mk:Sg 0x100234410213e32201 [a,b] h [c 85,Vr (Lq c r K K)]).F
def DH:R:=(.mk:Sg 0x15421003e0232820fe32201 [a,b] h [c 27,Ea (DJ c r K)]).F
def Ca:Ru K R:=(.mk:Sg 0x109e41104e246626531c009e05e [a] h [] [] [[.int .i64 0,.int .i64 0,.int .i64 0,.int .i64 0,.int .i64 0,.int .i64 0]]).F
def W9:Ru K (Ru r (Ru c R)):=
 gJ a b fun d=>
 some (d,h)
def BP:R:=(.mk:Sg 0x12022202522000224e5221132303e2a32201 [a,b] h [c 27,Ea (Qq K),Ea (W9 c r K)]).F
def CR:Ru K (Ru r (Ru c R)):=(.mk:Sg 0x1002 [] h).F
def CQ:R:=(.mk:Sg 0x10100ee0230ee0218e701e42201203 [a,b] h [c 97,cl0 (CR c r K)]).F
def CP:R:=(.mk:Sg 0x1652402220ee0218e701e2282231212150300e00218e701e522112101203 [a,b] h [Ew (Bw K),c 96,Ew (Ci K),c 41,Ea (CQ c r K)]).F
def AX:Ru K R:=
 gJ a b fun d=>
 some (d,h)
def su:R:=(.mk:Sg 0x12022002320060320e92a00223e [a] h [Ea (AX K)]).F
def Lo:Ru K R:=(.mk:Sg 0x1203040304e4fde33fce32fbe3 [a] h).F
def Ze:Ru K (Ru r (Ru c R)):=(.mk:Sg 0x15049e31204e2366365 [a,b,d] h).F
def O3:R:=(.mk:Sg 0x13200e3109806e3105021603e6c42162214e01e3c20ae224c3c12e0fe0318e701e8705e31042162214e01e3c20ae224c3c0ae00318e701e42662bffff5f06e17e049e05e05e18e20ce2467407fff4f01e723c004f00e210e63c21e03f9110e43c418e5404b273011e0ee [a,b,d] h [c 108,K3 (Ze c r K)] [] [[.int .i64 0,.int .i64 0,.int .i64 0,.int .i64 0,.int .i64 0,.int .i64 0]]).F
def CV:R:=(.mk:Sg 0x15433004021626c [a,b,d] h [K3 (O3 c r K)]).F
def CU:R:=(.mk:Sg 0x13453204563100fe0049e51204e25660007e01e00218e801e3049e51204e25660007e00e0ee0218e701e510127e28463049e05e389e9 [a,b] h [c 17,K3 (CV c r K),K3 (O3 c r K)] [cu0 (Bt (D1 [(0,1),(1,1),(2,1),(3,1),(4,1),(5,1)]) [.int .i64 0,.int .i64 0,.int .i64 0,.int .i64 0,.int .i64 0,.int .i64 0] [])] [[.int .i64 0,.int .i64 0,.int .i64 0,.int .i64 0,.int .i64 0,.int .i64 0]]).F
def vI:Ru K R:=
 Sb 60 a h fun b h=>
 some ((.func 119 [] [b]),h)
def Gw:Ru K R:=(.mk:Sg 0x107e0200230023701e201ae42201203 [a,b] h [Ea nN]).F
def Zz:Ru K R:=
 gJ a b fun d=>
 some (d,h)
def Uv:R:=(.mk:Sg 0x1202210262102720e21007e210130305e2a00323e [a,b] h [Ew (Ca K),Ea (Zz K)] [cu1 (fun f=>kL 3 false 0 f)]).F
def DN:Ru K (Ru r R):=(.mk:Sg 0x1250200e32201 [a,b] h [c 48]).F
def DM:R:=(.mk:Sg 0x1232100040200e60123701e2101 [a] h [c 127,Ea (DN c r K)] [] [] [(.int .i64 (-1))]).F
def DL:R:=(.mk:Sg 0x13120250200e31119282101 [a] h [c 126,c 17,Ew (DM c r K)]).F
def N2:Ru K R:=(.mk:Sg 0x109e41104e246626530c009e05e [a] h [] [] [[.int .i64 0,.int .i64 0,.int .i64 0,.int .i64 0,.int .i64 0,.int .i64 0]]).F
def wc:Ru K R:=
 Sb 101 a h fun b h=>
 some ((.func 156 [] [b]),h)
def St:Ru K R:=(.mk:Sg 0x1000e000e321627ff3fb17e56115e02e21de20de271e7b23115ea02e5210ea73711e0ee321627ff3fb17e56115ea21de20de271e7b23115e402e5110e473711e0ee3ce1023701e204349e9 [a,b,d] h).F
def Ko:Ru K (Ru r (Ru c R)):=
 Je d fun e=>
 k3 a b e h
def Ul(c:Ah)(r:Ah)(K:Nat)(k3:A3)(k5:A5)(a:EV)(b:EV)(d:EV)(e:EV)(f:EV)(h:Ab):R:=
 Je f fun g=>
 k5 a b d e g h
def Ig:R:=
 gJ g i fun j=>
 gQ j
 (some (.tuple [],h))
 (Ul c r K k3 k5 a b d e f h)
def BG:R:=(.mk:Sg 0x12028765471024a987671020fe3420103e2a01225e652007e [a,b,d,e,f] h [Ea (fun a g=>T5 c r a [g]),cl7 (Ig c r K k3 k5)] [cu2 (fun e f=>jX 2 1 false 1 e f)] [] [(.int .i64 (-1))]).F
def Ee(c:Ah)(r:Ah)(K:Nat)(k3:A3):Nat->A5
 | 0=>fun _ _ _ _ _ _=>none
 | m+1=>fun a b d e f h=>
  cE Ji .lss 3 f (.int .i64 2)
  (BG c r K k3 (Ee c r K k3 m) a b d e f h)
  (Ko c r K k3 a b d h)
def BH:R:=(.mk:Sg 0x1002987500232107e31420426de0206e432007e [a,b,d] h [cl5 (Ee c r K k3 K)] [cu2 (fun b d=>jX 3 2 true 2 b d),cu2 (fun g i=>Bt (Mg 1) [.int .i64 0,.int .i64 0] [(0,g),(1,i)])] [[.int .i64 0,.int .i64 0]]).F
def Gg(c:Ah)(r:Ah)(K:Nat):Nat->A3
 | 0=>fun _ _ _ _=>none
 | m+1=>fun a b d h=>
  cE Ji .lss 3 d (.int .i64 3)
  (BH c r K (Gg c r K m) a b d h)
  (some (.tuple [],h))
def BK:R:=(.mk:Sg 0x1002530026521c30de [a,b] h [K3 (Gg c r K K)]).F
abbrev Vg(K:Nat)(c:Ah):Ah:=c
def qb:Ru K R:=
 Sb 55 a h fun d h=>
 Sb 3 b h fun e h=>
 some ((.func 166 [] [d,e]),h)
def BS:Ru K (Ru r (Ru c R)):=(.mk:Sg 0x1402 [] h).F
def BR:Ru K (Ru r (Ru c R)):=
 Je d fun e=>
 k3 a b e h
def BQ:R:=(.mk:Sg 0x154331050232842201 [a,b,d] h [c 55,K3 (BR c r K k3)]).F
def Nj(c:Ah)(r:Ah)(K:Nat):Nat->A3
 | 0=>fun _ _ _ _=>none
 | m+1=>fun a b d h=>
  cE Ji .lss 3 d b
  (BQ c r K (Nj c r K m) a b d h)
  (BS c r K h)
def BT:R:=(.mk:Sg 0x1002532021112101203 [a] h [Ew (Ca K),Ew (Dq K),K3 (Nj c r K K)]).F
def wg:Ru K R:=
 Sb 166 a h fun b h=>
 some ((.func 190 [] [b]),h)
def Rl:Ru K R:=(.mk:Sg 0x1000e5021624c [a] h).F
def E9:Ru K R:=
 Sb 145 a h fun b h=>
 some ((.func 201 [] [b]),h)
def Kc:Ru K R:=(.mk:Sg 0x13be41104e24f2e62f2e537c03be05e [a] h [] [] [List.replicate 256 (.int .u32 0)]).F
def F2:Ru K (Ru r (Ru c R)):=
 Je e fun f=>
 k4 a b d f h
def F3:R:=(.mk:Sg 0x1ba98410000e22820fe296301265249e0606e26553615e [a,b,d,e] h [K3 (fun a e j=>T5 c r a [e,j]),Vr (F2 c r K k4)] [] [[.int .i64 0,.int .i64 0,.int .i64 0,.int .i64 0,.int .i64 0,.int .i64 0]]).F
def Cc(c:Ah)(r:Ah)(K:Nat):Nat->A4
 | 0=>fun _ _ _ _ _=>none
 | m+1=>fun a b d e h=>
  cE Ji .lss 3 e d
  (F3 c r K (Cc c r K m) a b d e h)
  (some (.tuple [],h))
def Gs:R:=(.mk:Sg 0x100234400213e30de [a,b] h [Vr (Cc c r K K)]).F
def D5:Ru K R:=(.mk:Sg 0x122233 [a] h).F
def Za:Ru K R:=
 some (a,h)
def Q5:Ru K R:=
 Je e fun f=>
 k4 a b d f h
def Y7:R:=(.mk:Sg 0x17654410876241040ae91023701e210153116e [a,b,d,e] h [Ew (D5 K),Vr (Q5 K k4)]).F
def Iw(K:Nat):Nat->A4
 | 0=>fun _ _ _ _ _=>none
 | m+1=>fun a b d e h=>
  cE Ji .lss 3 e d
  (Y7 K (Iw K m) a b d e h)
  (Za K a h)
def Px:R:=(.mk:Sg 0x1002300400213e203 [a] h [Vr (Iw K K)]).F
def AU:Ru K (Ru r (Ru c R)):=(.mk:Sg 0x1002200e [a] h).F
def AS:R:=(.mk:Sg 0x121000fe02200e53023301e [a] h [Ew (AU c r K)]).F
def AQ:R:=(.mk:Sg 0x16120200200e500218e801e21112101203 [a,b] h [Ew (Bw K),c 52,Ew (AS c r K)]).F
def T9:Ru K (Ru r (Ru c R)):=
 Je e fun f=>
 k4 a b d f h
def AP:R:=(.mk:Sg 0x16432400724340040ae958 [a,b,d,e,f] h [Vr (T9 c r K k4)]).F
def AO:R:=(.mk:Sg 0x193876510200200e500218e801e20ce263301345 [a,b,d,e] h [c 95,cl5 (AP c r K k4)]).F
def Ic(c:Ah)(r:Ah)(K:Nat):Nat->A4
 | 0=>fun _ _ _ _ _=>none
 | m+1=>fun a b d e h=>
  cE Ji .lss 3 e (.int .i64 3)
  (AO c r K (Ic c r K m) a b d e h)
  (AQ c r K a d h)
def AW:R:=
 Ic c r K K a b (.int .i64 0) (.int .i64 0) h
def On(c:Ah)(r:Ah)(K:Nat)(base:Nat)(s:DX)(a:EV)(b:EV)(d:EV)(e:EV)(h:Ab):R:=
 gX d e fun f=>
 gQ f
 (some (.tuple [(.int .i64 0),(.int .i64 10)],h))
 (AW c r K a b h)
def AV:R:=
 Sb 58 b h fun d h=>
 jc h fun base s=>
 O0 0 0 base d s fun s=>Q4 4 d h fun e=>
 Mc 1 1 s h (fun h=>(c 93 [e] h)) fun f h s=>
 i_ f fun g=>
 gP g
 (gZ 3 5 31 base d s h fun s i=>
 Mc 6 63 s h (fun h=>(N2 K i h)) fun j h s=>
 jv 0 10 911 base a s h fun s n=>
 Mc 11 2047 s h (fun h=>(Ca K n h)) fun o h s=>
 K1 iK (bin TT .neq 23) j o fun p=>
 On c r K base s a d g p h)
 (On c r K base s a d g tU h)
def U9:Ru K R:=
 gX a b fun d=>
 some (d,h)
def Qh:R:=(.mk:Sg 0x1202220262207224e72211210130306e2d01424e [a,b,d] h [Ew (Ca K),Ea (De K),Ea (U9 K)] [] [] [(.int .i64 (-1))]).F
def T8(c:Ah)(r:Ah)(K:Nat)(tm:Ay)(a:EV)(h:Ab)(ds:List Nat):R:=
 Ec a h fun b=>
 sG b h ds
def CB:R:=
 (fun(tm:Ay) (ds:List Nat)=>
 jN (.cells [.Am] 30) h fun d h=>
 ju a fun e=>
 iE 2 e fun f=>
 Ec f h fun g=>
 Ao (qb K g b h) fun i h=>
 Yk c TT 85 19 0 i ((((((((tm.put 4 (some .Am)).put 5 (some d)).put 7 (some a)).put 8 (some e)).put 9 (some f)).put 10 (some g)).put 11 (some b)).put 12 (some i)) h ds (fun h ds=>
 T8 c r K ((((((((tm.put 4 (some .Am)).put 5 (some d)).put 7 (some a)).put 8 (some e)).put 9 (some f)).put 10 (some g)).put 11 (some b)).put 12 (some i)) d h ds) (fun id h ds=>
 Bc (Nat.beq 0 id) (T8 c r K ((((((((tm.put 4 (some .Am)).put 5 (some d)).put 7 (some a)).put 8 (some e)).put 9 (some f)).put 10 (some g)).put 11 (some b)).put 12 (some i)) d h ds) (none)) (fun h ds=>
 Fv ds h fun h=>some (.Am,h))) ((Tr.nil.put 0 (some a)).put 1 (some b)) []
def V9:Ru K (Ru r (Ru c R)):=(.mk:Sg 0x1020251623211410120de [a,b] h [Ew (fun b=>Bv [.int .i64 0] 3 1 1 [(0,b)]),Ea (D9 3 1),cl0 (X5 l true .ready none)]).F
def CA:R:=
 D8 l h fun h=>V9 c r K l a b h
end
variable{d:Nat}(H:Cf disp)
include H
theorem Em(hd:1<=d):R1 disp K d 15 (Bw K):=fun _=>rl H hd
theorem HD(hd:1<=d):R2 disp K d 28 (Qq K):=fun _ _=>rl H hd
theorem Ψ(hd:1<=d):R1 disp K d 30 (sE K):=fun _=>ll H hd (fun _ _=>rfl) 51 (e4 (Ur K) 0 2 3 5)
theorem Lc(hd:1<=d):R2 disp K d 31 (K4 K):=fun _ _=>rl H hd
theorem Y'(hd:1<=d):S2 disp K d 32 EZ:=fun _ _=>rd rfl rfl H (V2 (Lc H) hd<|rfl)
theorem Ω(hd:1<=d):R1 disp K d 37 (qe K):=fun _=>ll H hd (fun _ _=>rfl) 51 (e2 (Sq K) 3 8)
theorem A4y(hd:1<=d):R4 disp K d 42 (qj K):=fun _ _ _ _=>rl H hd
theorem Qk(hd:2<=d):R1 disp K d 44 (Fe K):=fun _=>ll H hd (fun d hd=>V1 (Ψ H) hd<|rfl) 51 (e5 (Fo K) 1 3 7 8 9)
theorem YZ(hd:1<=d):S2 disp K d 46 ET:=fun _ _=>rd rfl rfl H (V2 (Lc H) hd<|rfl)
theorem Y2(hd:1<=d):S1 disp K d 47 EX:=fun _=>rd rfl rfl H (V1 (Em H) hd<|rfl)
theorem YF(hd:0<=d):S2 disp K d 48 DH:=fun _ _=>ld rfl rfl H rfl 51 (fun c r=>e4 (Lq c r K) 0 14 15 16)
theorem C9(hd:1<=d):R1 disp K d 54 (Ca K):=fun _=>rl H hd
theorem WL(hd:1<=d):S2 disp K d 55 BP:=fun _ _=>rd rfl rfl H (V2 (HD H) hd<|rfl)
theorem XS(hd:1<=d):S2 disp K d 56 CP:=fun _ _=>rd rfl rfl H (V1 (Em H) hd<|V1 (H6 H) hd<|rfl)
theorem A43(hd:1<=d):R1 disp K d 57 (su K):=fun _=>rl H hd
theorem Ak6(hd:1<=d):R1 disp K d 64 (Lo K):=fun _=>rl H hd
theorem X'(hd:0<=d):S2 disp K d 69 CU:=fun _ _=>rd rfl rfl H rfl
theorem Atf(hd:1<=d):R1 disp K d 80 (vI K):=fun _=>rl H hd
theorem Ug(hd:1<=d):R2 disp K d 81 (Gw K):=fun _ _=>rl H hd
theorem HE(hd:2<=d):R2 disp K d 83 (Uv K):=fun _ _=>rl H hd fun d hd=>V1 (C9 H) hd<|rfl
theorem YI(hd:0<=d):S1 disp K d 87 DL:=fun _=>rd rfl rfl H rfl
theorem W6(hd:1<=d):R1 disp K d 94 (N2 K):=fun _=>rl H hd
theorem At6(hd:1<=d):R1 disp K d 106 (wc K):=fun _=>rl H hd
theorem As0(hd:1<=d):R3 disp K d 110 (St K):=fun _ _ _=>rl H hd
omit H in
theorem Ank(c r:Ah)(K:Nat)(G:EV->EV->EV->Ab->R)(m:Nat):j4 false (Vg K c) c r K 119 1637 [(2,fun A tm h ds=>Ko c r K G (A 0) (A 10) (A 11) h),(1,fun A tm h ds=>Ko c r K G (A 0) (A 10) (A 11) h),(0,jz false TT 119)] m=(fun m A tm h ds=>Ee c r K G m (A 0) (A 10) (A 11) (A 18) (A 19) h) m:=
 O1 (E:=fun m A tm h ds=>Ee c r K G m (A 0) (A 10) (A 11) (A 18) (A 19) h) rfl (fun m=>jQ fun A tm h ds=>by kernel_rfl) m
omit H in
theorem Am7(c r:Ah)(K:Nat)(m:Nat):j4 false (Vg K c) c r K 119 5 [(0,jz false TT 119)] m=(fun m A tm h ds=>Gg c r K m (A 0) (A 10) (A 11) h) m:=
 HF (E:=fun m A tm h ds=>Gg c r K m (A 0) (A 10) (A 11) h) rfl (fun m=>(cut [true,true,false,false,true,true,false] (Ank c r K (Gg c r K m) K) (by kernel_rfl) (by kernel_rfl) rfl)) (fun m=>jQ fun A tm h ds=>by kernel_rfl) m
theorem WG(hd:0<=d):S2 disp K d 119 BK:=fun _ _=>rm (q:=false) (D:=Vg K (Ag TT disp K d false)) (by kernel_rfl) rfl rfl H (rfl) (cut [true,false] (Am7 (Ag TT disp K d false) (Ag TT disp K d true) K K) (by kernel_rfl) (by kernel_rfl) rfl)
theorem HG(hd:1<=d):R2 disp K d 122 (qb K):=fun _ _=>rl H hd
theorem WO(hd:1<=d):S1 disp K d 126 BT:=fun _=>ld rfl rfl H (V1 (C9 H) hd<|V1 (Fs H) hd<|rfl) 25 (fun c r=>e3 (Nj c r K) 0 9 10)
theorem Aqo(hd:1<=d):R1 disp K d 157 (wg K):=fun _=>rl H hd
theorem Ani(hd:1<=d):R1 disp K d 171 (Rl K):=fun _=>rl H hd
theorem To(hd:1<=d):R1 disp K d 172 (E9 K):=fun _=>rl H hd
theorem Ajt(hd:1<=d):R1 disp K d 175 (Kc K):=fun _=>rl H hd
theorem Jc(hd:0<=d):S2 disp K d 201 Gs:=fun _ _=>ld rfl rfl H rfl 5 (fun c r=>e4 (Cc c r K) 0 5 6 7)
theorem Hw(hd:1<=d):R1 disp K d 205 (D5 K):=fun _=>rl H hd
theorem Alh(hd:2<=d):R1 disp K d 214 (Px K):=fun _=>ll H hd (fun d hd=>V1 (Hw H) hd<|rfl) 51 (e4 (Iw K) 3 9 10 11)
theorem VP(hd:1<=d):S2 disp K d 53 AV:=fun _ _=>ld rfl rfl H (V1 (W6 H) hd<|V1 (C9 H) hd<|V1 (Em H) hd<|rfl) 103 (fun c r=>e4 (Ic c r K) 0 3 6 25)
theorem Aqs(hd:3<=d):R3 disp K d 79 (Qh K):=fun _ _ _=>rl H hd fun d hd=>V1 (C9 H) hd<|V2 (Ez H) hd<|rfl
theorem XJ(hd:1<=d):S2 disp K d 85 CB:=fun _ _=>rd rfl rfl H (V2 (HG H) hd<|rfl)
theorem XH(hd:1<=d){l:Nat}(tm:Ay)(h:Ab)(A:EV){st:LoopState}{p:Option Code}(G:h.get l=some (.loop st p 85 19 tm [13] (Fa TT 85 0).2.2.1 (Fa TT 85 0).2.2.2 d0)):
 Ag TT disp K (d+1) true l [A] h=CA (Ag TT disp K d false) (Ag TT disp K d true) K l (tmp tm 5) A h:=rr rfl rfl (rfl) G rfl (by kernel_rfl)
end
end
section
noncomputable section
section
variable (c r:Ah)(K l:Nat)(k0:A0)(k1:A1)(k2:A2)(k3:A3)(k4:A4)(k5:A5)(k6:A6)(k7:A7)(k8:A8)(k9:A9)(oS:mB)(oT:mC)(oU:nv)(m0:B0)(m1:B1)(m2:B2)(m3:B3)(m4:B4)(m5:B5)(m6:B6)(m7:B7)(m8:B8)(m9:B9)(oV:nt)(oW:nu)(oX:ny)(base:Nat)(s:DX)(tm:Ay)(a b d e f g i j n o p q t u w x y z aa ab ad ae af ag ai aj an ao ap aq au aw ax ay az ba bb bd be bf bg bi bj bn bo bp bq bt bu bw bx bz da db dd de df dg di dj dn dp dq dt du dw dx dy dz ea eb ed ee ef eg ei ej en eo ep eq et eu ew ex ey ez fa fb fd fe ff fg fi fj fn fo fp fq ft fu fw fx fy fz ga gb gd ge gf gg gi gj gn go gp gq gt gu gw gx gy gz ia ib ie ig ii ij io ip iq it iu iw ix iy iz ja jb:EV)(h:Ab)(ds:List Nat)
def Vd:Ru K R:=
 gJ a b fun d=>
 some (d,h)
def Il:R:=(.mk:Sg 0x1202200252002620e213e303d2a00323e [a,b] h [Ea (Vd K)]).F
def Tj:Ru K R:=(.mk:Sg 0x122243 [a] h).F
def F1:Ru K R:=(.mk:Sg 0x12232211001 [a] h [cl0 (Bv (List.replicate 4 (.int .i64 0)++List.replicate 64 (.int .u8 0)) 34 68 0 []),Ea (D9 34 68)]).F
def Dp:R:=(.mk:Sg 0x12100b023b0265e701e [a] h [Ew (F1 K)]).F
def Gz:Ru K R:=(.mk:Sg 0x1000e321642c213e203 [a] h).F
def y9:Ru K R:=
 gJ a b fun d=>
 some (d,h)
def Se:R:=(.mk:Sg 0x1202200232004321e82a10223e [a,b] h [Ea (y9 K)]).F
def HH:Ru K R:=
 Je d fun e=>
 k3 a b e h
def HI:R:=
 fE 3 a h fun e=>
 Bt (D1 [(0,1),(1,1)]) [(.int .i64 0),(.int .i64 0)] [(0,b),(1,d)] fun f=>
 Ao (builtin TT .delete #[116,239] [e,f] h) fun _ h=>
 HH K k3 a b d h
def Js(K:Nat):Nat->A3
 | 0=>fun _ _ _ _=>none
 | m+1=>fun a b d h=>
  fE 0 a h fun e=>
  Ao (Ox K e h) fun f h=>
  cE Ji .lss 3 d f
  (HI K (Js K m) a b d h)
  (some (.tuple [],h))
def Yg:R:=
 Js K K a b d h
def Pm:Ru K (Ru r (Ru c R)):=
 some (a,h)
def HJ:R:=(.mk:Sg 0x131102110400318e701e679301578301002167fdec012166fcec012165fbec4fde33fce32fbe3 [a] h [c 184,Ew (Pm c r K)] [] [] [(.int .i64 (-1))]).F
def qF:Ru K R:=(.mk:Sg 0x1222e4e921007e32211001 [a] h [cl0 (Bv [.int .u8 0] 5 1 0 []),Ea (D9 5 1)] [cu1 (fun d=>Bt (D1 [(0,1),(1,1)]) [.Am,.bool false] [(0,d)])]).F
def Apm:Ru K R:=(.mk:Sg 0x1002 [] h).F
def Aof:R:=(.mk:Sg 0x100004e023283209e [a,b] h [cl0 (Apm K)]).F
def Rk:R:=(.mk:Sg 0x12022002520000222e213e30300e2d213 [a] h [Ea (Aof K)]).F
def Yw:Ru K (Ru r R):=(.mk:Sg 0x129200e547823601518e5 [a,b,d,e,f,g] h [c 194]).F
def HK:R:=(.mk:Sg 0x1456a9761025200e400218e801e983426601418e54fce33fbe3389e9 [a,b,d,e] h [c 194,cl6 (Yw c r K)]).F
def Y6:Ru K (Ru r (Ru c R)):=(.mk:Sg 0x1002 [] h).F
def HL:R:=(.mk:Sg 0x10100ee0230ee0218e701e32201 [a,b] h [c 97,cl0 (Y6 c r K)]).F
def Wq:Ru K R:=(.mk:Sg 0x1222639e403e20de251f2e19e725403e51007e01439e603e23be9 [a,b,d] h [] [cu1 (fun b=>Sh .u8 b)] [] [(.int .u64 8)]).F
def HM:Ru K R:=(.mk:Sg 0x1222325e30de [a,b] h).F
def wj:Ru K R:=
 gJ a b fun d=>
 some (d,h)
def Ww:R:=(.mk:Sg 0x12022002320090321e92a10223e [a] h [Ea (wj K)]).F
def HN:Ru K R:=(.mk:Sg 0x152321660c622107e403422007e203 [a,b] h [] [cu2 (fun d b=>h_ 1 d none (some b) (some b)),cu2 (fun f b=>h_ 1 f (some b) none none)]).F
def HO:R:=(.mk:Sg 0x143200b025021641cb021630c05e285409e [a,b,d,e] h [Ea (HN K)]).F
def HP:R:=(.mk:Sg 0x12024340025764002622e213e30301e2d5409e [a,b,d,e] h [Vr (HO K)]).F
def J0:R:=(.mk:Sg 0x120243400235440000420eb2d213 [a,b] h [Vr (HP K)]).F
def wk:Ru K R:=
 gJ a b fun d=>
 some (d,h)
def Mt:R:=(.mk:Sg 0x1202200232005321e82a3223e [a,b,d] h [Ea (wk K)]).F
def HQ:Ru K R:=
 some (a,h)
def Xr:R:=(.mk:Sg 0x13100d023284309e [a,b,d] h [Ew (HQ K)]).F
def Xf:R:=(.mk:Sg 0x1202430023530090422ea2d00220e [a,b] h [K3 (Xr K)]).F
def HR:Ru K R:=(.mk:Sg 0x12320040ae0123603e [a,b] h [Ea k2] [] [] [(.int .u64 8)]).F
def Lr(K:Nat):Nat->A2
 | 0=>fun _ _ _=>none
 | m+1=>fun a b h=>
  im (bin TT .shr 3) a (.int .u64 8) fun d=>
  cE mG .gtr 3 d (.int .i64 0)
  (HR K (Lr K m) a b h)
  (Xf K a b h)
def Vm:R:=
 Lr K K a (.int .i64 1) h
def HS:Ru K R:=(.mk:Sg 0x1002200e23211303001 [a] h [cl0 (Bv [.int .u8 0] 5 1 0 []),Ea (D9 5 1)]).F
def N6:R:=(.mk:Sg 0x1310003e0b0200e628213 [a] h [Ew (HS K)]).F
def HT:Ru K (Ru r R):=(.mk:Sg 0x12276230142116e203 [a,b,d,e] h [K3 (fun g d e=>c 211 [g,d,.func 212 [] [e]])]).F
def HU:R:=(.mk:Sg 0x1476541003e0232820fe43201512e9 [a,b,d,e] h [Ea (Il K),Vr (HT c r K)]).F
def HV:Ru K R:=(.mk:Sg 0x112e41104e2432e6232e5 [a,b] h).F
def HW:Ru K R:=
 Je e fun f=>
 k4 a b d f h
def HX:R:=(.mk:Sg 0x1ba9840032162f1e817ea7132e19e245403e20de20ae5b75132e19e20de232b52132e19e0ee [a,b,d,e] h [Vr (HW K k4)]).F
def Kh(K:Nat):Nat->A4
 | 0=>fun _ _ _ _ _=>none
 | m+1=>fun a b d e h=>
  cE Ji .lss 3 e (.int .i64 64)
  (HX K (Kh K m) a b d e h)
  (HV K a d h)
def Ov:R:=(.mk:Sg 0x100234400012e05e412e9212e9 [a,b] h [Vr (Kh K K)] [] [List.replicate 64 (.int .u8 0)]).F
def Eh:Ru K R:=(.mk:Sg 0x1000e000e521633c9285409e [a,b,d,e] h).F
def Ek:R:=(.mk:Sg 0x1204324002543400650bea4d [a,b,d,e,f] h [Vr (Eh K)]).F
def F6:R:=(.mk:Sg 0x120543250027654500c0225e23301e5a [a,b,d,e] h [cl5 (Ek K)]).F
def Hi:R:=(.mk:Sg 0x120243400235440060424eb2dc0324e [a,b] h [Vr (F6 K)]).F
def F9:Ru K R:=(.mk:Sg 0x105e000200e002200e321ae80023701e201ae200201203 [a] h [Ea nO]).F
def Nq:Ru K R:=(.mk:Sg 0x1002 [] h).F
def Dx:R:=(.mk:Sg 0x10000ae0236023701e0ce023c023701e233 [a] h [cl0 (Nq K)]).F
def Qj:Ru K R:=(.mk:Sg 0x1000e321640c42201203 [a,b] h [Ea (D9 5 1)]).F
def Oq:Ru K R:=(.mk:Sg 0x100012e71204e2732e6232e54232e15e203 [a,b,d] h).F
def I8:R:=(.mk:Sg 0x15433000be0012e61204e2632e6632e501e287609e [a,b,d,e,f,g] h [K3 (Oq K)]).F
def Hj:R:=(.mk:Sg 0x120245766002578a96002923e213e60303e2d00620e0ce0012e51204e2532e6332e501ec023701e433012e05e012e05e [a,b] h [cl6 (I8 K)] [] [List.replicate 64 (.int .u8 0)]).F
def Mz:Ru K R:=(.mk:Sg 0x10023232e627fff4f01e17e8632e15e28201fe04fd7232e52fc03fcb5232e15e31c03f9011e273011e0ee [a,b,d] h [Ea (fun d i=>T5 c r d [i])]).F
def Fq:R:=(.mk:Sg 0x15433000be023286509e [a,b,d,e,f] h [K3 (Mz c r K)]).F
def Jt:R:=(.mk:Sg 0x1202543500258765002623e213e30302e2d00320e [a,b,d] h [cl5 (Fq c r K)]).F
def HY:R:=(.mk:Sg 0x112e51104e2532e623201632e5332e5012e05e212e9 [a,b] h [Ea (Ov K)] [] [List.replicate 64 (.int .u8 0)]).F
def Nd:Ru K R:=(.mk:Sg 0x10025021634c3021623c [a] h).F
def Gp:R:=(.mk:Sg 0x1311022200218e801e2101 [a] h [Ew (Dx K),Ew (Nd K)]).F
def wm:Ru K R:=
 gJ a b fun d=>
 some (d,h)
def Ps:R:=(.mk:Sg 0x1202200232005321e82a3223e [a,b,d] h [Ea (wm K)]).F
def Y5:Ru K R:=(.mk:Sg 0x1402 [] h).F
def Q1:Ru K R:=
 gJ a b fun d=>
 some (d,h)
def Ma:Ru K R:=
 gJ a b fun d=>
 some (d,h)
def Q0:R:=(.mk:Sg 0x1202200262002343e702e0007e212e53614e05e2a430be [a,b,d] h [Ea (Ma K)] [cu0 (Bt (Mg 1) (List.replicate 32 (.int .u8 0)) [])]).F
def Q2:Ru K R:=
 gJ a b fun d=>
 some (d,h)
def Pq:R:=(.mk:Sg 0x10402022302423000224e544c2a10224e3240ee6023701e202532026932021043012011ee63454409e2a10224e3241ae3023701e2022102421000224e544c2ac010230132412e1023701e204289e9 [a] h [K3 (Ps K),Ea (Q1 K),K3 (Q0 K),Ea (Q2 K),cl0 (Y5 K)] [] [] [(.int .i64 256)]).F
def O4:Ru K (Ru r (Ru c R)):=(.mk:Sg 0x1002 [] h).F
def HZ:R:=(.mk:Sg 0x10c00c0242b11e57236e5284b5414e21a3275191170ee13e0123701e2226281314ad023701e2226271314a9023701e22516161123701e22515168023701e2226241314ac023701e32343e012e06e20ce2623131403e6023701e2223732142431400e3023701e2227211210133ae500e1023701e204216e9 [a,b] h [Ew (Fe K),c 29,c 45,c 32,c 46,c 47,c 17,c 48,c 49,Ew (Zm K),Ew (Bw K),c 50,cl0 (O4 c r K)] [] [List.replicate 32 (.int .u8 0)] [(.int .i64 9),(.int .i64 6)]).F
def Xh(c:Ah)(r:Ah)(K:Nat)(tm:Ay)(a:EV)(h:Ab)(ds:List Nat):R:=
 f_ 1 a (.bool false) h fun h=>
 Fv ds h fun h=>Iq TT [.c a 4] h
def BJ:R:=
 (fun(tm:Ay) (ds:List Nat)=>
 Sb 3 b h fun d h=>
 jN (.cells [(.bool false)] 4) h fun e h=>
 Ao (vI K a h) fun f h=>
 Yk c TT 39 12 0 f ((((tm.put 3 (some d)).put 4 (some e)).put 6 (some a)).put 7 (some f)) h ds (fun h ds=>
 Xh c r K ((((tm.put 3 (some d)).put 4 (some e)).put 6 (some a)).put 7 (some f)) e h ds) (fun id h ds=>
 Bc (Nat.beq 0 id) (Xh c r K ((((tm.put 3 (some d)).put 4 (some e)).put 6 (some a)).put 7 (some f)) e h ds) (none)) (fun h ds=>
 Fv ds h fun h=>Iq TT [.c e 4] h)) ((Tr.nil.put 0 (some a)).put 1 (some b)) []
def Zc:Ru K (Ru r (Ru c R)):=(.mk:Sg 0x1010000504168253701e20de [a,b,d] h [cl0 (X5 l false .done (some .ret)),cl0 (X5 l true .ready none)]).F
def BF:R:=
 D8 l h fun h=>Zc c r K l a b d h
def Zx(c:Ah)(r:Ah)(K:Nat)(tm:Ay)(a:EV)(h:Ab)(ds:List Nat):R:=
 f_ 1 a (.bool false) h fun h=>
 Fv ds h fun h=>Iq TT [.c a 4] h
def H':R:=
 (fun(tm:Ay) (ds:List Nat)=>
 Sb 3 b h fun d h=>
 jN (.cells [(.bool false)] 4) h fun e h=>
 Ao (wc K a h) fun f h=>
 Yk c TT 66 14 0 f ((((tm.put 3 (some d)).put 4 (some e)).put 7 (some a)).put 8 (some f)) h ds (fun h ds=>
 Zx c r K ((((tm.put 3 (some d)).put 4 (some e)).put 7 (some a)).put 8 (some f)) e h ds) (fun id h ds=>
 Bc (Nat.beq 0 id) (Zx c r K ((((tm.put 3 (some d)).put 4 (some e)).put 7 (some a)).put 8 (some f)) e h ds) (none)) (fun h ds=>
 Fv ds h fun h=>Iq TT [.c e 4] h)) ((Tr.nil.put 0 (some a)).put 1 (some b)) []
def H_:Ru K (Ru r (Ru c R)):=(.mk:Sg 0x1010000504168253701e20de [a,b,d] h [cl0 (X5 l false .done (some .ret)),cl0 (X5 l true .ready none)]).F
def IA:R:=
 D8 l h fun h=>H_ c r K l a b d h
def IB:Ru K (Ru r (Ru c R)):=(.mk:Sg 0x1002 [] h).F
def Rp:R:=(.mk:Sg 0x100005e023283209e [a,b] h [cl0 (IB c r K)]).F
def IC:R:=(.mk:Sg 0x12022202622000224e9221142116e86307e2d00220e232011e5740de404b265273b30c0ee339 [a,b] h [Ea (De K),Ea (fun o d=>c 182 [o,.func 183 [] [d]]),Ea (Rp c r K)]).F
def pM:R:=(.mk:Sg 0x178e91104e291ee671ee54221151007e20ce4101078e05e078e05e [a] h [Ew (N6 K),builtin TT .copy #[106,106]] [cu1 (fun d=>Oz 44 1 d none none none)] [List.replicate 44 (.int .u8 0)]).F
def N9:Ru K R:=(.mk:Sg 0x10024021654c0021643c0021632cb021620c [a] h).F
def Gx:R:=(.mk:Sg 0x1311022200218e801e2101 [a] h [Ew (Dx K),Ew (N9 K)]).F
def Ui:Ru K (Ru r (Ru c R)):=
 some (a,h)
def Oh:Ru K (Ru r (Ru c R)):=
 Je f fun g=>
 k5 a b d e g h
def ID:R:=
 Ao (Gw K a e h) fun i h=>
 Oh c r K k5 a b d f g h
def IE:R:=
 Ao (T5 c r b [e] h) fun i h=>
 i_ i fun j=>
 gQ j
 (Je d fun n=>
 Oh c r K k5 a b n f g h)
 (ID c r K k5 a b d e f g h)
def IF:R:=(.mk:Sg 0x19837656207110400218e801e20ce2101 [a,b,d,e,f] h [Ew (F9 K),Ew (Ui c r K),cl6 (IE c r K k5)]).F
def Kj(c:Ah)(r:Ah)(K:Nat):Nat->A5
 | 0=>fun _ _ _ _ _ _=>none
 | m+1=>fun a b d e f h=>
  cE Ji .lss 3 f e
  (IF c r K (Kj c r K m) a b d e f h)
  (Ui c r K d h)
def IH:R:=(.mk:Sg 0x100200435102101 [a,b] h [Ew (E8 K),cl5 (Kj c r K K)]).F
def Ff:Ru K (Ru r (Ru c R)):=
 gJ a b fun d=>
 some (d,h)
def Gf:R:=(.mk:Sg 0x12022202622020fe62211210130305e2a540be [a,b,d,e] h [Ew (Ci K),c 66,Ea (Ff c r K)]).F
def H9:R:=(.mk:Sg 0x120243410257641020fe5220131303e2a540be [a,b,d,e] h [c 39,Vr (Gf c r K)]).F
def Om:R:=(.mk:Sg 0x120243410257641020fe5220130303e2a540be [a,b,d,e] h [Ea (Et K),Vr (H9 c r K)]).F
def Ud:R:=(.mk:Sg 0x12024340023544005425ea2a650be [a,b,d,e,f] h [Vr (Om c r K)]).F
def BN:R:=(.mk:Sg 0x12027cb530238dc5308c25eb2a00223ea22212111703421ae20ce2101203 [a,b] h [Ew (Lo K),Ew (Ca K),Ea (De K),cl5 (Ud c r K)]).F
end
variable{d:Nat}(H:Cf disp)
include H
theorem Ol(hd:1<=d):R2 disp K d 58 (Il K):=fun _ _=>rl H hd
theorem An2(hd:1<=d):R1 disp K d 130 (Tj K):=fun _=>rl H hd
theorem R8(hd:1<=d):R1 disp K d 132 (Dp K):=fun _=>rl H hd
theorem X3(hd:1<=d):R1 disp K d 134 (Gz K):=fun _=>rl H hd
theorem Ax3(hd:1<=d):R2 disp K d 135 (Se K):=fun _ _=>rl H hd
theorem Ang(hd:2<=d):R3 disp K d 141 (Yg K):=fun _ _ _=>ll H hd (fun d hd=>V1 (G' H) hd<|rfl) 5 (e3 (Js K) 0 1 6)
theorem Ajr(hd:0<=d):S1 disp K d 143 HJ:=fun _=>rd rfl rfl H rfl
theorem II(hd:1<=d):R1 disp K d 146 (qF K):=fun _=>rl H hd
theorem Am1(hd:1<=d):R1 disp K d 150 (Rk K):=fun _=>rl H hd
theorem Akv(hd:0<=d):S4 disp K d 160 HK:=fun _ _ _ _=>rd rfl rfl H rfl
theorem Ak8(hd:0<=d):S2 disp K d 163 HL:=fun _ _=>rd rfl rfl H rfl
theorem Ass(hd:1<=d):R3 disp K d 165 (Wq K):=fun _ _ _=>rl H hd
theorem Apk(hd:1<=d):R2 disp K d 183 (HM K):=fun _ _=>rl H hd
theorem IJ(hd:1<=d):R1 disp K d 185 (Ww K):=fun _=>rl H hd
theorem Yr(hd:1<=d):R2 disp K d 186 (J0 K):=fun _ _=>rl H hd
theorem Av3(hd:1<=d):R3 disp K d 187 (Mt K):=fun _ _ _=>rl H hd
theorem Ax5(hd:1<=d):R1 disp K d 188 (Vm K):=fun _=>ll H hd (fun _ _=>rfl) 27 (e2 (Lr K) 0 3)
theorem Xc(hd:1<=d):R1 disp K d 189 (N6 K):=fun _=>rl H hd
theorem Am3(hd:1<=d):S4 disp K d 198 HU:=fun _ _ _ _=>rd rfl rfl H (V2 (Ol H) hd<|rfl)
theorem IK(hd:1<=d):R2 disp K d 199 (Ov K):=fun _ _=>ll H hd (fun _ _=>rfl) 25 (e4 (Kh K) 2 3 4 6)
theorem Yq(hd:1<=d):R2 disp K d 200 (Hi K):=fun _ _=>rl H hd
theorem S8(hd:1<=d):R1 disp K d 202 (F9 K):=fun _=>rl H hd
theorem Hn(hd:1<=d):R1 disp K d 207 (Dx K):=fun _=>rl H hd
theorem IL(hd:1<=d):R2 disp K d 209 (Qj K):=fun _ _=>rl H hd
theorem Yp(hd:1<=d):R2 disp K d 210 (Hj K):=fun _ _=>rl H hd
theorem Wl(hd:0<=d):S3 disp K d 211 Jt:=fun _ _ _=>rd rfl rfl H rfl
theorem Akf(hd:2<=d):R2 disp K d 212 (HY K):=fun _ _=>rl H hd fun d hd=>V2 (IK H) hd<|rfl
theorem Wk(hd:2<=d):R1 disp K d 216 (Gp K):=fun _=>rl H hd fun d hd=>V1 (Hn H) hd<|rfl
theorem IM(hd:1<=d):R3 disp K d 217 (Ps K):=fun _ _ _=>rl H hd
theorem Alx(hd:2<=d):R1 disp K d 218 (Pq K):=fun _=>rl H hd fun d hd=>V3 (IM H) hd<|rfl
theorem Ais(hd:2<=d):S2 disp K d 9 HZ:=fun _ _=>rd rfl rfl H (V1 (Qk H) hd<|V1 (Γ H) hd<|V1 (Em H) hd<|rfl)
theorem WE(hd:1<=d):S2 disp K d 39 BJ:=fun _ _=>rd rfl rfl H (V1 (Atf H) hd<|rfl)
theorem WB(hd:1<=d){l:Nat}(tm:Ay)(h:Ab)(A:EV){st:LoopState}{p:Option Code}(G:h.get l=some (.loop st p 39 12 tm [8] (Fa TT 39 0).2.2.1 (Fa TT 39 0).2.2.2 d0)):
 Ag TT disp K (d+1) true l [A] h=BF (Ag TT disp K d false) (Ag TT disp K d true) K l (tmp tm 3) (tmp tm 4) A h:=rr rfl rfl (rfl) G rfl (by kernel_rfl)
theorem Au9(hd:1<=d):S2 disp K d 66 H':=fun _ _=>rd rfl rfl H (V1 (At6 H) hd<|rfl)
theorem Apz(hd:1<=d){l:Nat}(tm:Ay)(h:Ab)(G:EV)(A:EV){st:LoopState}{p:Option Code}(J:h.get l=some (.loop st p 66 14 tm [9,10] (Fa TT 66 0).2.2.1 (Fa TT 66 0).2.2.2 d0)):
 Ag TT disp K (d+1) true l [G,A] h=IA (Ag TT disp K d false) (Ag TT disp K d true) K l (tmp tm 3) (tmp tm 4) A h:=rr rfl rfl (rfl) J rfl (by kernel_rfl)
theorem Ar9(hd:2<=d):S2 disp K d 142 IC:=fun _ _=>rd rfl rfl H (V2 (Ez H) hd<|rfl)
theorem IP(hd:2<=d):R1 disp K d 154 (pM K):=fun _=>rl H hd fun d hd=>V1 (Xc H) hd<|rfl
theorem Wz(hd:2<=d):R1 disp K d 181 (Gx K):=fun _=>rl H hd fun d hd=>V1 (Hn H) hd<|rfl
theorem Api(hd:1<=d):S2 disp K d 182 IH:=fun _ _=>ld rfl rfl H (V1 (Kq H) hd<|V2 (Ug H) hd<|V1 (S8 H) hd<|rfl) 51 (fun c r=>e5 (Kj c r K) 0 1 5 9 10)
theorem WJ(hd:3<=d):S2 disp K d 27 BN:=fun _ _=>rd rfl rfl H (V1 (Ak6 H) hd<|V1 (C9 H) hd<|V2 (Ez H) hd<|V1 (H6 H) hd<|V2 (Gr H) hd<|rfl)
end
end
section
noncomputable section
section
variable (c r:Ah)(K l:Nat)(k0:A0)(k1:A1)(k2:A2)(k3:A3)(k4:A4)(k5:A5)(k6:A6)(k7:A7)(k8:A8)(k9:A9)(oS:mB)(oT:mC)(oU:nv)(m0:B0)(m1:B1)(m2:B2)(m3:B3)(m4:B4)(m5:B5)(m6:B6)(m7:B7)(m8:B8)(m9:B9)(oV:nt)(oW:nu)(oX:ny)(base:Nat)(s:DX)(tm:Ay)(a b d e f g i j n o p q t u w x y z aa ab ad ae af ag ai aj an ao ap aq au aw ax ay az ba bb bd be bf bg bi bj bn bo bp bq bt bu bw bx bz da db dd de df dg di dj dn dp dq dt du dw dx dy dz ea eb ed ee ef eg ei ej en eo ep eq et eu ew ex ey ez fa fb fd fe ff fg fi fj fn fo fp fq ft fu fw fx fy fz ga gb gd ge gf gg gi gj gn go gp gq gt gu gw gx gy gz ia ib ie ig ii ij io ip iq it iu iw ix iy iz ja jb:EV)(h:Ab)(ds:List Nat)
def CH:Ru K (Ru r (Ru c R)):=
 some (a,h)
def Oi:Ru K (Ru r (Ru c R)):=
 Je e fun f=>
 k4 a b d f h
def Ua:R:=(.mk:Sg 0x1764340076534007288709e [a,b,d,e,f,g,i] h [Vr (Oi c r K k4)]).F
def CG:R:=(.mk:Sg 0x12028754371025ba8767102820e5220132307e2d01324e [a,b,d,e,f,g] h [Ea (Qq K),cl7 (Ua c r K k4)] [] [] [(.int .i64 (-1))]).F
def Km:R:=
 gX i j fun n=>
 gQ n
 (Oi c r K k4 a b f g h)
 (CG c r K k4 a b d e f g h)
def Oa:R:=(.mk:Sg 0x120287654381024a9876581020fe5320104e2d9809e [a,b,d,e,f,g,i,j] h [c 167,cl8 (Km c r K k4)]).F
def CF:R:=(.mk:Sg 0x12029849768302700ed900ecb8302522e21007e21217034301fe0fe2d20fe7421162201223 [a,b,d,e] h [Ea (Qq K),c 27,Ew (Ca K),cl8 (Oa c r K k4)] [cu1 (fun p=>kL 2 false 0 p)]).F
def Ii(c:Ah)(r:Ah)(K:Nat):Nat->A4
 | 0=>fun _ _ _ _ _=>none
 | m+1=>fun a b d e h=>
  cE Ji .lss 3 e d
  (CF c r K (Ii c r K m) a b d e h)
  (CH c r K b h)
def CK:R:=
 fE 0 a h fun b=>
 Ao (Ca K b h) fun d h=>
 Ao (Dq K d h) fun e h=>
 Ii c r K K a (.int .i64 (-1)) e (.int .i64 0) h
def Ub:Ru K (Ru r R):=(.mk:Sg 0x1000e000e3101628430be [a,b,d] h [c 91]).F
def IQ:R:=(.mk:Sg 0x120233102563102620e210130302e2a00323e [a,b] h [Ew (Ns K),K3 (Ub c r K)]).F
def IU:Ru K R:=(.mk:Sg 0x1002321643c20ae233 [a] h).F
def H4:R:=(.mk:Sg 0x1511003e0232820fe432010ee02328243 [a,b] h [Ea (Il K),Ew (IU K)]).F
def H3:Ru K R:=(.mk:Sg 0x1002200e1021ee213e203 [a] h).F
def M0:R:=(.mk:Sg 0x1b120c12030216b3cc233701ea13213e8031021673c321623ff3fa17e60c242170e772101618e432e5405b200e4011e0ee [a,b] h [Ew (fun e=>Bv (List.replicate 64 (.int .u8 0)) 32 64 1 [(0,e)]),Ea (D9 32 64),Ew (H3 K)]).F
def H7:R:=(.mk:Sg 0x14320007e000200e63023701e233 [a,b] h [Ea (M0 K)]).F
def Dy:R:=(.mk:Sg 0x134210200200e500218e801e3101312e9 [a,b] h [Ew (Dx K),Ea (H7 K)]).F
def Wj:Ru K (Ru r (Ru c R)):=(.mk:Sg 0x1002 [] h).F
def J5:Ru K (Ru r (Ru c R)):=
 Je d fun e=>
 k3 a b e h
def V6:R:=(.mk:Sg 0x165331022200218e801e32201 [a,b,d,e] h [c 56,K3 (J5 c r K k3)]).F
def Vq:R:=(.mk:Sg 0x1656442065431062820fe42201 [a,b,d] h [c 55,K3 (J5 c r K k3),Vr (V6 c r K k3)]).F
def Fu(c:Ah)(r:Ah)(K:Nat):Nat->A3
 | 0=>fun _ _ _ _=>none
 | m+1=>fun a b d h=>
  cE Ji .lss 3 d b
  (Vq c r K (Fu c r K m) a b d h)
  (Wj c r K h)
def Vo:R:=(.mk:Sg 0x1002532021112101203 [a] h [Ew (Ca K),Ew (Dq K),K3 (Fu c r K K)]).F
def Wb:R:=(.mk:Sg 0x105e11022200218e801e20ce2a20ffffff6f0ae723574007e00e3800006f08e211e23c0005f04e210ec3c21e004fd110ea3c2e2e8010e83c773111e0ee42162014e53c20ae20423c [a] h [c 53,Ew (Vo c r K)] [cu4 (fun n p t u=>Bt (D1 [(0,1),(1,1),(2,1),(3,1)]) [.int .i64 0,.int .i64 0,.int .i64 0,.F7] [(0,n),(1,p),(2,t),(3,u)])]).F
def CS:R:=(.mk:Sg 0x1512022200218e801e21112101203 [a] h [Ew (Bw K),c 52,Ew (Wb c r K)]).F
def IV:Ru r (Ru c R):=(.mk:Sg 0x1225220152116e263 [a,b,d] h [Ea (Gw K)]).F
def IW:R:=(.mk:Sg 0x137632006e023286521103e0230023301e5220126520c [a,b] h [Ea (De K),c 66,K3 (IV c r K)]).F
def Xi:Ru K R:=
 gJ a b fun d=>
 some (d,h)
def EA:R:=(.mk:Sg 0x120220024200c0221e413eb2a10223e213e [a] h [Ea (Xi K)]).F
def D_:Ru K R:=
 Je f fun g=>
 k5 a b d e g h
def DZ:R:=(.mk:Sg 0x1cba9851040232820fe26201204246e013e06e213e56413e15e [a,b,d,e,f] h [Ea (Uv K),cl5 (D_ K k5)] [] [[.int .i64 0]++List.replicate 32 (.int .u8 0)]).F
def Nl(K:Nat):Nat->A5
 | 0=>fun _ _ _ _ _ _=>none
 | m+1=>fun a b d e f h=>
  cE Ji .lss 3 f e
  (DZ K (Nl K m) a b d e f h)
  (EA K b h)
def Xn:R:=
 Gi b fun d=>
 Nl K K a b b d (.int .i64 0) h
def DV:Ru r R:=(.mk:Sg 0x1222522121112101203 [a] h [Ew (Ca K),Ew (My K),c 49]).F
def IX:Ru r R:=(.mk:Sg 0x1c1202b211636e5321691c210121007e613214e036e06e236e500236e15e213 [a] h [Ew (Dp K),c 133,Ew k1] [cu1 (fun g=>h_ 68 g (some (.int .i64 1)) none none)] [List.replicate 4 (.int .i64 0)++List.replicate 64 (.int .u8 0)]).F
def J4(c:Ah)(r:Ah)(K:Nat)(k1:A1)(base:Nat)(s:DX)(a:EV)(b:EV)(d:EV)(h:Ab):R:=
 gJ b d fun e=>
 gQ e
 (IX c r K k1 a h)
 (some (.tuple [],h))
def Nb:R:=
 gJ b d fun e=>
 iF e
 (jv 1 18 262143 base a s h fun s f=>
 Wn 68 f (.int .i64 0) fun g=>
 gZ 0 21 2097151 base g s h fun s i=>
 jv 0 25 29392895 base a s h fun s j=>
 Mc 26 62947327 s h (fun h=>(Rz K j h)) fun n h s=>
 jZ i n fun o=>
 J4 c r K k1 base s a e o h)
 (J4 c r K k1 base s a e tU h)
def Jx(c:Ah)(r:Ah)(K:Nat):Nat->A1
 | 0=>fun _ _=>none
 | m+1=>fun a h=>
  jc h fun base s=>
  jv 0 3 7 base a s h fun s b=>
  Mc 4 15 s h (fun h=>(Tj K b h)) fun d h s=>
  i_ d fun e=>
  iF e
  (jv 1 10 1023 base a s h fun s f=>
  Gi f fun g=>
  jw g (.int .i64 0) fun i=>
  Nb c r K (Jx c r K m) base s a e i h)
  (Nb c r K (Jx c r K m) base s a e tU h)
def Azm:R:=
 Jx c r K K a h
def IY:Ru K R:=(.mk:Sg 0x1002 [] h).F
def IZ:Ru K R:=
 Je d fun e=>
 k3 a b e h
def I2:R:=
 mD 1 a d h fun e=>
 Ao (Gz K e h) fun f h=>
 IZ K k3 a b d h
def Jv(K:Nat):Nat->A3
 | 0=>fun _ _ _ _=>none
 | m+1=>fun a b d h=>
  cE Ji .lss 3 d b
  (I2 K (Jv K m) a b d h)
  (IY K h)
def I4:R:=(.mk:Sg 0x10023300213e503321643c20ae233 [a] h [K3 (Jv K K)]).F
def Ro:R:=(.mk:Sg 0x131000ee02328243 [a] h [Ew (I4 K)]).F
def Q9:Ru K (Ru r (Ru c R)):=(.mk:Sg 0x1002 [] h).F
def Ky:R:=(.mk:Sg 0x10100ee0230ee0218e701e2101 [a] h [c 143,cl0 (Q9 c r K)]).F
def Kv:R:=(.mk:Sg 0x13100002328430be [a,b,d] h [Ew (Ky c r K)]).F
def Rn:R:=(.mk:Sg 0x1202831024a3102a25e8fce3c2a2825e6fbe3622014f9e31021642115e2fae3 [a,b] h [c 142,K3 (Kv c r K)]).F
def Up:R:=(.mk:Sg 0x17622006e023286521103e0230023301e5220126521c [a,b] h [Ea (De K),Ea (Et K),Ea (Rn c r K)]).F
def I':Ru K R:=
 some (a,h)
def I_:Ru K R:=
 Je f fun g=>
 k5 a b d e g h
def JA:R:=(.mk:Sg 0x1a98265104623012f2e531be64116e [a,b,d,e,f] h [K3 (Wq K),cl5 (I_ K k5)]).F
def Nn(K:Nat):Nat->A5
 | 0=>fun _ _ _ _ _ _=>none
 | m+1=>fun a b d e f h=>
  cE Ji .lss 3 f e
  (JA K (Nn K m) a b d e f h)
  (I' K b h)
def Sx:R:=
 Gi d fun e=>
 Nn K K a b d e (.int .i64 0) h
def Xo:R:=(.mk:Sg 0x1222101263 [a] h [Ew (E9 K)]).F
def JB:Ru K R:=
 some (a,h)
def JC:Ru K R:=
 Je e fun f=>
 k4 a b d f h
def JD:R:=(.mk:Sg 0x1ba92400273303e243503e21107e7d01fe21007e53116e [a,b,d,e] h [Vr (JC K k4)] [cu1 (fun f=>Sh .i64 f),cu1 (fun i=>Sh .u64 i)]).F
def Kn(K:Nat):Nat->A4
 | 0=>fun _ _ _ _ _=>none
 | m+1=>fun a b d e h=>
  cE Ji .lss 3 e d
  (JD K (Kn K m) a b d e h)
  (JB K a h)
def JE:R:=(.mk:Sg 0x1002300410213e32201 [a,b] h [Ea (J0 K),Vr (Kn K K)]).F
def Iz:R:=(.mk:Sg 0x154220002411172820fe3101 [a,b] h [Ew (Ww K),Ew (fun a=>J0 K a (.int .i64 (-1))),Ea (JE K)]).F
def Lu:R:=
 Ao (J0 K a b h) fun d h=>
 some (d,h)
def Hd:Ru K R:=
 gJ a b fun d=>
 some (d,h)
def Jl:R:=(.mk:Sg 0x1202210242102101344c2a430be [a,b,d] h [Ew (fun f=>Mt K f (.int .i64 0) (.int .i64 281474976710655)),Ea (Hd K)]).F
def Nu:R:=(.mk:Sg 0x120233102453102101334d2a430be [a,b,d] h [Ew (fun f=>Mt K f (.int .i64 1) (.int .i64 4294967295)),K3 (Jl K)]).F
def Su:R:=(.mk:Sg 0x120233102453102101324d2a430be [a,b,d] h [Ew (fun f=>Mt K f (.int .i64 0) (.int .i64 65535)),K3 (Nu K)]).F
def J2:R:=(.mk:Sg 0x120243202463202111414d2a8010230120427ae9 [a] h [K3 (Mt K),Ew (fun f=>Mt K f (.int .i64 0) (.int .i64 65535)),K3 (Su K)]).F
def Zj:Ru K R:=
 Je e fun f=>
 k4 a b d f h
def Zh:R:=(.mk:Sg 0x1ba284200183603e321660c24211210141007e203 [a,b,d,e] h [Ew (fun g=>Bv [.int .u8 0] 5 1 1 [(0,g)]),Ea (D9 5 1),Vr (Zj K k4)] [cu1 (fun b=>Sh .u8 b)] [] [(.int .u64 8)]).F
def Ja(K:Nat):Nat->A4
 | 0=>fun _ _ _ _ _=>none
 | m+1=>fun a b d e h=>
  cE Ji .lss 3 e d
  (Zh K (Ja K m) a b d e h)
  (some (.tuple [],h))
def Zw:R:=
 Ja K K a d b (.int .i64 0) h
def Ou:R:=(.mk:Sg 0x1543300000e5021631ca286509e [a,b,d,e,f] h [K3 (Zw K)]).F
def D7:R:=(.mk:Sg 0x1202654520248765206222e611101e2d20fe3101 [a,b,d] h [Ew (Ww K),Ew (Vm K),cl5 (Ou K)]).F
def Pk:Ru K (Ru r (Ru c R)):=
 Je d fun e=>
 m3 ((tm.put 26 (some e)).put 12 (some e)) a b e h ds
def JF:R:=
 Wn 1 a d fun e=>
 Ec e h fun f=>
 kG 1 [(.int .i64 0)] 3 d h fun g h=>
 Ao (wg K f h) fun i h=>
 Yk c TT 156 27 0 i (((((((tm.put 14 (some d)).put 15 (some e)).put 16 (some f)).put 3 (some g)).put 4 (some f)).put 17 (some f)).put 18 (some i)) h ds (fun h ds=>
 Pk c r K m3 (((((((tm.put 14 (some d)).put 15 (some e)).put 16 (some f)).put 3 (some g)).put 4 (some f)).put 17 (some f)).put 18 (some i)) a b d h ds) (fun id h ds=>
 Bc (Nat.beq 2 id) (Pk c r K m3 (((((((tm.put 14 (some d)).put 15 (some e)).put 16 (some f)).put 3 (some g)).put 4 (some f)).put 17 (some f)).put 18 (some i)) a b d h ds) (Bc (Nat.beq 1 id) (Pk c r K m3 (((((((tm.put 14 (some d)).put 15 (some e)).put 16 (some f)).put 3 (some g)).put 4 (some f)).put 17 (some f)).put 18 (some i)) a b d h ds) (Bc (Nat.beq 0 id) (Fv ds h fun h=>some (.tuple [],h)) (none)))) (fun h ds=>
 sG tU h ds)
def Lj(c:Ah)(r:Ah)(K:Nat):Nat->B3
 | 0=>fun _ _ _ _ _ _=>none
 | m+1=>fun tm a b d h ds=>
  jO d b fun e=>
  gQ e
  (JF c r K (Lj c r K m) (tm.put 13 (some e)) a b d h ds)
  (sG tU h ds)
def JG:R:=
 (fun(tm:Ay) (ds:List Nat)=>
 Sb 159 a h fun d h=>
 Ec b h fun e=>
 ju e fun f=>
 iE 6 f fun g=>
 Ec g h fun i=>
 Gi i fun j=>
 Lj c r K K (((((((tm.put 2 (some d)).put 7 (some e)).put 8 (some f)).put 9 (some g)).put 10 (some i)).put 11 (some j)).put 12 (some (.int .i64 0))) i j (.int .i64 0) h ds) ((Tr.nil.put 0 (some a)).put 1 (some b)) []
def Yc:Ru K R:=(.mk:Sg 0x102001032820fe62330140de20de [a,b,d] h [K3 (fun e f d=>T5 c r e [f,d]),cl0 (X5 l false .done (some .ret)),cl0 (X5 l true .ready none)]).F
def JH:R:=
 D8 l h fun h=>Yc c r K l a b d h
def U3(c:Ah)(r:Ah)(K:Nat)(tm:Ay)(a:EV)(h:Ab)(ds:List Nat):R:=
 f_ 1 a (.bool true) h fun h=>
 Fv ds h fun h=>Iq TT [.c a 4] h
def B':R:=
 (fun(tm:Ay) (ds:List Nat)=>
 Sb 26 a h fun d h=>
 jN (.cells [(.bool false)] 4) h fun e h=>
 Ec d h fun f=>
 ju f fun g=>
 iE 2 g fun i=>
 Ec i h fun j=>
 Ao (qb K j b h) fun n h=>
 Yk c TT 167 40 0 n ((((((((tm.put 2 (some d)).put 4 (some e)).put 8 (some f)).put 9 (some g)).put 10 (some i)).put 11 (some j)).put 12 (some b)).put 13 (some n)) h ds (fun h ds=>
 U3 c r K ((((((((tm.put 2 (some d)).put 4 (some e)).put 8 (some f)).put 9 (some g)).put 10 (some i)).put 11 (some j)).put 12 (some b)).put 13 (some n)) e h ds) (fun id h ds=>
 Bc (Nat.beq 0 id) (U3 c r K ((((((((tm.put 2 (some d)).put 4 (some e)).put 8 (some f)).put 9 (some g)).put 10 (some i)).put 11 (some j)).put 12 (some b)).put 13 (some n)) e h ds) (none)) (fun h ds=>
 Fv ds h fun h=>Iq TT [.c e 4] h)) ((Tr.nil.put 0 (some a)).put 1 (some b)) []
def Dc(c:Ah)(r:Ah)(K:Nat)(l:Nat)(base:Nat)(s:DX)(a:EV)(b:EV)(d:EV)(h:Ab):R:=
 gX b d fun e=>
 gQ e
 (f_ 1 a (.bool false) h fun h=>
 X5 l false .done (some .ret) h)
 (X5 l true .ready none h)
def Wu:R:=
 Ec a h fun e=>
 fE 2 e h fun f=>
 Ao (K4 K f d h) fun g h=>
 mE g fun i j=>
 kG 6 [(.int .i64 0),(.int .i64 0),(.int .i64 0),(.int .i64 0),(.int .i64 0),(.int .i64 0)] 87 i h fun n h=>
 jc h fun base s=>
 O0 0 0 base a s fun s=>Ec a h fun o=>
 jv 0 3 7 base o s h fun s p=>
 gZ 1 5 16 base n s h fun s q=>
 Mc 6 63 s h (fun h=>(Et K p q h)) fun t h s=>
 gP t
 (O0 8 255 base a s fun s=>Ec a h fun u=>
 jv 0 11 2047 base u s h fun s w=>
 gZ 2 13 4351 base n s h fun s x=>
 Mc 14 16383 s h (fun h=>(Et K w x h)) fun y h s=>
 Dc c r K l base s b t y h)
 (Dc c r K l base s b t tU h)
def BZ:R:=
 D8 l h fun h=>Wu c r K l a b d h
def JI:Ru r (Ru c R):=(.mk:Sg 0x1000e2ab323fff4f00e7242107e20ae94003fb32e10e24211e03f97232e5272e8b01e414e232e5212e6b4014e725704ba73311e0ee3233e6271e717e1f0e05e618e232011e57325304b673311e0ee2e1e0206e232007e434324 [a,b] h [Ea (oO TT 239 254 false),Ea (Ov K),K3 (Zr TT 239)] [cu2 (fun d e=>Bt (D1 [(0,1),(1,1)]) [.int .i64 0,.int .i64 0] [(0,d),(1,e)]),cu2 (fun y aa=>Bt (D1 [(0,64),(64,1)]) (List.replicate 64 (.int .u8 0)++[.int .i64 0]) [(0,y),(1,aa)])] [[.int .i64 0,.int .i64 0],List.replicate 64 (.int .u8 0)++[.int .i64 0]]).F
def JJ:R:=(.mk:Sg 0x189210000e200218e801e2456403ff3fa7232e52f2e9b5414e432e7310e302e5210e373011e0ee314e9 [a,b] h [c 198,Ea (JI c r K)]).F
def JK:R:=(.mk:Sg 0x10026220142116e203 [a,b,d] h [Ea (Hi K)]).F
def Ow:R:=(.mk:Sg 0x165431003e0232820fe32201 [a,b,d] h [Ea (Il K),K3 (JK K)]).F
def JL:R:=(.mk:Sg 0x123200e20ce210142116e263 [a,b] h [Ew (F9 K)]).F
def Xa:R:=(.mk:Sg 0x14320003e000200e6285409e [a,b,d,e] h [Ea (JL K)]).F
def O2:R:=(.mk:Sg 0x12024340025764002623e213e36301e2d00320e [a,b] h [Vr (Xa K)]).F
def JM:R:=(.mk:Sg 0x122210142116e203 [a,b] h [Ew (D5 K)]).F
def Jw:R:=(.mk:Sg 0x154210c0232820fe32201 [a,b] h [Ea (Il K),Ea (JM K)]).F
def Yd:Ru K (Ru r R):=(.mk:Sg 0x12242201203 [a,b] h [c 179]).F
def Ht:R:=(.mk:Sg 0x14321022522013f9e3a0053701e0023286509e [a,b,d,e,f] h [c 41,Ea (Yd c r K)]).F
def K7:R:=(.mk:Sg 0x1202543500258765002724e22431c03e2d6509e [a,b,d,e,f] h [cl5 (Ht c r K)]).F
def JN:R:=(.mk:Sg 0x12025435102365451043201d2d01324e [a,b,d] h [Ea (Et K),cl5 (K7 c r K)] [] [] [(.int .i64 (-1))]).F
def Uf:Ru K R:=
 some (a,h)
def JO:Ru K R:=
 Je f fun g=>
 k5 a b d e g h
def JP:R:=
 mD 1 d f h fun g=>
 Ao (Gw K a g h) fun i h=>
 JO K k5 a b d e f h
def Ib(K:Nat):Nat->A5
 | 0=>fun _ _ _ _ _ _=>none
 | m+1=>fun a b d e f h=>
  cE Ji .lss 3 f e
  (JP K (Ib K m) a b d e f h)
  (Uf K b h)
def Uk:R:=
 Gi b fun d=>
 Ib K K a b b d (.int .i64 0) h
def JQ:Ru K R:=
 Je e fun f=>
 k4 a b d f h
def JR:R:=(.mk:Sg 0x18765430a92743027221311102e00218e701e20ce2101 [a,b,d,e] h [Ew (F9 K),Ew (fun g=>Bv [.int .i64 0] 3 1 1 [(0,g)]),Ea (D9 3 1),Vr (JQ K k4)]).F
def Ia(K:Nat):Nat->A4
 | 0=>fun _ _ _ _ _=>none
 | m+1=>fun a b d e h=>
  cE Ji .lss 3 e d
  (JR K (Ia K m) a b d e h)
  (Uk K a b h)
def Ts:R:=(.mk:Sg 0x1002b034102101 [a] h [Ew (E8 K),Vr (Ia K K)]).F
abbrev Vc(K:Nat)(c:Ah):Ah:=(w1 123 (E8 K) (w2 81 (Gw K) (w1 202 (F9 K) c)))
def JS:Ru K R:=
 Iq TT [.v a,.v b,.v d] h
def JT:R:=(.mk:Sg 0x123633050000000304ea00518e801e20ce5722120ce34221232112101 [a] h [Ew (fun a=>Jy K a (.int .i64 (-1))),Ea (Jy K),Ea (O2 K),K3 (JS K)]).F
def X0:R:=(.mk:Sg 0x1311005e00000000304eb0023701e2101 [a] h [Ew (Ik K),Ew (JT K)]).F
def JU:R:=(.mk:Sg 0x12012ea1204e3a32e620ce6220142116e203 [a,b,d,e] h [Ea (Hj K)]).F
def Tl:R:=(.mk:Sg 0x136544103012e41204e2432e60007e00e00218e801e43201012e05e [a,b,d] h [Ea (H4 K),Vr (JU K)] [cu0 (Bt (Mg 1) (List.replicate 64 (.int .u8 0)) [])] [List.replicate 64 (.int .u8 0)]).F
def Yx:R:=(.mk:Sg 0x122210142116e203 [a,b] h [Ew (Gp K)]).F
def Pc:R:=(.mk:Sg 0x14321022200218e801e32201 [a,b] h [Ea (H4 K),Ea (Yx K)]).F
def Jo:Ru K R:=
 gJ a b fun d=>
 some (d,h)
def Nv:R:=(.mk:Sg 0x1202210242102101318e5c2a430be [a,b,d] h [Ew (Pq K),Ea (Jo K)]).F
def Sv:R:=(.mk:Sg 0x120233102453102101354d2a430be [a,b,d] h [Ew (fun f=>Ps K f (.int .i64 0) (.int .i64 65535)),K3 (Nv K)]).F
def Rb:R:=(.mk:Sg 0x120243202463202111434d2a2101214289e9 [a] h [Ew (fun d=>Ps K d (.int .i64 0) (.int .i64 281474976710655)),Ew (fun f=>Ps K f (.int .i64 0) (.int .i64 255)),K3 (Sv K)]).F
def BB:Ru K R:=(.mk:Sg 0x10024226522319e31c542007e [a,b,d,e] h [] [cu2 (fun d e=>Bt (D1 [(0,1),(1,1)]) [.int .i64 0,.int .i64 0] [(0,d),(1,e)])]).F
def BA:R:=(.mk:Sg 0x1654340003e023287609e [a,b,d,e,f,g] h [Vr (BB K)]).F
def Bd:R:=(.mk:Sg 0x12065432600276543600870bec6d [a,b,d,e,f,g,i] h [cl6 (BA K)]).F
def A_:R:=(.mk:Sg 0x120765432700287654370001425e00e7a [a,b,d,e,f,g] h [cl7 (Bd K)] [] [] [(.int .i64 (-1))]).F
def A':R:=(.mk:Sg 0x120265436002376546006524ec2d7609e [a,b,d,e,f,g] h [cl6 (A_ K)]).F
def AZ:R:=(.mk:Sg 0x1202654361024876561020fe64330103e2d7609e [a,b,d,e,f,g] h [K3 (Qh K),cl6 (A' K)]).F
def Sw:R:=(.mk:Sg 0x1202765462024987662020fe65431103e2d20fe3101 [a,b,d,e] h [Ew (su K),K3 (Qh K),cl6 (AZ K)]).F
def Ws:Ru K (Ru r (Ru c R)):=(.mk:Sg 0x1002 [] h).F
def Rs:R:=(.mk:Sg 0x10000fe02328320be [a,b] h [cl0 (Ws c r K)]).F
def Rj:R:=(.mk:Sg 0x12022202322000722e92a00224e21112101203 [a,b] h [Ew (Ci K),Ew (Ik K),Ea (Rs c r K)]).F
def DR:Ru K (Ru r (Ru c R)):=
 Je e fun f=>
 k4 a b d f h
def Rq:R:=
 gX f g fun i=>
 gQ i
 (Rj c r K a b h)
 (DR c r K k4 a b d e h)
def DQ:R:=(.mk:Sg 0x1202874360023985460000618e802e01e2d40fe [a,b,d,e,f,g] h [cl6 (Rq c r K k4)]).F
def DP:R:=(.mk:Sg 0x18723656102220ee0218e701e20ce2101 [a,b,d,e] h [c 87,cl6 (DQ c r K k4)]).F
def DO:R:=(.mk:Sg 0x187654200023623601e21112101203 [a,b,d,e] h [Ew (Ci K),Ew (Ik K),Vr (DP c r K k4)]).F
def Np(c:Ah)(r:Ah)(K:Nat):Nat->A4
 | 0=>fun _ _ _ _ _=>none
 | m+1=>fun a b d e h=>
  cE Ji .lss 3 e d
  (DO c r K (Np c r K m) a b d e h)
  (Rj c r K a b h)
def DU:R:=(.mk:Sg 0x1002764202301fe21112101203 [a,b] h [Ew (Ca K),Ew (Dq K),Vr (Np c r K K)]).F
def Py:R:=(.mk:Sg 0x14320003e023285409e [a,b,d,e] h [Ea (DU c r K)]).F
def DT:R:=(.mk:Sg 0x12024342026874202722e2111210130307e2d00320e [a,b] h [Ew (Ca K),Ew (Dq K),Vr (Py c r K)]).F
def U4(c:Ah)(r:Ah)(K:Nat)(tm:Ay)(a:EV)(h:Ab)(ds:List Nat):R:=
 f_ 1 a (.bool true) h fun h=>
 Fv ds h fun h=>Iq TT [.c a 4] h
def Vj:R:=
 iE 3 a fun d=>
 Ec d h fun e=>
 Ao (Xo K e h) fun f h=>
 Yk c TT 93 36 0 f (((tm.put 26 (some d)).put 27 (some e)).put 28 (some f)) h ds (fun h ds=>
 U4 c r K (((tm.put 26 (some d)).put 27 (some e)).put 28 (some f)) b h ds) (fun id h ds=>
 Bc (Nat.beq 0 id) (U4 c r K (((tm.put 26 (some d)).put 27 (some e)).put 28 (some f)) b h ds) (none)) (fun h ds=>
 Fv ds h fun h=>Iq TT [.c b 4] h)
def I7:R:=
 gX d e fun f=>
 gQ f
 (f_ 1 b (.bool false) h fun h=>
 Fv ds h fun h=>Iq TT [.c b 4] h)
 (Vj c r K (tm.put 25 (some f)) a b h ds)
def Lv:R:=
 gX d e fun f=>
 gP f
 (iE 2 a fun g=>
 Ec g h fun i=>
 Ao (Se K i (.int .i64 281474976710655) h) fun j h=>
 i_ j fun n=>
 I7 c r K ((((((tm.put 19 (some f)).put 20 (some f)).put 21 (some g)).put 22 (some i)).put 23 (some j)).put 24 (some n)) a b f n h ds)
 (I7 c r K ((((((tm.put 19 (some f)).put 20 (some f)).put 21 (some tU)).put 22 (some tU)).put 23 (some tU)).put 24 (some tU)) a b f tU h ds)
def Pg:R:=
 gX d e fun f=>
 gP f
 (iE 1 a fun g=>
 Ec g h fun i=>
 Ao (Se K i (.int .i64 4294967295) h) fun j h=>
 i_ j fun n=>
 Lv c r K ((((((tm.put 13 (some f)).put 14 (some f)).put 15 (some g)).put 16 (some i)).put 17 (some j)).put 18 (some n)) a b f n h ds)
 (Lv c r K ((((((tm.put 13 (some f)).put 14 (some f)).put 15 (some tU)).put 16 (some tU)).put 17 (some tU)).put 18 (some tU)) a b f tU h ds)
def za:R:=
 (fun(tm:Ay) (ds:List Nat)=>
 Sb 58 a h fun b h=>
 jN (.cells [(.bool false)] 4) h fun d h=>
 iE 3 b fun e=>
 Ec e h fun f=>
 K1 iH (bin TT .eql 55) f .F7 fun g=>
 gP g
 (iE 0 b fun i=>
 Ec i h fun j=>
 Ao (Se K j (.int .i64 281474976710655) h) fun n h=>
 i_ n fun o=>
 Pg c r K ((((((((((tm.put 1 (some b)).put 2 (some d)).put 5 (some e)).put 6 (some f)).put 7 (some g)).put 8 (some g)).put 9 (some i)).put 10 (some j)).put 11 (some n)).put 12 (some o)) b d g o h ds)
 (Pg c r K ((((((((((tm.put 1 (some b)).put 2 (some d)).put 5 (some e)).put 6 (some f)).put 7 (some g)).put 8 (some g)).put 9 (some tU)).put 10 (some tU)).put 11 (some tU)).put 12 (some tU)) b d g tU h ds)) (Tr.nil.put 0 (some a)) []
def Yh:Ru K (Ru r (Ru c R)):=(.mk:Sg 0x1010000405168233601e324444 [a,b,d] h [cl0 (X5 l false .done (some .ret)),cl0 (X5 l true .ready none)]).F
def y8:R:=
 kG 6 [(.int .i64 0),(.int .i64 0),(.int .i64 0),(.int .i64 0),(.int .i64 0),(.int .i64 0)] 87 d h fun e h=>
 D8 l h fun h=>Yh c r K l a b e h
def Pn:Ru K R:=
 gJ a b fun d=>
 some (d,h)
def Pp:R:=(.mk:Sg 0x12022102521020053011021ee42405e2a540be [a,b,d,e] h [K3 (K9 K),Ea (Pn K)]).F
def Mp:R:=(.mk:Sg 0x120247430268b43020093211021ee21114650be2a2101265209e9 [a,b,d] h [Ew (Mq K),Ew (Dq K),K3 (K9 K),Vr (Pp K)]).F
def rQ:R:=(.mk:Sg 0x178e08e1104e208e1ee602e13121001e32102e54210d32100e44230b321c342109321a2421073218142105321604232118242d0e90007e209e1606e2101334078e05e22ce9 [a] h [Ew (N2 K),Ea (fun j n=>D7 K j (.int .i64 6) n),K3 (D7 K),Ew (pM K)] [cu0 (Bt (D1 [(0,1),(1,1)]) [.Am,.bool false] [])] [List.replicate 44 (.int .u8 0),[.int .i64 0,.int .i64 0,.int .i64 0,.int .i64 0,.int .i64 0,.int .i64 0]]).F
def zU:Ru K R:=
 some (a,h)
def Tc:R:=(.mk:Sg 0x13120012300218e801e20ce522112101203 [a,b] h [Ew (Ci K),Ea (O2 K),Ew (zU K)] [] [] [(.int .i64 (-1))]).F
def Nr:R:=
 gJ e f fun g=>
 gQ g
 (some (d,h))
 (Tc K a b h)
def Re:R:=(.mk:Sg 0x12026a9510259dc51020fe7220190304e2a01525e012162114e722319e51c214422319e21c [a,b] h [Ea (Et K),cl5 (Nr K)] [] [] [(.int .i64 (-1))]).F
def zP:Ru r R:=(.mk:Sg 0x122522112101203 [a,b] h [Ew (Bw K),c 179]).F
def zO:R:=(.mk:Sg 0x17623000233023701e6222121112101203 [a,b] h [Ew (Bw K),Ew (Eu K),Ea (Jw K),Ea (zP c r K)]).F
def zN:Ru K (Ru r (Ru c R)):=
 Je f fun g=>
 k5 a b d e g h
def Pj:R:=
 cE iK .neq 38 d (.int .i64 0)
 (some (d,h))
 (zN c r K k5 a b e f g h)
def Pu:R:=(.mk:Sg 0x18765436008760ae043600a28980be [a,b,d,e,f,g,i,j] h [cl6 (Pj c r K k5)]).F
def zM:R:=(.mk:Sg 0x120202e01e00e3dc8202303e02e01e400ed82002e425e00e2a00218e702e20ce2933171e77432e5406b21001e47573011e0ee212e032e06e232e56432e15e [a,b,d,e,f] h [Ew (Bw K),c 177,cl8 (Pu c r K k5)] [] [List.replicate 64 (.int .u8 0)]).F
def Lw(c:Ah)(r:Ah)(K:Nat):Nat->A5
 | 0=>fun _ _ _ _ _ _=>none
 | m+1=>fun a b d e f h=>
  cE Ji .lss 3 f e
  (zM c r K (Lw c r K m) a b d e f h)
  (zO c r K a b h)
def zS:R:=
 Gi d fun e=>
 Lw c r K K a b d e (.int .i64 0) h
def zR:R:=(.mk:Sg 0x154331022200218e801e32201 [a,b,d] h [c 176,K3 (zS c r K)]).F
def zQ:R:=(.mk:Sg 0x13b932022200218e801e20ce8233171e77445405b21001e47373011e0ee32ce9 [a,b,d] h [Ew (Kc K),c 174,K3 (zR c r K)]).F
def yP:R:=(.mk:Sg 0x122210142116e203 [a,b] h [Ew (Gx K)]).F
def Q6:R:=(.mk:Sg 0x14321022200218e801e32201 [a,b] h [Ea (H4 K),Ea (yP K)]).F
def zL:Ru r R:=(.mk:Sg 0x122522112101203 [a,b] h [Ew (Bw K),c 96]).F
def zK:R:=(.mk:Sg 0x17623000230023701e6222121112101203 [a,b] h [Ew (Bw K),Ew (Eu K),Ea (Jw K),Ea (zL c r K)]).F
end
variable{d:Nat}(H:Cf disp)
include H
theorem XM(hd:1<=d):S1 disp K d 127 CK:=fun _=>ld rfl rfl H (V1 (C9 H) hd<|V1 (Fs H) hd<|V2 (HD H) hd<|rfl) 51 (fun c r=>e4 (Ii c r K) 0 3 11 12)
theorem Apb(hd:1<=d):S2 disp K d 139 IQ:=fun _ _=>rd rfl rfl H (V1 (Ys H) hd<|rfl)
theorem L8(hd:2<=d):R2 disp K d 180 (H4 K):=fun _ _=>rl H hd fun d hd=>V2 (Ol H) hd<|rfl
theorem Wm(hd:2<=d):R2 disp K d 215 (Dy K):=fun _ _=>rl H hd fun d hd=>V1 (Hn H) hd<|rfl
theorem XU(hd:1<=d):S1 disp K d 17 CS:=fun _=>ld rfl rfl H (V1 (Em H) hd<|V1 (C9 H) hd<|V1 (Fs H) hd<|rfl) 207 (fun c r=>e3 (Fu c r K) 0 62 63)
theorem Ar1(hd:2<=d):S2 disp K d 41 IW:=fun _ _=>rd rfl rfl H (V2 (Ez H) hd<|V2 (Ug H) hd<|rfl)
theorem Ar6(hd:3<=d):R2 disp K d 67 (Xn K):=fun _ _=>ll H hd (fun d hd=>V2 (HE H) hd<|rfl) 25 (e5 (Nl K) 0 1 7 8 9)
theorem YL(hd:1<=d):S1 disp K d 68 DV:=fun _=>rd rfl rfl H (V1 (C9 H) hd<|V1 (Y4 H) hd<|rfl)
theorem As4(hd:1<=d):S1 disp K d 91 Azm:=fun _=>ld rfl rfl H (V1 (R8 H) hd<|V1 (Μ H) hd<|V1 (An2 H) hd<|rfl) 2 (fun c r=>e1 (Jx c r K) 0)
theorem Am9(hd:2<=d):R1 disp K d 92 (Ro K):=fun _=>ll H hd (fun d hd=>V1 (X3 H) hd<|rfl) 103 (e3 (Jv K) 19 20 21)
theorem Aci(hd:3<=d):S2 disp K d 97 Up:=fun _ _=>rd rfl rfl H (V2 (Ez H) hd<|V2 (Gr H) hd<|rfl)
theorem JV(hd:2<=d):R3 disp K d 120 (Sx K):=fun _ _ _=>ll H hd (fun d hd=>V3 (Ass H) hd<|rfl) 25 (e5 (Nn K) 0 1 9 10 11)
theorem JW(hd:2<=d):R1 disp K d 136 (Xo K):=fun _=>rl H hd fun d hd=>V1 (To H) hd<|rfl
theorem JX(hd:2<=d):R2 disp K d 147 (Iz K):=fun _ _=>ll H hd (fun d hd=>V1 (IJ H) hd<|V2 (Yr H) hd<|rfl) 103 (e4 (Kn K) 5 15 16 17)
theorem Yb(hd:2<=d):R2 disp K d 148 (Lu K):=fun _ _=>rl H hd fun d hd=>V2 (Yr H) hd<|rfl
theorem Qw(hd:2<=d):R1 disp K d 149 (J2 K):=fun _=>rl H hd fun d hd=>V3 (Av3 H) hd<|rfl
theorem Nx(hd:2<=d):R3 disp K d 153 (D7 K):=fun _ _ _=>ll H hd (fun d hd=>V1 (IJ H) hd<|V1 (Ax5 H) hd<|rfl) 11 (e4 (Ja K) 0 2 18 19)
theorem Aqv(hd:1<=d):S2 disp K d 156 JG:=fun _ _=>ld rfl rfl H (V1 (Aqo H) hd<|rfl) 11 (fun c r m A tm h ds=>Lj c r K m tm (A 10) (A 11) (A 12) h ds)
theorem Ako(hd:1<=d){l:Nat}(tm:Ay)(h:Ab)(G:EV)(A:EV){st:LoopState}{p:Option Code}(J:h.get l=some (.loop st p 156 27 tm [19,20] (Fa TT 156 0).2.2.1 (Fa TT 156 0).2.2.2 d0)):
 Ag TT disp K (d+1) true l [G,A] h=JH (Ag TT disp K d false) (Ag TT disp K d true) K l (tmp tm 2) (tmp tm 3) A h:=rr rfl rfl (rfl) J rfl (by kernel_rfl)
theorem XC(hd:3<=d):S2 disp K d 167 B':=fun _ _=>rd rfl rfl H (V2 (HG H) hd<|rfl)
theorem XA(hd:3<=d){l:Nat}(tm:Ay)(h:Ab)(A:EV){st:LoopState}{p:Option Code}(G:h.get l=some (.loop st p 167 40 tm [14] (Fa TT 167 0).2.2.1 (Fa TT 167 0).2.2.2 d0)):
 Ag TT disp K (d+1) true l [A] h=BZ (Ag TT disp K d false) (Ag TT disp K d true) K l (tmp tm 2) (tmp tm 4) A h:=rr rfl rfl (V2 (Lc H) hd<|V2 (Gr H) hd<|rfl) G rfl (by kernel_rfl)
theorem Anp(hd:1<=d):S2 disp K d 169 JJ:=fun _ _=>rd rfl rfl H (V2 (IK H) hd<|rfl)
theorem Ap2(hd:2<=d):R3 disp K d 170 (Ow K):=fun _ _ _=>rl H hd fun d hd=>V2 (Ol H) hd<|V2 (Yq H) hd<|rfl
theorem JY(hd:2<=d):R2 disp K d 173 (O2 K):=fun _ _=>rl H hd fun d hd=>V1 (S8 H) hd<|rfl
theorem Yz(hd:2<=d):R2 disp K d 178 (Jw K):=fun _ _=>rl H hd fun d hd=>V2 (Ol H) hd<|V1 (Hw H) hd<|rfl
theorem Ajl(hd:3<=d):S3 disp K d 184 JN:=fun _ _ _=>rd rfl rfl H (V2 (Gr H) hd<|rfl)
omit H in
theorem Anb(c G r:Ah)(K:Nat)(m:Nat):j4 false (Vc K c) G r K 191 103 [(2,fun A tm h ds=>Uf K (A 3) h)] m=(fun m A tm h ds=>Ib K m (A 0) (A 3) (A 24) (A 25) (A 26) h) m:=
 O1 (E:=fun m A tm h ds=>Ib K m (A 0) (A 3) (A 24) (A 25) (A 26) h) rfl (fun m=>jQ fun A tm h ds=>by kernel_rfl) m
omit H in
theorem Anj(c G r:Ah)(K:Nat)(m:Nat):j4 false (Vc K c) G r K 191 51 [(0,fun A tm h ds=>Uk K (A 0) (A 3) h)] m=(fun m A tm h ds=>Ia K m (A 0) (A 3) (A 9) (A 10) h) m:=
 O1 (E:=fun m A tm h ds=>Ia K m (A 0) (A 3) (A 9) (A 10) h) rfl (fun m=>jQ fun A tm h ds=>by kernel_rfl) m
theorem Anl(hd:2<=d):R1 disp K d 191 (Ts K):=by
 obtain⟨d,rfl⟩:∃e,d=e+1:=⟨d-1,a_⟩;have hd:=eH hd;exact fun _=>rm (q:=false) (D:=Vc K (Ag TT disp K d false)) (by kernel_rfl) rfl rfl H (V1 (Kq H) hd<|V2 (Ug H) hd<|V1 (S8 H) hd<|rfl) (cut [true,true,true,false,true,false] (Anb (Ag TT disp K d false) (Ag TT disp K d false) (Ag TT disp K d true) K K) (by kernel_rfl) (by kernel_rfl) (cut [true,true,false,true,false] (Anj (Ag TT disp K d false) (Ag TT disp K d false) (Ag TT disp K d true) K K) (by kernel_rfl) (by kernel_rfl) rfl))
theorem Arz(hd:4<=d):R1 disp K d 193 (X0 K):=fun _=>rl H hd fun d hd=>V1 (HC H) hd<|V2 (Y9 H) hd<|V2 (JY H) hd<|rfl
theorem Aob(hd:3<=d):R3 disp K d 195 (Tl K):=fun _ _ _=>rl H hd fun d hd=>V2 (L8 H) hd<|V2 (Yp H) hd<|rfl
theorem Alj(hd:3<=d):R2 disp K d 206 (Pc K):=fun _ _=>rl H hd fun d hd=>V2 (L8 H) hd<|V1 (Wk H) hd<|rfl
theorem Am0(hd:3<=d):R1 disp K d 208 (Rb K):=fun _=>rl H hd fun d hd=>V3 (IM H) hd<|V1 (Alx H) hd<|rfl
theorem Asq(hd:4<=d):R4 disp K d 38 (Sw K):=fun _ _ _ _=>rl H hd fun d hd=>V1 (A43 H) hd<|V3 (Aqs H) hd<|rfl
theorem YK(hd:3<=d):S2 disp K d 49 DT:=fun _ _=>ld rfl rfl H (V1 (C9 H) hd<|V1 (Fs H) hd<|V1 (H6 H) hd<|V1 (HC H) hd<|rfl) 51 (fun c r=>e4 (Np c r K) 0 1 25 26)
theorem TJ(hd:2<=d):S1 disp K d 93 za:=fun _=>rd rfl rfl H (V2 (Ax3 H) hd<|V1 (JW H) hd<|rfl)
theorem TE(hd:2<=d){l:Nat}(tm:Ay)(h:Ab)(G:EV)(A:EV){st:LoopState}{p:Option Code}(J:h.get l=some (.loop st p 93 36 tm [29,30] (Fa TT 93 0).2.2.1 (Fa TT 93 0).2.2.2 d0)):
 Ag TT disp K (d+1) true l [G,A] h=y8 (Ag TT disp K d false) (Ag TT disp K d true) K l (tmp tm 1) (tmp tm 2) A h:=rr rfl rfl (rfl) J rfl (by kernel_rfl)
theorem JZ(hd:4<=d):R3 disp K d 103 (Mp K):=fun _ _ _=>rl H hd fun d hd=>V1 (Uj H) hd<|V1 (Fs H) hd<|V3 (HA H) hd<|rfl
theorem A1b(hd:3<=d):R1 disp K d 104 (rQ K):=fun _=>rl H hd fun d hd=>V1 (W6 H) hd<|V3 (Nx H) hd<|V1 (IP H) hd<|rfl
theorem Am8(hd:4<=d):R2 disp K d 137 (Re K):=fun _ _=>rl H hd fun d hd=>V2 (Gr H) hd<|V1 (H6 H) hd<|V2 (JY H) hd<|rfl
theorem UQ(hd:2<=d):S3 disp K d 138 zQ:=fun _ _ _=>ld rfl rfl H (V1 (Ajt H) hd<|V1 (Em H) hd<|V1 (Qr H) hd<|V2 (Yz H) hd<|rfl) 207 (fun c r=>e5 (Lw c r K) 0 2 34 35 36)
theorem Am4(hd:3<=d):R2 disp K d 140 (Q6 K):=fun _ _=>rl H hd fun d hd=>V2 (L8 H) hd<|V1 (Wz H) hd<|rfl
theorem UN(hd:2<=d):S2 disp K d 176 zK:=fun _ _=>rd rfl rfl H (V1 (Em H) hd<|V1 (Qr H) hd<|V2 (Yz H) hd<|rfl)
end
end
section
noncomputable section
section
variable (c r:Ah)(K l:Nat)(k0:A0)(k1:A1)(k2:A2)(k3:A3)(k4:A4)(k5:A5)(k6:A6)(k7:A7)(k8:A8)(k9:A9)(oS:mB)(oT:mC)(oU:nv)(m0:B0)(m1:B1)(m2:B2)(m3:B3)(m4:B4)(m5:B5)(m6:B6)(m7:B7)(m8:B8)(m9:B9)(oV:nt)(oW:nu)(oX:ny)(base:Nat)(s:DX)(tm:Ay)(a b d e f g i j n o p q t u w x y z aa ab ad ae af ag ai aj an ao ap aq au aw ax ay az ba bb bd be bf bg bi bj bn bo bp bq bt bu bw bx bz da db dd de df dg di dj dn dp dq dt du dw dx dy dz ea eb ed ee ef eg ei ej en eo ep eq et eu ew ex ey ez fa fb fd fe ff fg fi fj fn fo fp fq ft fu fw fx fy fz ga gb gd ge gf gg gi gj gn go gp gq gt gu gw gx gy gz ia ib ie ig ii ij io ip iq it iu iw ix iy iz ja jb:EV)(h:Ab)(ds:List Nat)
def rP:R:=(.mk:Sg 0x1000e2c000e301c542c211a44210a301834230830162423063014142104301204349e9 [a,b] h [K3 (D7 K),Ea (fun a q=>D7 K a (.int .i64 6) q)]).F
def N7:R:=(.mk:Sg 0x12201239e403e4220123be9 [a,b] h [Ea (fun d b=>Sx K d (.int .u32 4294967295) b)] [] [] [(.int .u32 4294967295)]).F
def BW:Ru r R:=
 (fun(tm:Ay) (ds:List Nat)=>
 Sb 77 a h fun e h=>
 Ec b h fun f=>
 Ao (Xo K f h) fun g h=>
 Yk c TT 166 31 0 g (((tm.put 3 (some e)).put 6 (some f)).put 7 (some g)) h ds (fun h ds=>
 Fv ds h fun h=>some (.tuple [],h)) (fun id h ds=>
 Bc (Nat.beq 0 id) (Fv ds h fun h=>some (.tuple [],h)) (none)) (fun h ds=>
 Fv ds h fun h=>some (.tuple [],h))) (((Tr.nil.put 0 (some a)).put 1 (some b)).put 2 (some d)) []
def Jb:Ru K (Ru r (Ru c R)):=
 gJ a b fun d=>
 gQ d
 (X5 l false .done (some .ret) h)
 (X5 l true .ready none h)
def Ln:R:=(.mk:Sg 0x12022102521020fe5220130de00e2a540be [a,b,d,e] h [Ea (fun g b=>T5 c r g [b]),Ea (Jb c r K l)]).F
def Lt:R:=(.mk:Sg 0x12043240025434006509ea4a [a,b,d,e,f] h [Vr (Ln c r K l)]).F
def Ph:R:=(.mk:Sg 0x12076435002a9765002324e30de52402e7d [a,b,d,e,f,g] h [cl5 (Lt c r K l)]).F
def BV:R:=(.mk:Sg 0x1202765460025a9876002324e50de71403e2a10224e504 [a,b,d,e] h [cl6 (Ph c r K l)]).F
def BU:R:=
 kG 6 [(.int .i64 0),(.int .i64 0),(.int .i64 0),(.int .i64 0),(.int .i64 0),(.int .i64 0)] 87 e h fun f h=>
 D8 l h fun h=>BV c r K l a b d f h
def Qz:R:=(.mk:Sg 0x123200e20ce2320f1e87732e5707b20de231e6b42115e273011e0ee [a,b,d] h [Ea (Dy K)]).F
def Mb(K:Nat)(base:Nat)(s:DX)(a:EV)(b:EV)(d:EV)(e:EV)(f:EV)(h:Ab):R:=
 gJ e f fun g=>
 gQ g
 (some (.tuple [(.int .i64 0),(.int .i64 33)],h))
 (Qz K a b d h)
def Yy:R:=
 jc h fun base s=>
 jv 0 3 7 base a s h fun s e=>
 Wn 1 e b fun f=>
 O0 6 63 base f s fun s=>Ec f h fun g=>
 Mc 7 127 s h (fun h=>(D5 K g h)) fun i h s=>
 nH i (.int .i64 0) fun j=>
 iF j
 (Mc 11 2047 s h (fun h=>(Px K a h)) fun n h s=>
 jv 2 15 29695 base a s h fun s o=>
 mH n o fun p=>
 Mb K base s a b d j p h)
 (Mb K base s a b d j tU h)
def Pz:R:=(.mk:Sg 0x1354310200200e500218e801e43201412e9 [a,b,d] h [Ea (H4 K),K3 (Yy K)]).F
def X6:R:=(.mk:Sg 0x1222a221246843121307e21939e603e21207e11739e603e21107e01539e603e41007e72221011522012f2e523be9 [a,b] h [Ea (N7 K),cl0 (Bv [.int .u8 0] 5 1 0 []),Ea (D9 5 1),Vr (fun j o q u=>Bv [.int .u8 0] 5 1 4 [(0,j),(1,o),(2,q),(3,u)])] [cu1 (fun f=>Sh .u8 f),cu1 (fun n=>Sh .u8 n),cu1 (fun p=>Sh .u8 p),cu1 (fun t=>Sh .u8 t)] [] [(.int .u64 8),(.int .u64 16),(.int .u64 24)]).F
def J':Ru r R:=(.mk:Sg 0x12221113032101 [a] h [c 91,Ew (Ro K)]).F
def y7:R:=(.mk:Sg 0x178e31104e231ee63101 [a,b] h [Ew (pM K)]).F
def y6:Ru K R:=
 Je f fun g=>
 k5 a b d e g h
def yZ:R:=(.mk:Sg 0x102e01e00edc520200e211265349e0606e20ce25201921de2301fe1031ee334 [a,b,d,e,f] h [Ea (K4 K),Ea (rP K),cl5 (y6 K k5)] [] [[.int .i64 0,.int .i64 0,.int .i64 0,.int .i64 0,.int .i64 0,.int .i64 0]]).F
def Ya(K:Nat):Nat->A5
 | 0=>fun _ _ _ _ _ _=>none
 | m+1=>fun a b d e f h=>
  cE Ji .lss 3 f (.int .i64 2)
  (yZ K (Ya K m) a b d e f h)
  (y7 K d e h)
def rS:R:=(.mk:Sg 0x100356851071023012d0e90007e078e05e22ce9 [a,b] h [K3 (D7 K),cl5 (Ya K K)] [cu0 (Bt (D1 [(0,1),(1,1)]) [.Am,.bool false] [])] [List.replicate 44 (.int .u8 0)]).F
def yL:Ru K R:=(.mk:Sg 0x1402 [] h).F
def Ef(K:Nat)(base:Nat)(s:DX)(a:EV)(b:EV)(h:Ab):R:=
 gJ a b fun d=>
 some (d,h)
def Fg:R:=
 gJ b d fun e=>
 iF e
 (gZ 5 42 4398046511103 base a s h fun s f=>
 jZ f (.int .i64 4294967295) fun g=>
 Ef K base s e g h)
 (Ef K base s e tU h)
def Ge:R:=
 gJ b d fun e=>
 iF e
 (gZ 5 37 137438953471 base a s h fun s f=>
 mH f (.int .i64 0) fun g=>
 Fg K base s a e g h)
 (Fg K base s a e tU h)
def Ie:R:=
 gJ b d fun e=>
 iF e
 (gZ 4 32 4294967295 base a s h fun s f=>
 jZ f (.int .i64 281474976710655) fun g=>
 Ge K base s a e g h)
 (Ge K base s a e tU h)
def Ki:R:=
 gJ b d fun e=>
 iF e
 (gZ 4 27 134217727 base a s h fun s f=>
 mH f (.int .i64 1) fun g=>
 Ie K base s a e g h)
 (Ie K base s a e tU h)
def Kb:R:=
 gJ d e fun f=>
 iF f
 (O0 15 32767 base b s fun s=>Q4 6 b h fun g=>
 gZ 1 17 98303 base a s h fun s i=>
 Mc 18 262143 s h (fun h=>(De K g i h)) fun j h s=>
 O0 19 32767 base b s fun s=>Q4 6 b h fun n=>
 gZ 2 21 1081343 base a s h fun s o=>
 Mc 22 4194303 s h (fun h=>(De K n o h)) fun p h s=>
 ko j p fun q=>
 Ki K base s a f q h)
 (Ki K base s a f tU h)
def Kt:R:=
 gQ e
 (Q4 6 a h fun f=>
 oE 0 a h fun g=>
 Bt (D1 [(0,1),(1,1),(2,1),(3,1),(4,1),(5,1)]) [(.int .i64 0),(.int .i64 0),(.int .i64 0),(.int .i64 0),(.int .i64 0),(.int .i64 0)] [(0,g)] fun i=>
 K1 iH (bin TT .eql 87) f i fun j=>
 some (j,h))
 (cE iH .eql 3 d (.int .i64 1)
 (jc h fun base s=>
 O0 0 0 base b s fun s=>Q4 6 b h fun n=>
 gZ 1 2 2 base a s h fun s o=>
 gZ 3 4 8 base a s h fun s p=>
 Mc 5 31 s h (fun h=>(Mp K n o p h)) fun q h s=>
 iF q
 (O0 7 127 base b s fun s=>Q4 6 b h fun t=>
 gZ 2 9 383 base a s h fun s u=>
 gZ 3 11 1151 base a s h fun s w=>
 Mc 12 4095 s h (fun h=>(Mp K t u w h)) fun x h s=>
 Kb K base s a b q x h)
 (Kb K base s a b q tU h))
 (yL K h))
def I9:R:=(.mk:Sg 0x1245640030324e234540072800224e304409e9249e9 [a,b] h [Vr (Kt K)]).F
def Kx(K:Nat)(base:Nat)(s:DX)(a:EV)(b:EV)(h:Ab):R:=
 gJ a b fun d=>
 some (d,h)
def Kr:R:=
 Sb 87 b h fun d h=>
 jc h fun base s=>
 gZ 0 1 1 base d s h fun s e=>
 nH e (.int .i64 1) fun f=>
 iF f
 (O0 4 15 base d s fun s=>Q4 6 d h fun g=>
 nA 1 a fun i=>
 O0 8 239 base i s fun s=>Q4 6 i h fun j=>
 Mc 9 511 s h (fun h=>(I9 K g j h)) fun n h s=>
 Kx K base s f n h)
 (Kx K base s f tU h)
def Y3:Ru K (Ru r (Ru c R)):=(.mk:Sg 0x110e0043e31204e2312e60007e [a] h [] [cu0 (Bt (Mg 1) (List.replicate 32 (.int .u8 0)) [])]).F
def L7:Ru K (Ru r (Ru c R)):=
 Je f fun g=>
 k5 a b d e g h
def Qy:R:=(.mk:Sg 0x1985435008043e61204e2612e6612e500e28a909e [a,b,d,e,f,g,i,j,n] h [cl5 (L7 c r K k5)]).F
def Q3:R:=(.mk:Sg 0x120404e03e3202e01e00e9102505e04e4303e02e01e91000318e802e04e4d443e112e06e421ae20ce246940120de1051219e20de0031219e5652afe0206e652007e [a,b,d,e,f] h [c 112,cl9 (Qy c r K k5)] [cu2 (fun e f=>jX 2 2 true 2 e f)] [[.int .i64 0,.int .i64 0],List.replicate 32 (.int .u8 0)]).F
def Df(c:Ah)(r:Ah)(K:Nat):Nat->A5
 | 0=>fun _ _ _ _ _ _=>none
 | m+1=>fun a b d e f h=>
  cE Ji .lss 3 f (.int .i64 2)
  (Q3 c r K (Df c r K m) a b d e f h)
  (Y3 c r K d h)
def Yv:R:=(.mk:Sg 0x1002ba9500252207e232107e714624232007e424314 [a,b,d] h [cl5 (Df c r K K)] [cu2 (fun e f=>Bt (Mg 1) [.int .i64 0,.int .i64 0] [(0,e),(1,f)]),cu2 (fun i j=>Bt (Mg 1) [.int .i64 0,.int .i64 0] [(0,i),(1,j)]),cu2 (fun g n=>Bt (Mg 2) [.int .i64 0,.int .i64 0,.int .i64 0,.int .i64 0] [(0,g),(1,n)])]).F
def J_:R:=(.mk:Sg 0x156731000e0043e61204e2612e60007e01e2820fe25201365043e05e349e9 [a,b] h [Ea (Kr K),K3 (Yv c r K)] [cu0 (Bt (Mg 1) (List.replicate 32 (.int .u8 0)) [])] [List.replicate 32 (.int .u8 0)]).F
def KA:Ru r R:=(.mk:Sg 0x1000e000e21419039c023701e000ec0233331e67902e5210e973011e0ee08e6023701e000e60233331e67902e5210e973011e0ee08e3023701e000e2a221836e5a1023701e714321623ff3fa17e72c242170e772101618e336e5305b300e4211e0ee314e9 [a,b] h [Ew (fun f=>Bv (List.replicate 4 (.int .i64 0)++List.replicate 64 (.int .u8 0)) 34 68 1 [(0,f)]),Ea (D9 34 68),c 169,K3 (Ow K),Ew (Rl K)]).F
def KB:Ru K R:=(.mk:Sg 0x1002200e23211432007e001 [a,b] h [cl0 (Bv [.int .u8 0] 5 1 0 []),Ea (D9 5 1)] [cu2 (fun a b=>h_ 1 a none (some b) none)]).F
def KC:Ru K R:=
 Je g fun i=>
 k6 a b d e f i h
def KD:R:=
 im (bin TT .shr 71) d (.int .u64 8) fun i=>
 KC K k6 a b i e f g h
def KE:R:=(.mk:Sg 0x198765460001e0b0200e6235801e51007e75116e [a,b,d,e,f,g] h [cl6 (KD K k6)] [cu1 (fun d=>Sh .u8 d)]).F
def Mx(K:Nat):Nat->A6
 | 0=>fun _ _ _ _ _ _ _=>none
 | m+1=>fun a b d e f g h=>
  cE Ji .lss 3 g f
  (KE K (Mx K m) a b d e f g h)
  (KB K a b h)
def KF:R:=(.mk:Sg 0x10023497610213e752107e232001e47532007e3f2e5300b0ee [a,b,d] h [Ea (N7 K),cl6 (Mx K K)] [cu2 (fun a d=>h_ 1 a none (some d) none),cu2 (fun a d=>h_ 1 a (some d) none none)]).F
def Xg:R:=(.mk:Sg 0x124630004e0b0200e60023301ec021ee413e23be9 [a,b] h [K3 (KF K)]).F
def W7:Ru K (Ru r (Ru c R)):=(.mk:Sg 0x1002002164fdec62163fcec42162fbec [a,b,d] h).F
def Xm:R:=(.mk:Sg 0x13473100fe02300218e801e421ae20ce21012f9e3 [a] h [Ew (X0 K),K3 (W7 c r K)]).F
def Pv:R:=(.mk:Sg 0x1411022200218e801e2101203 [a] h [c 52,Ew (Xm c r K)]).F
def K0:R:=(.mk:Sg 0x13100002328430be [a,b,d] h [Ew (Pv c r K)]).F
def KG:R:=(.mk:Sg 0x120243002683002420e22451c4fde304e2a01225e2fbe3 [a] h [K3 (K0 c r K)] [] [] [(.int .i64 (-1))]).F
def KH:Ru r R:=(.mk:Sg 0x12012e71204e3732e620ce76231140343201012e05e [a,b,d] h [c 139,K3 (Tl K)] [] [List.replicate 64 (.int .u8 0)]).F
def Sl:Ru K (Ru r (Ru c R)):=
 some (.tuple [a,b],h)
def KI:R:=(.mk:Sg 0x12323056230232214b2007e93304e00218e701e20ce2733131e67432e5405b473011e0ee43201412e9 [a,b,d] h [c 139,K3 (Pz K),builtin TT .delete #[116,239],Ea (Sl c r K)] [cu2 (fun b n=>Bt (D1 [(0,1),(1,1)]) [.int .i64 0,.int .i64 0] [(0,b),(1,n)])]).F
def KJ:Ru r R:=(.mk:Sg 0x1225221130332201 [a,b] h [c 139,Ea (Pc K)]).F
def KK:Ru K (Ru r (Ru c R)):=
 Je e fun f=>
 k4 a b d f h
def KL:R:=(.mk:Sg 0x18765410000e22820fe26330153116e [a,b,d,e] h [K3 (fun a e f=>T5 c r a [e,f]),Vr (KK c r K k4)]).F
def Jn(c:Ah)(r:Ah)(K:Nat):Nat->A4
 | 0=>fun _ _ _ _ _=>none
 | m+1=>fun a b d e h=>
  cE Ji .lss 3 e d
  (KL c r K (Jn c r K m) a b d e h)
  (some (.tuple [],h))
def KM:R:=(.mk:Sg 0x100235410213e210130de [a,b] h [Ew (Ts K),Vr (Jn c r K K)]).F
def KN:R:=(.mk:Sg 0x15078e09e1204e209e1ee609e1ee54224107e1107e20ce01e131200e22121007ed614e230b311b54230931194421073117342105311524232013140d0e05e [a,b,d] h [Ea (fun e f=>D7 K e (.int .i64 6) f),K3 (D7 K),Ea (Qj K),Ew (N6 K),builtin TT .copy #[106,106]] [cu1 (fun w=>Oz 32 1 w none none none),cu1 (fun d=>Oz 44 1 d none none none)] [[.Am,.bool false]]).F
def Oy:R:=(.mk:Sg 0x156731000e0078e71204e271ee651ee501e2820fe2101418e5078e05e078e05e289e9 [a] h [Ew (Rb K),K3 (KN K)] [] [List.replicate 44 (.int .u8 0)]).F
def KO:Ru K R:=(.mk:Sg 0x100089e31204e2318e6318e5 [a,b] h).F
def sV:R:=(.mk:Sg 0x14320000e0089e41204e2418e60007e01e285409e [a,b,d,e] h [Ea (KO K)] [cu0 (Bt (D1 [(0,1),(1,1),(2,1),(3,1),(4,1),(5,1),(6,32)]) (List.replicate 6 (.int .i64 0)++List.replicate 32 (.int .u8 0)) [])]).F
def sW:R:=(.mk:Sg 0x1202c07e4602501e0ae4602378e802e09e1ee531ee504e2d00318e802e378e11ee06e20ce2151618e5232401e470ce0b2343721207e2614e0ee289e018e06e23456b6107e3062213052211042211032212111210131007e089e05e378e9 [a,b] h [Ew (qF K),Ew (fun g=>Iz K g (.int .i64 6)),Ea (Iz K),Ea (Lu K),builtin TT .copy #[106,106],Ew (Oy K),Vr (sV K)] [cu1 (fun d=>Oz 44 1 d none none none),cu6 (fun a i j n o p=>Bt (D1 [(0,1),(1,1),(2,1),(3,1),(4,1),(5,1),(6,32)]) (List.replicate 6 (.int .i64 0)++List.replicate 32 (.int .u8 0)) [(0,a),(1,i),(2,j),(3,n),(4,o),(5,p)]),cu1 (fun u=>Oz 32 1 u none none none)] [List.replicate 6 (.int .i64 0)++List.replicate 32 (.int .u8 0),List.replicate 44 (.int .u8 0)]).F
def KP:R:=(.mk:Sg 0x100012e71204e2732e6232e5232e26e522012f2e5 [a,b,d] h [Ea (X6 K)]).F
def KQ:R:=(.mk:Sg 0x1308e06e3403012e09e1204e209e32e60107e00e00218e801e20ce02e131201e22121007e01e514e2c211d442c0a301b34230830192423063017141010430121033014040d0e05e [a,b,d] h [K3 (D7 K),Ea (fun e u=>D7 K e (.int .i64 6) u),Ea (Qj K),Ew (N6 K),K3 (KP K)] [cu1 (fun x=>Oz 44 1 x none none none),cu0 (Bt (Mg 1) (List.replicate 64 (.int .u8 0)) [])] [[.Am,.bool false]]).F
def Xw:R:=(.mk:Sg 0x156731000e0012e61204e2632e60007e01e2820fe2101323e5012e05e47ae923be9 [a,b] h [Ew (J2 K),K3 (KQ K)] [cu0 (Bt (Mg 1) (List.replicate 64 (.int .u8 0)) [])] [List.replicate 64 (.int .u8 0)]).F
def FH:R:=(.mk:Sg 0x1002200e285e9818e2573007e22221618e21102e57565504b22201318e322310e265200b0ee [a] h [Ea (Pr [.int .i64 0,.int .i64 0,.int .i64 0,.int .i64 0,.int .i64 0,.int .i64 0] 87),Ew (Dq K),Ea (Pr [.int .i64 0] 3)] [cu3 (fun b e i=>Bt (D1 [(0,6),(6,1),(7,1)]) [.int .i64 0,.int .i64 0,.int .i64 0,.int .i64 0,.int .i64 0,.int .i64 0,.Am,.Am] [(0,b),(1,e),(2,i)])]).F
def qi:R:=(.mk:Sg 0x1511009e070200e62820fe2101265209e9 [a] h [Ew (Mq K),Ew (FH K)]).F
def zf:Ru K (Ru r (Ru c R)):=(.mk:Sg 0x1002200e [a] h).F
def ze:Ru K (Ru r (Ru c R)):=
 Je e fun f=>
 k4 a b d f h
def zd:R:=(.mk:Sg 0x1d2ba4302b2212111823e5521ee67514e92166214e802165014e62201245 [a,b,d,e] h [Ea (rS K),Ew (fun o=>Bv (List.replicate 5 (.int .i64 0)++List.replicate 44 (.int .u8 0)) 136 49 1 [(0,o)]),Ea (D9 136 49),Vr (ze c r K k4)]).F
def R9(c:Ah)(r:Ah)(K:Nat):Nat->A4
 | 0=>fun _ _ _ _ _=>none
 | m+1=>fun a b d e h=>
  oE 3 a h fun f=>
  Ao (N2 K f h) fun g h=>
  Ao (Qd K g h) fun i h=>
  cE Ji .lss 3 e i
  (zd c r K (R9 c r K m) a b d e h)
  (zf c r K d h)
def zi:R:=(.mk:Sg 0x11024b4202111223e53223e621ff3f917e07ae05e818e24564007e21012e67545505b484010e322110e0ee [a,b] h [Ew (rQ K),Ew (fun n=>Bv (List.replicate 5 (.int .i64 0)++List.replicate 44 (.int .u8 0)) 136 49 1 [(0,n)]),Vr (R9 c r K K)] [cu4 (fun a d e g=>Bt (D1 [(0,1),(1,1),(2,1),(3,1),(4,1),(5,44)]) (List.replicate 5 (.int .i64 0)++List.replicate 44 (.int .u8 0)) [(0,.int .i64 4),(1,a),(3,d),(4,e),(5,g)])] [List.replicate 5 (.int .i64 0)++List.replicate 44 (.int .u8 0)]).F
def zh:R:=(.mk:Sg 0x14320000e0b0200e6285409e [a,b,d,e] h [Ea (zi c r K)]).F
def zg:R:=(.mk:Sg 0x120257430269b43020fe0092321211153409e2d20fe210124522ce9 [a,b] h [c 93,Ew (N2 K),K3 (Mp K),Vr (zh c r K)]).F
def yO:R:=(.mk:Sg 0x10023266271e717e93615e965905b673611e0ee102531166523201565 [a,b,d,e] h [Ea (fun a f=>St K a f (.int .i64 (-1))),K3 (St K)]).F
def Nh:R:=(.mk:Sg 0x17bdc42000e0232820fe242111e57265200e4b80c665600b0ee32200318e801e349e0606e20ce43201449e9 [a,b,d] h [Ea (K4 K),Ea (I9 K),Vr (yO K)] [] [[.int .i64 0,.int .i64 0,.int .i64 0,.int .i64 0,.int .i64 0,.int .i64 0]]).F
def K5:Ru K (Ru r (Ru c R)):=(.mk:Sg 0x10005043e31304e2312e6312e5 [a,b,d] h).F
def X1:R:=(.mk:Sg 0x143230010e0000043e31304e2312e60007e04e0053701e [a,b,d,e] h [K3 (K5 c r K)] [cu0 (Bt (Mg 1) (List.replicate 32 (.int .u8 0)) [])]).F
def H2:Ru K (Ru r (Ru c R)):=
 Je j fun n=>
 k8 a b d e f g i n h
def Xz:R:=(.mk:Sg 0x103e02e6cba9881004e03e72cba9810c0aed2820fe2620120de00a1219e80ae2612e6912e5 [a,b,d,e,f,g,i,j,n,o] h [Ea (Et K),cl8 (H2 c r K k8)]).F
def Xs:R:=
 i_ n fun q=>
 gQ q
 (H2 c r K k8 a b d e f g o p h)
 (Xz c r K k8 a b d e f g i j o p h)
def Pf:R:=(.mk:Sg 0x107e06e42c05e04e03e02e01e00eb104000043e03e1304e203e12e60107e03e00318e801e443e112e06e421ae20ce246940120de1051219e20de0031219e5652afe0206e982007e [a,b,d,e,f,g,i,j] h [c 112,Bgq (Xs c r K k8)] [cu2 (fun i j=>jX 2 2 true 2 i j),cu0 (Bt (Mg 1) (List.replicate 32 (.int .u8 0)) [])] [[.int .i64 0,.int .i64 0],List.replicate 32 (.int .u8 0)]).F
def C7(c:Ah)(r:Ah)(K:Nat):Nat->A8
 | 0=>fun _ _ _ _ _ _ _ _ _=>none
 | m+1=>fun a b d e f g i j h=>
  cE Ji .lss 3 j (.int .i64 2)
  (Pf c r K (C7 c r K m) a b d e f g i j h)
  (X1 c r K d e f g h)
def Wy:R:=(.mk:Sg 0x100200009cba800252207e232107e814724232007e524414043e05e [a,b,d] h [cl8 (C7 c r K K)] [cu2 (fun f g=>Bt (Mg 1) [.int .i64 0,.int .i64 0] [(0,f),(1,g)]),cu2 (fun j n=>Bt (Mg 1) [.int .i64 0,.int .i64 0] [(0,j),(1,n)]),cu2 (fun i o=>Bt (Mg 2) [.int .i64 0,.int .i64 0,.int .i64 0,.int .i64 0] [(0,i),(1,o)])] [List.replicate 32 (.int .u8 0)]).F
def KR:R:=(.mk:Sg 0x156731000e0000043e61304e2612e60007e04e2820fe25201365043e05e349e9 [a,b] h [Ea (Kr K),K3 (Wy c r K)] [cu0 (Bt (Mg 1) (List.replicate 32 (.int .u8 0)) [])] [List.replicate 32 (.int .u8 0)]).F
def CZ:Ru r (Ru c R):=(.mk:Sg 0x1222533031e67565505b273211e0ee [a,b,d] h [K3 (Nh K)]).F
def CY:R:=(.mk:Sg 0x12ba31032200318e801e426622fff4f00e17e049e05ed18e20ce26201ff3f972633007e612e5607b210e5210e23c0ee [a,b,d] h [c 69,K3 (CZ c r K)] [cu3 (fun f b g=>Bt (D1 [(0,1),(1,1),(2,1),(3,1),(4,1),(5,1),(6,32)]) (List.replicate 6 (.int .i64 0)++List.replicate 32 (.int .u8 0)) [(0,.int .i64 3),(1,f),(2,.int .i64 1),(3,b),(6,g)])] [[.int .i64 0,.int .i64 0,.int .i64 0,.int .i64 0,.int .i64 0,.int .i64 0]]).F
def Xl:R:=(.mk:Sg 0x132222b33210007e82300e10e0318e701e298310600318e701e4212e622ff3fa17e043e05e918e20ce232011e57565504b273011e0ee [a,b,d] h [c 121,K3 (CY c r K),K3 (Nh K)] [cu0 (Bt (D1 [(0,1),(1,1),(2,1),(3,1),(4,1),(5,1)]) [.int .i64 0,.int .i64 0,.int .i64 0,.int .i64 0,.int .i64 0,.int .i64 0] [(0,.int .i64 2)])] [List.replicate 32 (.int .u8 0)]).F
def DC:R:=(.mk:Sg 0x139831000231023801e204349e0606e20ce42201223 [a,b] h [Ea (K4 K),K3 (Xl c r K)] [] [[.int .i64 0,.int .i64 0,.int .i64 0,.int .i64 0,.int .i64 0,.int .i64 0]]).F
def AM:Ru K (Ru r R):=(.mk:Sg 0x16543100ee040200e60ee0218e701e62201203 [a,b,d,e] h [c 97,K3 k3]).F
def AL:R:=(.mk:Sg 0x17654410540200ea2162114e622319e41c06e0ee0218e701e0050200e422623fff4f00e17ea22319e81c2a2007e21f83f9010e622319e41c0ee1be00218e701e623301445 [a,b,d,e] h [c 138,Vr (AM c r K k3)] [cu2 (fun e n=>Bt (D1 [(0,1),(1,1)]) [.int .i64 0,.int .i64 0] [(0,e),(1,n)])]).F
def Kk(c:Ah)(r:Ah)(K:Nat):Nat->A3
 | 0=>fun _ _ _ _=>none
 | m+1=>fun a b d h=>
  Ao (Re K a b h) fun e h=>
  cE iH .eql 3 e (.int .i64 (-1))
  (some (.tuple [(.bool false),(.int .i64 0)],h))
  (AL c r K (Kk c r K m) a b d e h)
def AN:R:=
 Sb 58 d h fun e h=>
 Kk c r K K a b e h
def Uc:Ru K (Ru r (Ru c R)):=
 some (a,h)
def yQ:R:=(.mk:Sg 0x1213031300065321b00218e701e5221130332201 [a,b] h [c 139,Ea (Q6 K),K3 (Yg K),Ew (Uc c r K)]).F
def KS:Ru K R:=(.mk:Sg 0x10007ae31204e2323e6323e5 [a,b] h).F
def Uz:R:=(.mk:Sg 0x14320000e007ae41204e2423e60007e01e285409e [a,b,d,e] h [Ea (KS K)] [cu0 (Bt (D1 [(0,1),(1,1),(2,1),(3,1),(4,1),(5,44)]) (List.replicate 5 (.int .i64 0)++List.replicate 44 (.int .u8 0)) [])]).F
def Uy:R:=(.mk:Sg 0x120253410247541000218e802e410103e2d6509e [a,b,d,e,f] h [Ew (Rk K),Vr (Uz K)]).F
def KT:R:=(.mk:Sg 0x120202e05e06e5602505e08e09e56020fe215102e23e503e2d1000e25e232401e4713e002e2343721107eb514e0ee6216a414e62169314e62168214e62167114e9121c0821130721130621110521127ae023e06e21007e1022113101 [a,b] h [Ew (qF K),Ea (Iz K),Ew (fun d=>Iz K d (.int .i64 6)),Ea (Lu K),builtin TT .copy #[106,106],Ew (J2 K),cl5 (Uy K)] [cu1 (fun e=>Bt (D1 [(0,1),(1,1),(2,1),(3,1),(4,1),(5,44)]) (List.replicate 5 (.int .i64 0)++List.replicate 44 (.int .u8 0)) [(0,e)]),cu1 (fun x=>Oz 44 1 x none none none)] [List.replicate 5 (.int .i64 0)++List.replicate 44 (.int .u8 0)]).F
def sX:R:=(.mk:Sg 0x137210307ae81204e2823e60107e00e00218e801e20ce232032741007e4f2e5400b0ee07ae05e412e923be9 [a,b] h [Ea (Xg K),Ea (KT K)] [cu1 (fun e=>Oz 64 1 e none none none),cu0 (Bt (D1 [(0,1),(1,1),(2,1),(3,1),(4,1),(5,44)]) (List.replicate 5 (.int .i64 0)++List.replicate 44 (.int .u8 0)) [])] [List.replicate 5 (.int .i64 0)++List.replicate 44 (.int .u8 0)]).F
def KU:Ru K R:=(.mk:Sg 0x10007ae31204e2323e6323e5 [a,b] h).F
def Ha:R:=(.mk:Sg 0x14320000e007ae41204e2423e60007e01e285409e [a,b,d,e] h [Ea (KU K)] [cu0 (Bt (D1 [(0,1),(1,1),(2,1),(3,1),(4,1),(5,44)]) (List.replicate 5 (.int .i64 0)++List.replicate 44 (.int .u8 0)) [])]).F
def Jm:R:=(.mk:Sg 0x12026540026a94002421e251ee52441405e2d7609e [a,b,d,e,f,g] h [Vr (Ha K)]).F
def Nm:R:=(.mk:Sg 0x120265436002487656004222e41401e2d7609e [a,b,d,e,f,g] h [cl6 (Jm K)]).F
def J6:R:=(.mk:Sg 0x12023cd04e62025601e02e07e62020fe2111323e504e2d00718e802e27ae023e06e201e00edc36007e31ee5804378e11ee06e20ce2101318e507ae05e289e9 [a,b,d,e,f] h [Ew (Oy K),Ew (J2 K),cl6 (Nm K)] [cu6 (fun t b d e f u=>Bt (D1 [(0,1),(1,1),(2,1),(3,1),(4,1),(5,44)]) (List.replicate 5 (.int .i64 0)++List.replicate 44 (.int .u8 0)) [(0,t),(1,b),(2,d),(3,e),(4,f),(5,u)])] [List.replicate 5 (.int .i64 0)++List.replicate 44 (.int .u8 0),List.replicate 44 (.int .u8 0)]).F
def KV:Ru K R:=(.mk:Sg 0x100089e31204e2318e6318e5 [a,b] h).F
def KW:R:=(.mk:Sg 0x1cb2103089ec1204e2c18e60007e00e00218e801e20ce23456501644534424314418e5 [a,b,d] h [cl5 (J6 K),Ea (KV K)] [cu0 (Bt (D1 [(0,1),(1,1),(2,1),(3,1),(4,1),(5,1),(6,32)]) (List.replicate 6 (.int .i64 0)++List.replicate 32 (.int .u8 0)) [])]).F
def sY:R:=(.mk:Sg 0x129a3104089ea1204e2a18e60007e00e00318e801e389e018e06e20ce2420121ee54514e304089e05e27ae9 [a] h [Ea (sW K),K3 (KW K)] [cu0 (Bt (D1 [(0,1),(1,1),(2,1),(3,1),(4,1),(5,1),(6,32)]) (List.replicate 6 (.int .i64 0)++List.replicate 32 (.int .u8 0)) [])] [List.replicate 6 (.int .i64 0)++List.replicate 32 (.int .u8 0)]).F
def zr:Ru K (Ru r (Ru c R)):=(.mk:Sg 0x1002200e [a] h).F
def zo:Ru K (Ru r (Ru c R)):=
 Je f fun g=>
 k5 a b d e g h
def zm:R:=
 Q4 64 d h fun i=>
 Ao (Bv (List.replicate 64 (.int .u8 0)) 32 64 1 [(0,i)] h) fun j h=>
 Ao (D9 32 64 b j h) fun n h=>
 zo c r K k5 a n e f g h
def zj:R:=(.mk:Sg 0x101e00ed2cb6103b0200e500318e801e312e132e06e20ce23201323e55f2e527ae023e06e223e56423e15e [a,b,d,e,f] h [Ea (Xw K),cl6 (zm c r K k5)] [] [List.replicate 5 (.int .i64 0)++List.replicate 44 (.int .u8 0),List.replicate 64 (.int .u8 0)]).F
def Qf(c:Ah)(r:Ah)(K:Nat):Nat->A5
 | 0=>fun _ _ _ _ _ _=>none
 | m+1=>fun a b d e f h=>
  cE Ji .lss 3 f e
  (zj c r K (Qf c r K m) a b d e f h)
  (zr c r K b h)
def zu:R:=(.mk:Sg 0x10024b03500313e [a,b] h [cl5 (Qf c r K K)]).F
def zt:R:=(.mk:Sg 0x1372102b0200e500218e801e20ce7220124542ce923be9 [a,b,d] h [c 63,Ea (zu c r K)]).F
def Nc:Ru K (Ru r (Ru c R)):=
 some (a,h)
def Na:R:=(.mk:Sg 0x131000ae02328430be [a,b,d] h [Ew (Nc c r K)]).F
def KX:R:=(.mk:Sg 0x120233102453102525e8fde3c2a00218e702e20ce2533031e67532e5505b273011e0ee [a,b,d] h [c 177,K3 (Na c r K)]).F
def KY:R:=(.mk:Sg 0x12a931032200318e801e4232e622ff3fa17e012e05e918e20ce232011e57623e5604b2f2e5273b27c0ee [a,b,d] h [Ea (Xw K),K3 (KX c r K)] [] [List.replicate 64 (.int .u8 0)]).F
def KZ:R:=(.mk:Sg 0x12ca31032200318e801e4223e6217ff4fd17e07ae05ec18e20ceba28350f1e8750ee5fde11e318e5300b0ee72162514e389e9 [a,b,d,e,f,g] h [cl5 (J6 K),K3 (KY c r K)] [] [List.replicate 5 (.int .i64 0)++List.replicate 44 (.int .u8 0)]).F
def Vf:Ru K (Ru r (Ru c R)):=(.mk:Sg 0x1002 [] h).F
def ED:Ru K (Ru r (Ru c R)):=
 Je f fun g=>
 k5 a b d e g h
def EC:R:=(.mk:Sg 0x100edcba510245303ff3fa726521c03f9bb8615e302e5010e573211e0ee246e013e06e213e56413e15e [a,b,d,e,f] h [K3 (Nh K),cl5 (ED c r K k5)] [] [[.int .i64 0]++List.replicate 32 (.int .u8 0)]).F
def I5(c:Ah)(r:Ah)(K:Nat):Nat->A5
 | 0=>fun _ _ _ _ _ _=>none
 | m+1=>fun a b d e f h=>
  cE Ji .lss 3 f e
  (EC c r K (I5 c r K m) a b d e f h)
  (Vf c r K h)
def Va:R:=
 Gi b fun e=>
 I5 c r K K a d b e (.int .i64 0) h
def EG:Ru K (Ru r (Ru c R)):=
 Je i fun j=>
 k7 a b d e f g j h
def EF:R:=(.mk:Sg 0x1cba2765720272112101665 [a,b,d,e,f,g,i,j] h [Ew (fun n=>Bv [.int .i64 0,.int .i64 0,.int .i64 0,.int .i64 0,.int .i64 0,.int .i64 0] 87 6 1 [(0,n)]),Ea (D9 87 6),cl7 (EG c r K k7)]).F
def EE:R:=(.mk:Sg 0x106e05e04e203e02e01e00e81032200318e801e349e1606e20ce2a201245b4007e212e54114e304613e246e013e06e213e58613e15e [a,b,d,e,f,g,i] h [c 69,cl8 (EF c r K k7)] [cu4 (fun d p q u=>Bt (D1 [(0,1),(1,1),(2,1),(3,1),(4,1),(5,1),(6,32)]) (List.replicate 6 (.int .i64 0)++List.replicate 32 (.int .u8 0)) [(0,.int .i64 1),(1,d),(2,p),(3,q),(6,u)])] [[.int .i64 0]++List.replicate 32 (.int .u8 0),[.int .i64 0,.int .i64 0,.int .i64 0,.int .i64 0,.int .i64 0,.int .i64 0]]).F
def Ih(c:Ah)(r:Ah)(K:Nat):Nat->A7
 | 0=>fun _ _ _ _ _ _ _ _=>none
 | m+1=>fun a b d e f g i h=>
  cE Ji .lss 3 i g
  (EE c r K (Ih c r K m) a b d e f g i h)
  (Va c r K a b e h)
def EJ:R:=(.mk:Sg 0x10026b0365700513e22423c [a,b] h [cl7 (Ih c r K K)]).F
def EI:R:=(.mk:Sg 0x14321022200218e801e2101 [a,b] h [c 68,Ea (EJ c r K)]).F
def EH:R:=(.mk:Sg 0x15421003e0232820fe32201 [a,b] h [Ea (Xn K),Ea (EI c r K)]).F
abbrev X4(K:Nat)(c:Ah):Ah:=(w2 67 (Xn K) (w3 70 (Nh K) c))
def EM:Ru K (Ru r (Ru c R)):=(.mk:Sg 0x1002 [] h).F
def EL:Ru K (Ru r (Ru c R)):=
 Je e fun f=>
 k4 a b d f h
def EK:R:=(.mk:Sg 0x187654102733010007e223 [a,b,d,e] h [K3 (Nh K),Vr (EL c r K k4)] [cu0 (Bt (D1 [(0,1),(1,1),(2,1),(3,1),(4,1),(5,1)]) [.int .i64 0,.int .i64 0,.int .i64 0,.int .i64 0,.int .i64 0,.int .i64 0] [])]).F
def Nw(c:Ah)(r:Ah)(K:Nat):Nat->A4
 | 0=>fun _ _ _ _ _=>none
 | m+1=>fun a b d e h=>
  mF b d fun f=>
  cE Ji .lss 3 e f
  (EK c r K (Nw c r K m) a b d e h)
  (EM c r K h)
def ER:R:=
 Nw c r K K a b d b h
def EP:R:=(.mk:Sg 0x1ba931032200318e801e349e0606e20ce252016523007e22423c [a,b,d] h [c 69,K3 (ER c r K)] [cu3 (fun f b d=>Bt (D1 [(0,1),(1,1),(2,1),(3,1),(4,1),(5,1),(6,32)]) (List.replicate 6 (.int .i64 0)++List.replicate 32 (.int .u8 0)) [(0,.int .i64 2),(1,f),(2,.int .i64 1),(3,b),(4,d)])] [[.int .i64 0,.int .i64 0,.int .i64 0,.int .i64 0,.int .i64 0,.int .i64 0]]).F
def EO:R:=(.mk:Sg 0x154331022200218e801e2101 [a,b,d] h [c 68,K3 (EP c r K)]).F
def Ni:R:=(.mk:Sg 0x154330003e023286509e [a,b,d,e,f] h [K3 (EO c r K)]).F
def Rf:R:=(.mk:Sg 0x120254351027a985102922e721ee21007e21013030be2d6509e [a,b,d,e,f] h [Ew (Ca K),cl5 (Ni c r K)] [cu1 (fun j=>kL 3 false 0 j)]).F
def EN:R:=(.mk:Sg 0x12026545102376551010620ec2d20fe32201 [a,b,d] h [Ea (Uv K),cl5 (Rf c r K)]).F
def K_:Ru K R:=(.mk:Sg 0x10007ae31204e2323e6323e5 [a,b] h).F
def sZ:R:=(.mk:Sg 0x14320002e007ae41204e2423e60007e01e285409e [a,b,d,e] h [Ea (K_ K)] [cu0 (Bt (D1 [(0,1),(1,1),(2,1),(3,1),(4,1),(5,44)]) (List.replicate 5 (.int .i64 0)++List.replicate 44 (.int .u8 0)) [])]).F
def Li:R:=(.mk:Sg 0x12027640024984006225e724d2d3225e514 [a,b,d,e] h [Vr (sZ K)]).F
def s_:R:=(.mk:Sg 0x12800ed410407ae91204e2923e60007e00e00318e801e37ae023e06e20ce23201432e54f2e507ae05e412e923be9 [a,b,d,e] h [Ea (sX K),Vr (Li K)] [cu0 (Bt (D1 [(0,1),(1,1),(2,1),(3,1),(4,1),(5,44)]) (List.replicate 5 (.int .i64 0)++List.replicate 44 (.int .u8 0)) [])] [List.replicate 5 (.int .i64 0)++List.replicate 44 (.int .u8 0)]).F
def Po:Ru K (Ru r R):=(.mk:Sg 0x1765435100ee0049e81204e28660007e01e0ee0218e701e72201 [a,b,d,e,f,g] h [c 97,cl5 k5] [cu0 (Bt (D1 [(0,1),(1,1),(2,1),(3,1),(4,1),(5,1)]) [.int .i64 0,.int .i64 0,.int .i64 0,.int .i64 0,.int .i64 0,.int .i64 0] [])]).F
def Yn:R:=(.mk:Sg 0x1876543600ba987660032165fdec20ae3fde307e283701e2fce3 [a,b,d,e,f,g] h [cl6 (Po c r K k5)]).F
def Xk:R:=(.mk:Sg 0x13a98766203049eb1204e2b660307e00e0ee0218e701e00049e0be1204e20be66565321605efdec20ae03efde3326627fffff6f09e17e049e05e08e18e203e89a5207e21107e24217e0005f05e721007e00e614e2f2e52e0004f02eb97c87003fbfde11e762e7fce11e673fbe11e0ee4ee00218e701e20ce5423401518e5 [a,b,d,e,f] h [c 160,Ea (N7 K),cl6 (Yn c r K k5)] [cu1 (fun w=>Oz 32 1 w none none none),cu1 (fun y=>Sh .i64 y),cu5 (fun o p q d z=>Bt (D1 [(0,1),(1,1),(2,1),(3,1),(4,1),(5,1)]) [.int .i64 0,.int .i64 0,.int .i64 0,.int .i64 0,.int .i64 0,.int .i64 0] [(0,.int .i64 1),(1,o),(2,p),(3,q),(4,d),(5,z)]),cu0 (Bt (D1 [(0,1),(1,1),(2,1),(3,1),(4,1),(5,1)]) [.int .i64 0,.int .i64 0,.int .i64 0,.int .i64 0,.int .i64 0,.int .i64 0] [])] [[.int .i64 0,.int .i64 0,.int .i64 0,.int .i64 0,.int .i64 0,.int .i64 0]]).F
def Ga(c:Ah)(r:Ah)(K:Nat):Nat->A5
 | 0=>fun _ _ _ _ _ _=>none
 | m+1=>fun a b d e f h=>
  Ao (c 159 [a] h) fun g h=>
  cE iK .neq 38 g (.int .i64 0)
  (Bt (D1 [(0,1),(1,1),(2,1),(3,1),(4,1),(5,1)]) [(.int .i64 0),(.int .i64 0),(.int .i64 0),(.int .i64 0),(.int .i64 0),(.int .i64 0)] [] fun i=>
  f_ 6 f i h fun h=>
  Iq TT [.c f 87,.v g] h)
  (Xk c r K (Ga c r K m) a b d e f h)
def Xj:R:=
 Ga c r K K a b d e f h
def LA:R:=(.mk:Sg 0x178cb95104049e81204e28660007e00e00318e801e37ae123e06e20ce8700002501318e5049e05e389e9 [a,b,d,e] h [cl5 (J6 K),cl5 (Xj c r K)] [cu0 (Bt (D1 [(0,1),(1,1),(2,1),(3,1),(4,1),(5,1)]) [.int .i64 0,.int .i64 0,.int .i64 0,.int .i64 0,.int .i64 0,.int .i64 0] [])] [[.int .i64 0,.int .i64 0,.int .i64 0,.int .i64 0,.int .i64 0,.int .i64 0],List.replicate 5 (.int .i64 0)++List.replicate 44 (.int .u8 0)]).F
def Y0:Ru K (Ru r (Ru c R)):=(.mk:Sg 0x100050043e41304e2412e6212e53614e [a,b] h).F
def Gq(c:Ah)(r:Ah)(K:Nat)(base:Nat)(s:DX)(a:EV)(b:EV)(d:EV)(e:EV)(h:Ab):R:=
 gX d e fun f=>
 gQ f
 (Bt (Mg 1) (List.replicate 32 (.int .u8 0)) [] fun g=>
 f_ 32 a g h fun h=>
 Iq TT [.c a 81,.v (.bool false),.v (.int .i64 0)] h)
 (Y0 c r K a b h)
def Iv:R:=
 gX f g fun i=>
 gP i
 (nA 7 a fun j=>
 O0 12 4095 base j s fun s=>Q4 256 j h fun n=>
 iE 6 e fun o=>
 Oz 32 1 o none none none fun p=>
 Mc 15 32767 s h (fun h=>(N7 K n p h)) fun q h s=>
 Sh .i64 q fun t=>
 gZ 5 18 131583 base b s h fun s u=>
 ko t u fun w=>
 Gq c r K base s d e i w h)
 (Gq c r K base s d e i tU h)
def Yu:R:=
 Q4 49 f h fun g=>
 Ao (sY K g h) fun i h=>
 mE i fun j n=>
 kG 38 (List.replicate 6 (.int .i64 0)++List.replicate 32 (.int .u8 0)) 151 j h fun o h=>
 jc h fun base s=>
 K1 iK (bin TT .neq 38) n (.int .i64 0) fun p=>
 gP p
 (gZ 5 4 15 base o s h fun s q=>
 ko q b fun t=>
 Iv c r K base s a d e o p t h)
 (Iv c r K base s a d e o p tU h)
def Ir:R:=(.mk:Sg 0x17654350000040043e71304e2712e60007e04e288709e [a,b,d,e,f,g,i] h [cl5 (Yu c r K)] [cu0 (Bt (Mg 1) (List.replicate 32 (.int .u8 0)) [])]).F
def Ip:R:=(.mk:Sg 0x12027654370025a98767002325e64474405e2d8709e [a,b,d,e,f,g,i] h [cl7 (Ir c r K)]).F
def Y8:R:=(.mk:Sg 0x1202301e00edb71024503e02e01ed71030224e30403e2d00318e802e4223e6217ff4fd17e07ae05ec18e20ce273440f1e87832e7310e932e5904b2f2e5273b27c0ee [a,b,d,e,f,g] h [Vr (s_ K),cl7 (Ip c r K)] [] [List.replicate 5 (.int .i64 0)++List.replicate 44 (.int .u8 0)]).F
def LB:R:=(.mk:Sg 0x100040043e91304e2912e60007e2040043ea1304e3a12e6db2210007e08e0ce0318e701e4040043e91304e2912e60007e03e0ee0318e701e289dca610900318e701e4232e62bff3fc17e112e05eb18e20ce2833071e77412e6310e473011e0ee043e05e349e9 [a,b,d,e] h [c 162,cl6 (Y8 c r K),c 163] [cu0 (Bt (Mg 1) (List.replicate 32 (.int .u8 0)) [])] [List.replicate 32 (.int .u8 0),List.replicate 64 (.int .u8 0)]).F
def Gb:Ru r (Ru c R):=(.mk:Sg 0x12224534010007e [a,b,d] h [Vr (qj K)] [cu0 (Bt (D1 [(0,1),(1,1),(2,1)]) [.int .i64 0,.int .i64 0,.int .i64 0] [(1,.int .i64 1),(2,.int .i64 1)])]).F
def Mj:Ru K (Ru r (Ru c R)):=
 Je f fun g=>
 k5 a b d e g h
def Tz:R:=(.mk:Sg 0x187654530a987653092221411103e2820fe64201 [a,b,d,e,f] h [c 39,Ew (Ci K),c 41,cl5 (Mj c r K k5)]).F
def D3(c:Ah)(r:Ah)(K:Nat):Nat->A5
 | 0=>fun _ _ _ _ _ _=>none
 | m+1=>fun a b d e f h=>
  cE Ji .lss 3 f e
  (Tz c r K (D3 c r K m) a b d e f h)
  (Gb c r K a b d h)
def Ml:R:=(.mk:Sg 0x10027655102101265 [a,b,d,e] h [Ew (Dq K),cl5 (D3 c r K K)]).F
def T2:Ru K (Ru r (Ru c R)):=
 Je f fun g=>
 k5 a b d e g h
def T3:R:=(.mk:Sg 0x1cba9851025ba40120ae291fe414271fe214 [a,b,d,e,f] h [Vr (Sw K),cl5 (T2 c r K k5)]).F
def Dh(c:Ah)(r:Ah)(K:Nat):Nat->A5
 | 0=>fun _ _ _ _ _ _=>none
 | m+1=>fun a b d e f h=>
  cE Ji .lss 3 f (.int .i64 3)
  (T3 c r K (Dh c r K m) a b d e f h)
  (Ml c r K a b d e h)
def Ll:R:=
 Ao (qe K b h) fun e h=>
 Dh c r K K a b d e (.int .i64 0) h
def Sk:R:=(.mk:Sg 0x15433007023286509e [a,b,d,e,f] h [K3 (Ll c r K)]).F
def So:R:=(.mk:Sg 0x120248c5302359d53000318e802e00e2d00618e802e20ce212176520ce2353173700027265201b0ee [a,b] h [cl0 (oN K),K3 (qE K),Ew (qi K),cl5 (Sk c r K)]).F
def Sr:R:=(.mk:Sg 0x139220702300218e801e20ce2343131e67502e5510e443210e210117265200b0ee [a] h [Ew (Dq K),K3 (qC K),Ea (So c r K)]).F
def H5:R:=(.mk:Sg 0x131007023284309e [a,b,d] h [Ew (Sr c r K)]).F
def Yi:R:=(.mk:Sg 0x1202531026931015e0222e231fe61450405e2d20fe2101265209e9 [a] h [Ew (Hz K),K3 (H5 c r K)]).F
abbrev N5(K:Nat)(c:Ah):Ah:=(w1 33 (Hz K) (w4 42 (qj K) (w1 40 (Ci K) (w1 26 (Dq K) (w4 38 (Sw K) (w1 37 (qe K) (w0 24 (oN K) (w3 35 (qE K) (w1 36 (qi K) (w3 34 (qC K) c))))))))))
end
variable{d:Nat}(H:Cf disp)
include H
theorem A4c(hd:3<=d):R2 disp K d 155 (rP K):=fun _ _=>rl H hd fun d hd=>V3 (Nx H) hd<|rfl
theorem Q8(hd:3<=d):R2 disp K d 161 (N7 K):=fun _ _=>rl H hd fun d hd=>V3 (JV H) hd<|rfl
theorem WV(hd:2<=d):S3 disp K d 166 BW:=fun _ _ _=>rd rfl rfl H (V1 (JW H) hd<|rfl)
theorem WS(hd:2<=d){l:Nat}(tm:Ay)(h:Ab)(A:EV)(G:EV){st:LoopState}{p:Option Code}(J:h.get l=some (.loop st p 166 31 tm [8,9] (Fa TT 166 0).2.2.1 (Fa TT 166 0).2.2.2 d0)):
 Ag TT disp K (d+1) true l [A,G] h=BU (Ag TT disp K d false) (Ag TT disp K d true) K l (tmp tm 2) (tmp tm 3) A G h:=rr rfl rfl (rfl) J rfl (by kernel_rfl)
theorem Ak2(hd:3<=d):R3 disp K d 204 (Pz K):=fun _ _ _=>rl H hd fun d hd=>V2 (L8 H) hd<|V2 (Wm H) hd<|V1 (Hw H) hd<|V1 (Alh H) hd<|rfl
theorem Ar7(hd:4<=d):R2 disp K d 213 (X6 K):=fun _ _=>rl H hd fun d hd=>V2 (Q8 H) hd<|rfl
theorem Anr(hd:2<=d):S1 disp K d 52 J':=fun _=>rd rfl rfl H (V1 (Am9 H) hd<|rfl)
theorem A02(hd:4<=d):R2 disp K d 105 (rS K):=fun _ _=>ll H hd (fun d hd=>V3 (Nx H) hd<|V1 (IP H) hd<|V2 (Lc H) hd<|V2 (A4c H) hd<|rfl) 103 (e5 (Ya K) 1 2 4 5 14)
theorem LC(hd:5<=d):R2 disp K d 109 (I9 K):=fun _ _=>rl H hd fun d hd=>V2 (Ez H) hd<|V3 (JZ H) hd<|rfl
theorem Wg(hd:6<=d):R2 disp K d 111 (Kr K):=fun _ _=>rl H hd fun d hd=>V2 (LC H) hd<|rfl
theorem Ak7(hd:6<=d):S2 disp K d 121 J_:=fun _ _=>ld rfl rfl H (V2 (Wg H) hd<|rfl) 51 (fun c r=>e5 (Df c r K) 0 3 4 26 27)
theorem Amv(hd:2<=d):S2 disp K d 133 KA:=fun _ _=>rd rfl rfl H (V3 (Ap2 H) hd<|V1 (Ani H) hd<|rfl)
theorem Ar0(hd:4<=d):R2 disp K d 145 (Xg K):=fun _ _=>ll H hd (fun d hd=>V2 (Q8 H) hd<|rfl) 207 (e6 (Mx K) 1 6 7 22 23 24)
theorem Akk(hd:4<=d):S1 disp K d 159 KG:=fun _=>rd rfl rfl H (V1 (Arz H) hd<|rfl)
theorem Aqt(hd:3<=d):S3 disp K d 162 KH:=fun _ _ _=>rd rfl rfl H (V3 (Aob H) hd<|rfl)
theorem Am6(hd:3<=d):S3 disp K d 177 KI:=fun _ _ _=>rd rfl rfl H (V3 (Ak2 H) hd<|rfl)
theorem Ane(hd:3<=d):S2 disp K d 179 KJ:=fun _ _=>rd rfl rfl H (V2 (Alj H) hd<|rfl)
theorem Anc(hd:2<=d):S2 disp K d 190 KM:=fun _ _=>ld rfl rfl H (V1 (Anl H) hd<|rfl) 5 (fun c r=>e4 (Jn c r K) 0 6 7 8)
theorem LD(hd:4<=d):R1 disp K d 192 (Oy K):=fun _=>rl H hd fun d hd=>V1 (Am0 H) hd<|V3 (Nx H) hd<|V2 (IL H) hd<|V1 (Xc H) hd<|rfl
theorem A39(hd:5<=d):R2 disp K d 196 (sW K):=fun _ _=>rl H hd fun d hd=>V1 (II H) hd<|V2 (JX H) hd<|V2 (Yb H) hd<|V1 (LD H) hd<|rfl
theorem LF(hd:5<=d):R2 disp K d 203 (Xw K):=fun _ _=>rl H hd fun d hd=>V1 (Qw H) hd<|V2 (Ar7 H) hd<|V3 (Nx H) hd<|V2 (IL H) hd<|V1 (Xc H) hd<|rfl
theorem A5g(hd:4<=d):R1 disp K d 36 (qi K):=fun _=>rl H hd fun d hd=>V1 (Uj H) hd<|V1 (Fs H) hd<|rfl
theorem TQ(hd:4<=d):S2 disp K d 63 zg:=fun _ _=>ld rfl rfl H (V1 (W6 H) hd<|V3 (JZ H) hd<|V2 (A02 H) hd<|V1 (G_ H) hd<|V1 (A1b H) hd<|rfl) 207 (fun c r=>e4 (R9 c r K) 2 6 7 8)
theorem Zl(hd:6<=d):R3 disp K d 70 (Nh K):=fun _ _ _=>rl H hd fun d hd=>V2 (Lc H) hd<|V2 (LC H) hd<|V3 (As0 H) hd<|rfl
theorem Aj0(hd:6<=d):S2 disp K d 71 KR:=fun _ _=>ld rfl rfl H (V2 (Wg H) hd<|V2 (Gr H) hd<|rfl) 207 (fun c r=>e8 (C7 c r K) 0 3 4 7 8 9 30 31)
theorem YD(hd:6<=d):S2 disp K d 84 DC:=fun _ _=>rd rfl rfl H (V2 (Lc H) hd<|V3 (Zl H) hd<|rfl)
theorem VM(hd:4<=d):S3 disp K d 95 AN:=fun _ _ _=>ld rfl rfl H (V2 (Am8 H) hd<|rfl) 5 (fun c r=>e3 (Kk c r K) 0 1 5)
theorem SQ(hd:3<=d):S2 disp K d 96 yQ:=fun _ _=>rd rfl rfl H (V2 (Am4 H) hd<|V3 (Ang H) hd<|rfl)
theorem Avr(hd:5<=d):R2 disp K d 99 (sX K):=fun _ _=>rl H hd fun d hd=>V2 (Ar0 H) hd<|V1 (Am1 H) hd<|V1 (II H) hd<|V2 (JX H) hd<|V2 (Yb H) hd<|V1 (Qw H) hd<|rfl
theorem Qx(hd:5<=d):R5 disp K d 158 (J6 K):=fun _ _ _ _ _=>rl H hd fun d hd=>V1 (LD H) hd<|V1 (Qw H) hd<|rfl
theorem Azk(hd:6<=d):R1 disp K d 164 (sY K):=fun _=>rl H hd fun d hd=>V2 (A39 H) hd<|V5 (Qx H) hd<|rfl
theorem TV(hd:5<=d):S3 disp K d 174 zt:=fun _ _ _=>ld rfl rfl H (V2 (LF H) hd<|rfl) 207 (fun c r=>e5 (Qf c r K) 3 10 24 25 26)
theorem Amz(hd:5<=d):S6 disp K d 194 KZ:=fun _ _ _ _ _ _=>rd rfl rfl H (V5 (Qx H) hd<|V2 (LF H) hd<|rfl)
omit H in
theorem Ao9(c r:Ah)(K:Nat)(m:Nat):j4 false (X4 K c) c r K 29 831 [(2,fun A tm h ds=>Vf c r K h)] m=(fun m A tm h ds=>I5 c r K m (A 0) (A 7) (A 55) (A 56) (A 57) h) m:=
 O1 (E:=fun m A tm h ds=>I5 c r K m (A 0) (A 7) (A 55) (A 56) (A 57) h) rfl (fun m=>jQ fun A tm h ds=>by kernel_rfl) m
omit H in
theorem Am2(c r:Ah)(K:Nat)(m:Nat):j4 false (X4 K c) c r K 29 415 [(0,fun A tm h ds=>Va c r K (A 0) (A 1) (A 7) h)] m=(fun m A tm h ds=>Ih c r K m (A 0) (A 1) (A 6) (A 7) (A 28) (A 29) (A 30) h) m:=
 O1 (E:=fun m A tm h ds=>Ih c r K m (A 0) (A 1) (A 6) (A 7) (A 28) (A 29) (A 30) h) rfl (fun m=>jQ fun A tm h ds=>by kernel_rfl) m
theorem YR(hd:6<=d):S2 disp K d 29 EH:=fun _ _=>rm (q:=false) (D:=X4 K (Ag TT disp K d false)) (by kernel_rfl) rfl rfl H (V2 (Ar6 H) hd<|V3 (Zl H) hd<|rfl) (cut [true,true,true,true,true,true,false,true,false] (Ao9 (Ag TT disp K d false) (Ag TT disp K d true) K K) (by kernel_rfl) (by kernel_rfl) (cut [true,true,true,true,true,false,true,false] (Am2 (Ag TT disp K d false) (Ag TT disp K d true) K K) (by kernel_rfl) (by kernel_rfl) rfl))
theorem YY(hd:6<=d):S3 disp K d 45 EN:=fun _ _ _=>ld rfl rfl H (V2 (HE H) hd<|V3 (Zl H) hd<|V1 (C9 H) hd<|rfl) 207 (fun c r=>e4 (Nw c r K) 0 1 2 10)
theorem A3s(hd:6<=d):R4 disp K d 61 (s_ K):=fun _ _ _ _=>rl H hd fun d hd=>V2 (Avr H) hd<|rfl
theorem Ai2(hd:5<=d):S4 disp K d 108 LA:=fun _ _ _ _=>ld rfl rfl H (V5 (Qx H) hd<|V2 (Q8 H) hd<|rfl) 11 (fun c r=>e5 (Ga c r K) 0 2 3 5 8)
theorem Alg(hd:6<=d):S4 disp K d 112 LB:=fun _ _ _ _=>rd rfl rfl H (V2 (Q8 H) hd<|V1 (Azk H) hd<|V4 (A3s H) hd<|rfl)
omit H in
theorem Ad9(c r:Ah)(K:Nat)(m:Nat):j4 false (N5 K c) c r K 6 6655 [(2,fun A tm h ds=>Gb c r K (A 5) (A 7) (A 9) h)] m=(fun m A tm h ds=>D3 c r K m (A 5) (A 7) (A 9) (A 72) (A 73) h) m:=
 O1 (E:=fun m A tm h ds=>D3 c r K m (A 5) (A 7) (A 9) (A 72) (A 73) h) rfl (fun m=>jQ fun A tm h ds=>by kernel_rfl) m
omit H in
theorem Ad6(c r:Ah)(K:Nat)(m:Nat):j4 false (N5 K c) c r K 6 3327 [(0,fun A tm h ds=>Ml c r K (A 1) (A 5) (A 7) (A 9) h)] m=(fun m A tm h ds=>Dh c r K m (A 1) (A 5) (A 7) (A 9) (A 55) h) m:=
 O1 (E:=fun m A tm h ds=>Dh c r K m (A 1) (A 5) (A 7) (A 9) (A 55) h) rfl (fun m=>jQ fun A tm h ds=>by kernel_rfl) m
theorem ZM(hd:5<=d):S1 disp K d 6 Yi:=fun _=>rm (q:=false) (D:=N5 K (Ag TT disp K d false)) (by kernel_rfl) rfl rfl H (V1 (Τ H) hd<|V4 (A4y H) hd<|V1 (H6 H) hd<|V1 (Fs H) hd<|V4 (Asq H) hd<|V1 (Ω H) hd<|V0 (FQ H) hd<|V3 (Χ H) hd<|V1 (A5g H) hd<|V3 (Υ H) hd<|rfl) (cut [true,true,true,true,true,true,true,true,true,false,true,false] (Ad9 (Ag TT disp K d false) (Ag TT disp K d true) K K) (by kernel_rfl) (by kernel_rfl) (cut [true,true,true,true,true,true,true,true,false,true,false] (Ad6 (Ag TT disp K d false) (Ag TT disp K d true) K K) (by kernel_rfl) (by kernel_rfl) rfl))
end
end
section
noncomputable section
section
variable (c r:Ah)(K l:Nat)(k0:A0)(k1:A1)(k2:A2)(k3:A3)(k4:A4)(k5:A5)(k6:A6)(k7:A7)(k8:A8)(k9:A9)(oS:mB)(oT:mC)(oU:nv)(m0:B0)(m1:B1)(m2:B2)(m3:B3)(m4:B4)(m5:B5)(m6:B6)(m7:B7)(m8:B8)(m9:B9)(oV:nt)(oW:nu)(oX:ny)(base:Nat)(s:DX)(tm:Ay)(a b d e f g i j n o p q t u w x y z aa ab ad ae af ag ai aj an ao ap aq au aw ax ay az ba bb bd be bf bg bi bj bn bo bp bq bt bu bw bx bz da db dd de df dg di dj dn dp dq dt du dw dx dy dz ea eb ed ee ef eg ei ej en eo ep eq et eu ew ex ey ez fa fb fd fe ff fg fi fj fn fo fp fq ft fu fw fx fy fz ga gb gd ge gf gg gi gj gn go gp gq gt gu gw gx gy gz ia ib ie ig ii ij io ip iq it iu iw ix iy iz ja jb:EV)(h:Ab)(ds:List Nat)
def Sc:Ru K R:=
 gJ a b fun d=>
 some (d,h)
def Rm:R:=(.mk:Sg 0x1202200242002620e334b2a00423e209e9 [a,b] h [Ea (Sc K)]).F
def V8:Ru K (Ru r (Ru c R)):=
 some ((.bool true),h)
def Wh:Ru K (Ru r (Ru c R)):=
 Je e fun f=>
 k4 a b d f h
def Vv:R:=(.mk:Sg 0x165434004023287609e [a,b,d,e,f,g] h [Vr (Wh c r K k4)]).F
def V7:R:=(.mk:Sg 0x120201e00edc6102302e01e00ed61000618e802e01e2d2343e802e712e5212e5343e012e06e20ce85201243e012e06e212e55312e15e [a,b,d,e] h [c 32,cl6 (Vv c r K k4)] [] [List.replicate 32 (.int .u8 0)]).F
def Hh(c:Ah)(r:Ah)(K:Nat):Nat->A4
 | 0=>fun _ _ _ _ _=>none
 | m+1=>fun a b d e h=>
  cE Ji .lss 3 e d
  (V7 c r K (Hh c r K m) a b d e h)
  (V8 c r K h)
def LG:R:=
 Gi b fun d=>
 Hh c r K K a b d (.int .i64 0) h
def Es:Ru K R:=
 some (a,h)
def Sz:Ru K R:=
 Je d fun e=>
 k3 a b e h
def S9:R:=
 Bt (Mg 1) (List.replicate 32 (.int .u8 0)) [] fun e=>
 Wn 32 b d fun f=>
 f_ 32 f e h fun h=>
 Sz K k3 a b d h
def Ei(K:Nat):Nat->A3
 | 0=>fun _ _ _ _=>none
 | m+1=>fun a b d h=>
  oE 1 a h fun e=>
  oE 2 a h fun f=>
  mF e f fun g=>
  cE Ji .lss 3 d g
  (S9 K (Ei K m) a b d h)
  (Es K b h)
def El:R:=(.mk:Sg 0x1411025430031493023701e204 [a,b] h [K3 (Ei K K),Ew (Es K)]).F
def Tb:Ru K R:=
 Je f fun g=>
 k5 a b d e g h
def Sn:R:=(.mk:Sg 0x1dcba95003212e64912e15e212e53114e204246e013e06e213e56413e15e [a,b,d,e,f] h [cl5 (Tb K k5)] [] [[.int .i64 0]++List.replicate 32 (.int .u8 0)]).F
def Eo(K:Nat):Nat->A5
 | 0=>fun _ _ _ _ _ _=>none
 | m+1=>fun a b d e f h=>
  cE Ji .lss 3 f e
  (Sn K (Eo K m) a b d e f h)
  (El K a b h)
def Jz:R:=(.mk:Sg 0x135240002368530213e212153ae504e1023701e40452211001216e9 [a,b] h [cl0 (Bv (List.replicate 32 (.int .u8 0)) 81 32 0 []),Ea (D9 81 32),Ew (Fe K),cl5 (Eo K K),Ea (El K)]).F
abbrev Mo(K:Nat)(c:Ah):Ah:=(w1 44 (Fe K) c)
def wq:R:=(.mk:Sg 0x1224220123be9 [a,b] h [Ea (fun d b=>Sx K d (.int .u32 0) b)]).F
def L5:R:=(.mk:Sg 0x12201239e702e522012f2e523be9 [a,b] h [Ea (wq K)] [] [] [(.int .u32 0)]).F
def Kw:Ru K R:=
 some ((.bool true),h)
def E1:Ru K R:=
 Je f fun g=>
 k5 a b d e g h
def P6(K:Nat)(k5:A5)(k9:A9)(a:EV)(b:EV)(d:EV)(e:EV)(f:EV)(g:EV)(i:EV)(j:EV)(n:EV)(h:Ab):R:=
 Je n fun o=>
 k9 a b d e f g i j o h
def Hq:R:=
 gJ o p fun q=>
 gQ q
 (some ((.bool false),h))
 (P6 K k5 k9 a b d e f g i j n h)
def K8:R:=(.mk:Sg 0x1202cba987543b002703e02e01e00edca98b002424e2347414e2346414e0fe2adc0be [a,b,d,e,f,g,i,j,n,o,p,q] h [Bgq (Hq K k5 k9)]).F
def Pt:R:=(.mk:Sg 0x1202cba9876543c002703e02e01e00edcba98c002424e2247414e2246414e10e2adc0be [a,b,d,e,f,g,i,j,n,o,p,q] h [Bps (K8 K k5 k9)]).F
def Xp:R:=(.mk:Sg 0x120201e00edcba4987c002504e03e02e01e00ed7cbac0010224e2144414e0be2a01224e204216e03ae06e23ae5a83ae15e [a,b,d,e,f,g,i,j,n] h [Bps (Pt K k5 k9)] [] [List.replicate 3 (.int .i64 0)++[.Am]++List.replicate 4 (.int .i64 0)++List.replicate 64 (.int .u8 0)] [(.int .i64 9)]).F
def E0(K:Nat)(k5:A5):Nat->A9
 | 0=>fun _ _ _ _ _ _ _ _ _ _=>none
 | m+1=>fun a b d e f g i j n h=>
  cE Ji .lss 3 n j
  (Xp K k5 (E0 K k5 m) a b d e f g i j n h)
  (E1 K k5 a b e f g h)
def Vn:R:=
 h_ 72 a none (some d) none fun j=>
 Gi j fun n=>
 E0 K k5 K a b e f g i j n (.int .i64 0) h
def Wd:R:=(.mk:Sg 0x1dcba987710402328252001e4721007e2414e6414e3f2e5300b0ee [a,b,d,e,f,g,i] h [Ea (L5 K),cl7 (Vn K k5)] [cu1 (fun o=>Oz 64 1 o none none none)]).F
def Oo:R:=
 gX j n fun o=>
 gQ o
 (E1 K k5 a b f g i h)
 (Wd K k5 a b d e f g i h)
def Vx:R:=(.mk:Sg 0x1202ba94b879002500edc700eba90010225e2144414e08e2d01225e204216e03ae06e23ae5643ae15e [a,b,d,e,f] h [cl9 (Oo K k5)] [] [List.replicate 3 (.int .i64 0)++[.Am]++List.replicate 4 (.int .i64 0)++List.replicate 64 (.int .u8 0)] [(.int .i64 9)]).F
def Dw(K:Nat):Nat->A5
 | 0=>fun _ _ _ _ _ _=>none
 | m+1=>fun a b d e f h=>
  cE Ji .lss 3 f e
  (Vx K (Dw K m) a b d e f h)
  (Kw K h)
def Og:R:=(.mk:Sg 0x1002535510413e23be0f2e06e001 [a] h [cl0 (oN K),cl5 (Dw K K)] [] [List.replicate 256 (.int .u32 0)]).F
abbrev Qv(K:Nat)(c:Ah):Ah:=(w0 24 (oN K) (w2 43 (L5 K) c))
end
variable{d:Nat}(H:Cf disp)
include H
theorem Amu(hd:1<=d):R2 disp K d 11 (Rm K):=fun _ _=>rl H hd
theorem Ait(hd:0<=d):S2 disp K d 12 LG:=fun _ _=>ld rfl rfl H rfl 25 (fun c r=>e4 (Hh c r K) 0 9 10 11)
omit H in
theorem Acl(c G r:Ah)(K:Nat)(m:Nat):j4 false (Mo K c) G r K 10 423 [(2,fun A tm h ds=>Es K (A 5) h)] m=(fun m A tm h ds=>Ei K m (A 2) (A 5) (A 8) h) m:=
 O1 (E:=fun m A tm h ds=>Ei K m (A 2) (A 5) (A 8) h) rfl (fun m=>jQ fun A tm h ds=>by kernel_rfl) m
omit H in
theorem Acj(c G r:Ah)(K:Nat)(m:Nat):j4 false (Mo K c) G r K 10 211 [(0,fun A tm h ds=>El K (A 2) (A 5) h)] m=(fun m A tm h ds=>Eo K m (A 2) (A 5) (A 16) (A 17) (A 18) h) m:=
 O1 (E:=fun m A tm h ds=>Eo K m (A 2) (A 5) (A 16) (A 17) (A 18) h) rfl (fun m=>jQ fun A tm h ds=>by kernel_rfl) m
theorem Ad2(hd:3<=d):R2 disp K d 10 (Jz K):=by
 obtain⟨d,rfl⟩:∃e,d=e+1:=⟨d-1,a_⟩;have hd:=eH hd;exact fun _ _=>rm (q:=false) (D:=Mo K (Ag TT disp K d false)) (by kernel_rfl) rfl rfl H (V1 (Qk H) hd<|rfl) (cut [true,true,true,false,true,false,true,false] (Acl (Ag TT disp K d false) (Ag TT disp K d false) (Ag TT disp K d true) K K) (by kernel_rfl) (by kernel_rfl) (cut [true,true,false,true,false,true,false] (Acj (Ag TT disp K d false) (Ag TT disp K d false) (Ag TT disp K d true) K K) (by kernel_rfl) (by kernel_rfl) rfl))
theorem Au5(hd:3<=d):R2 disp K d 82 (wq K):=fun _ _=>rl H hd fun d hd=>V3 (JV H) hd<|rfl
theorem Alw(hd:4<=d):R2 disp K d 43 (L5 K):=fun _ _=>rl H hd fun d hd=>V2 (Au5 H) hd<|rfl
omit H in
theorem Ai0(c J r:Ah)(K:Nat)(G:EV->EV->EV->EV->EV->Ab->R)(m:Nat):j4 false (Qv K c) J r K 7 49971 [(2,fun A tm h ds=>E1 K G (A 0) (A 3) (A 9) (A 10) (A 11) h),(1,fun A tm h ds=>E1 K G (A 0) (A 3) (A 9) (A 10) (A 11) h),(0,fun A tm h ds=>Kw K h)] m=(fun m A tm h ds=>E0 K G m (A 0) (A 3) (A 5) (A 9) (A 10) (A 11) (A 32) (A 33) (A 34) h) m:=
 O1 (E:=fun m A tm h ds=>E0 K G m (A 0) (A 3) (A 5) (A 9) (A 10) (A 11) (A 32) (A 33) (A 34) h) rfl (fun m=>jQ fun A tm h ds=>by kernel_rfl) m
omit H in
theorem Agd(c G r:Ah)(K:Nat)(m:Nat):j4 false (Qv K c) G r K 7 51 [(0,fun A tm h ds=>Kw K h)] m=(fun m A tm h ds=>Dw K m (A 0) (A 3) (A 9) (A 10) (A 11) h) m:=
 HF (E:=fun m A tm h ds=>Dw K m (A 0) (A 3) (A 9) (A 10) (A 11) h) rfl (fun m=>(cut [true,true,false,false,true,true,true,true,false] (Ai0 c G r K (Dw K m) K) (by kernel_rfl) (by kernel_rfl) rfl)) (fun m=>jQ fun A tm h ds=>by kernel_rfl) m
theorem Ai3(hd:5<=d):R1 disp K d 7 (Og K):=by
 obtain⟨d,rfl⟩:∃e,d=e+1:=⟨d-1,a_⟩;have hd:=eH hd;exact fun _=>rm (q:=false) (D:=Qv K (Ag TT disp K d false)) (by kernel_rfl) rfl rfl H (V0 (FQ H) hd<|V2 (Alw H) hd<|rfl) (cut [true,true,false,true,false] (Agd (Ag TT disp K d false) (Ag TT disp K d false) (Ag TT disp K d true) K K) (by kernel_rfl) (by kernel_rfl) rfl)
end
end
noncomputable section
section
variable (c r:Ah)(K l:Nat)(k0:A0)(k1:A1)(k2:A2)(k3:A3)(k4:A4)(k5:A5)(k6:A6)(k7:A7)(k8:A8)(k9:A9)(oS:mB)(oT:mC)(oU:nv)(m0:B0)(m1:B1)(m2:B2)(m3:B3)(m4:B4)(m5:B5)(m6:B6)(m7:B7)(m8:B8)(m9:B9)(oV:nt)(oW:nu)(oX:ny)(base:Nat)(s:DX)(tm:Ay)(a b d e f g i j n o p q t u w x y z aa ab ad ae af ag ai aj an ao ap aq au aw ax ay az ba bb bd be bf bg bi bj bn bo bp bq bt bu bw bx bz da db dd de df dg di dj dn dp dq dt du dw dx dy dz ea eb ed ee ef eg ei ej en eo ep eq et eu ew ex ey ez fa fb fd fe ff fg fi fj fn fo fp fq ft fu fw fx fy fz ga gb gd ge gf gg gi gj gn go gp gq gt gu gw gx gy gz ia ib ie ig ii ij io ip iq it iu iw ix iy iz ja jb:EV)(h:Ab)(ds:List Nat)
def Qi:Ru K (Ru r R):=(.mk:Sg 0x12232201 [a,b] h [c 12]).F
def Gy:Ru K (Ru r (Ru c R)):=
 Je i fun j=>
 k7 a b d e f g j h
def G0:R:=
 gJ j n fun o=>
 gQ o
 (some ((.bool false),h))
 (Gy c r K k7 a b d e f g i h)
def Gv:R:=(.mk:Sg 0x1202a98654390023ba9765490000718e802e04e2aba0be [a,b,d,e,f,g,i,j,n,o] h [cl9 (G0 c r K k7)]).F
def J7:R:=(.mk:Sg 0x1202cba97654a102501e00edca987a10232019145650ae2a60224e604 [a,b,d,e,f,g,i,j,n] h [Ea (Rm K),Bn6 (Gv c r K k7)]).F
def E7:R:=(.mk:Sg 0x1ba9876543910dcba927659107220173ae506e28cb0be [a,b,d,e,f,g,i,j,n,o,p] h [Ea (Jz K),cl9 (J7 c r K k7)]).F
def J8:R:=(.mk:Sg 0x1202ba9876543b0023cba987654b0000818e702e06e2acb09e [a,b,d,e,f,g,i,j,n,o,p] h [Bgq (E7 c r K k7)]).F
def J9:R:=(.mk:Sg 0x1202dcb4a9876b102401e00ed6cba98b1030224ea0407e2d10224e8045220163ae5 [a,b,d,e,f,g,i,j] h [c 9,Bgq (J8 c r K k7)]).F
def E6:R:=
 gJ n o fun p=>
 gQ p
 (Gy c r K k7 a b d e g i j h)
 (J9 c r K k7 a b d e f g i j h)
def Gj:R:=(.mk:Sg 0x120a98765432a002ba9876543a00cb09e02eaa [a,b,d,e,f,g,i,j,n,o,p] h [Bn6 (E6 c r K k7)]).F
def Jk:R:=(.mk:Sg 0x120ba98765432b10202e01e00edcba987b106225e242012247414e36511ebd [a,b,d,e,f,g,i,j,n,o] h [Ea (De K),Bgq (Gj c r K k7)]).F
def O6:R:=(.mk:Sg 0x1202dcb4a987a002502e01e00e7dcbaa00c0224e2144414e09e2a01224e204216e03ae06e23ae5863ae15e [a,b,d,e,f,g,i] h [Bn6 (Jk c r K k7)] [] [List.replicate 3 (.int .i64 0)++[.Am]++List.replicate 4 (.int .i64 0)++List.replicate 64 (.int .u8 0)] [(.int .i64 9)]).F
def Cj(c:Ah)(r:Ah)(K:Nat):Nat->A7
 | 0=>fun _ _ _ _ _ _ _ _=>none
 | m+1=>fun a b d e f g i h=>
  cE Ji .lss 3 i g
  (O6 c r K (Cj c r K m) a b d e f g i h)
  (Qi c r K d e h)
def O7:R:=(.mk:Sg 0x100253876710413e22201434 [a,b,d,e] h [Ea (Pr (List.replicate 32 (.int .u8 0)) 81),cl7 (Cj c r K K)]).F
def Ex:R:=(.mk:Sg 0x165434005023287609e [a,b,d,e,f,g] h [Vr (O7 c r K)]).F
def Gk:R:=(.mk:Sg 0x1202654361024876561020fe310101e2d7609e [a,b,d,e,f,g] h [Ew (Og K),cl6 (Ex c r K)]).F
def O5:R:=(.mk:Sg 0x120237656102459876100fe0222e513e01e2d7020ce702e2101465 [a,b,d] h [c 6,cl6 (Gk c r K)]).F
def Mm:R:=(.mk:Sg 0x147631040232820fe001209e9 [a,b,d] h [c 5,K3 (O5 c r K)]).F
end
variable{d:Nat}(H:Cf disp)
include H
theorem Abx(hd:5<=d):S3 disp K d 3 Mm:=fun _ _ _=>ld rfl rfl H (V2 (Amu H) hd<|V2 (Ad2 H) hd<|V2 (Ez H) hd<|V1 (Ai3 H) hd<|rfl) 415 (fun c r=>e7 (Cj c r K) 2 3 7 8 31 32 33)
end
end
end Go.Ev
