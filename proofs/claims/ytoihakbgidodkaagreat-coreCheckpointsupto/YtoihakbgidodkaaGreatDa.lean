import Derived.Test.YtoihakbgidodkaaGreatProg
import Derived.Test.YtoihakbgidodkaaGreatEvFive
set_option linter.all false
namespace Go.Ev
noncomputable section
open Go.Proofs
set_option maxRecDepth 100000
set_option maxHeartbeats 4000000
variable {disp:Nat->Option FT}{K d0 sz base:Nat}{v:EV}{h h' h0:Ab}{P Q:EV->Ab->Prop}{l' xs:List EV}{ps:List (Nat × EV)}{F:EV->EV->EV->EV->EV->Ab->R}{kh:EV->Ab->R}{α:Type}{ke:EV->Ab->DX->R}
def fn2:Tr Func:=F4 Tryz.prog.funcs.toList 0 .nil
def ty2:Tr TypeInfo:=F4 Tryz.prog.types.toList 0 .nil
def HL:List (Nat × List Nat):=[(239,List.replicate 2 0),(189,List.replicate 2 0),(23,List.replicate 6 0),(87,List.replicate 6 0),(81,List.replicate 32 0),(134,List.replicate 44 0),(136,List.replicate 49 0),(73,List.replicate 256 0),(45,List.replicate 3 0)]
def TT:I5:=tA fn2 ty2 HL [239,189]
abbrev TP:Program:=Tryz.prog
theorem Bl1:Tryz.prog.follows .mixedOrders=true:=by kernel_rfl
theorem Bkj:(Tryz.prog.funcs.toList.all fun f=>!(f.name == "runtime.NumGoroutine"))=true:=by kernel_rfl
theorem Bpd:(HL.all fun x=>decide (flat Tryz.prog 6 x.1=some x.2)&&ik Tryz.prog x.1&&!(Tryz.prog.eqGuardType Tryz.prog.depth x.1))=true:=by kernel_rfl
theorem Bsa:qX Tryz.prog 239=true:=by kernel_rfl
theorem Bph:qY Tryz.prog 189=true:=by kernel_rfl
theorem wZ:Q4 TP TT:=Bmo Bl1 Bkj (fun x G=>by
 have:=dS.1 Bpd x G;simp only[bD,av,Bool.not_eq_true']at this;exact⟨this.1.1,this.1.2,this.2⟩) (fun t A=>by
 rcases bc.1 A with rfl|A
 ·exact .inl Bsa
 ·rw[aP]at A;subst A;exact .inr Bph)
def Br8(g:Nat):Bool:=Bb (Nat.beq g 5) false (Bb (Nat.beq g 24) false (Bb (Nat.beq g 89) false true))
noncomputable section
abbrev Ru {α:Type}(_:α)(β:Type):Type:=β
abbrev A0:=Ab->R
abbrev B0:=Ba->Ab->List Nat->R
abbrev A1:=EV->Ab->R
abbrev B1:=Ba->EV->Ab->List Nat->R
abbrev A2:=EV->EV->Ab->R
abbrev B2:=Ba->EV->EV->Ab->List Nat->R
abbrev A3:=EV->EV->EV->Ab->R
abbrev B3:=Ba->EV->EV->EV->Ab->List Nat->R
abbrev A4:=EV->EV->EV->EV->Ab->R
abbrev B4:=Ba->EV->EV->EV->EV->Ab->List Nat->R
abbrev A5:=EV->EV->EV->EV->EV->Ab->R
abbrev B5:=Ba->EV->EV->EV->EV->EV->Ab->List Nat->R
abbrev A6:=EV->EV->EV->EV->EV->EV->Ab->R
abbrev B6:=Ba->EV->EV->EV->EV->EV->EV->Ab->List Nat->R
abbrev A7:=EV->EV->EV->EV->EV->EV->EV->Ab->R
abbrev B7:=Ba->EV->EV->EV->EV->EV->EV->EV->Ab->List Nat->R
abbrev A8:=EV->EV->EV->EV->EV->EV->EV->EV->Ab->R
abbrev B8:=Ba->EV->EV->EV->EV->EV->EV->EV->EV->Ab->List Nat->R
abbrev A9:=EV->EV->EV->EV->EV->EV->EV->EV->EV->Ab->R
abbrev B9:=Ba->EV->EV->EV->EV->EV->EV->EV->EV->EV->Ab->List Nat->R
abbrev ma:=EV->EV->EV->EV->EV->EV->EV->EV->EV->EV->Ab->R
abbrev mP:=Ba->EV->EV->EV->EV->EV->EV->EV->EV->EV->EV->Ab->List Nat->R
abbrev mb:=EV->EV->EV->EV->EV->EV->EV->EV->EV->EV->EV->Ab->R
abbrev mQ:=Ba->EV->EV->EV->EV->EV->EV->EV->EV->EV->EV->EV->Ab->List Nat->R
abbrev mR:=EV->EV->EV->EV->EV->EV->EV->EV->EV->EV->EV->EV->Ab->R
abbrev mS:=Ba->EV->EV->EV->EV->EV->EV->EV->EV->EV->EV->EV->EV->Ab->List Nat->R
abbrev tU:EV:=.tuple []
def oE(c:Nat)(v:EV)(h:Ab)(k:EV->R):R:=Xg c v fun v=>Et v h k
def fE(c:Nat)(v:EV)(h:Ab)(k:EV->R):R:=jv v fun v=>oE c v h k
def nV(c:Nat)(v:EV)(k:EV->R):R:=jv v fun v=>Xg c v k
def gZ(c:Nat)(i:Nat)(b:Nat)(base:Nat)(v:EV)(s:DX)(h:Ab)(kd:DX->EV->R):R:=Xg c v fun v=>L0 i b base v s fun s=>Et v h (kd s)
def jw(c:Nat)(i:Nat)(b:Nat)(base:Nat)(v:EV)(s:DX)(h:Ab)(kd:DX->EV->R):R:=jv v fun v=>gZ c i b base v s h kd
def mT(n:Nat)(v:EV)(w:EV)(h:Ab)(k:EV->R):R:=Ve n v w fun v=>Et v h k
def jE(n:Nat)(l:List EV)(t:Nat)(x:EV)(h:Ab)(kh:EV->Ab->R):R:=iZ (.cells l t) h fun v h=>Vz n v x h (kh v)
def kM(v:EV)(kk:EV->EV->R):R:=kN 0 v fun a=>kN 1 v (kk a)
def gh(x:EV)(y:EV)(k:EV->R):R:=kO x y (.bool false) k
def gX(x:EV)(y:EV)(k:EV->R):R:=kO x (.bool true) y k
def ir(v:EV)(p:R)(q:R):R:=Bb (Fa v true) p q
def gk(v:EV)(p:R)(q:R):R:=Bb (Fa v false) p q
def tB(v:EV)(h:Ab)(ds:List Nat):R:=Dt ds h fun h=>some (v,h)
def cE(g:IG)(f:BinOp)(t:Nat)(x:EV)(y:EV)(p:R)(q:R):R:=Jk g (bin TT f t) x y fun v=>gm v p q
def qZ(x:EV)(p:R)(q:R):R:=cE iF .neq 35 x (.int .i64 0) p q
def H4(x:EV)(k:EV->R):R:=Jk kP (bin TT .add 3) x (.int .i64 1) k
def nX(x:EV)(y:EV)(k:EV->R):R:=Jk kP (bin TT .add 3) x y k
def nY(x:EV)(y:EV)(k:EV->R):R:=Jk nZ (bin TT .sub 3) x y k
def mc(x:EV)(y:EV)(k:EV->R):R:=Jk pB (bin TT .mul 3) x y k
def jj(x:EV)(y:EV)(k:EV->R):R:=Jk Iz (bin TT .lss 3) x y k
def j9(x:EV)(y:EV)(k:EV->R):R:=Jk n_ (bin TT .leq 3) x y k
def jk(x:EV)(y:EV)(k:EV->R):R:=Jk mU (bin TT .gtr 3) x y k
def mf(x:EV)(y:EV)(k:EV->R):R:=Jk mV (bin TT .geq 3) x y k
def mW(x:EV)(y:EV)(k:EV->R):R:=Jk iD (bin TT .eql 3) x y k
def jF(x:EV)(y:EV)(k:EV->R):R:=Jk iF (bin TT .neq 3) x y k
abbrev Zi:Prop:=
 (∀(g:IG) (f:BinOp) (t:Nat) (x:EV) (y:EV) (p:R) (q:R),cE g f t x y p q=Jk g (bin TT f t) x y fun v=>gm v p q) /\
 (∀(x:EV) (p:R) (q:R),qZ x p q=cE iF .neq 35 x (.int .i64 0) p q) /\
 (∀(x:EV) (k:EV->R),H4 x k=Jk kP (bin TT .add 3) x (.int .i64 1) k) /\
 (∀(x:EV) (y:EV) (k:EV->R),nX x y k=Jk kP (bin TT .add 3) x y k) /\
 (∀(x:EV) (y:EV) (k:EV->R),nY x y k=Jk nZ (bin TT .sub 3) x y k) /\
 (∀(x:EV) (y:EV) (k:EV->R),mc x y k=Jk pB (bin TT .mul 3) x y k) /\
 (∀(x:EV) (y:EV) (k:EV->R),jj x y k=Jk Iz (bin TT .lss 3) x y k) /\
 (∀(x:EV) (y:EV) (k:EV->R),j9 x y k=Jk n_ (bin TT .leq 3) x y k) /\
 (∀(x:EV) (y:EV) (k:EV->R),jk x y k=Jk mU (bin TT .gtr 3) x y k) /\
 (∀(x:EV) (y:EV) (k:EV->R),mf x y k=Jk mV (bin TT .geq 3) x y k) /\
 (∀(x:EV) (y:EV) (k:EV->R),mW x y k=Jk iD (bin TT .eql 3) x y k) /\
 (∀(x:EV) (y:EV) (k:EV->R),jF x y k=Jk iF (bin TT .neq 3) x y k)
abbrev Zs:Prop:=
 (∀(c:Nat) (v:EV) (h:Ab) (k:EV->R),oE c v h k=Xg c v fun v=>Et v h k) /\
 (∀(c:Nat) (v:EV) (h:Ab) (k:EV->R),fE c v h k=jv v fun v=>oE c v h k) /\
 (∀(c:Nat) (v:EV) (k:EV->R),nV c v k=jv v fun v=>Xg c v k) /\
 (∀(c:Nat) (i:Nat) (b:Nat) (base:Nat) (v:EV) (s:DX) (h:Ab) (kd:DX->EV->R),gZ c i b base v s h kd=Xg c v fun v=>L0 i b base v s fun s=>Et v h (kd s)) /\
 (∀(c:Nat) (i:Nat) (b:Nat) (base:Nat) (v:EV) (s:DX) (h:Ab) (kd:DX->EV->R),jw c i b base v s h kd=jv v fun v=>gZ c i b base v s h kd) /\
 (∀(n:Nat) (v:EV) (w:EV) (h:Ab) (k:EV->R),mT n v w h k=Ve n v w fun v=>Et v h k) /\
 (∀(n:Nat) (l:List EV) (t:Nat) (x:EV) (h:Ab) (kh:EV->Ab->R),jE n l t x h kh=iZ (.cells l t) h fun v h=>Vz n v x h (kh v)) /\
 (∀(v:EV) (kk:EV->EV->R),kM v kk=kN 0 v fun a=>kN 1 v (kk a)) /\
 (∀(x:EV) (y:EV) (k:EV->R),gh x y k=kO x y (.bool false) k) /\
 (∀(x:EV) (y:EV) (k:EV->R),gX x y k=kO x (.bool true) y k) /\
 (∀(v:EV) (p:R) (q:R),ir v p q=Bb (Fa v true) p q) /\
 (∀(v:EV) (p:R) (q:R),gk v p q=Bb (Fa v false) p q) /\
 (∀(v:EV) (h:Ab) (ds:List Nat),tB v h ds=Dt ds h fun h=>some (v,h))
theorem tC:Zi:=by refine⟨?_,?_,?_,?_,?_,?_,?_,?_,?_,?_,?_,?_⟩<;>intros<;>rfl
theorem dz:Zs:=by refine⟨?_,?_,?_,?_,?_,?_,?_,?_,?_,?_,?_,?_,?_⟩<;>intros<;>rfl
theorem dq:Zs/\Zi:=⟨dz,tC⟩
section
variable {c:Nat}{i:Nat}{b:Nat}{n:Nat}{t:Nat}{w:EV}{x:EV}{y:EV}{s:DX}{k:EV->R}{p:R}{q:R}{kd:DX->EV->R}{kk:EV->EV->R}{g:IG}{f:BinOp}{l:List EV}{ds:List Nat}{v' w' x' y':EV}
@[congr] theorem oE.cg(e0:v=v'):oE c v h k=oE c v' h k:=by rw[e0]
@[congr] theorem fE.cg(e0:v=v'):fE c v h k=fE c v' h k:=by rw[e0]
@[congr] theorem nV.cg(e0:v=v'):nV c v k=nV c v' k:=by rw[e0]
@[congr] theorem gZ.cg(e0:v=v'):gZ c i b base v s h kd=gZ c i b base v' s h kd:=by rw[e0]
@[congr] theorem jw.cg(e0:v=v'):jw c i b base v s h kd=jw c i b base v' s h kd:=by rw[e0]
@[congr] theorem mT.cg(e0:v=v')(e1:w=w'):mT n v w h k=mT n v' w' h k:=by rw[e0,e1]
@[congr] theorem jE.cg(e0:x=x')(e1:l=l'):jE n l t x h kh=jE n l' t x' h kh:=by rw[e0,e1]
@[congr] theorem kM.cg(e0:v=v'):kM v kk=kM v' kk:=by rw[e0]
@[congr] theorem gh.cg(e0:x=x'):gh x y k=gh x' y k:=by rw[e0]
@[congr] theorem gX.cg(e0:x=x'):gX x y k=gX x' y k:=by rw[e0]
@[congr] theorem ir.cg(e0:v=v'):ir v p q=ir v' p q:=by rw[e0]
@[congr] theorem gk.cg(e0:v=v'):gk v p q=gk v' p q:=by rw[e0]
@[congr] theorem cE.cg(e0:x=x')(e1:y=y'):cE g f t x y p q=cE g f t x' y' p q:=by rw[e0,e1]
@[congr] theorem qZ.cg(e0:x=x'):qZ x p q=qZ x' p q:=by rw[e0]
@[congr] theorem H4.cg(e0:x=x'):H4 x k=H4 x' k:=by rw[e0]
@[congr] theorem nX.cg(e0:x=x')(e1:y=y'):nX x y k=nX x' y' k:=by rw[e0,e1]
@[congr] theorem nY.cg(e0:x=x')(e1:y=y'):nY x y k=nY x' y' k:=by rw[e0,e1]
@[congr] theorem mc.cg(e0:x=x')(e1:y=y'):mc x y k=mc x' y' k:=by rw[e0,e1]
@[congr] theorem jj.cg(e0:x=x')(e1:y=y'):jj x y k=jj x' y' k:=by rw[e0,e1]
@[congr] theorem j9.cg(e0:x=x')(e1:y=y'):j9 x y k=j9 x' y' k:=by rw[e0,e1]
@[congr] theorem jk.cg(e0:x=x')(e1:y=y'):jk x y k=jk x' y' k:=by rw[e0,e1]
@[congr] theorem mf.cg(e0:x=x')(e1:y=y'):mf x y k=mf x' y' k:=by rw[e0,e1]
@[congr] theorem mW.cg(e0:x=x')(e1:y=y'):mW x y k=mW x' y' k:=by rw[e0,e1]
@[congr] theorem jF.cg(e0:x=x')(e1:y=y'):jF x y k=jF x' y' k:=by rw[e0,e1]
end
end
section
noncomputable section
abbrev NM:=List EV->Ab->R
abbrev UM:=List EV->(EV->R)->R
def cl0(F:Ab->R):NM:=fun x h=>match x with | []=>F h|_=>none
def Eg(F:EV->Ab->R):NM:=fun x h=>match x with | [a]=>F a h|_=>none
def Ei(F:EV->EV->Ab->R):NM:=fun x h=>match x with | [a,b]=>F a b h|_=>none
def Ld(F:EV->EV->EV->Ab->R):NM:=fun x h=>match x with | [a,b,c]=>F a b c h|_=>none
def Tu(F:EV->EV->EV->EV->Ab->R):NM:=fun x h=>match x with | [a,b,c,d]=>F a b c d h|_=>none
def cl5(F:EV->EV->EV->EV->EV->Ab->R):NM:=fun x h=>match x with | [a,b,c,d,e]=>F a b c d e h|_=>none
def cl6(F:EV->EV->EV->EV->EV->EV->Ab->R):NM:=fun x h=>match x with | [a,b,c,d,e,f]=>F a b c d e f h|_=>none
def cl7(F:EV->EV->EV->EV->EV->EV->EV->Ab->R):NM:=fun x h=>match x with | [a,b,c,d,e,f,i]=>F a b c d e f i h|_=>none
def cl8(F:EV->EV->EV->EV->EV->EV->EV->EV->Ab->R):NM:=fun x h=>match x with | [a,b,c,d,e,f,i,j]=>F a b c d e f i j h|_=>none
def cl9(F:EV->EV->EV->EV->EV->EV->EV->EV->EV->Ab->R):NM:=fun x h=>match x with | [a,b,c,d,e,f,i,j,k]=>F a b c d e f i j k h|_=>none
def Btx(F:EV->EV->EV->EV->EV->EV->EV->EV->EV->EV->Ab->R):NM:=fun x h=>match x with | [a,b,c,d,e,f,i,j,k,l]=>F a b c d e f i j k l h|_=>none
def Bsr(F:EV->EV->EV->EV->EV->EV->EV->EV->EV->EV->EV->Ab->R):NM:=fun x h=>match x with | [a,b,c,d,e,f,i,j,k,l,m]=>F a b c d e f i j k l m h|_=>none
def Btp(F:EV->EV->EV->EV->EV->EV->EV->EV->EV->EV->EV->EV->Ab->R):NM:=fun x h=>match x with | [a,b,c,d,e,f,i,j,k,l,m,n]=>F a b c d e f i j k l m n h|_=>none
def cu0(F:(EV->R)->R):UM:=fun x k=>match x with | []=>F k|_=>none
def cu1(F:EV->(EV->R)->R):UM:=fun x k=>match x with | [a]=>F a k|_=>none
def cu2(F:EV->EV->(EV->R)->R):UM:=fun x k=>match x with | [a,b]=>F a b k|_=>none
def cu3(F:EV->EV->EV->(EV->R)->R):UM:=fun x k=>match x with | [a,b,c]=>F a b c k|_=>none
def cu4(F:EV->EV->EV->EV->(EV->R)->R):UM:=fun x k=>match x with | [a,b,c,d]=>F a b c d k|_=>none
def cu5(F:EV->EV->EV->EV->EV->(EV->R)->R):UM:=fun x k=>match x with | [a,b,c,d,e]=>F a b c d e k|_=>none
def cu6(F:EV->EV->EV->EV->EV->EV->(EV->R)->R):UM:=fun x k=>match x with | [a,b,c,d,e,f]=>F a b c d e f k|_=>none
def nth(d:α):List α->Nat->α
 | [],_=>d
 | a::_,0=>a
 | _::r,n+1=>nth d r n
def kc:List EV:=[(.int .i64 0),(.int .i64 1),tU,(.int .i64 2),(.bool false),(.bool true),(.int .i64 3),.Bz,(.int .i64 5),(.int .i64 7),(.int .u8 0),.An,(.int .i64 4),(.int .i64 8),(.int .i64 10),(.int .i64 11),(.int .i64 12),(.int .i64 13),(.int .i64 14),(.int .i64 15),(.int .i64 16),(.int .i64 17),(.int .i64 18),(.int .i64 20),(.int .i64 30),(.int .i64 31),(.int .i64 32),(.int .i64 33),(.int .i64 34),(.int .i64 40),(.int .i64 41),(.int .i64 42),(.int .i64 43),(.int .i64 44),(.int .i64 48),(.int .i64 64)]
def tk:Nat->Nat->List Nat
 | 0,_=>[]
 | f+1,n=>if n=1 then[]else if n%16=14 then(n/16%256+14)::tk f (n/4096)else if n%16=15 then(n/256%16^(n/16%16))::tk f (n/256/16^(n/16%16))else n%16::tk f (n/16)
def rT:List Nat->(Nat->List Nat->R)->R
 | t::n,k=>k t n
 | [],_=>none
def rW(C e:List EV)(k:EV->List Nat->R):Nat->List Nat->R
 | 0,n=>rT n fun i n=>k (nth tU kc i) n
 | 1,n=>rT n fun i n=>k (nth tU C i) n
 | x+2,n=>k (nth tU e x) n
def rV(C e:List EV)(n:List Nat)(k:EV->List Nat->R):R:=rT n fun q n=>rW C e k q n
def rL(C e:List EV):Nat->List Nat->(List EV->List Nat->R)->R
 | 0,n,k=>k [] n
 | m+1,n,k=>rV C e n fun v n=>rL C e m n fun l n=>k (v::l) n
def rR(C e:List EV):Nat->List Nat->(List RV->R)->R
 | 0,_,k=>k []
 | m+1,n,k=>rT n fun q n=>rV C e n fun v n=>nth none [rR C e m n fun l=>k (.v v::l),rT n fun t n=>rR C e m n fun l=>k (.c v t::l)] q
def rC(N:List NM)(C e:List EV)(n:List Nat)(k:(Ab->R)->List Nat->R):R:=rT n fun j n=>rT n fun m n=>rL C e m n fun l n=>k (nth (fun _ _=>none) N j l) n
def gOf(n:Nat)(k:IG->BinOp->R):R:=nth none [k kP .add,k nZ .sub,k pB .mul,k Iz .lss,k n_ .leq,k mU .gtr,k mV .geq,k iD .eql,k iF .neq] n
def bOf(n:Nat):BinOp:=nth .shr [.quo,.rem,.and,.or,.xor,.shl,.shr] n
def dk(N:List NM)(U:List UM)(Z:List (List EV))(C:List EV):Nat->List Nat->Nat->DX->List EV->Ab->R
 | f+1,q::n,base,s,e,h=>nth (fun _=>none) [
 fun n=>rC N C e n fun c _=>c h,
 fun n=>rC N C e n fun c n=>Al (c h) fun v h=>dk N U Z C f n base s (v::e) h,
 fun n=>rV C e n fun v _=>some (v,h),
 fun n=>rT n fun p0 n=>rV C e n fun p1 n=>fE p0 p1 h fun v=>dk N U Z C f n base s (v::e) h,
 fun n=>rT n fun p0 n=>rV C e n fun p1 n=>oE p0 p1 h fun v=>dk N U Z C f n base s (v::e) h,
 fun n=>rT n fun p0 n=>rV C e n fun p1 n=>Oo p0 p1 h fun v=>dk N U Z C f n base s (v::e) h,
 fun n=>rT n fun p0 n=>rV C e n fun p1 n=>rV C e n fun A n=>Vz p0 p1 A h fun h=>dk N U Z C f n base s e h,
 fun n=>rT n fun i n=>rT n fun b n=>rC N C e n fun c n=>Kw i b s h (fun h=>c h) fun v h s=>dk N U Z C f n base s (v::e) h,
 fun n=>rV C e n fun p0 n=>rT n fun L n=>gm p0 (dk N U Z C f n base s e h) (dk N U Z C f (n.drop L) base s e h),
 fun n=>rT n fun p0 n=>rV C e n fun p1 n=>Pz p0 p1 h fun v h=>dk N U Z C f n base s (v::e) h,
 fun n=>rV C e n fun p0 n=>rT n fun L n=>ir p0 (dk N U Z C f n base s e h) (dk N U Z C f (n.drop L) base s e h),
 fun n=>rT n fun p0 n=>rT n fun p1 n=>rV C e n fun A n=>L0 p0 p1 base A s fun s=>dk N U Z C f n base s e h,
 fun n=>rT n fun p0 n=>rV C e n fun p1 n=>nV p0 p1 fun v=>dk N U Z C f n base s (v::e) h,
 fun n=>rV C e n fun p0 n=>rT n fun L n=>gk p0 (dk N U Z C f n base s e h) (dk N U Z C f (n.drop L) base s e h),
 fun n=>rT n fun m n=>rL C e m n fun l _=>some (.tuple l,h),
 fun n=>rT n fun g n=>rT n fun t n=>rV C e n fun x n=>rV C e n fun y n=>rT n fun L n=>gOf g fun g o=>cE g o t x y (dk N U Z C f n base s e h) (dk N U Z C f (n.drop L) base s e h),
 fun n=>rT n fun g n=>rT n fun t n=>rV C e n fun x n=>rV C e n fun y n=>gOf g fun g o=>Jk g (bin TT o t) x y fun v=>dk N U Z C f n base s (v::e) h,
 fun n=>rT n fun g n=>rT n fun t n=>rV C e n fun x n=>rV C e n fun y n=>iA (bin TT (bOf g) t) x y fun v=>dk N U Z C f n base s (v::e) h,
 fun n=>rT n fun m n=>rR C e m n fun l=>Gi TT l h,
 fun n=>rT n fun t n=>rT n fun z n=>iZ (.cells (nth [] Z z) t) h fun v h=>dk N U Z C f n base s (v::e) h,
 fun n=>rT n fun m n=>rT n fun z n=>rT n fun t n=>rV C e n fun x n=>jE m (nth [] Z z) t x h fun v h=>dk N U Z C f n base s (v::e) h,
 fun n=>rT n fun j n=>rT n fun m n=>rL C e m n fun l n=>nth (fun _ _=>none) U j l fun v=>dk N U Z C f n base s (v::e) h,
 fun n=>none,
 fun n=>rV C e n fun p0 n=>rV C e n fun p1 n=>gX p0 p1 fun v=>dk N U Z C f n base s (v::e) h,
 fun n=>rV C e n fun p0 n=>H4 p0 fun v=>dk N U Z C f n base s (v::e) h,
 fun n=>rV C e n fun p0 n=>rV C e n fun p1 n=>gh p0 p1 fun v=>dk N U Z C f n base s (v::e) h,
 fun n=>rV C e n fun p0 n=>kM p0 fun v w=>dk N U Z C f n base s (w::v::e) h,
 fun n=>rV C e n fun p0 n=>Et p0 h fun v=>dk N U Z C f n base s (v::e) h,
 fun n=>Yk h fun base s=>dk N U Z C f n base s e h,
 fun n=>rV C e n fun p0 n=>iX p0 fun v=>dk N U Z C f n base s (v::e) h,
 fun n=>rT n fun p0 n=>rT n fun p1 n=>rT n fun A n=>rV C e n fun G n=>gZ p0 p1 A base G s h fun s v=>dk N U Z C f n base s (v::e) h,
 fun n=>rT n fun p0 n=>rT n fun p1 n=>rT n fun A n=>rV C e n fun G n=>jw p0 p1 A base G s h fun s v=>dk N U Z C f n base s (v::e) h,
 fun n=>rV C e n fun p0 n=>rT n fun L n=>qZ p0 (dk N U Z C f n base s e h) (dk N U Z C f (n.drop L) base s e h),
 fun n=>rV C e n fun p0 n=>Fz p0 fun v=>dk N U Z C f n base s (v::e) h,
 fun n=>rT n fun p0 n=>rV C e n fun p1 n=>Xg p0 p1 fun v=>dk N U Z C f n base s (v::e) h,
 fun n=>rT n fun p0 n=>rV C e n fun p1 n=>rV C e n fun A n=>Ve p0 p1 A fun v=>dk N U Z C f n base s (v::e) h,
 fun n=>rT n fun p0 n=>rV C e n fun p1 n=>rV C e n fun A n=>mT p0 p1 A h fun v=>dk N U Z C f n base s (v::e) h,
 fun n=>rT n fun p0 n=>rT n fun p1 n=>rV C e n fun A n=>mX p0 p1 A s fun s=>dk N U Z C f n base s e h,
 fun n=>rT n fun p0 n=>mg p0 h s fun s=>dk N U Z C f n base s e h,
 fun n=>rT n fun p0 n=>rT n fun p1 n=>rV C e n fun A n=>rV C e n fun G n=>jR p0 p1 A G fun v=>dk N U Z C f n base s (v::e) h,
 fun n=>rT n fun p0 n=>rV C e n fun p1 n=>kN p0 p1 fun v=>dk N U Z C f n base s (v::e) h,
 fun n=>rV C e n fun p0 n=>jv p0 fun v=>dk N U Z C f n base s (v::e) h,
 fun n=>rV C e n fun p0 n=>oc p0 fun v=>dk N U Z C f n base s (v::e) h,
 fun n=>rV C e n fun p0 n=>rV C e n fun p1 n=>nX p0 p1 fun v=>dk N U Z C f n base s (v::e) h,
 fun n=>rV C e n fun p0 n=>rV C e n fun p1 n=>nY p0 p1 fun v=>dk N U Z C f n base s (v::e) h,
 fun n=>rV C e n fun p0 n=>rV C e n fun p1 n=>mc p0 p1 fun v=>dk N U Z C f n base s (v::e) h,
 fun n=>rV C e n fun p0 n=>rV C e n fun p1 n=>jj p0 p1 fun v=>dk N U Z C f n base s (v::e) h,
 fun n=>rV C e n fun p0 n=>rV C e n fun p1 n=>j9 p0 p1 fun v=>dk N U Z C f n base s (v::e) h,
 fun n=>rV C e n fun p0 n=>rV C e n fun p1 n=>jk p0 p1 fun v=>dk N U Z C f n base s (v::e) h,
 fun n=>rV C e n fun p0 n=>rV C e n fun p1 n=>mf p0 p1 fun v=>dk N U Z C f n base s (v::e) h,
 fun n=>rV C e n fun p0 n=>rV C e n fun p1 n=>mW p0 p1 fun v=>dk N U Z C f n base s (v::e) h,
 fun n=>rV C e n fun p0 n=>rV C e n fun p1 n=>jF p0 p1 fun v=>dk N U Z C f n base s (v::e) h,
 fun n=>rT n fun p0 n=>rV C e n fun p1 n=>oe p0 p1 fun v=>dk N U Z C f n base s (v::e) h] q n
 | _,_,_,_,_,_=>none
def s0:DX:=⟨0,[],[],[],[]⟩
inductive Nf:R->R->Prop where
 | mk (x:R):Nf x x
structure Dm(x y:R):Prop where
structure Sg(n:Nat)(e:List EV)(h:Ab)(N:List NM:=[])(U:List UM:=[])(Z:List (List EV):=[])(C:List EV:=[]) where mk ::
 {t:List Nat}
 {F:R}
 (p:tk 900 n=t:=by
  simp only[tk,↓reduceIte,Nat.reduceMod,Nat.reduceDiv,Nat.reduceEqDiff,Nat.reduceAdd,Nat.reducePow]
  first|done|rfl)
 (q:Dm (dk N U Z C 300 t 0 s0 e h) F:=by
  refine' (?f:∀x y,Nf x y->Dm x y) _ _ ?m
  case m=>
   dsimp only[dk,rT,rW,rV,rL,rR,rC,nth,kc,gOf,bOf,List.drop,cl0,Eg,Ei,Ld,Tu,cl5,cl6,cl7,cl8,cl9,Btx,Bsr,Btp,cu0,cu1,cu2,cu3,cu4,cu5,cu6];exact .mk _
  case f=>
   intros;exact⟨⟩)
theorem dr:Zs/\Zi:=⟨dz,tC⟩
end
end
noncomputable section
def mY(x:Nat):Nat:=Bb (Nat.beq (Nat.land x 1) 1) (Nat.xor (Nat.div x 2) 2197175160) (Nat.div x 2)
def Btk:Nat->Nat->List EV:=@Nat.rec (fun _=>Nat->List EV) (fun _=>[]) fun _ A i=>.int .u32 (.ofNat (mY (mY (mY (mY (mY (mY (mY (mY i)))))))))::A (Nat.succ i)
def Bc:List EV:=Btk 256 0
def U1:EV:=.agg Bc
def A6r:FT:=fun _ _ _ args h=>@List.rec EV (fun _=>R) (some (U1,h)) (fun _ _ _=>none) args
def q8(_:Nat)(h:Ab):R:=some (U1,h)
end
def Aw0(g:Nat):Bool:=Br8 g
structure Ca(disp:Nat->Option FT):Prop where
 plain:∀g,Aw0 g=true->disp g=none
 crc:disp 24=some A6r
theorem HM(H:Ca disp){d:Nat}(hd:1<=d)(h:Ab):Ag TT disp K d false 24 [] h=q8 K h:=by
 obtain⟨d,rfl⟩:∃e,d=e+1:=⟨d-1,a_⟩;rw[w7 H.crc];rfl
section
def Ok(x:R)(Q:EV->Ab->Prop):Prop:=∃v h,x=some (v,h)/\Q v h
theorem Ok.ret(q:Q v h):Ok (some (v,h)) Q:=⟨v,h,rfl,q⟩
theorem Ok.mono {x:R}(a:Ok x P)(b:∀v h,P v h->Q v h):Ok x Q:=by
 obtain⟨v,h,e,p⟩:=a;exact⟨v,h,e,b v h p⟩
theorem Ok.Al {x:R}{k:EV->Ab->R}(a:Ok x P)(b:∀v h,P v h->Ok (k v h) Q):Ok (Al x k) Q:=by
 obtain⟨v,h,e,p⟩:=a;rw[e];exact b v h p
theorem Ok.eq {x y:R}(e:x=y)(a:Ok y Q):Ok x Q:=by rw[e];exact a
def HB(h:Ab):Prop:=∀q o,h.get q=some o->q<h.next
theorem HB.new(a:HB h)(o:Ds):HB (h.new o):=fun q x e=>by
 rw[Ab.Lj]at e;split at e
 next A=>rw[Ab.Dh];omega
 ·exact fP (a q x e)
theorem HB.put(a:HB h){i:Nat}(A:i<h.next)(o:Ds):HB (h.put i o):=fun q x e=>by
 rw[Ab.get_put]at e;split at e
 next G=>subst G;exact A
 ·exact a q x e
theorem HB.del(a:HB h)(i:Nat):HB (h.del i):=fun q x e=>by
 rw[Ab.kQ]at e;split at e
 ·cases e
 ·exact a q x e
structure Aw(S:Nat->Prop)(h h':Ab):Prop where
 get:∀i,i<h.next->¬S i->h'.get i=h.get i
 next:h.next<=h'.next
 mw:∀w,w<=h.mw->w<=h.next->(∀i,S i->w<=i)->w<=h'.mw
 hb:HB h->HB h'
abbrev Ext:Ab->Ab->Prop:=Aw fun _=>False
variable {S T:Nat->Prop}{h1 h2 h3:Ab}
theorem Aw.refl(h:Ab):Aw S h h:=⟨fun _ _ _=>rfl,aD _,fun _ a _ _=>a,id⟩
theorem Aw.trans(a:Aw S h1 h2)(b:Aw S h2 h3):Aw S h1 h3:=
 ⟨fun i A hs=>by rw[b.get i (aL A a.next) hs,a.get i A hs],bN a.next b.next,
  fun w w1 w2 w3=>b.mw w (a.mw w w1 w2 w3) (bN w2 a.next) w3,fun x=>b.hb (a.hb x)⟩
theorem Aw.mono(a:Aw S h h')(st:∀i,S i->T i):Aw T h h':=⟨fun i A hs=>a.get i A fun x=>hs (st i x),a.next,fun w w1 w2 w3=>a.mw w w1 w2 fun i A=>w3 i (st i A),a.hb⟩
theorem Aw.then(a:Aw S h1 h2)(b:Aw T h2 h3)(st:∀i,T i->i<h1.next->S i):Aw S h1 h3:=by
 refine⟨fun i A hs=>by rw[b.get i (aL A a.next) fun x=>hs (st i x A),a.get i A hs],bN a.next b.next,fun w w1 w2 w3=>?_,fun x=>b.hb (a.hb x)⟩;refine b.mw w (a.mw w w1 w2 w3) (bN w2 a.next) fun i A=>?_
 by_cases G:i<h1.next
 ·exact w3 i (st i A G)
 ·omega
theorem Ext.to(a:Ext h h'):Aw S h h':=a.mono fun _ x=>x.elim
theorem Aw.new(h:Ab)(o:Ds):Aw S h (h.new o):=
 ⟨fun i A _=>Az o A,by rw[Ab.Dh];omega,fun w w1 _ _=>by rw[Ab.Bq3];exact w1,fun x=>x.new o⟩
theorem Aw.put(h:Ab){i:Nat}(A:S i\/h.next<=i)(G:HB h->i<h.next)(o:Ds):Aw S h (h.put i o):=by
 refine⟨fun j hj hs=>Ae o fun e=>?_,by rw[Ab.Nz];exact aD _,fun w w1 w2 w3=>?_,fun x=>x.put (G x) o⟩
 ·subst e;rcases A with A|A
  ·exact hs A
  ·omega
 ·rw[Ab.mZ]
  rcases A with A|A
  ·have:=w3 i A;omega
  ·omega
theorem Aw.del(h:Ab){i:Nat}(A:S i\/h.next<=i):Aw S h (h.del i):=by
 refine⟨fun j hj hs=>Bc6 fun e=>?_,by rw[Ab.q_];exact aD _,fun w w1 w2 w3=>?_,fun x=>x.del i⟩
 ·subst e;rcases A with A|A
  ·exact hs A
  ·omega
 ·rw[Ab.ra]
  rcases A with A|A
  ·have:=w3 i A;omega
  ·omega
theorem Aw.Ao(x:Aw S h0 h){i:Nat}(A:S i\/h0.next<=i)(G:i<h.next)(o:Ds):Aw S h0 (h.put i o):=
 x.then (T:=fun j=>j=i) (Aw.put (S:=fun j=>j=i) h (.inl rfl) (fun _=>G) o) fun j hj J=>by
  have e:j=i:=hj;subst e;rcases A with A|A
  ·exact A
  ·omega
theorem Aw.Da(x:Aw S h0 h)(o:Ds):Aw S h0 (h.new o):=x.trans (Aw.new _ _)
theorem Aw.at(c:Aw S h h')(hb:HB h){i:Nat}{o:Ds}(g:h.get i=some o)(A:¬S i):h'.get i=some o:=by rw[c.get i (hb i o g) A];exact g
theorem Ext.at(c:Ext h h')(hb:HB h){i:Nat}{o:Ds}(g:h.get i=some o):h'.get i=some o:=Aw.at c hb g id
theorem Av {i j:Nat}{o o':Ds}(a:h.get i=some o)(b:h.get j=some o')(n:o≠o'):i≠j:=fun e=>n (by rw[e,b]at a;cases a;rfl)
def Ab.lift(h:Ab):Ab:=⟨h.t,h.next,h.next⟩
structure iG(h h':Ab):Prop where
 get:∀i,h'.get i=h.get i
 next:h'.next=h.next
theorem iS(h:Ab)(i:Nat):h.get i=h.t.get i:=by cases h;rfl
theorem Bv(h:Ab)(i:Nat):h.lift.get i=h.get i:=by rw[iS,iS];rfl
theorem rh(h:Ab):h.lift.next=h.next:=rfl
theorem Cz(a:HB h):HB h.lift:=fun q o e=>a q o (by rw[<-Bv];exact e)
theorem iG.lift(h:Ab):iG h h.lift:=⟨Bv h,rfl⟩
theorem iG.hb(a:iG h h')(b:HB h):HB h':=fun q o e=>by rw[a.next];exact b q o (by rw[<-a.get];exact e)
section
variable {i b:Nat}{s:DX}{call:Ab->R}{k:EV->Ab->DX->R}
theorem Ok.Kw(hb:Ab3 b s=true)(A:loose b s.nw = [])(G:Ok (call h.lift) P)(he:∀v h1,P v h1->Ext h.lift h1)
 (J:∀v h1 h2,P v h1->iG h1 h2->Ext h h2->Ok (k v h2 (s.big i)) Q):Ok (Kw i b s h call k) Q:=by
 obtain⟨v,h1,e,p⟩:=G;have x:=he v h1 p;have L:Ic b s h=h.lift:=by unfold Ic;rw[A];rfl
 have hm:h.next<=h1.mw:=x.mw h.next (aD _) (aD _) fun _ y=>y.elim
 have M:Ev.Kw i b s h call k=k v ⟨h1.t,h1.next,h.mw⟩ (s.big i):=by
  show Bb (Ab3 b s) (Ev.Al (call (Ic b s h)) fun v h'=>Mw i b s h h' fun s h=>k v h s) none=_;rw[hb,Aj,L,e];show Mw i b s h h1 (fun s h=>k v h s)=_;unfold Mw;rw[aM hm,Aj,A];rfl
 rw[M];refine J v h1 _ p ⟨fun i=>by rw[iS,iS],rfl⟩ ⟨fun i O U=>?_,x.next,fun w w1 _ _=>w1,fun y=>?_⟩
 ·rw[iS];show h1.t.get i=_;rw[<-iS,x.get i O U,Bv]
 ·exact iG.hb (h:=h1) ⟨fun i=>by rw[iS,iS],rfl⟩ (x.hb (Cz y))
theorem Ok.bE(A:Ok (call h.lift) P)(he:∀v h1,P v h1->Ext h.lift h1)(G:∀v h1 h2,P v h1->iG h1 h2->Ext h h2->Ok (k v h2 (s.big i)) Q)(hb:Ab3 b s=true:=by kernel_rfl)(J:loose b s.nw = []:=by kernel_rfl):Ok (Ev.Kw i b s h call k) Q:=Ok.Kw hb J A he G
theorem Ok.qI(hb:Ab3 b s=true)(A:loose b s.nw = [])(L:∀w,Tb b w s.Cy=true)(M:Ok (call h.lift) P)(he:∀v h1,P v h1->Aw S h.lift h1)
 (G:∀v h1 h2 s',P v h1->iG h1 h2->Aw S h h2->(s'=s.big i\/∃w,s'=s.iv i w/\w=h1.mw)->Ok (k v h2 s') Q):Ok (Ev.Kw i b s h call k) Q:=by
 obtain⟨v,h1,e,p⟩:=M;have x:=he v h1 p;have O:Ic b s h=h.lift:=by unfold Ic;rw[A];rfl
 have U:Ev.Kw i b s h call k=Mw i b s h h1 fun s h=>k v h s:=by
  show Bb (Ab3 b s) (Ev.Al (call (Ic b s h)) fun v h'=>Mw i b s h h' fun s h=>k v h s) none=_;rw[hb,Aj,O,e];rfl
 rw[U];unfold Mw;rw[A];have sm:∀w,iG h1 ⟨h1.t,h1.next,w⟩:=fun w=>⟨fun i=>by rw[iS,iS],rfl⟩
 have J:∀w i,i<h.next->¬S i->(⟨h1.t,h1.next,w⟩:Ab).get i=h.get i:=fun w i V W=>by
  rw[(sm w).get,x.get i V W,Bv]
 cases hle:Nat.ble h.next h1.mw with
 | true=>
  rw[Aj];exact G v h1 _ _ p (sm _) ⟨J _,x.next,fun w w1 _ _=>w1,fun y=>(sm _).hb (x.hb (Cz y))⟩ (.inl rfl)
 | false=>
  rw[Bk,L,Aj];refine G v h1 _ _ p (sm _) ⟨J _,x.next,fun w w1 w2 w3=>?_,fun y=>(sm _).hb (x.hb (Cz y))⟩ (.inr ⟨_,rfl,rfl⟩);have:=x.mw w w2 w2 w3;show w<=Bb (Nat.ble h.mw h1.mw) h.mw h1.mw;rw[Br];split<;>assumption
theorem Ok.bC(A:Ok (call h.lift) P)(he:∀v h1,P v h1->Aw S h.lift h1)
 (G:∀v h1 h2 s',P v h1->iG h1 h2->Aw S h h2->(s'=s.big i\/∃w,s'=s.iv i w/\w=h1.mw)->Ok (k v h2 s') Q) (hb:Ab3 b s=true:=by kernel_rfl) (J:loose b s.nw = []:=by kernel_rfl) (L:∀w,Tb b w s.Cy=true:=by exact fun _=>by kernel_rfl):Ok (Ev.Kw i b s h call k) Q:=Ok.qI hb J L A he G
theorem Cj {i b q o:Nat}{s:DX}{k:DX->R}(A:q<base)(G:Bb (Fh b q s.st) (Xt b q s.lou) false=true):L0 i b base (.ptr q o) s k=k (s.ld i q):=by
 show Bb (tD b base q s) _ none=_;unfold tD;rw[aM (show Nat.succ q<=base from A),Aj,G,Aj]
theorem I6 {i b q o:Nat}{s:DX}{k:DX->R}(A:q<base)(G:Bb (Fh b q s.st) (Xt b q s.lou) false=true:=by kernel_rfl):L0 i b base (.ptr q o) s k=k (s.ld i q):=Cj A G
theorem Hc {i b q o:Nat}{s:DX}{k:DX->R}(A:pC b q s=true:=by kernel_rfl):mX i b (.ptr q o) s k=k (s.sto i q):=by
 show Bb (pC b q s) _ none=_;rw[A,Aj]
end
section
variable {i o c n s j len:Nat}{l:List EV}{t:TypeId}{k:EV->R}
def rowOf:Ds->Option (List EV)
 | .cells l _=>some l
 | .vec l _ _=>some l
 | _=>none
theorem Ak {x:Ds}(G:h.get i=some x)(A:rowOf x=some l)(J:l[o]? = some v):Et (.ptr i o) h k=k v:=by
 show oB _ (kx (h.get i) o 1)=_;rw[G];have L:Ke l o 1=some [v]:=by
  obtain⟨h1,h2⟩:=bA.1 J;rw[E4 a_,cv h1,h2];rfl
 cases x<;>first|(cases A;done)|(cases A;show oB _ (Ke l o 1)=_;rw[L];rfl)
theorem Md {q off A rm:Nat}{op:Bool}{kd:IntKind}(hj:j<A):Ve sz (.slice q off A rm op) (.int kd (j:Int)) k=k (.ptr q (off+j*sz)):=Bos hj k kd
theorem Cd {x:Ds}(G:h.get i=some x)(A:rowOf x=some l)(J:Ke l o n=some l'):Oo n (.ptr i o) h k=k (.agg l'):=by
 show oB _ (kx (h.get i) o n)=_;rw[G];cases x<;>first|(cases A;done)|(cases A;show oB _ (Ke l o n)=_;rw[J];rfl)
theorem mF {kk:Ab->R}(A:h.get i=some (.cells l t))(G:v.plain=true)(J:Fw v.cells=n)(L:Nl l o v.cells=some l'):Vz n (.ptr i o) v h kk=kk (h.put i (.cells l' t)):=by
 show Bb v.plain (Bb (Nat.beq (Fw v.cells) n) (m' h i (fun l=>Nl l o v.cells) kk) none) none=_;rw[G,Aj,J,cP,Aj,A28 A,L];rfl
theorem Bpl {kk:Ab->R}{z:Nat}(A:h.get i=some (.vec l t z))(G:v.plain=true)(J:Fw v.cells=n)(L:Nl l o v.cells=some l'):Vz n (.ptr i o) v h kk=kk (h.put i (.vec l' t z)):=by
 show Bb v.plain (Bb (Nat.beq (Fw v.cells) n) (m' h i (fun l=>Nl l o v.cells) kk) none) none=_;rw[G,Aj,J,cP,Aj];unfold m';rw[A];simp only;rw[L];rfl
theorem Ok.st {kk:Ab->R}(l':List EV)(A:h.get i=some (.cells l t))(G:v.plain=true)(J:Fw v.cells=n)(L:Nl l o v.cells=some l')(M:Ok (kk (h.put i (.cells l' t))) Q):Ok (Vz n (.ptr i o) v h kk) Q:=by
 rw[mF A G J L];exact M
theorem nW(h:Ab)(o:Ds):∃h',h.new o=h'/\Ext h h'/\h'.get h.next=some o/\h'.next=h.next+1:=⟨_,rfl,Aw.new _ _,Ad _ _,rfl⟩
theorem nP(h:Ab)(z o:Ds):∃h',(h.new z).put h.next o=h'/\Ext h h'/\h'.get h.next=some o/\h'.next=h.next+1:=⟨_,rfl,(Aw.new h _:Ext _ _).Ao (.inr (aD _)) (aO _) _,Af _ _ _,rfl⟩
theorem Ok.mk {z:List EV}{kk:Ab->R}(G:z.length=n)(A:xs.length=n)(J:∀h',Ext h h'->h'.get h.next=some (.cells xs t)->h'.next=h.next+1->Ok (kk h') Q):Ok (Vz n (.ptr h.next 0) (.agg xs) (h.new (.cells z t)) kk) Q:=by
 obtain⟨h',e,a,b,c⟩:=nP h (.cells z t) (.cells xs t);refine Ok.st xs (Ad _ _) rfl (by show Fw xs=n;rw[Be,A]) (Bl (by show z.length=xs.length;rw[G,A])) ?_;rw[e];exact J h' a b c
theorem Ok.Z7 {kk:Ab->R}(G:h.get i=some (.cells l t))(J:v.plain=true)(A:v.cells = [v])(L:o<l.length)(M:Ok (kk (h.put i (.cells (l.set o v) t))) Q):Ok (Vz 1 (.ptr i o) v h kk) Q:=by
 rw[mF G J (by rw[A];rfl) (by rw[A];exact HN v l o L)];exact M
theorem ZE(A:v.plain=true):Pz t v h kh=kh (.ptr h.next 0) (h.new (.cells v.cells t)):=by unfold Pz;rw[A,Aj]
theorem HO {a b:EV}{x:Bool}:kO (.bool x) a b k=Bb x (k a) (k b):=rfl
theorem Aq:Al (some (v,h')) kh=kh v h':=rfl
theorem Vo {q off A:Nat}{kd:IntKind}(hj:j<A):jR A sz (.ptr q off) (.int kd (j:Int)) k=k (.ptr q (off+j*sz)):=by
 show Bb (Nat.ble (Nat.succ j) A) _ none=_;rw[aM hj,Aj];rfl
theorem HJ {kd A:IntKind}{x:Int}:Tg kd (.int A x) k=k (.int kd (Cs kd x)):=rfl
theorem Bku {kd:IntKind}{x:Int}:oc (.int kd x) k=k (.int kd (Cs kd (0-x))):=rfl
theorem wL(A:l[o]? = some v):ky o false 0 (.agg l) k=k v:=by
 show oB k (kA l o)=_;rw[tE,A];rfl
theorem Ax {place:Nat->Option (Nat × Nat)}{z:List EV}(A:iT place ps z=some l):Bp place z ps k=k (.agg l):=by
 unfold Bp;rw[A];rfl
theorem Ai {l:List EV}{n:Nat}(A:l.length=n):Ke l 0 n=some l:=by
 subst A;rw[E4 a_,dK,cF]
theorem Ci {n:Int}(h1 : -9223372036854775808<=n:=by omega)(h2:n<=9223372036854775807:=by omega):Cs .i64 n=n:=HP h1 a_
end
theorem ri {b:Int}{T:I5}{t:Nat}{a:Int}{k:EV->R}(hb:0<b)(h1:0<=a)(h2:a<9223372036854775808):iA (bin T .quo t) (.int .i64 a) (.int .i64 b) k=k (.int .i64 (a/b)):=by
 obtain⟨n,rfl⟩:=bL (Int.le_of_lt hb);show oB k (Bb (iE (.ofNat n) 0) none (some (.int .i64 (Cs .i64 (a.tdiv (.ofNat n))))))=_;have:iE (.ofNat n) 0=false:=by
  show Nat.beq n 0=false;cases n with
  | zero=>exact absurd hb c_
  | succ n=>rfl
 rw[this,Bk];have e:a.tdiv (.ofNat n)=a/n:=Int.tdiv_eq_ediv_of_nonneg h1;have h3:a/(n:Int)<=a:=Int.ediv_le_self _ h1;have h4:0<=a/(n:Int):=Int.ediv_nonneg h1 a_;rw[e,HP a_ a_];rfl
section
variable {v' w w' a a' b b' x':EV}{x y r r':R}{k:EV->R}{kk:Ab->R}{kd:DX->R}{kb:Nat->DX->R}
@[congr] theorem Ok.c {Q:EV->Ab->Prop}(e:r=r'):Ok r Q=Ok r' Q:=by rw[e]
@[congr] theorem Bb.c {α:Type}{p q:Bool}{x y:α}(e:p=q):Bb p x y=Bb q x y:=by rw[e]
@[congr] theorem oB.c {α β:Type}{k:α->Option β}{p q:Option α}(e:p=q):oB k p=oB k q:=by rw[e]
@[congr] theorem Al.c(e:r=r'):Al r kh=Al r' kh:=by rw[e]
@[congr] theorem Et.c(e:v=v'):Et v h k=Et v' h k:=by rw[e]
@[congr] theorem Oo.c {n:Nat}(e:v=v'):Oo n v h k=Oo n v' h k:=by rw[e]
@[congr] theorem Vz.c {n:Nat}(e:a=a')(e':v=v'):Vz n a v h kk=Vz n a' v' h kk:=by rw[e,e']
@[congr] theorem iZ.c {o o':Ds}(e:o=o'):iZ o h kh=iZ o' h kh:=by rw[e]
@[congr] theorem Pz.c {t:Nat}(e:v=v'):Pz t v h kh=Pz t v' h kh:=by rw[e]
@[congr] theorem Jk.c {g:IG}{f:EV->EV->Option EV}(e:v=v')(e':w=w'):Jk g f v w k=Jk g f v' w' k:=by rw[e,e']
@[congr] theorem iA.c {f:EV->EV->Option EV}(e:v=v')(e':w=w'):iA f v w k=iA f v' w' k:=by rw[e,e']
@[congr] theorem kO.c(e:v=v'):kO v a b k=kO v' a b k:=by rw[e]
@[congr] theorem iX.c(e:v=v'):iX v k=iX v' k:=by rw[e]
@[congr] theorem oc.c(e:v=v'):oc v k=oc v' k:=by rw[e]
@[congr] theorem jv.c(e:v=v'):jv v k=jv v' k:=by rw[e]
@[congr] theorem Xg.c {n:Nat}(e:v=v'):Xg n v k=Xg n v' k:=by rw[e]
@[congr] theorem jR.c {n m:Nat}(e:v=v')(e':w=w'):jR n m v w k=jR n m v' w' k:=by rw[e,e']
@[congr] theorem Ve.c {n:Nat}(e:v=v')(e':w=w'):Ve n v w k=Ve n v' w' k:=by rw[e,e']
@[congr] theorem j8.c {n m q:Nat}{g:Bool}(e:v=v')(e':w=w'):j8 n m g q v w k=j8 n m g q v' w' k:=by rw[e,e']
@[congr] theorem ky.c {n m:Nat}{g:Bool}(e:v=v'):ky n g m v k=ky n g m v' k:=by rw[e]
@[congr] theorem Tg.c {c:IntKind}(e:v=v'):Tg c v k=Tg c v' k:=by rw[e]
@[congr] theorem kN.c {n:Nat}(e:v=v'):kN n v k=kN n v' k:=by rw[e]
@[congr] theorem Fz.c(e:v=v'):Fz v k=Fz v' k:=by rw[e]
@[congr] theorem oe.c {n:Nat}(e:v=v'):oe n v k=oe n v' k:=by rw[e]
@[congr] theorem Bp.c {place:Nat->Option (Nat × Nat)}{z:List EV}{ps A:List (Nat × EV)}(e:ps=A):Bp place z ps k=Bp place z A k:=by rw[e]
@[congr] theorem il.c {n:Nat}{L A M G O J:Option EV}(e:v=v')(e1:L=A)(e2:M=G)(e3:O=J):il n v L M O k=il n v' A G J k:=by rw[e,e1,e2,e3]
@[congr] theorem Oa.c {n m:Nat}{L A M G O J:Option EV}(e:v=v')(e1:L=A)(e2:M=G)(e3:O=J):Oa n m v L M O k=Oa n m v' A G J k:=by rw[e,e1,e2,e3]
@[congr] theorem gm.c(e:v=v'):gm v x y=gm v' x y:=by rw[e]
@[congr] theorem Yk.c(e:h=h'):Yk h kb=Yk h' kb:=by rw[e]
@[congr] theorem L0.c {i b base:Nat}{s:DX}(e:v=v'):L0 i b base v s kd=L0 i b base v' s kd:=by rw[e]
@[congr] theorem mX.c {i b:Nat}{s:DX}(e:v=v'):mX i b v s kd=mX i b v' s kd:=by rw[e]
@[congr] theorem mg.c {i:Nat}{s s':DX}(e:s=s'):mg i h s kd=mg i h s' kd:=by rw[e]
@[congr] theorem Kw.c {i b:Nat}{s s':DX}{call:Ab->R}(e:s=s'):Kw i b s h call ke=Kw i b s' h call ke:=by rw[e]
@[congr] theorem P9.c {c:Ah}{T:I5}{g n i:Nat}{tm:Ba}{ds:List Nat}{k1:Ab->List Nat->R}{k2:Nat->Ab->List Nat->R}{k3:Ab->List Nat->R}(e:v=v'):P9 c T g n i v tm h ds k1 k2 k3=P9 c T g n i v' tm h ds k1 k2 k3:=by rw[e]
@[congr] theorem pw.c {c:Ah}{T:I5}{g n i l0:Nat}{tm:Ba}{ds:List Nat}{k1:Ab->List Nat->R}{k2:Nat->Ab->List Nat->R}{k3:Ab->List Nat->R}(e:v=v'):pw c T g n i l0 v tm h ds k1 k2 k3=pw c T g n i l0 v' tm h ds k1 k2 k3:=by rw[e]
@[congr] theorem Ez.c {l:Nat}(e:h=h'):Ez l h kk=Ez l h' kk:=by rw[e]
end
theorem Cy{i:Nat}{x:Ds}{l:List EV}(G:h.get i=some x)(A:rowOf x=some l):∀(o:Nat) (k:EV->R),Et (.ptr i o) h k=oB k l[o]?:=by
 intro o k;cases J:l[o]? with
 | some v=>exact Ak G A J
 | none=>
  show oB _ (kx (h.get i) o 1)=_;rw[G];have L:l.length<=o:=List.getElem?_eq_none_iff.1 J;have M:Ke l o 1=none:=by
   rw[m_,Tq,List.drop_eq_nil_of_le L];rfl
  cases x<;>first|(cases A;done)|(cases A;show oB _ (Ke l o 1)=_;rw[M];rfl)
theorem Cv{i:Nat}{x:Ds}{l:List EV}(G:h.get i=some x)(A:rowOf x=some l):∀(n o:Nat) (k:EV->R),Oo n (.ptr i o) h k=oB (fun l=>k (.agg l)) (Ke l o n):=by
 intro n o k;show oB _ (kx (h.get i) o n)=_;rw[G];cases x<;>first|(cases A;done)|(cases A;rfl)
theorem Aa:Zs/\Zi /\
 (∀(i o:Nat) (k:EV->R),jv (.ptr i o) k=k (.ptr i o))/\(∀(c i o:Nat) (k:EV->R),Xg c (.ptr i o) k=k (.ptr i (o+c))) /\
 (∀(o:Ds) (h:Ab) (k:EV->Ab->R),iZ o h k=k (.ptr h.next 0) (h.new o)) /\
 (∀(t:Nat) (c:IntKind) (n:Int) (h:Ab) (k:EV->Ab->R),Pz t (.int c n) h k=k (.ptr h.next 0) (h.new (.cells [.int c n] t))) /\
 (∀(t:Nat) (l:List EV) (h:Ab) (k:EV->Ab->R),Pz t (.agg l) h k=k (.ptr h.next 0) (h.new (.cells l t))) /\
 (∀(t i o:Nat) (h:Ab) (k:EV->Ab->R),Pz t (.ptr i o) h k=k (.ptr h.next 0) (h.new (.cells [.ptr i o] t))) /\
 (∀(t i o n m:Nat) (p:Bool) (h:Ab) (k:EV->Ab->R),Pz t (.slice i o n m p) h k=k (.ptr h.next 0) (h.new (.cells [.slice i o n m p] t))) /\
 (∀(t:Nat) (h:Ab) (k:EV->Ab->R),Pz t .An h k=k (.ptr h.next 0) (h.new (.cells [.An] t))) /\
 (∀(x:Bool) (a b:EV) (k:EV->R),kO (.bool x) a b k=Bb x (k a) (k b)) /\
 (∀(x:Bool) (k:EV->R),iX (.bool x) k=Bb x (k (.bool false)) (k (.bool true))) /\
 (∀(x:Bool) (a b:R),gm (.bool x) a b=Bb x a b) /\
 (∀(k:EV->R),Fz .An k=k (.int .i64 0))/\(∀(q off A rm:Nat) (op:Bool) (k:EV->R),Fz (.slice q off A rm op) k=k (.int .i64 (A:Int))) /\
 (∀(o:Nat) (l:List EV) (k:EV->R),kN o (.tuple l) k=oB k l[o]?) /\
 (∀(h:Ab) (k:Nat->DX->R),Yk h k=k h.next ⟨0,[],[],[],[]⟩)/\(∀(i:Nat) (h:Ab) (s:DX) (k:DX->R),mg i h s k=k (s.new i h.next)) /\
 (∀(v:EV) (h:Ab) (k:EV->Ab->R),Al (some (v,h)) k=k v h) /\
 (∀(o:Nat) (l:List EV) (k:EV->R),ky o false 0 (.agg l) k=oB k l[o]?) /\
 (∀(c G:IntKind) (n:Int) (k:EV->R),Tg c (.int G n) k=k (.int c (Cs c n))) /\
 (∀(x y:R),Bb true x y=x)/\(∀(x y:R),Bb false x y=y)/\(Bb true true false=true)/\(Bb false true false=false)/\(Bb true false true=false)/\(Bb false false true=true)/\i_ true=false/\i_ false=true /\
 (∀(k:EV->R) (v:EV),oB k (some v)=k v)/\(∀(h:Ab) (v:EV),Gi TT [.v v] h=some (v,h))/\(∀(h:Ab) (v w:EV),Gi TT [.v v,.v w] h=some (.tuple [v,w],h))/\(∀(h:Ab) (v w x:EV),Gi TT [.v v,.v w,.v x] h=some (.tuple [v,w,x],h)) /\
 (∀(h:Ab) (k:Ab->R),Dt [] h k=k h)/\(∀(p:EV) (r:List EV),(p::r)[0]? = some p)/\(∀(p:EV) (r:List EV) (n:Nat),(p::r)[n+1]? = r[n]?)/\(∀n:Nat,0+n=n)/\(∀(k:List EV->R) (l:List EV),oB k (some l)=k l):=
 ⟨dz,tC,fun _ _ _=>rfl,fun _ _ _ _=>rfl,fun _ _ _=>rfl,fun _ _ _ _ _=>rfl,fun _ _ _ _=>rfl,fun _ _ _ _ _=>rfl,fun _ _ _ _ _ _ _ _=>rfl,fun _ _ _=>rfl,fun _ _ _ _=>rfl,fun _ _=>rfl,fun _ _ _=>rfl,
  fun _=>rfl,fun _ _ _ _ _ _=>rfl,fun o l k=>by show oB k (kA l o)=_;rw[tE],fun _ _=>rfl,fun _ _ _ _=>rfl,fun _ _ _=>rfl,fun o l k=>by show oB k (kA l o)=_;rw[tE],fun _ _ _ _=>rfl,
  fun _ _=>rfl,fun _ _=>rfl,rfl,rfl,rfl,rfl,rfl,rfl,fun _ _=>rfl,fun _ _=>rfl,fun _ _ _=>rfl,fun _ _ _ _=>rfl,fun _ _=>rfl,fun _ _=>rfl,fun _ _ _=>rfl,bI,fun _ _=>rfl⟩
theorem Ar:
 (∀(s:DX) (i q:Nat),s.ld i q=⟨s.bg,s.nw,(Nat.shiftLeft 1 i,q)::s.Cy,s.lou,s.st⟩)/\(∀(s:DX) (i q:Nat),s.new i q=⟨s.bg,(Nat.shiftLeft 1 i,q)::s.nw,s.Cy,s.lou,s.st⟩) /\
 (∀(s:DX) (i:Nat),s.big i=⟨Nat.lor s.bg (Nat.shiftLeft 1 i),s.nw,s.Cy,s.lou,s.st⟩)/\(∀(b q:Nat),Fh b q []=true)/\(∀(b q:Nat),Xt b q []=true):=
 ⟨fun _ _ _=>rfl,fun _ _ _=>rfl,fun _ _=>rfl,fun _ _=>rfl,fun _ _=>rfl⟩
theorem Ac:Zs/\Zi /\
 (∀(g:IG) (f:EV->EV->Option EV) (x y:Int) (k:EV->R),Jk g f (.int .i64 x) (.int .i64 y) k=k (g .i64 x y)) /\
 (∀(c:IntKind) (a b:Int),Iz c a b=.bool (decide (a<b)))/\(∀(c:IntKind) (a b:Int),n_ c a b=.bool (decide (a<=b))) /\
 (∀(c:IntKind) (a b:Int),mU c a b=.bool (decide (b<a)))/\(∀(c:IntKind) (a b:Int),mV c a b=.bool (decide (b<=a))) /\
 (∀(c:IntKind) (a b:Int),iD c a b=.bool (decide (a=b)))/\(∀(c:IntKind) (a b:Int),iF c a b=.bool (decide (¬a=b))) /\
 (∀(c:IntKind) (a b:Int),kP c a b=.int c (Cs c (a+b)))/\(∀(c:IntKind) (a b:Int),nZ c a b=.int c (Cs c (a-b)))/\(∀(c:IntKind) (a b:Int),pB c a b=.int c (Cs c (a*b))) /\
 (∀(b w:Bool),Fa (.bool b) w=Bb b w (i_ w))/\(∀w,Fa (.tuple []) w=false):=
 ⟨dz,tC,fun _ _ _ _ _=>rfl,fun _ a b=>by rw[Bo4,rj],fun _ a b=>by rw[Bpq,rj,tF];congr 1;exact fT.2 a_,
  fun _ a b=>by rw[Bo8,rj],fun _ a b=>by rw[Bou,rj,tF];congr 1;exact fT.2 a_,
  fun _ a b=>by rw[Bo6,tp],fun _ a b=>by rw[HQ,tp,tF],
  fun _ a b=>by rw[Bom,Bhn],fun _ a b=>by unfold nZ;rw[Bdr],fun _ a b=>rfl,fun _ _=>rfl,fun _=>rfl⟩
end
def Bu(h:Ab)(s:EV)(q:Nat)(e:TypeId)(sz len:Nat)(l:List EV):Prop:=
 (len=0/\l = []/\(s=.An\/∃b,s=.slice b 0 0 0 false))\/(0<len/\s=.slice q 0 len len true/\h.get q=some (.vec l e sz)/\l.length=len*sz)
theorem Bu.nil(h:Ab)(q:Nat)(e:TypeId)(sz:Nat):Bu h .An q e sz 0 []:=.inl ⟨rfl,rfl,.inl rfl⟩
theorem Bu.empty(h:Ab)(b q:Nat)(e:TypeId)(sz:Nat):Bu h (.slice b 0 0 0 false) q e sz 0 []:=.inl ⟨rfl,rfl,.inr ⟨_,rfl⟩⟩
theorem Bu.frame {s:EV}{q:Nat}{e:TypeId}{len:Nat}{l:List EV}(r:Bu h s q e sz len l)(g:0<len->h'.get q=h.get q):Bu h' s q e sz len l:=by
 rcases r with r|⟨a,b,c,d⟩
 ·exact .inl r
 ·exact .inr ⟨a,b,by rw[g a];exact c,d⟩
theorem Bu.len {s:EV}{q:Nat}{e:TypeId}{len:Nat}{l:List EV}(r:Bu h s q e sz len l):lenOf s=some len:=by
 rcases r with⟨rfl,_,rfl|⟨_,rfl⟩⟩|⟨_,rfl,_⟩<;>rfl
theorem Bu.Fz {s:EV}{q:Nat}{e:TypeId}{len:Nat}{l:List EV}(r:Bu h s q e sz len l)(k:EV->R):Ev.Fz s k=k (.int .i64 (len:Int)):=by
 unfold Ev.Fz;rw[r.len];rfl
theorem Bu.plain {s:EV}{q:Nat}{e:TypeId}{len:Nat}{l:List EV}(r:Bu h s q e sz len l):s.plain=true/\s.cells = [s]:=by
 rcases r with⟨rfl,_,rfl|⟨_,rfl⟩⟩|⟨_,rfl,_⟩<;>exact⟨rfl,rfl⟩
theorem Bu.size {s:EV}{q:Nat}{e:TypeId}{len:Nat}{l:List EV}(r:Bu h s q e sz len l):l.length=len*sz:=by
 rcases r with⟨rfl,rfl,_⟩|⟨_,_,_,d⟩
 ·rw[fZ];rfl
 ·exact d
theorem Bu.ix {s:EV}{q:Nat}{e:TypeId}{len:Nat}{l:List EV}(r:Bu h s q e sz len l){j:Nat}(hj:j<len)(kd:IntKind)(k:EV->R):Ve sz s (.int kd (j:Int)) k=k (.ptr q (j*sz)):=by
 rcases r with⟨rfl,_,_⟩|⟨_,rfl,_,_⟩
 ·omega
 ·rw[Md hj,bI]
theorem Bu.block {s:EV}{q:Nat}{e:TypeId}{len:Nat}{l:List EV}(r:Bu h s q e sz len l)(A:0<len):h.get q=some (.vec l e sz):=by
 rcases r with⟨rfl,_,_⟩|⟨_,_,c,_⟩
 ·omega
 ·exact c
theorem Bu.slice {s:EV}{q:Nat}{e:TypeId}{len:Nat}{l:List EV}(r:Bu h s q e sz len l)(A:0<len):s=.slice q 0 len len true:=by
 rcases r with⟨rfl,_,_⟩|⟨_,c,_⟩
 ·omega
 ·exact c
theorem pD {s x:EV}{q:Nat}{e:TypeId}{len n:Nat}{l new:List EV}(r:Bu h s q e sz len l)(G:lenOf x=some n)(V:0<n)(A:n<=65536)(M:len<=1048576)(J:Pw h sz n x=some new)(hs:new.length=n*sz):
 ∃h',Ef e sz s x h=some (.slice h.next 0 (len+n) (len+n) true,h')/\Bu h' (.slice h.next 0 (len+n) (len+n) true) h.next e sz (len+n) (l++new)/\h'.next=h.next+1/\Aw (fun i=>0<len/\i=q) h h':=by
 have e0:Nat.beq n 0=false:=by cases n with|zero=>omega|succ n=>rfl
 rcases r with⟨rfl,rfl,rfl|⟨b,rfl⟩⟩|⟨U,rfl,O,hlen⟩
 ·refine⟨h.new (.vec new e sz),?_,.inr ⟨a_,rfl,?_,by rw[cS,bI];exact hs⟩,rfl,Aw.new _ _⟩
  ·unfold Ef
   simp only[G,G6,e0,Bk,J,aM A,Aj,bI]
  ·rw[Ad];rfl
 ·have e2:Nat.ble (Nat.add 0 n) 0=false:=by cases n with|zero=>omega|succ n=>show Nat.ble (0+(n+1)) 0=false;rw[bI];rfl
  have e3:Pw h sz 0 (.slice b 0 0 0 false)=some []:=rfl;refine⟨h.new (.vec new e sz),?_,.inr ⟨a_,rfl,?_,by rw[cS,bI];exact hs⟩,rfl,Aw.new _ _⟩
  ·unfold Ef
   simp only[G,G6,e0,Bk,J,e3,e2,aM A,aM M,Aj];rfl
  ·rw[Ad];rfl
 ·have L:Pw h sz len (.slice q 0 len len true)=some l:=by
   show Bb (Nat.beq len 0) (some []) (Xk h q 0 (Nat.mul len sz))=_;have:Nat.beq len 0=false:=by cases len with|zero=>omega|succ n=>rfl
   rw[this,Bk];unfold Xk mi;rw[O];exact Ai hlen
  refine⟨(h.del q).new (.vec (l++new) e sz),?_,.inr ⟨a_,rfl,?_,by rw[aE,hlen,hs,fW]⟩,rfl,?_⟩
  ·unfold Ef
   simp only[G,G6,e0,Bk,J,L,O,aM A,aM M,Aj];rw[show Nat.beq 0 0=true from rfl,Aj,cP,Aj,Be,hlen,show Nat.beq (len*sz) (Nat.mul len sz)=true from cP _,Aj,cP,Aj,cP,Aj,qD];rfl
  ·rw[show h.next=(h.del q).next from rfl,Ad]
  ·exact(Aw.del h (.inl ⟨U,rfl⟩)).trans (Aw.new _ _)
theorem Wq {z:List EV}{e:TypeId}(G:v.plain=true)(J:z.length=sz)(A:v.cells.length=sz)(hs:sz<=65536:=by omega):By z e sz 1 [(0,v)] h=some (.slice h.next 0 1 1 false,h.new (.cells v.cells e)):=by
 unfold By;rw[aM (show Nat.mul 1 sz<=65536 by show 1*sz<=65536;omega),Aj];have L:iT (N8 sz) [(0,v)] (rep z 1)=some v.cells:=by
  show oB (tG fun off size=>Bb v.plain (Bb (Nat.beq (Fw v.cells) size) (oB _ (Nl (rep z 1) off v.cells)) none) none) (N8 sz 0)=_;show Bb v.plain (Bb (Nat.beq (Fw v.cells) sz) (oB _ (Nl (rep z 1) (Nat.mul 0 sz) v.cells)) none) none=_;rw[G,Aj,Be,A,cP,Aj];have:rep z 1=z:=by show z++[]=z;rw[cW]
  rw[this,show Nat.mul 0 sz=0 from fZ sz,Bl (by rw[J,A])];rfl
 rw[L];rfl
theorem Yx {b:Nat}{e:TypeId}{l:List EV}(hb:h.get b=some (.cells l e))(A:l.length=sz):Pw h sz 1 (.slice b 0 1 1 false)=some l:=by
 show Bb (Nat.beq 1 0) (some []) (Xk h b 0 (Nat.mul 1 sz))=_;rw[show Nat.beq 1 0=false from rfl,Bk];unfold Xk mi;rw[hb];exact Ai (by rw[A];show sz=1*sz;omega)
theorem Kv {s:EV}{q:Nat}{e:TypeId}{len:Nat}{l z:List EV}{k:EV->Ab->R}(r:Bu h s q e sz len l)(hb:HB h)(J:v.plain=true)(L:z.length=sz)(A:v.cells.length=sz)(hs:sz<=65536)(G:len<=1048575)
 (M:∀h',Bu h' (.slice (h.next+1) 0 (len+1) (len+1) true) (h.next+1) e sz (len+1) (l++v.cells)->h'.next=h.next+2->Aw (fun i=>0<len/\i=q) h h'->Ok (k (.slice (h.next+1) 0 (len+1) (len+1) true) h') Q) :
 Ok (Al (By z e sz 1 [(0,v)] h) fun w h=>Al (Ef e sz s w h) k) Q:=by
 rw[Wq J L A hs,Aq];have O:Bu (h.new (.cells v.cells e)) s q e sz len l:=r.frame fun G=>Az _ (hb q _ (r.block G))
 obtain⟨h',e1,U,V,c2⟩:=pD (n:=1) (x:=.slice h.next 0 1 1 false) O rfl a_ a_ a_ (Yx (Ad _ _) A) (by rw[A];omega);rw[e1,Aq];exact M h' U V ((Aw.new h _).trans c2)
section
noncomputable section
section
variable (fl:Bool)(T:I5)(call b_ round:Ah)(fuel fn n:Nat)(Dr:Option Nat)(out:Nat->CD)(ret:CD)
abbrev tH(p:List Bool):Hk->Code->iI->CD->Code × iI × CD:=
 @List.rec Bool (fun _=>Hk->Code->iI->CD->Code × iI × CD) (fun _ c env k=>(c,env,k))
  (fun s _ A H c env k=>match c with
   | .seq x y=>Bb s (A H.r y env k) (A H.l x env (Q0 fl T call b_ round fuel fn n Dr out ret H.r y env k))
   | .cond _ x y=>Bb s (A H.r y env k) (A H.l x env k)
   | .block id x=>A H.l x ((id,k)::env) k
   | c=>(c,env,k)) p
end
def w8:Nat:=have _:=@P9;have _:=@Kw;have _:=@Pz;have _:=@Ef;have _:=@pE;have _:=@pF;have _:=@builtin;have _:=@Jk;have _:=@Oa;have _:=@Dt;have _:=@By;have _:=@Gi;0
def w9(c:Code):Bool:=match c with | .loop _=>true|_=>false
@[reducible] def cH(q:Bool)(C c r:Ah)(K g:Nat)(H:Hk):CD:=let _:=w8;Q0 q TT C c r K g (kR TT g) none nc (jz q TT g) H (Oz TT g) [] (jz q TT g)
@[reducible] def lH(q:Bool)(C c r:Ah)(K g p:Nat):Code × iI × CD:=tH q TT C c r K g (kR TT g) none nc (jz q TT g) (pathOf p) .no (Oz TT g) [] (jz q TT g)
@[reducible] def tI(q:Bool)(C c r:Ah)(K g p:Nat)(X:CD):CD:=let _:=w8;match lH q C c r K g p with
 | (.loop x,env,_)=>jc q TT C c r K g (kR TT g) none nc (jz q TT g) x env X
 | _=>X
@[reducible] def nf(xs:List EV)(B:CD)(h:Ab):R:=let _:=w8;B (rk xs 0 u0) (setArgs xs 0 .nil) h []
@[reducible] def jS(q:Bool)(C c r:Ah)(K g p:Nat)(env:iI)(m:Nat):CD:=pG (fun A=>jc q TT C c r K g (kR TT g) none nc (jz q TT g) (Btg TT g (pathOf p)) env A) m
abbrev e0(X:Nat->A0):Nat->CD:=fun m _ _ h _=>X m h
abbrev e1(X:Nat->A1)(a:Nat):Nat->CD:=fun m A _ h _=>X m (A a) h
abbrev e2(X:Nat->A2)(a b:Nat):Nat->CD:=fun m A _ h _=>X m (A a) (A b) h
abbrev e3(X:Nat->A3)(a b c:Nat):Nat->CD:=fun m A _ h _=>X m (A a) (A b) (A c) h
abbrev e4(X:Nat->A4)(a b c d:Nat):Nat->CD:=fun m A _ h _=>X m (A a) (A b) (A c) (A d) h
abbrev e5(X:Nat->A5)(a b c d e:Nat):Nat->CD:=fun m A _ h _=>X m (A a) (A b) (A c) (A d) (A e) h
abbrev e6(X:Nat->A6)(a b c d e f:Nat):Nat->CD:=fun m A _ h _=>X m (A a) (A b) (A c) (A d) (A e) (A f) h
abbrev e7(X:Nat->A7)(a b c d e f i:Nat):Nat->CD:=fun m A _ h _=>X m (A a) (A b) (A c) (A d) (A e) (A f) (A i) h
abbrev e8(X:Nat->A8)(a b c d e f i j:Nat):Nat->CD:=fun m A _ h _=>X m (A a) (A b) (A c) (A d) (A e) (A f) (A i) (A j) h
abbrev e9(X:Nat->A9)(a b c d e f i j k:Nat):Nat->CD:=fun m A _ h _=>X m (A a) (A b) (A c) (A d) (A e) (A f) (A i) (A j) (A k) h
abbrev wj(X:Nat->ma)(a b c d e f i j k l:Nat):Nat->CD:=fun m A _ h _=>X m (A a) (A b) (A c) (A d) (A e) (A f) (A i) (A j) (A k) (A l) h
abbrev VX(X:Nat->mb)(a b c d e f i j k l n:Nat):Nat->CD:=fun m A _ h _=>X m (A a) (A b) (A c) (A d) (A e) (A f) (A i) (A j) (A k) (A l) (A n) h
end
section
variable {fl:Bool}{T:I5}{call b_ round:Ah}{fuel fn n:Nat}{Dr:Option Nat}{out:Nat->CD}{ret:CD}
theorem w_:∀(p:List Bool) (H:Hk) (c:Code) (env:iI) (k:CD),og fl T call b_ round fuel fn n Dr out ret p H c env k=jc fl T call b_ round fuel fn n Dr out ret (tH fl T call b_ round fuel fn n Dr out ret p H c env k).1 (tH fl T call b_ round fuel fn n Dr out ret p H c env k).2.1 (tH fl T call b_ round fuel fn n Dr out ret p H c env k).2.2
 | [],_,_,_,_=>rfl
 | s::p,H,c,env,k=>by
  cases c<;>first|rfl|exact w_ p _ _ _ _|(cases s<;>exact w_ p _ _ _ _)
end
section
variable{m d g p:Nat}{q:Bool}{C:Nat->Ah}{D c r:Ah}{E:Nat->CD}{Y:Ab->R}{B:CD}
theorem HR(A:w9 (lH q D c r K g p).1=true)(h0:E 0=fun _ _ _ _=>none)(hs:∀m G tm h ds,tI q D c r K g p (E m) G tm h ds=E (m+1) G tm h ds)(J:kS (pathOf p) .no (Oz TT g)=true):
 cH q D c r K g .no=cH q D c r K g (kB (pathOf p) (E K) .no):=by
 refine oh _ (pathOf p) .no (Oz TT g) [] (jz q TT g) J ?_;rw[w_];have hs:=fun m=>jG (hs m)
 show jc q TT D c r K g (kR TT g) none nc (jz q TT g) (lH q D c r K g p).1 (lH q D c r K g p).2.1 (lH q D c r K g p).2.2=E K;unfold tI at hs;generalize lH q D c r K g p=x at A hs⊢;obtain⟨L,env,k⟩:=x;cases L<;>first|exact Mn h0 hs K|cases A
abbrev R0(disp:Nat->Option FT)(K d g:Nat)(F:Ab->R):Prop:=∀h,Ag TT disp K d false g [] h=F h
abbrev S0(disp:Nat->Option FT)(K d g:Nat)(F:Ah->Ah->Nat->Ab->R):Prop:=∀h,Ag TT disp K (d+1) false g [] h=F (Ag TT disp K d false) (Ag TT disp K d true) K h
theorem V0 {F:Ab->R}{k:Nat}{x:Ah}(e:k<=d->R0 disp K d g F)(hd:m<=d)(y:Ag TT disp K d false=x)(A:Nat.ble k m=true:=by rfl):Ag TT disp K d false=w0 g F x:=W0 (e (lq hd A)) y
abbrev R1(disp:Nat->Option FT)(K d g:Nat)(F:EV->Ab->R):Prop:=∀a h,Ag TT disp K d false g [a] h=F a h
abbrev S1(disp:Nat->Option FT)(K d g:Nat)(F:Ah->Ah->Nat->EV->Ab->R):Prop:=∀a h,Ag TT disp K (d+1) false g [a] h=F (Ag TT disp K d false) (Ag TT disp K d true) K a h
theorem V1 {F:EV->Ab->R}{k:Nat}{x:Ah}(e:k<=d->R1 disp K d g F)(hd:m<=d)(y:Ag TT disp K d false=x)(A:Nat.ble k m=true:=by rfl):Ag TT disp K d false=w1 g F x:=W1 (e (lq hd A)) y
abbrev R2(disp:Nat->Option FT)(K d g:Nat)(F:EV->EV->Ab->R):Prop:=∀a b h,Ag TT disp K d false g [a,b] h=F a b h
abbrev S2(disp:Nat->Option FT)(K d g:Nat)(F:Ah->Ah->Nat->EV->EV->Ab->R):Prop:=∀a b h,Ag TT disp K (d+1) false g [a,b] h=F (Ag TT disp K d false) (Ag TT disp K d true) K a b h
theorem V2 {F:EV->EV->Ab->R}{k:Nat}{x:Ah}(e:k<=d->R2 disp K d g F)(hd:m<=d)(y:Ag TT disp K d false=x)(A:Nat.ble k m=true:=by rfl):Ag TT disp K d false=w2 g F x:=W2 (e (lq hd A)) y
abbrev R3(disp:Nat->Option FT)(K d g:Nat)(F:EV->EV->EV->Ab->R):Prop:=∀a b e h,Ag TT disp K d false g [a,b,e] h=F a b e h
abbrev S3(disp:Nat->Option FT)(K d g:Nat)(F:Ah->Ah->Nat->EV->EV->EV->Ab->R):Prop:=∀a b e h,Ag TT disp K (d+1) false g [a,b,e] h=F (Ag TT disp K d false) (Ag TT disp K d true) K a b e h
theorem V3 {F:EV->EV->EV->Ab->R}{k:Nat}{x:Ah}(e:k<=d->R3 disp K d g F)(hd:m<=d)(y:Ag TT disp K d false=x)(A:Nat.ble k m=true:=by rfl):Ag TT disp K d false=w3 g F x:=W3 (e (lq hd A)) y
abbrev R4(disp:Nat->Option FT)(K d g:Nat)(F:EV->EV->EV->EV->Ab->R):Prop:=∀a b e f h,Ag TT disp K d false g [a,b,e,f] h=F a b e f h
abbrev S4(disp:Nat->Option FT)(K d g:Nat)(F:Ah->Ah->Nat->EV->EV->EV->EV->Ab->R):Prop:=∀a b e f h,Ag TT disp K (d+1) false g [a,b,e,f] h=F (Ag TT disp K d false) (Ag TT disp K d true) K a b e f h
theorem V4 {F:EV->EV->EV->EV->Ab->R}{k:Nat}{x:Ah}(e:k<=d->R4 disp K d g F)(hd:m<=d)(y:Ag TT disp K d false=x)(A:Nat.ble k m=true:=by rfl):Ag TT disp K d false=w4 g F x:=W4 (e (lq hd A)) y
abbrev R5(disp:Nat->Option FT)(K d g:Nat)(F:EV->EV->EV->EV->EV->Ab->R):Prop:=∀a b e f i h,Ag TT disp K d false g [a,b,e,f,i] h=F a b e f i h
abbrev S5(disp:Nat->Option FT)(K d g:Nat)(F:Ah->Ah->Nat->EV->EV->EV->EV->EV->Ab->R):Prop:=∀a b e f i h,Ag TT disp K (d+1) false g [a,b,e,f,i] h=F (Ag TT disp K d false) (Ag TT disp K d true) K a b e f i h
theorem V5{k:Nat}{x:Ah}(e:k<=d->R5 disp K d g F)(hd:m<=d)(y:Ag TT disp K d false=x)(A:Nat.ble k m=true:=by rfl):Ag TT disp K d false=w5 g F x:=W5 (e (lq hd A)) y
abbrev S6(disp:Nat->Option FT)(K d g:Nat)(F:Ah->Ah->Nat->EV->EV->EV->EV->EV->EV->Ab->R):Prop:=∀a b e f i j h,Ag TT disp K (d+1) false g [a,b,e,f,i,j] h=F (Ag TT disp K d false) (Ag TT disp K d true) K a b e f i j h
theorem rf(A:jH (Oz TT g)=q)(M:Ag TT disp K d false=c)(O:Ag TT disp K d true=r)(e:c=D)(G:cH q D c r K g .no=B)(J:ng TT g (Fw xs)=true:=by kernel_rfl)(L:∀h,nf xs B h=Y h:=by intros;kernel_rfl)(h:Ab):kT TT c r K g xs h=Y h:=by
 rw[Bg9 J,A];exact(congrArg (fun C=>nf xs (cH q C c r K g .no) h) e).trans ((congrArg (fun B=>nf xs B h) G).trans (L h))
theorem rm(A:jH (Oz TT g)=q)(G:Ag TT disp K d false=c)(J:Ag TT disp K d true=r)(H:Ca disp)(e:c=D)(L:Q0 q TT D c r K g (kR TT g) none nc (jz q TT g) .no (Oz TT g) [] (jz q TT g)=B)(M:Aw0 g=true:=by kernel_rfl)(O:ng TT g (Fw xs)=true:=by kernel_rfl)(U:∀h,nf xs B h=Y h:=by intros;kernel_rfl)(h:Ab):Ag TT disp K (d+1) false g xs h=Y h:=by
 subst G J;have e0:Ag TT disp K (d+1) false g xs h = @Option.rec FT (fun _=>pH) (kT TT (Ag TT disp K d false) (Ag TT disp K d true) K g) (fun F=>F (Ag TT disp K d false) (Ag TT disp K d true) K) (disp g) xs h:=rfl;rw[e0,H.plain g M];exact rf A rfl rfl e L O U h
theorem rd(A:Ag TT disp K d false=c)(G:Ag TT disp K d true=r)(H:Ca disp)(e:c=D)(J:Aw0 g=true:=by kernel_rfl)(L:ng TT g (Fw xs)=true:=by kernel_rfl)(M:∀h,nf xs (cH (jH (Oz TT g)) D c r K g .no) h=Y h:=by intros;kernel_rfl)(h:Ab):Ag TT disp K (d+1) false g xs h=Y h:=rm rfl A G H e rfl J L M h
theorem ld(G:Ag TT disp K d false=c)(J:Ag TT disp K d true=r)(H:Ca disp)(e:c=D)(p:Nat)(E:Ah->Ah->Nat->CD)(h0:E c r 0=fun _ _ _ _=>none:=by rfl)(L:Aw0 g=true:=by kernel_rfl)(M:ng TT g (Fw xs)=true:=by kernel_rfl)(O:kS (pathOf p) .no (Oz TT g)=true:=by kernel_rfl)
 (U:w9 (lH (jH (Oz TT g)) D c r K g p).1=true:=by kernel_rfl) (hs:∀m A tm h ds,tI (jH (Oz TT g)) D c r K g p (E c r m) A tm h ds=E c r (m+1) A tm h ds:=by intros;kernel_rfl)
 (V:∀h,nf xs (cH (jH (Oz TT g)) D c r K g (kB (pathOf p) (E c r K) .no)) h=Y h:=by intros;kernel_rfl) (h:Ab):Ag TT disp K (d+1) false g xs h=Y h:=rm rfl G J H e (HR U h0 hs O) L M V h
theorem rl(H:Ca disp)(hd:m+1<=d)(e:∀d,m<=d->Ag TT disp K d false=C d:=by exact fun _ _=>rfl)(A:Aw0 g=true:=by kernel_rfl)(G:ng TT g (Fw xs)=true:=by kernel_rfl)(J:jH (Oz TT g)=false:=by kernel_rfl)(L:∀d c r h,nf xs (cH false (C d) c r K g .no) h=Y h:=by intros;kernel_rfl)(h:Ab):Ag TT disp K d false g xs h=Y h:=by
 obtain⟨d,rfl⟩:∃e,d=e+1:=⟨d-1,a_⟩;exact rm J rfl rfl H (e d (Nat.le_of_succ_le_succ hd)) rfl A G (L d _ _) h
theorem ll(H:Ca disp)(hd:m+1<=d)(e:∀d,m<=d->Ag TT disp K d false=C d)(p:Nat)(E:Nat->CD)(h0:E 0=fun _ _ _ _=>none:=by rfl)(G:Aw0 g=true:=by kernel_rfl)(J:ng TT g (Fw xs)=true:=by kernel_rfl)(L:jH (Oz TT g)=false:=by kernel_rfl)(M:kS (pathOf p) .no (Oz TT g)=true:=by kernel_rfl)
 (O:∀d c r,w9 (lH false (C d) c r K g p).1=true:=by intros;kernel_rfl) (hs:∀d c r m A tm h ds,tI false (C d) c r K g p (E m) A tm h ds=E (m+1) A tm h ds:=by intros;kernel_rfl)
 (U:∀d c r h,nf xs (cH false (C d) c r K g (kB (pathOf p) (E K) .no)) h=Y h:=by intros;kernel_rfl) (h:Ab):Ag TT disp K d false g xs h=Y h:=by
 obtain⟨d,rfl⟩:∃e,d=e+1:=⟨d-1,a_⟩;exact rm L rfl rfl H (e d (Nat.le_of_succ_le_succ hd)) (HR (O d _ _) h0 (hs d _ _) M) G J (U d _ _) h
theorem rr {l n:Nat}{st:LoopState}{j:Option Code}{tm A:Ba}{ps:List Tmp}{a b:Code}{X:R}(G:Ag TT disp K d false=c)(J:Ag TT disp K d true=r)(e:c=D)(L:h.get l=some (.loop st j g n tm ps a b d0))(hs:Wy ps xs n tm=some A)
 (M:xg TT D c r K l g n a b (rn n ps xs (tmp tm)) A h []=X):Ag TT disp K (d+1) true l xs h=X:=by
 subst G J;rw[A95];unfold pI;rw[L];simp only;rw[hs];simp only;exact(congrArg (fun C=>xg TT C (Ag TT disp K d false) (Ag TT disp K d true) K l g n a b (rn n ps xs (tmp tm)) A h []) e).trans M
end
end
section
noncomputable section
section
variable (c r:Ah)(K l:Nat)(k0:A0)(k1:A1)(k2:A2)(k3:A3)(k4:A4)(k5:A5)(k6:A6)(k7:A7)(k8:A8)(k9:A9)(oi:ma)(oo:mb)(oq:mR)(m0:B0)(m1:B1)(m2:B2)(m3:B3)(m4:B4)(m5:B5)(m6:B6)(m7:B7)(m8:B8)(m9:B9)(ot:mP)(ov:mQ)(ow:mS)(base:Nat)(s:DX)(tm:Ba)(a b d e f g i j n o p q t u w x y z aa ab ad ae af ag ai aj an ao ap aq au aw ax ay az ba bb bd be bf bg bi bj bn bo bp bq bt bu bw bx bz da db dd de df dg di dj dn dp dq dt du dw dx dy dz ea eb ed ee ef eg ei ej en eo ep eq et eu ew ex ey ez fa fb fd fe ff fg fi fj fn fo fp fq ft fu fw fx fy fz ga gb gd ge gf gg gi gj gn go gp gq gt gu gw gx gy gz ia ib ie ig ii ij io ip iq it iu iw ix iy iz ja jb:EV)(h:Ab)(ds:List Nat)
def Kg:Ru K R:=(.mk:Sg 0x11fe41104e243623533c01fe05e [a] h [] [] [[.int .i64 0,.int .i64 0,.int .i64 0]]).F
def Hq:Ru K R:=(.mk:Sg 0x122203 [a] h).F
def Rf:Ru K R:=(.mk:Sg 0x122223 [a] h).F
def Dl:Ru K R:=(.mk:Sg 0x122203 [a] h).F
def Dd:Ru K R:=(.mk:Sg 0x122231fe314204209e9 [a] h).F
def Cq:Ru K R:=(.mk:Sg 0x1222f9e3 [a] h).F
def Ui:Ru K R:=
 some (a,h)
def Uj:Ru K R:=
 nX d (.int .i64 2) fun e=>
 k3 a b e h
def Ug:R:=
 H4 b fun e=>
 Uj K k3 a e d h
def Gf(K:Nat):Nat->A3
 | 0=>fun _ _ _ _=>none
 | m+1=>fun a b d h=>
  oE 3 a h fun e=>
  cE Iz .lss 3 d e
  (Ug K (Gf K m) a b d h)
  (Ui K b h)
def Ln:R:=(.mk:Sg 0x10010230024ee9 [a] h [Ld (Gf K K)]).F
def N4:Ru K R:=(.mk:Sg 0x122213e203 [a] h).F
def Pr:Ru K R:=(.mk:Sg 0x122213 [a] h).F
def O8:Ru K R:=
 gh a b fun d=>
 some (d,h)
def Uv:R:=(.mk:Sg 0x120220024200c0221e314c2a430be [a,b,d] h [Ei (O8 K)]).F
def T9:R:=(.mk:Sg 0x1202430024630010223e414d2a00223e204214e9 [a] h [Ld (Uv K)]).F
def I8:Ru K R:=(.mk:Sg 0x1222101de3023003e1021ee3021de234209e9 [a] h).F
def Od:Ru K R:=(.mk:Sg 0x122c021de231fe344204209e9 [a] h).F
def Y4:Ru K R:=(.mk:Sg 0x1223023003e [a] h).F
def Pg:R:=(.mk:Sg 0x121002221ce3023003e2101ee00e0023301e [a] h [Eg (Y4 K)]).F
def xh:Ru K R:=
 gh a b fun d=>
 some (d,h)
def ru:R:=(.mk:Sg 0x1202200232004321e82a10223e [a,b] h [Ei (xh K)]).F
def Vi:Ru K R:=(.mk:Sg 0x1002200e2a2e921007e [a] h [] [cu1 (fun a=>Bp (Df [(0,1),(1,1),(2,1),(3,1),(4,1)]) [.An,.int .i64 0,.int .i64 0,.int .i64 0,.bool false] [(1,a)])]).F
def Vl:R:=(.mk:Sg 0x1310003e070200e6284309e [a,b,d] h [Eg (Vi K)]).F
def M0:R:=(.mk:Sg 0x1202330023430015e0322ea2d10220e [a] h [Ld (Vl K)]).F
def HS:Ru K R:=(.mk:Sg 0x1002200e2b9e921007e2101 [a] h [Eg tJ] [cu1 (fun b=>Bp (Df [(0,1)]) [.Aex] [(0,b)])]).F
def HT:R:=(.mk:Sg 0x1310003e070200e6284309e [a,b,d] h [Eg (HS K)]).F
def tK:R:=(.mk:Sg 0x1202330023430001322ea2d10220e [a] h [Ld (HT K)] [] [] [(.int .i64 4096)]).F
def Qi:R:=(.mk:Sg 0x122251ee231fe08e4407e041021ee0123603e2721120ae231ee9301fea21fed0420ae521ee621fe1021ee80421032e77665606b3021ee231ee343410e211110e0ee209e9 [a] h [Eg (Od K),builtin TT .min #[3,3]] [] [] [(.int .u64 1)]).F
def E9:Ru K R:=(.mk:Sg 0x1222101203 [a] h [Eg tL]).F
def HU:R:=(.mk:Sg 0x122210142116e263 [a,b] h [Eg (E9 K)]).F
def V6:R:=(.mk:Sg 0x1432000023285409e [a,b,d,e] h [Ei (HU K)]).F
def Vu:R:=(.mk:Sg 0x12024340025764002623e213e36301e2d00320e [a,b] h [Tu (V6 K)]).F
def HV:Ru K R:=
 some (a,h)
def Oj:Ru K R:=
 H4 g fun i=>
 k6 a b d e f i h
def Hs(K:Nat)(k6:A6)(base:Nat)(s:DX)(a:EV)(b:EV)(d:EV)(e:EV)(f:EV)(g:EV)(i:EV)(j:EV)(n:EV)(h:Ab):R:=
 gh j n fun o=>
 gm o
 (Oj K k6 a b e f g i h)
 (Oj K k6 a b d f g i h)
def Hp:R:=
 ir j
 (gX n o fun p=>
 Hs K k6 base s a b d e f g i j p h)
 (Hs K k6 base s a b d e f g i j tU h)
def N5:R:=
 gk o
 (Kw 8 255 s h (fun h=>(E9 K f h)) fun p h s=>
 jw 6 12 3711 base a s h fun s q=>
 Ve 1 q d fun t=>
 L0 15 32383 base t s fun s=>Et t h fun u=>
 Kw 16 65535 s h (fun h=>(E9 K u h)) fun w h s=>
 jk p w fun x=>
 Hp K k6 base s a b d e g i j n o x h)
 (Hp K k6 base s a b d e g i j n o tU h)
def HW:R:=
 mT 1 e g h fun i=>
 Yk h fun base s=>
 jF g b fun j=>
 ir j
 (jj d (.int .i64 0) fun n=>
 N5 K k6 base s a b d g i e f g j n h)
 (N5 K k6 base s a b d g i e f g j tU h)
def Hr(K:Nat):Nat->A6
 | 0=>fun _ _ _ _ _ _ _=>none
 | m+1=>fun a b d e f g h=>
  cE Iz .lss 3 g f
  (HW K (Hr K m) a b d e f g h)
  (HV K d h)
def Kr:R:=
 fE 6 a h fun d=>
 Fz d fun e=>
 Hr K K a b (.int .i64 (-1)) d e (.int .i64 0) h
def Rx:Ru K R:=(.mk:Sg 0x122233 [a] h).F
def HX:Ru K R:=
 gh a b fun d=>
 some (d,h)
def Lt:R:=(.mk:Sg 0x1202200232005321e82a3223e [a,b,d] h [Ei (HX K)]).F
def HY:Ru K R:=(.mk:Sg 0x122233003e314 [a,b] h).F
def Un:R:=
 gX d e fun f=>
 gm f
 (some ((.int .i64 (-1)),h))
 (HY K a b h)
def Er:R:=(.mk:Sg 0x12023541025684102723e210136503e2d00420e209e9 [a,b] h [Eg (Dd K),Tu (Un K)]).F
def Wb:Ru K (Ru r R):=(.mk:Sg 0x1002321627ff3fb17e61c27431f0e872101718e436e5406b200e4111e0ee [a,b,d] h [Eg (fun f=>By (List.replicate 4 (.int .i64 0)++List.replicate 64 (.int .u8 0)) 34 68 1 [(0,f)]),c 89]).F
def HZ:Ru K (Ru r (Ru c R)):=
 nY d (.int .i64 1) fun e=>
 k3 a b e h
def Qh:R:=
 gh e f fun g=>
 gm g
 (HZ c r K k3 a b d h)
 (Wb c r K a b d h)
def Jt(c:Ah)(r:Ah)(K:Nat):Nat->A3
 | 0=>fun _ _ _ _=>none
 | m+1=>fun a b d h=>
  jk d (.int .i64 0) fun e=>
  ir e
  (fE 1 a h fun f=>
  nY d (.int .i64 1) fun g=>
  Ve 68 f g fun i=>
  oE 0 i h fun j=>
  oE 0 b h fun n=>
  jk j n fun o=>
  Qh c r K (Jt c r K m) a b d e o h)
  (Qh c r K (Jt c r K m) a b d e tU h)
def H':R:=(.mk:Sg 0x1254300213e213 [a,b] h [Ld (Jt c r K K)]).F
def H_:R:=(.mk:Sg 0x17821007e0230123601e213e61300e0232820fe2101236e5314e9 [a,b] h [Eg (T9 K),Ei (H' c r K)] [] [] [(.int .i64 256)]).F
def Tl:Ru K R:=
 gh a b fun d=>
 some (d,h)
def Eu:R:=(.mk:Sg 0x12022102521010224e82116e6fae302e2a00223e5220126521c [a,b] h [Ei (Er K),Ei (Tl K)]).F
def Kx:R:=(.mk:Sg 0x122251ee231fe512e6410e484010e1021ee3101170ee [a,b] h [Eg (Pg K)]).F
def Jc:R:=(.mk:Sg 0x1706e200206e2005723301e20ae231ee9301fec21fe01e0420ae521ee821fe1021eea04c021de231fe7446043021ee231ee34421424ee9 [a] h [Ei (Kx K)]).F
def IA:Ru K R:=(.mk:Sg 0x1002200e [a] h).F
def IB:Ru K R:=
 H4 e fun f=>
 k4 a b d f h
def IC:R:=(.mk:Sg 0x1a976420321660c232115101303 [a,b,d,e,f] h [Eg (fun d=>By [.Bz] 128 1 1 [(0,d)]),Ei (Ef 128 1),Tu (IB K k4)]).F
def ID:R:=(.mk:Sg 0x187365510270200e500218e801e20ce2101 [a,b,d,e] h [Eg (M0 K),cl5 (IC K k4)]).F
def rv(K:Nat):Nat->A4
 | 0=>fun _ _ _ _ _=>none
 | m+1=>fun a b d e h=>
  cE Iz .lss 3 e d
  (ID K (rv K m) a b d e h)
  (IA K b h)
def IE:R:=
 Bp (Df [(0,1),(1,1),(2,1),(3,1),(4,1)]) [.An,(.int .i64 0),(.int .i64 0),(.int .i64 0),(.bool false)] [(1,b),(2,d)] fun e=>
 Pz 131 e h fun f h=>
 rv K K b f a (.int .i64 0) h
def IF:R:=(.mk:Sg 0x154330003e070200e6286509e [a,b,d,e,f] h [Ld (IE K)]).F
def tM:R:=(.mk:Sg 0x12026545202487652020fe15e0621102e2d20fe2101 [a,b,d] h [Eg (fun a=>ru K a (.int .i64 512)),Ei (ru K),cl5 (IF K)]).F
def IH:R:=(.mk:Sg 0x12225221261ee2421131013033003e [a,b] h [Eg (fun a=>Kr K a (.int .i64 (-1))),Ei (Vu K),builtin TT .min #[3,3]]).F
def II:Ru K R:=
 H4 f fun g=>
 k5 a b d e g h
def IJ:R:=(.mk:Sg 0x198725510251de210164116e [a,b,d,e,f] h [Eg (E9 K),cl5 (II K k5)]).F
def Ms(K:Nat):Nat->A5
 | 0=>fun _ _ _ _ _ _=>none
 | m+1=>fun a b d e f h=>
  cE Iz .lss 3 f e
  (IJ K (Ms K m) a b d e f h)
  (IH K a b h)
def I9:R:=(.mk:Sg 0x10023004500213e263 [a] h [cl5 (Ms K K)]).F
def Hh:Ru K R:=
 gh a b fun d=>
 some (d,h)
def He:R:=(.mk:Sg 0x12022102421015e0c0230135402e2a430be [a,b,d] h [Ld (Lt K),Ei (Hh K)]).F
def Hm:R:=(.mk:Sg 0x12023310245310c000230134403e2a430be [a,b,d] h [Ld (Lt K),Ld (He K)]).F
def Hf:R:=(.mk:Sg 0x120233102453102101334d2a430be [a,b,d] h [Eg (fun f=>Lt K f (.int .i64 1) (.int .i64 256)),Ld (Hm K)]).F
def Hi:R:=(.mk:Sg 0x1202331024531015e0c0230132403e2a430be [a,b,d] h [Ld (Lt K),Ld (Hf K)]).F
def Vp:R:=(.mk:Sg 0x1202431024631015e010230141403e2ad0602301204209e9 [a] h [Ld (Lt K),Ld (Hi K)]).F
def Jd(K:Nat)(base:Nat)(s:DX)(a:EV)(b:EV)(h:Ab):R:=
 gh a b fun d=>
 some (d,h)
def Uf:R:=
 Yk h fun base s=>
 L0 0 0 base a s fun s=>Oo 6 a h fun b=>
 Kw 1 1 s h (fun h=>(Ln K b h)) fun d h s=>
 gZ 2 3 4 base a s h fun s e=>
 j9 d e fun f=>
 ir f
 (gZ 3 7 127 base a s h fun s g=>
 mc (.int .i64 2) g fun i=>
 gZ 2 10 575 base a s h fun s j=>
 L0 11 63 base a s fun s=>Oo 6 a h fun n=>
 Kw 12 2111 s h (fun h=>(Jc K n h)) fun o h s=>
 mc j o fun p=>
 j9 i p fun q=>
 Jd K base s f q h)
 (Jd K base s f tU h)
def Bt:R:=
 gX b d fun e=>
 gm e
 (some ((.bool false),h))
 (Uf K a h)
def Bx:R:=
 gX b d fun e=>
 gk e
 (oE 5 a h fun f=>
 jk f (.int .i64 64) fun g=>
 Bt K a e g h)
 (Bt K a e tU h)
def Cc:R:=
 gX b d fun e=>
 gk e
 (oE 5 a h fun f=>
 jj f (.int .i64 4) fun g=>
 Bx K a e g h)
 (Bx K a e tU h)
def Ch:R:=
 gX b d fun e=>
 gk e
 (oE 4 a h fun f=>
 jk f (.int .i64 4) fun g=>
 Cc K a e g h)
 (Cc K a e tU h)
def Cr:R:=
 gX b d fun e=>
 gk e
 (oE 4 a h fun f=>
 jj f (.int .i64 0) fun g=>
 Ch K a e g h)
 (Ch K a e tU h)
def C7:R:=
 gX b d fun e=>
 gk e
 (oE 3 a h fun f=>
 jk f (.int .i64 256) fun g=>
 Cr K a e g h)
 (Cr K a e tU h)
def Dq:R:=
 gX b d fun e=>
 gk e
 (oE 3 a h fun f=>
 jj f (.int .i64 1) fun g=>
 C7 K a e g h)
 (C7 K a e tU h)
def Ed:R:=
 gX b d fun e=>
 gk e
 (oE 2 a h fun f=>
 jk f (.int .i64 64) fun g=>
 Dq K a e g h)
 (Dq K a e tU h)
def Es:R:=
 gX b d fun e=>
 gk e
 (oE 2 a h fun f=>
 jj f (.int .i64 4) fun g=>
 Ed K a e g h)
 (Ed K a e tU h)
def F7:R:=
 gX b d fun e=>
 gk e
 (oE 1 a h fun f=>
 jk f (.int .i64 64) fun g=>
 Es K a e g h)
 (Es K a e tU h)
def Im:R:=
 gX b d fun e=>
 gk e
 (oE 1 a h fun f=>
 jj f (.int .i64 1) fun g=>
 F7 K a e g h)
 (F7 K a e tU h)
def H7:R:=
 Pz 92 a h fun b h=>
 oE 0 b h fun d=>
 jj d (.int .i64 3) fun e=>
 gk e
 (oE 0 b h fun f=>
 jk f (.int .i64 8) fun g=>
 Im K b e g h)
 (Im K b e tU h)
def IK:Ru K R:=(.mk:Sg 0x1002200e268e9232007e001 [a] h [cl0 tN] [cu2 (fun a b=>Bp (Df [(0,1),(1,1),(2,1),(3,1)]) [.Bz,.An,.An,.Al9] [(0,a),(3,b)])]).F
def rA:R:=(.mk:Sg 0x13110270200e500218e801e20ce432301 [a,b,d] h [Ld (tM K),Eg (IK K)]).F
def Mu(K:Nat)(base:Nat)(s:DX)(a:EV)(b:EV)(h:Ab):R:=
 gh a b fun d=>
 some (d,h)
def Qe:R:=
 gh b d fun e=>
 ir e
 (gZ 3 11 2047 base a s h fun s f=>
 mc (.int .i64 2) f fun g=>
 gZ 2 14 9215 base a s h fun s i=>
 L0 15 1023 base a s fun s=>Oo 6 a h fun j=>
 Kw 16 33791 s h (fun h=>(Qi K j h)) fun n h s=>
 mc i n fun o=>
 j9 g o fun p=>
 Mu K base s e p h)
 (Mu K base s e tU h)
def Nr:R:=
 Pz 23 a h fun b h=>
 Yk h fun base s=>
 L0 0 0 base b s fun s=>Oo 6 b h fun d=>
 Kw 1 1 s h (fun h=>(Vp K d h)) fun e h s=>
 ir e
 (L0 3 7 base b s fun s=>Oo 6 b h fun f=>
 Kw 4 15 s h (fun h=>(I8 K f h)) fun g h s=>
 gZ 2 6 39 base b s h fun s i=>
 j9 g i fun j=>
 Qe K base s b e j h)
 (Qe K base s b e tU h)
def IL:Ru K R:=(.mk:Sg 0x1002200e [a] h).F
def IM:Ru K R:=
 H4 e fun f=>
 k4 a b d f h
def IP:R:=(.mk:Sg 0x1a976420321666c232115101363 [a,b,d,e,f] h [Eg (fun d=>By [.Bz] 166 1 1 [(0,d)]),Ei (Ef 166 1),Tu (IM K k4)]).F
def IQ:R:=(.mk:Sg 0x198376510270200e500218e801e20ce2101214 [a,b,d,e] h [Eg (tK K),cl5 (IP K k4)]).F
def rB(K:Nat):Nat->A4
 | 0=>fun _ _ _ _ _=>none
 | m+1=>fun a b d e h=>
  cE Iz .lss 3 e d
  (IQ K (rB K m) a b d e h)
  (IL K b h)
def IU:R:=(.mk:Sg 0x100236400504297e921007e265 [a] h [Tu (rB K K)] [cu1 (fun b=>Bp (Df [(0,6),(6,1)]) [.int .i64 0,.int .i64 0,.int .i64 0,.int .i64 0,.int .i64 0,.int .i64 0,.An] [(0,b)])]).F
def pJ:R:=(.mk:Sg 0x1511009e070200e62820fe2101265209e9 [a] h [Eg (Nr K),Eg (IU K)]).F
def IV:R:=(.mk:Sg 0x1002200e263e9818e2a5675007e22211618e21002e57565504b5f2e5502b365301b0ee [a,b,d,e] h [Eg (Dd K),Ei (Wl [.int .i64 0] 3)] [cu5 (fun a f g e n=>Bp (Df [(0,1),(1,6),(7,256),(263,1),(264,1),(265,1),(266,1),(267,1)]) ([.Bz]++List.replicate 6 (.int .i64 0)++List.replicate 256 (.int .u32 0)++[.Bz]++[.An]++List.replicate 3 (.int .i64 0)) [(0,a),(1,f),(2,g),(3,e),(4,n),(5,.int .i64 (-1)),(6,.int .i64 (-1))])]).F
def Ra(K:Nat)(base:Nat)(s:DX)(a:EV)(b:EV)(d:EV)(e:EV)(f:EV)(g:EV)(h:Ab):R:=
 gX f g fun i=>
 gm i
 (some (.tuple [.Bz,(.int .i64 20)],h))
 (IV K a b d e h)
def tO:R:=
 gX f g fun i=>
 gk i
 (Kw 12 4095 s h (fun h=>(Dl K a h)) fun j h s=>
 Kw 13 8191 s h (fun h=>(Pr K j h)) fun n h s=>
 gZ 2 15 18431 base b s h fun s o=>
 jF n o fun p=>
 Ra K base s a b d e i p h)
 (Ra K base s a b d e i tU h)
def rD:R:=
 Pz 23 b h fun e h=>
 Pz 73 d h fun f h=>
 Oo 6 e h fun g=>
 Al (pJ K g h) fun i h=>
 kM i fun j n=>
 Yk h fun base s=>
 Jk iF (bin TT .neq 38) n (.int .i64 0) fun o=>
 gk o
 (Kw 4 15 s h (fun h=>(Dl K a h)) fun p h s=>
 Kw 5 31 s h (fun h=>(N4 K p h)) fun q h s=>
 L0 6 7 base e s fun s=>Oo 6 e h fun t=>
 Kw 7 127 s h (fun h=>(Dd K t h)) fun u h s=>
 jF q u fun w=>
 tO K base s a e f j o w h)
 (tO K base s a e f j o tU h)
end
variable{d:Nat}(H:Ca disp)
include H
theorem Ann(hd:1<=d):R1 disp K d 13 (Kg K):=fun _=>rl H hd
theorem IW(hd:1<=d):R1 disp K d 14 (Hq K):=fun _=>rl H hd
theorem Awo(hd:1<=d):R1 disp K d 18 (Rf K):=fun _=>rl H hd
theorem Na(hd:1<=d):R1 disp K d 21 (Dl K):=fun _=>rl H hd
theorem Ew(hd:1<=d):R1 disp K d 26 (Dd K):=fun _=>rl H hd
theorem Iq(hd:1<=d):R1 disp K d 40 (Cq K):=fun _=>rl H hd
theorem Afr(hd:1<=d):R1 disp K d 72 (Ln K):=fun _=>ll H hd (fun _ _=>rfl) 51 (e3 (Gf K) 1 3 4)
theorem Zw(hd:1<=d):R1 disp K d 76 (N4 K):=fun _=>rl H hd
theorem IX(hd:1<=d):R1 disp K d 77 (Pr K):=fun _=>rl H hd
theorem Apf(hd:1<=d):R1 disp K d 88 (T9 K):=fun _=>rl H hd
theorem U3(hd:1<=d):R1 disp K d 101 (I8 K):=fun _=>rl H hd
theorem Z2(hd:1<=d):R1 disp K d 107 (Od K):=fun _=>rl H hd
theorem Ak0(hd:1<=d):R1 disp K d 113 (Pg K):=fun _=>rl H hd
theorem Azd(hd:1<=d):R2 disp K d 114 (ru K):=fun _ _=>rl H hd
theorem Ag2(hd:1<=d):R1 disp K d 115 (M0 K):=fun _=>rl H hd
theorem A2d(hd:1<=d):R1 disp K d 116 (tK K):=fun _=>rl H hd
theorem Alo(hd:2<=d):R1 disp K d 118 (Qi K):=fun _=>rl H hd fun d hd=>V1 (Z2 H) hd<|rfl
theorem Ky(hd:1<=d):R1 disp K d 123 (E9 K):=fun _=>rl H hd
theorem Aq8(hd:2<=d):R2 disp K d 124 (Vu K):=fun _ _=>rl H hd fun d hd=>V1 (Ky H) hd<|rfl
theorem Z0(hd:2<=d):R2 disp K d 125 (Kr K):=fun _ _=>ll H hd (fun d hd=>V1 (Ky H) hd<|rfl) 51 (e6 (Hr K) 0 1 5 11 12 13)
theorem Ano(hd:1<=d):R1 disp K d 131 (Rx K):=fun _=>rl H hd
theorem IY(hd:1<=d):R3 disp K d 152 (Lt K):=fun _ _ _=>rl H hd
theorem F0(hd:2<=d):R2 disp K d 8 (Er K):=fun _ _=>rl H hd fun d hd=>V1 (Ew H) hd<|rfl
theorem Arf(hd:1<=d):S2 disp K d 50 H_:=fun _ _=>ld rfl rfl H (V1 (Apf H) hd<|rfl) 55 (fun c r=>e3 (Jt c r K) 0 3 5)
theorem Gv(hd:3<=d):R2 disp K d 65 (Eu K):=fun _ _=>rl H hd fun d hd=>V2 (F0 H) hd<|rfl
theorem Aco(hd:2<=d):R1 disp K d 73 (Jc K):=fun _=>rl H hd fun d hd=>V1 (Ak0 H) hd<|rfl
theorem A65(hd:2<=d):R3 disp K d 74 (tM K):=fun _ _ _=>ll H hd (fun d hd=>V2 (Azd H) hd<|V1 (Ag2 H) hd<|rfl) 103 (e4 (rv K) 1 8 23 24)
theorem IZ(hd:3<=d):R1 disp K d 86 (I9 K):=fun _=>ll H hd (fun d hd=>V2 (Z0 H) hd<|V2 (Aq8 H) hd<|V1 (Ky H) hd<|rfl) 51 (e5 (Ms K) 0 3 9 10 11)
theorem Arr(hd:2<=d):R1 disp K d 117 (Vp K):=fun _=>rl H hd fun d hd=>V3 (IY H) hd<|rfl
theorem Agq(hd:3<=d):R1 disp K d 33 (H7 K):=fun _=>rl H hd fun d hd=>V1 (Afr H) hd<|V1 (Aco H) hd<|rfl
theorem A62(hd:3<=d):R3 disp K d 34 (rA K):=fun _ _ _=>rl H hd fun d hd=>V3 (A65 H) hd<|rfl
theorem U4(hd:3<=d):R1 disp K d 78 (Nr K):=fun _=>rl H hd fun d hd=>V1 (Arr H) hd<|V1 (U3 H) hd<|V1 (Alo H) hd<|rfl
theorem A7p(hd:4<=d):R1 disp K d 75 (pJ K):=fun _=>ll H hd (fun d hd=>V1 (U4 H) hd<|V1 (A2d H) hd<|rfl) 103 (e4 (rB K) 1 4 14 15)
theorem A0t(hd:5<=d):R3 disp K d 35 (rD K):=fun _ _ _=>rl H hd fun d hd=>V1 (A7p H) hd<|V1 (Na H) hd<|V1 (Zw H) hd<|V1 (Ew H) hd<|V1 (IX H) hd<|rfl
end
end
section
noncomputable section
section
variable (c r:Ah)(K l:Nat)(k0:A0)(k1:A1)(k2:A2)(k3:A3)(k4:A4)(k5:A5)(k6:A6)(k7:A7)(k8:A8)(k9:A9)(oi:ma)(oo:mb)(oq:mR)(m0:B0)(m1:B1)(m2:B2)(m3:B3)(m4:B4)(m5:B5)(m6:B6)(m7:B7)(m8:B8)(m9:B9)(ot:mP)(ov:mQ)(ow:mS)(base:Nat)(s:DX)(tm:Ba)(a b d e f g i j n o p q t u w x y z aa ab ad ae af ag ai aj an ao ap aq au aw ax ay az ba bb bd be bf bg bi bj bn bo bp bq bt bu bw bx bz da db dd de df dg di dj dn dp dq dt du dw dx dy dz ea eb ed ee ef eg ei ej en eo ep eq et eu ew ex ey ez fa fb fd fe ff fg fi fj fn fo fp fq ft fu fw fx fy fz ga gb gd ge gf gg gi gj gn go gp gq gt gu gw gx gy gz ia ib ie ig ii ij io ip iq it iu iw ix iy iz ja jb:EV)(h:Ab)(ds:List Nat)
def Bm:Ru K R:=(.mk:Sg 0x122203 [a] h).F
def zH:Ru K R:=(.mk:Sg 0x12242116e273 [a,b] h).F
def vQ:R:=(.mk:Sg 0x1432000023285409e [a,b,d,e] h [Ei (zH K)]).F
def Ls:R:=(.mk:Sg 0x12024340025764002623e213e37301e2d00320e [a,b] h [Tu (vQ K)]).F
def HI:Ru K R:=(.mk:Sg 0x143e31104e2312e6312e5 [a,b] h).F
def HH:Ru K R:=
 H4 e fun f=>
 k4 a b d f h
def HG:R:=
 jR 32 1 d e fun f=>
 Vz 1 f a h fun h=>
 HH K k4 a b d e h
def U7(K:Nat):Nat->A4
 | 0=>fun _ _ _ _ _=>none
 | m+1=>fun a b d e h=>
  cE Iz .lss 3 e (.int .i64 32)
  (HG K (U7 K m) a b d e h)
  (HI K b d h)
def tz:R:=(.mk:Sg 0x100234400043e05e043e05e [a] h [Tu (U7 K K)] [] [List.replicate 32 (.int .u8 0)]).F
def zG:Ru K R:=(.mk:Sg 0x100049e71204e276626542615e263 [a,b,d] h).F
def vO:R:=(.mk:Sg 0x154330003e0049e61204e26660007e01e286509e [a,b,d,e,f] h [Ld (zG K)] [cu0 (Bp (Df [(0,1),(1,1),(2,1),(3,1),(4,1),(5,1)]) [.int .i64 0,.int .i64 0,.int .i64 0,.int .i64 0,.int .i64 0,.int .i64 0] [])]).F
def Lp:R:=(.mk:Sg 0x1202354500256875002723e213e46302e2d00420e049e05e [a,b] h [cl5 (vO K)] [] [[.int .i64 0,.int .i64 0,.int .i64 0,.int .i64 0,.int .i64 0,.int .i64 0]]).F
def Xy:Ru K (Ru r (Ru c R)):=(.mk:Sg 0x100043e31204e2312e6312e5 [a,b] h).F
def Yc:R:=(.mk:Sg 0x1432000ee0043e41204e2412e60007e01e28540be [a,b,d,e] h [Ei (Xy c r K)] [cu0 (Bp (N8 1) (List.replicate 32 (.int .u8 0)) [])]).F
def GX:R:=(.mk:Sg 0x12026541024874100ee0218e702e4320104e2a30620e [a,b,d,e,f] h [c 46,Tu (Yc c r K)]).F
def GW:R:=(.mk:Sg 0x142ba95104043ec1204e2c12e60007e00e00318e801e5212e624ff3fb17e043e05ea18e421ae20ce232011e57665604b273011e0ee [a,b,d,e] h [c 71,cl5 (GX c r K)] [cu0 (Bp (N8 1) (List.replicate 32 (.int .u8 0)) [])] [List.replicate 32 (.int .u8 0)]).F
def Sj:R:=(.mk:Sg 0x1765440010e0043e71204e2712e60007e01e3023701e6048043e61204e2612e60007e00e288709e [a,b,d,e,f,g,i] h [Tu (GW c r K)] [cu0 (Bp (N8 1) (List.replicate 32 (.int .u8 0)) [])]).F
def GV:R:=(.mk:Sg 0x1202438a97102465acb71000224e30403e2d00318e802e349e1606e20ce52201323043e05e [a,b] h [Ei (Lp K),cl7 (Sj c r K)] [] [List.replicate 32 (.int .u8 0),[.int .i64 0,.int .i64 0,.int .i64 0,.int .i64 0,.int .i64 0,.int .i64 0]]).F
def G':Ru K R:=
 some (a,h)
def GZ:Ru K R:=
 H4 b fun d=>
 k2 a d h
def GY:R:=(.mk:Sg 0x1652004226522319e31c0007e [a,b] h [Ei (GZ K k2)] [cu0 (Bp (Df [(0,1),(1,1)]) [.int .i64 0,.int .i64 0] [(0,.int .i64 (-1)),(1,.int .i64 (-1))])]).F
def Tt(K:Nat):Nat->A2
 | 0=>fun _ _ _=>none
 | m+1=>fun a b h=>
  cE Iz .lss 3 b (.int .i64 3)
  (GY K (Tt K m) a b h)
  (G' K a h)
def qT:R:=(.mk:Sg 0x1002200270e921007e [a] h [Ei (Tt K K)] [cu1 (fun a=>Bp (Df [(0,1),(1,6)]) [.Bz,.int .i64 0,.int .i64 0,.int .i64 0,.int .i64 0,.int .i64 0,.int .i64 0] [(0,a)])]).F
def qV:Ru K R:=(.mk:Sg 0x122261e926544007e23551fe9 [a,b,d,e] h [] [cu4 (fun a b d g=>Bp (Df [(0,1),(1,1),(2,1),(3,3),(6,1)]) [.Bz,.Bz,.Bz,.int .i64 0,.int .i64 0,.int .i64 0,.bool false] [(0,a),(1,b),(2,d),(3,g)])]).F
def Sf:Ru K R:=
 some (a,h)
def Sb:Ru K R:=
 H4 f fun g=>
 k5 a b d e g h
def Sq:R:=(.mk:Sg 0x100edc2a5302a2212111262107e210121007e821de31464116e [a,b,d,e,f] h [Eg (tz K),Eg (fun p=>By ([.int .i64 0]++List.replicate 32 (.int .u8 0)) 84 33 1 [(0,p)]),Ei (Ef 84 33),cl5 (Sb K k5)] [cu1 (fun j=>Tg .u8 j),cu2 (fun g o=>Bp (Df [(0,1),(1,32)]) ([.int .i64 0]++List.replicate 32 (.int .u8 0)) [(0,g),(1,o)])]).F
def Fp(K:Nat):Nat->A5
 | 0=>fun _ _ _ _ _ _=>none
 | m+1=>fun a b d e f h=>
  cE Iz .lss 3 f e
  (Sq K (Fp K m) a b d e f h)
  (Sf K b h)
def Ox:R:=(.mk:Sg 0x10023b04500213e234216e9 [a] h [cl5 (Fp K K)]).F
def GS:Ru K (Ru r R):=(.mk:Sg 0x12232201 [a,b] h [c 84]).F
def GR:R:=(.mk:Sg 0x14321022200218e801e2101 [a,b] h [c 68,Ei (GS c r K)]).F
def Sh:R:=
 gX e f fun g=>
 gm g
 (some (d,h))
 (GR c r K a b h)
def GQ:R:=(.mk:Sg 0x1202498510246ba51010225e30401e2d00318e802e349e0606e20ce42201223 [a,b] h [Ei (Lp K),cl5 (Sh c r K)] [] [[.int .i64 0,.int .i64 0,.int .i64 0,.int .i64 0,.int .i64 0,.int .i64 0]]).F
def GU:Ru r R:=(.mk:Sg 0x12221112101203 [a] h [Eg (Bm K),c 52]).F
def E_:Ru K (Ru r R):=(.mk:Sg 0x1222101 [a] h [c 17]).F
def EZ:Ru K (Ru r (Ru c R)):=
 H4 e fun f=>
 k4 a b d f h
def EY:R:=(.mk:Sg 0x1765441022200218e801e2320153116e [a,b,d,e] h [c 84,Tu (EZ c r K k4)]).F
def L9(c:Ah)(r:Ah)(K:Nat):Nat->A4
 | 0=>fun _ _ _ _ _=>none
 | m+1=>fun a b d e h=>
  cE Iz .lss 3 e d
  (EY c r K (L9 c r K m) a b d e h)
  (E_ c r K a h)
def FE:R:=(.mk:Sg 0x100234410213e32201 [a,b] h [c 85,Tu (L9 c r K K)]).F
def FD:R:=(.mk:Sg 0x15421003e0232820fe32201 [a,b] h [c 27,Ei (FE c r K)]).F
def Cf:Ru K R:=(.mk:Sg 0x109e41104e246626531c009e05e [a] h [] [] [[.int .i64 0,.int .i64 0,.int .i64 0,.int .i64 0,.int .i64 0,.int .i64 0]]).F
def Zd:Ru K (Ru r (Ru c R)):=
 gh a b fun d=>
 some (d,h)
def DN:R:=(.mk:Sg 0x12022202522000224e5221132303e2a32201 [a,b] h [c 27,Ei (Ls K),Ei (Zd c r K)]).F
def EL:Ru K (Ru r (Ru c R)):=(.mk:Sg 0x1002 [] h).F
def EK:R:=(.mk:Sg 0x10100ee0230ee0218e701e42201203 [a,b] h [c 97,cl0 (EL c r K)]).F
def EI:R:=(.mk:Sg 0x1652402220ee0218e701e2282231212150300e00218e701e522112101203 [a,b] h [Eg (Bm K),c 96,Eg (Cq K),c 41,Ei (EK c r K)]).F
def CR:Ru K R:=
 gh a b fun d=>
 some (d,h)
def qL:R:=(.mk:Sg 0x12022002320060320e92a00223e [a] h [Ei (CR K)]).F
def L2:Ru K R:=(.mk:Sg 0x1203040304e4fde33fce32fbe3 [a] h).F
def Z8:Ru K (Ru r (Ru c R)):=(.mk:Sg 0x15049e31204e2366365 [a,b,d] h).F
def Po:R:=(.mk:Sg 0x13200e3109806e3105021603e6c42162214e01e3c20ae224c3c12e0fe0318e701e8705e31042162214e01e3c20ae224c3c0ae00318e701e42662bffff5f06e17e049e05e05e18e20ce2467407fff4f01e723c004f00e210e63c21e03f9110e43c418e5404b273011e0ee [a,b,d] h [c 108,Ld (Z8 c r K)] [] [[.int .i64 0,.int .i64 0,.int .i64 0,.int .i64 0,.int .i64 0,.int .i64 0]]).F
def ER:R:=(.mk:Sg 0x15433004021626c [a,b,d] h [Ld (Po c r K)]).F
def EP:R:=(.mk:Sg 0x13453204563100fe0049e51204e25660007e01e00218e801e3049e51204e25660007e00e0ee0218e701e510127e28463049e05e389e9 [a,b] h [c 17,Ld (ER c r K),Ld (Po c r K)] [cu0 (Bp (Df [(0,1),(1,1),(2,1),(3,1),(4,1),(5,1)]) [.int .i64 0,.int .i64 0,.int .i64 0,.int .i64 0,.int .i64 0,.int .i64 0] [])] [[.int .i64 0,.int .i64 0,.int .i64 0,.int .i64 0,.int .i64 0,.int .i64 0]]).F
def wI:Ru K R:=
 Pz 60 a h fun b h=>
 some ((.func 119 [] [b]),h)
def G9:Ru K R:=(.mk:Sg 0x107e0200230023701e201ae42201203 [a,b] h [Ei ox]).F
def wU:Ru K R:=
 gh a b fun d=>
 some (d,h)
def Vj:R:=(.mk:Sg 0x1202210262102720e21007e210130305e2a00323e [a,b] h [Eg (Cf K),Ei (wU K)] [cu1 (fun f=>ky 3 false 0 f)]).F
def FJ:Ru K (Ru r R):=(.mk:Sg 0x1250200e32201 [a,b] h [c 48]).F
def FI:R:=(.mk:Sg 0x1232100040200e60123701e2101 [a] h [c 127,Ei (FJ c r K)] [] [] [(.int .i64 (-1))]).F
def FH:R:=(.mk:Sg 0x13120250200e31119282101 [a] h [c 126,c 17,Eg (FI c r K)]).F
def Gx:Ru K R:=(.mk:Sg 0x109e41104e246626530c009e05e [a] h [] [] [[.int .i64 0,.int .i64 0,.int .i64 0,.int .i64 0,.int .i64 0,.int .i64 0]]).F
def xi:Ru K R:=
 Pz 101 a h fun b h=>
 some ((.func 156 [] [b]),h)
def S7:Ru K R:=(.mk:Sg 0x1000e000e321627ff3fb17e56115e02e21de20de271e7b23115ea02e5210ea73711e0ee321627ff3fb17e56115ea21de20de271e7b23115e402e5110e473711e0ee3ce1023701e204349e9 [a,b,d] h).F
def K0:Ru K (Ru r (Ru c R)):=
 H4 d fun e=>
 k3 a b e h
def U0(c:Ah)(r:Ah)(K:Nat)(k3:A3)(k5:A5)(a:EV)(b:EV)(d:EV)(e:EV)(f:EV)(h:Ab):R:=
 H4 f fun g=>
 k5 a b d e g h
def It:R:=
 gh g i fun j=>
 gm j
 (some (.tuple [],h))
 (U0 c r K k3 k5 a b d e f h)
def DE:R:=(.mk:Sg 0x12028765471024a987671020fe3420103e2a01225e652007e [a,b,d,e,f] h [Ei (fun a g=>P0 c r a [g]),cl7 (It c r K k3 k5)] [cu2 (fun e f=>j8 2 1 false 1 e f)] [] [(.int .i64 (-1))]).F
def El(c:Ah)(r:Ah)(K:Nat)(k3:A3):Nat->A5
 | 0=>fun _ _ _ _ _ _=>none
 | m+1=>fun a b d e f h=>
  cE Iz .lss 3 f (.int .i64 2)
  (DE c r K k3 (El c r K k3 m) a b d e f h)
  (K0 c r K k3 a b d h)
def DF:R:=(.mk:Sg 0x1002987500232107e31420426de0206e432007e [a,b,d] h [cl5 (El c r K k3 K)] [cu2 (fun b d=>j8 3 2 true 2 b d),cu2 (fun g i=>Bp (N8 1) [.int .i64 0,.int .i64 0] [(0,g),(1,i)])] [[.int .i64 0,.int .i64 0]]).F
def Gk(c:Ah)(r:Ah)(K:Nat):Nat->A3
 | 0=>fun _ _ _ _=>none
 | m+1=>fun a b d h=>
  cE Iz .lss 3 d (.int .i64 3)
  (DF c r K (Gk c r K m) a b d h)
  (some (.tuple [],h))
def DI:R:=(.mk:Sg 0x1002530026521c30de [a,b] h [Ld (Gk c r K K)]).F
abbrev Wj(K:Nat)(c:Ah):Ah:=c
def qQ:Ru K R:=
 Pz 55 a h fun d h=>
 Pz 3 b h fun e h=>
 some ((.func 166 [] [d,e]),h)
def DQ:Ru K (Ru r (Ru c R)):=(.mk:Sg 0x1402 [] h).F
def DP:Ru K (Ru r (Ru c R)):=
 H4 d fun e=>
 k3 a b e h
def DO:R:=(.mk:Sg 0x154331050232842201 [a,b,d] h [c 55,Ld (DP c r K k3)]).F
def Ol(c:Ah)(r:Ah)(K:Nat):Nat->A3
 | 0=>fun _ _ _ _=>none
 | m+1=>fun a b d h=>
  cE Iz .lss 3 d b
  (DO c r K (Ol c r K m) a b d h)
  (DQ c r K h)
def DR:R:=(.mk:Sg 0x1002532021112101203 [a] h [Eg (Cf K),Eg (Dd K),Ld (Ol c r K K)]).F
def xj:Ru K R:=
 Pz 166 a h fun b h=>
 some ((.func 190 [] [b]),h)
def Sk:Ru K R:=(.mk:Sg 0x1000e5021624c [a] h).F
def Fg:Ru K R:=
 Pz 145 a h fun b h=>
 some ((.func 201 [] [b]),h)
def Lb:Ru K R:=(.mk:Sg 0x13be41104e24f2e62f2e537c03be05e [a] h [] [] [List.replicate 256 (.int .u32 0)]).F
def Fy:Ru K (Ru r (Ru c R)):=
 H4 e fun f=>
 k4 a b d f h
def F2:R:=(.mk:Sg 0x1ba98410000e22820fe296301265249e0606e26553615e [a,b,d,e] h [Ld (fun a e j=>P0 c r a [e,j]),Tu (Fy c r K k4)] [] [[.int .i64 0,.int .i64 0,.int .i64 0,.int .i64 0,.int .i64 0,.int .i64 0]]).F
def Ce(c:Ah)(r:Ah)(K:Nat):Nat->A4
 | 0=>fun _ _ _ _ _=>none
 | m+1=>fun a b d e h=>
  cE Iz .lss 3 e d
  (F2 c r K (Ce c r K m) a b d e h)
  (some (.tuple [],h))
def Gz:R:=(.mk:Sg 0x100234400213e30de [a,b] h [Tu (Ce c r K K)]).F
def Ee:Ru K R:=(.mk:Sg 0x122233 [a] h).F
def Zv:Ru K R:=
 some (a,h)
def Rm:Ru K R:=
 H4 e fun f=>
 k4 a b d f h
def Zj:R:=(.mk:Sg 0x17654410876241040ae91023701e210153116e [a,b,d,e] h [Eg (Ee K),Tu (Rm K k4)]).F
def Ji(K:Nat):Nat->A4
 | 0=>fun _ _ _ _ _=>none
 | m+1=>fun a b d e h=>
  cE Iz .lss 3 e d
  (Zj K (Ji K m) a b d e h)
  (Zv K a h)
def Qm:R:=(.mk:Sg 0x1002300400213e203 [a] h [Tu (Ji K K)]).F
def CN:Ru K (Ru r (Ru c R)):=(.mk:Sg 0x1002200e [a] h).F
def CM:R:=(.mk:Sg 0x121000fe02200e53023301e [a] h [Eg (CN c r K)]).F
def CL:R:=(.mk:Sg 0x16120200200e500218e801e21112101203 [a,b] h [Eg (Bm K),c 52,Eg (CM c r K)]).F
def Uw:Ru K (Ru r (Ru c R)):=
 H4 e fun f=>
 k4 a b d f h
def CK:R:=(.mk:Sg 0x16432400724340040ae958 [a,b,d,e,f] h [Tu (Uw c r K k4)]).F
def CJ:R:=(.mk:Sg 0x193876510200200e500218e801e20ce263301345 [a,b,d,e] h [c 95,cl5 (CK c r K k4)]).F
def Ir(c:Ah)(r:Ah)(K:Nat):Nat->A4
 | 0=>fun _ _ _ _ _=>none
 | m+1=>fun a b d e h=>
  cE Iz .lss 3 e (.int .i64 3)
  (CJ c r K (Ir c r K m) a b d e h)
  (CL c r K a d h)
def CP:R:=
 Ir c r K K a b (.int .i64 0) (.int .i64 0) h
def Ph(c:Ah)(r:Ah)(K:Nat)(base:Nat)(s:DX)(a:EV)(b:EV)(d:EV)(e:EV)(h:Ab):R:=
 gX d e fun f=>
 gm f
 (some (.tuple [(.int .i64 0),(.int .i64 10)],h))
 (CP c r K a b h)
def CO:R:=
 Pz 58 b h fun d h=>
 Yk h fun base s=>
 L0 0 0 base d s fun s=>Oo 4 d h fun e=>
 Kw 1 1 s h (fun h=>(c 93 [e] h)) fun f h s=>
 iX f fun g=>
 gk g
 (gZ 3 5 31 base d s h fun s i=>
 Kw 6 63 s h (fun h=>(Gx K i h)) fun j h s=>
 jw 0 10 911 base a s h fun s n=>
 Kw 11 2047 s h (fun h=>(Cf K n h)) fun o h s=>
 Jk iF (bin TT .neq 23) j o fun p=>
 Ph c r K base s a d g p h)
 (Ph c r K base s a d g tU h)
def V7:Ru K R:=
 gX a b fun d=>
 some (d,h)
def Q1:R:=(.mk:Sg 0x1202220262207224e72211210130306e2d01424e [a,b,d] h [Eg (Cf K),Ei (Er K),Ei (V7 K)] [] [] [(.int .i64 (-1))]).F
def Ul(c:Ah)(r:Ah)(K:Nat)(tm:Ba)(a:EV)(h:Ab)(ds:List Nat):R:=
 Et a h fun b=>
 tB b h ds
def EA:R:=
 (fun(tm:Ba) (ds:List Nat)=>
 iZ (.cells [.An] 30) h fun d h=>
 jv a fun e=>
 Xg 2 e fun f=>
 Et f h fun g=>
 Al (qQ K g b h) fun i h=>
 P9 c TT 85 19 0 i ((((((((tm.put 4 (some .An)).put 5 (some d)).put 7 (some a)).put 8 (some e)).put 9 (some f)).put 10 (some g)).put 11 (some b)).put 12 (some i)) h ds (fun h ds=>
 Ul c r K ((((((((tm.put 4 (some .An)).put 5 (some d)).put 7 (some a)).put 8 (some e)).put 9 (some f)).put 10 (some g)).put 11 (some b)).put 12 (some i)) d h ds) (fun id h ds=>
 Bb (Nat.beq 0 id) (Ul c r K ((((((((tm.put 4 (some .An)).put 5 (some d)).put 7 (some a)).put 8 (some e)).put 9 (some f)).put 10 (some g)).put 11 (some b)).put 12 (some i)) d h ds) (none)) (fun h ds=>
 Dt ds h fun h=>some (.An,h))) ((Tr.nil.put 0 (some a)).put 1 (some b)) []
def Wu:Ru K (Ru r (Ru c R)):=(.mk:Sg 0x1020251623211410120de [a,b] h [Eg (fun b=>By [.int .i64 0] 3 1 1 [(0,b)]),Ei (Ef 3 1),cl0 (Wh l true .ready none)]).F
def D_:R:=
 Ez l h fun h=>Wu c r K l a b h
end
variable{d:Nat}(H:Ca disp)
include H
theorem D5(hd:1<=d):R1 disp K d 15 (Bm K):=fun _=>rl H hd
theorem Yr(hd:1<=d):R2 disp K d 28 (Ls K):=fun _ _=>rl H hd
theorem Azx(hd:1<=d):R1 disp K d 30 (tz K):=fun _=>ll H hd (fun _ _=>rfl) 51 (e4 (U7 K) 0 2 3 5)
theorem Lw(hd:1<=d):R2 disp K d 31 (Lp K):=fun _ _=>rl H hd
theorem Ξ(hd:1<=d):S2 disp K d 32 GV:=fun _ _=>rd rfl rfl H (V2 (Lw H) hd<|rfl)
theorem A6z(hd:1<=d):R1 disp K d 37 (qT K):=fun _=>ll H hd (fun _ _=>rfl) 51 (e2 (Tt K) 3 8)
theorem A6o(hd:1<=d):R4 disp K d 42 (qV K):=fun _ _ _ _=>rl H hd
theorem Ac2(hd:2<=d):R1 disp K d 44 (Ox K):=fun _=>ll H hd (fun d hd=>V1 (Azx H) hd<|rfl) 51 (e5 (Fp K) 1 3 7 8 9)
theorem Κ(hd:1<=d):S2 disp K d 46 GQ:=fun _ _=>rd rfl rfl H (V2 (Lw H) hd<|rfl)
theorem Μ(hd:1<=d):S1 disp K d 47 GU:=fun _=>rd rfl rfl H (V1 (D5 H) hd<|rfl)
theorem π(hd:0<=d):S2 disp K d 48 FD:=fun _ _=>ld rfl rfl H rfl 51 (fun c r=>e4 (L9 c r K) 0 14 15 16)
theorem De(hd:1<=d):R1 disp K d 54 (Cf K):=fun _=>rl H hd
theorem YW(hd:1<=d):S2 disp K d 55 DN:=fun _ _=>rd rfl rfl H (V2 (Yr H) hd<|rfl)
theorem δ(hd:1<=d):S2 disp K d 56 EI:=fun _ _=>rd rfl rfl H (V1 (D5 H) hd<|V1 (Iq H) hd<|rfl)
theorem I2(hd:1<=d):R1 disp K d 57 (qL K):=fun _=>rl H hd
theorem Amd(hd:1<=d):R1 disp K d 64 (L2 K):=fun _=>rl H hd
theorem κ(hd:0<=d):S2 disp K d 69 EP:=fun _ _=>rd rfl rfl H rfl
theorem Aty(hd:1<=d):R1 disp K d 80 (wI K):=fun _=>rl H hd
theorem Uz(hd:1<=d):R2 disp K d 81 (G9 K):=fun _ _=>rl H hd
theorem I4(hd:2<=d):R2 disp K d 83 (Vj K):=fun _ _=>rl H hd fun d hd=>V1 (De H) hd<|rfl
theorem υ(hd:0<=d):S1 disp K d 87 FH:=fun _=>rd rfl rfl H rfl
theorem Oi(hd:1<=d):R1 disp K d 94 (Gx K):=fun _=>rl H hd
theorem Auv(hd:1<=d):R1 disp K d 106 (xi K):=fun _=>rl H hd
theorem Ato(hd:1<=d):R3 disp K d 110 (S7 K):=fun _ _ _=>rl H hd
omit H in
theorem Anl(c r:Ah)(K:Nat)(G:EV->EV->EV->Ab->R)(m:Nat):jS false (Wj K c) c r K 119 1637 [(2,fun A tm h ds=>K0 c r K G (A 0) (A 10) (A 11) h),(1,fun A tm h ds=>K0 c r K G (A 0) (A 10) (A 11) h),(0,jz false TT 119)] m=(fun m A tm h ds=>El c r K G m (A 0) (A 10) (A 11) (A 18) (A 19) h) m:=
 Mn (E:=fun m A tm h ds=>El c r K G m (A 0) (A 10) (A 11) (A 18) (A 19) h) rfl (fun m=>jG fun A tm h ds=>by kernel_rfl) m
omit H in
theorem Anm(c r:Ah)(K:Nat)(m:Nat):jS false (Wj K c) c r K 119 5 [(0,jz false TT 119)] m=(fun m A tm h ds=>Gk c r K m (A 0) (A 10) (A 11) h) m:=
 Bs1 (E:=fun m A tm h ds=>Gk c r K m (A 0) (A 10) (A 11) h) rfl (fun m=>(cut [true,true,false,false,true,true,false] (Anl c r K (Gk c r K m) K) (by kernel_rfl) (by kernel_rfl) rfl)) (fun m=>jG fun A tm h ds=>by kernel_rfl) m
theorem YR(hd:0<=d):S2 disp K d 119 DI:=fun _ _=>rm (q:=false) (D:=Wj K (Ag TT disp K d false)) (by kernel_rfl) rfl rfl H (rfl) (cut [true,false] (Anm (Ag TT disp K d false) (Ag TT disp K d true) K K) (by kernel_rfl) (by kernel_rfl) rfl)
theorem I'(hd:1<=d):R2 disp K d 122 (qQ K):=fun _ _=>rl H hd
theorem YZ(hd:1<=d):S1 disp K d 126 DR:=fun _=>ld rfl rfl H (V1 (De H) hd<|V1 (Ew H) hd<|rfl) 25 (fun c r=>e3 (Ol c r K) 0 9 10)
theorem Ara(hd:1<=d):R1 disp K d 157 (xj K):=fun _=>rl H hd
theorem Anf(hd:1<=d):R1 disp K d 171 (Sk K):=fun _=>rl H hd
theorem Tx(hd:1<=d):R1 disp K d 172 (Fg K):=fun _=>rl H hd
theorem Aj6(hd:1<=d):R1 disp K d 175 (Lb K):=fun _=>rl H hd
theorem Jy(hd:0<=d):S2 disp K d 201 Gz:=fun _ _=>ld rfl rfl H rfl 5 (fun c r=>e4 (Ce c r K) 0 5 6 7)
theorem Ib(hd:1<=d):R1 disp K d 205 (Ee K):=fun _=>rl H hd
theorem Ame(hd:2<=d):R1 disp K d 214 (Qm K):=fun _=>ll H hd (fun d hd=>V1 (Ib H) hd<|rfl) 51 (e4 (Ji K) 3 9 10 11)
theorem YB(hd:1<=d):S2 disp K d 53 CO:=fun _ _=>ld rfl rfl H (V1 (Oi H) hd<|V1 (De H) hd<|V1 (D5 H) hd<|rfl) 103 (fun c r=>e4 (Ir c r K) 0 3 6 25)
theorem Arp(hd:3<=d):R3 disp K d 79 (Q1 K):=fun _ _ _=>rl H hd fun d hd=>V1 (De H) hd<|V2 (F0 H) hd<|rfl
theorem ZS(hd:1<=d):S2 disp K d 85 EA:=fun _ _=>rd rfl rfl H (V2 (I' H) hd<|rfl)
theorem ZQ(hd:1<=d){l:Nat}(tm:Ba)(h:Ab)(A:EV){st:LoopState}{p:Option Code}(G:h.get l=some (.loop st p 85 19 tm [13] (Eb TT 85 0).2.2.1 (Eb TT 85 0).2.2.2 d0)):
 Ag TT disp K (d+1) true l [A] h=D_ (Ag TT disp K d false) (Ag TT disp K d true) K l (tmp tm 5) A h:=rr rfl rfl (rfl) G rfl (by kernel_rfl)
end
end
section
noncomputable section
section
variable (c r:Ah)(K l:Nat)(k0:A0)(k1:A1)(k2:A2)(k3:A3)(k4:A4)(k5:A5)(k6:A6)(k7:A7)(k8:A8)(k9:A9)(oi:ma)(oo:mb)(oq:mR)(m0:B0)(m1:B1)(m2:B2)(m3:B3)(m4:B4)(m5:B5)(m6:B6)(m7:B7)(m8:B8)(m9:B9)(ot:mP)(ov:mQ)(ow:mS)(base:Nat)(s:DX)(tm:Ba)(a b d e f g i j n o p q t u w x y z aa ab ad ae af ag ai aj an ao ap aq au aw ax ay az ba bb bd be bf bg bi bj bn bo bp bq bt bu bw bx bz da db dd de df dg di dj dn dp dq dt du dw dx dy dz ea eb ed ee ef eg ei ej en eo ep eq et eu ew ex ey ez fa fb fd fe ff fg fi fj fn fo fp fq ft fu fw fx fy fz ga gb gd ge gf gg gi gj gn go gp gq gt gu gw gx gy gz ia ib ie ig ii ij io ip iq it iu iw ix iy iz ja jb:EV)(h:Ab)(ds:List Nat)
def Wd:Ru K R:=
 gh a b fun d=>
 some (d,h)
def G1:R:=(.mk:Sg 0x1202200252002620e213e303d2a00323e [a,b] h [Ei (Wd K)]).F
def T1:Ru K R:=(.mk:Sg 0x122243 [a] h).F
def F6:Ru K R:=(.mk:Sg 0x12232211001 [a] h [cl0 (By (List.replicate 4 (.int .i64 0)++List.replicate 64 (.int .u8 0)) 34 68 0 []),Ei (Ef 34 68)]).F
def Dw:R:=(.mk:Sg 0x12100b023b0265e701e [a] h [Eg (F6 K)]).F
def G3:Ru K R:=(.mk:Sg 0x1000e321642c213e203 [a] h).F
def AE:Ru K R:=
 gh a b fun d=>
 some (d,h)
def Tn:R:=(.mk:Sg 0x1202200232004321e82a10223e [a,b] h [Ei (AE K)]).F
def I_:Ru K R:=
 H4 d fun e=>
 k3 a b e h
def JA:R:=
 fE 3 a h fun e=>
 Bp (Df [(0,1),(1,1)]) [(.int .i64 0),(.int .i64 0)] [(0,b),(1,d)] fun f=>
 Al (builtin TT .delete #[116,239] [e,f] h) fun _ h=>
 I_ K k3 a b d h
def Ka(K:Nat):Nat->A3
 | 0=>fun _ _ _ _=>none
 | m+1=>fun a b d h=>
  fE 0 a h fun e=>
  Al (Pr K e h) fun f h=>
  cE Iz .lss 3 d f
  (JA K (Ka K m) a b d h)
  (some (.tuple [],h))
def Ya:R:=
 Ka K K a b d h
def Qx:Ru K (Ru r (Ru c R)):=
 some (a,h)
def JB:R:=(.mk:Sg 0x131102110400318e701e679301578301002167fdec012166fcec012165fbec4fde33fce32fbe3 [a] h [c 184,Eg (Qx c r K)] [] [] [(.int .i64 (-1))]).F
def oy:Ru K R:=(.mk:Sg 0x1222e4e921007e32211001 [a] h [cl0 (By [.int .u8 0] 5 1 0 []),Ei (Ef 5 1)] [cu1 (fun d=>Bp (Df [(0,1),(1,1)]) [.An,.bool false] [(0,d)])]).F
def Ap3:Ru K R:=(.mk:Sg 0x1002 [] h).F
def Aoz:R:=(.mk:Sg 0x100004e023283209e [a,b] h [cl0 (Ap3 K)]).F
def Sl:R:=(.mk:Sg 0x12022002520000222e213e30300e2d213 [a] h [Ei (Aoz K)]).F
def Zu:Ru K (Ru r R):=(.mk:Sg 0x129200e547823601518e5 [a,b,d,e,f,g] h [c 194]).F
def JC:R:=(.mk:Sg 0x1456a9761025200e400218e801e983426601418e54fce33fbe3389e9 [a,b,d,e] h [c 194,cl6 (Zu c r K)]).F
def Zz:Ru K (Ru r (Ru c R)):=(.mk:Sg 0x1002 [] h).F
def JD:R:=(.mk:Sg 0x10100ee0230ee0218e701e32201 [a,b] h [c 97,cl0 (Zz c r K)]).F
def Yt:Ru K R:=(.mk:Sg 0x1222639e403e20de251f2e19e725403e51007e01439e603e23be9 [a,b,d] h [] [cu1 (fun b=>Tg .u8 b)] [] [(.int .u64 8)]).F
def JE:Ru K R:=(.mk:Sg 0x1222325e30de [a,b] h).F
def xk:Ru K R:=
 gh a b fun d=>
 some (d,h)
def Xm:R:=(.mk:Sg 0x12022002320090321e92a10223e [a] h [Ei (xk K)]).F
def JF:Ru K R:=(.mk:Sg 0x152321660c622107e403422007e203 [a,b] h [] [cu2 (fun d b=>il 1 d none (some b) (some b)),cu2 (fun f b=>il 1 f (some b) none none)]).F
def JG:R:=(.mk:Sg 0x143200b025021641cb021630c05e285409e [a,b,d,e] h [Ei (JF K)]).F
def JH:R:=(.mk:Sg 0x12024340025764002622e213e30301e2d5409e [a,b,d,e] h [Tu (JG K)]).F
def Kl:R:=(.mk:Sg 0x120243400235440000420eb2d213 [a,b] h [Tu (JH K)]).F
def xm:Ru K R:=
 gh a b fun d=>
 some (d,h)
def On:R:=(.mk:Sg 0x1202200232005321e82a3223e [a,b,d] h [Ei (xm K)]).F
def JI:Ru K R:=
 some (a,h)
def Za:R:=(.mk:Sg 0x13100d023284309e [a,b,d] h [Eg (JI K)]).F
def X0:R:=(.mk:Sg 0x1202430023530090422ea2d00220e [a,b] h [Ld (Za K)]).F
def JJ:Ru K R:=(.mk:Sg 0x12320040ae0123603e [a,b] h [Ei k2] [] [] [(.int .u64 8)]).F
def Mr(K:Nat):Nat->A2
 | 0=>fun _ _ _=>none
 | m+1=>fun a b h=>
  iA (bin TT .shr 3) a (.int .u64 8) fun d=>
  cE mU .gtr 3 d (.int .i64 0)
  (JJ K (Mr K m) a b h)
  (X0 K a b h)
def W9:R:=
 Mr K K a (.int .i64 1) h
def JK:Ru K R:=(.mk:Sg 0x1002200e23211303001 [a] h [cl0 (By [.int .u8 0] 5 1 0 []),Ei (Ef 5 1)]).F
def O1:R:=(.mk:Sg 0x1310003e0b0200e628213 [a] h [Eg (JK K)]).F
def JL:Ru K (Ru r R):=(.mk:Sg 0x12276230142116e203 [a,b,d,e] h [Ld (fun g d e=>c 211 [g,d,.func 212 [] [e]])]).F
def JM:R:=(.mk:Sg 0x1476541003e0232820fe43201512e9 [a,b,d,e] h [Ei (G1 K),Tu (JL c r K)]).F
def JN:Ru K R:=(.mk:Sg 0x112e41104e2432e6232e5 [a,b] h).F
def JO:Ru K R:=
 H4 e fun f=>
 k4 a b d f h
def JP:R:=(.mk:Sg 0x1ba9840032162f1e817ea7132e19e245403e20de20ae5b75132e19e20de232b52132e19e0ee [a,b,d,e] h [Tu (JO K k4)]).F
def K1(K:Nat):Nat->A4
 | 0=>fun _ _ _ _ _=>none
 | m+1=>fun a b d e h=>
  cE Iz .lss 3 e (.int .i64 64)
  (JP K (K1 K m) a b d e h)
  (JN K a d h)
def Pq:R:=(.mk:Sg 0x100234400012e05e412e9212e9 [a,b] h [Tu (K1 K K)] [] [List.replicate 64 (.int .u8 0)]).F
def Ep:Ru K R:=(.mk:Sg 0x1000e000e521633c9285409e [a,b,d,e] h).F
def Em:R:=(.mk:Sg 0x1204324002543400650bea4d [a,b,d,e,f] h [Tu (Ep K)]).F
def Gd:R:=(.mk:Sg 0x120543250027654500c0225e23301e5a [a,b,d,e] h [cl5 (Em K)]).F
def Hw:R:=(.mk:Sg 0x120243400235440060424eb2dc0324e [a,b] h [Tu (Gd K)]).F
def Gb:Ru K R:=(.mk:Sg 0x105e000200e002200e321ae80023701e201ae200201203 [a] h [Ei oz]).F
def Oh:Ru K R:=(.mk:Sg 0x1002 [] h).F
def D7:R:=(.mk:Sg 0x10000ae0236023701e0ce023c023701e233 [a] h [cl0 (Oh K)]).F
def Q2:Ru K R:=(.mk:Sg 0x1000e321640c42201203 [a,b] h [Ei (Ef 5 1)]).F
def Pm:Ru K R:=(.mk:Sg 0x100012e71204e2732e6232e54232e15e203 [a,b,d] h).F
def Jl:R:=(.mk:Sg 0x15433000be0012e61204e2632e6632e501e287609e [a,b,d,e,f,g] h [Ld (Pm K)]).F
def Hy:R:=(.mk:Sg 0x120245766002578a96002923e213e60303e2d00620e0ce0012e51204e2532e6332e501ec023701e433012e05e012e05e [a,b] h [cl6 (Jl K)] [] [List.replicate 64 (.int .u8 0)]).F
def Ou:Ru K R:=(.mk:Sg 0x10023232e627fff4f01e17e8632e15e28201fe04fd7232e52fc03fcb5232e15e31c03f9011e273011e0ee [a,b,d] h [Ei (fun d i=>P0 c r d [i])]).F
def Fs:R:=(.mk:Sg 0x15433000be023286509e [a,b,d,e,f] h [Ld (Ou c r K)]).F
def Kc:R:=(.mk:Sg 0x1202543500258765002623e213e30302e2d00320e [a,b,d] h [cl5 (Fs c r K)]).F
def JQ:R:=(.mk:Sg 0x112e51104e2532e623201632e5332e5012e05e212e9 [a,b] h [Ei (Pq K)] [] [List.replicate 64 (.int .u8 0)]).F
def N6:Ru K R:=(.mk:Sg 0x10025021634c3021623c [a] h).F
def Gs:R:=(.mk:Sg 0x1311022200218e801e2101 [a] h [Eg (D7 K),Eg (N6 K)]).F
def xn:Ru K R:=
 gh a b fun d=>
 some (d,h)
def Qs:R:=(.mk:Sg 0x1202200232005321e82a3223e [a,b,d] h [Ei (xn K)]).F
def Zo:Ru K R:=(.mk:Sg 0x1402 [] h).F
def Rn:Ru K R:=
 gh a b fun d=>
 some (d,h)
def My:Ru K R:=
 gh a b fun d=>
 some (d,h)
def Rk:R:=(.mk:Sg 0x1202200262002343e702e0007e212e53614e05e2a430be [a,b,d] h [Ei (My K)] [cu0 (Bp (N8 1) (List.replicate 32 (.int .u8 0)) [])]).F
def Rq:Ru K R:=
 gh a b fun d=>
 some (d,h)
def Qw:R:=(.mk:Sg 0x10402022302423000224e544c2a10224e3240ee6023701e202532026932021043012011ee63454409e2a10224e3241ae3023701e2022102421000224e544c2ac010230132412e1023701e204289e9 [a] h [Ld (Qs K),Ei (Rn K),Ld (Rk K),Ei (Rq K),cl0 (Zo K)] [] [] [(.int .i64 256)]).F
def Pk:Ru K (Ru r (Ru c R)):=(.mk:Sg 0x1002 [] h).F
def JR:R:=(.mk:Sg 0x10c00c0242b11e57236e5284b5414e21a3275191170ee13e0123701e2226281314ad023701e2226271314a9023701e22516161123701e22515168023701e2226241314ac023701e32343e012e06e20ce2623131403e6023701e2223732142431400e3023701e2227211210133ae500e1023701e204216e9 [a,b] h [Eg (Ox K),c 29,c 45,c 32,c 46,c 47,c 17,c 48,c 49,Eg (Hq K),Eg (Bm K),c 50,cl0 (Pk c r K)] [] [List.replicate 32 (.int .u8 0)] [(.int .i64 9),(.int .i64 6)]).F
def Xn(c:Ah)(r:Ah)(K:Nat)(tm:Ba)(a:EV)(h:Ab)(ds:List Nat):R:=
 Vz 1 a (.bool false) h fun h=>
 Dt ds h fun h=>Gi TT [.c a 4] h
def DH:R:=
 (fun(tm:Ba) (ds:List Nat)=>
 Pz 3 b h fun d h=>
 iZ (.cells [(.bool false)] 4) h fun e h=>
 Al (wI K a h) fun f h=>
 P9 c TT 39 12 0 f ((((tm.put 3 (some d)).put 4 (some e)).put 6 (some a)).put 7 (some f)) h ds (fun h ds=>
 Xn c r K ((((tm.put 3 (some d)).put 4 (some e)).put 6 (some a)).put 7 (some f)) e h ds) (fun id h ds=>
 Bb (Nat.beq 0 id) (Xn c r K ((((tm.put 3 (some d)).put 4 (some e)).put 6 (some a)).put 7 (some f)) e h ds) (none)) (fun h ds=>
 Dt ds h fun h=>Gi TT [.c e 4] h)) ((Tr.nil.put 0 (some a)).put 1 (some b)) []
def Z6:Ru K (Ru r (Ru c R)):=(.mk:Sg 0x1010000504168253701e20de [a,b,d] h [cl0 (Wh l false .done (some .ret)),cl0 (Wh l true .ready none)]).F
def DD:R:=
 Ez l h fun h=>Z6 c r K l a b d h
def xo(c:Ah)(r:Ah)(K:Nat)(tm:Ba)(a:EV)(h:Ab)(ds:List Nat):R:=
 Vz 1 a (.bool false) h fun h=>
 Dt ds h fun h=>Gi TT [.c a 4] h
def JS:R:=
 (fun(tm:Ba) (ds:List Nat)=>
 Pz 3 b h fun d h=>
 iZ (.cells [(.bool false)] 4) h fun e h=>
 Al (xi K a h) fun f h=>
 P9 c TT 66 14 0 f ((((tm.put 3 (some d)).put 4 (some e)).put 7 (some a)).put 8 (some f)) h ds (fun h ds=>
 xo c r K ((((tm.put 3 (some d)).put 4 (some e)).put 7 (some a)).put 8 (some f)) e h ds) (fun id h ds=>
 Bb (Nat.beq 0 id) (xo c r K ((((tm.put 3 (some d)).put 4 (some e)).put 7 (some a)).put 8 (some f)) e h ds) (none)) (fun h ds=>
 Dt ds h fun h=>Gi TT [.c e 4] h)) ((Tr.nil.put 0 (some a)).put 1 (some b)) []
def JT:Ru K (Ru r (Ru c R)):=(.mk:Sg 0x1010000504168253701e20de [a,b,d] h [cl0 (Wh l false .done (some .ret)),cl0 (Wh l true .ready none)]).F
def JU:R:=
 Ez l h fun h=>JT c r K l a b d h
def JV:Ru K (Ru r (Ru c R)):=(.mk:Sg 0x1002 [] h).F
def R7:R:=(.mk:Sg 0x100005e023283209e [a,b] h [cl0 (JV c r K)]).F
def JW:R:=(.mk:Sg 0x12022202622000224e9221142116e86307e2d00220e232011e5740de404b265273b30c0ee339 [a,b] h [Ei (Er K),Ei (fun o d=>c 182 [o,.func 183 [] [d]]),Ei (R7 c r K)]).F
def qA:R:=(.mk:Sg 0x178e91104e291ee671ee54221151007e20ce4101078e05e078e05e [a] h [Eg (O1 K),builtin TT .copy #[106,106]] [cu1 (fun d=>Oa 44 1 d none none none)] [List.replicate 44 (.int .u8 0)]).F
def O4:Ru K R:=(.mk:Sg 0x10024021654c0021643c0021632cb021620c [a] h).F
def Ha:R:=(.mk:Sg 0x1311022200218e801e2101 [a] h [Eg (D7 K),Eg (O4 K)]).F
def Ur:Ru K (Ru r (Ru c R)):=
 some (a,h)
def O5:Ru K (Ru r (Ru c R)):=
 H4 f fun g=>
 k5 a b d e g h
def JX:R:=
 Al (G9 K a e h) fun i h=>
 O5 c r K k5 a b d f g h
def JY:R:=
 Al (P0 c r b [e] h) fun i h=>
 iX i fun j=>
 gm j
 (H4 d fun n=>
 O5 c r K k5 a b n f g h)
 (JX c r K k5 a b d e f g h)
def JZ:R:=(.mk:Sg 0x19837656207110400218e801e20ce2101 [a,b,d,e,f] h [Eg (Gb K),Eg (Ur c r K),cl6 (JY c r K k5)]).F
def K3(c:Ah)(r:Ah)(K:Nat):Nat->A5
 | 0=>fun _ _ _ _ _ _=>none
 | m+1=>fun a b d e f h=>
  cE Iz .lss 3 f e
  (JZ c r K (K3 c r K m) a b d e f h)
  (Ur c r K d h)
def J':R:=(.mk:Sg 0x100200435102101 [a,b] h [Eg (E9 K),cl5 (K3 c r K K)]).F
def Fj:Ru K (Ru r (Ru c R)):=
 gh a b fun d=>
 some (d,h)
def Gn:R:=(.mk:Sg 0x12022202622020fe62211210130305e2a540be [a,b,d,e] h [Eg (Cq K),c 66,Ei (Fj c r K)]).F
def Iw:R:=(.mk:Sg 0x120243410257641020fe5220131303e2a540be [a,b,d,e] h [c 39,Tu (Gn c r K)]).F
def Pb:R:=(.mk:Sg 0x120243410257641020fe5220130303e2a540be [a,b,d,e] h [Ei (Eu K),Tu (Iw c r K)]).F
def Us:R:=(.mk:Sg 0x12024340023544005425ea2a650be [a,b,d,e,f] h [Tu (Pb c r K)]).F
def DL:R:=(.mk:Sg 0x12027cb530238dc5308c25eb2a00223ea22212111703421ae20ce2101203 [a,b] h [Eg (L2 K),Eg (Cf K),Ei (Er K),cl5 (Us c r K)]).F
end
variable{d:Nat}(H:Ca disp)
include H
theorem La(hd:1<=d):R2 disp K d 58 (G1 K):=fun _ _=>rl H hd
theorem Aqd(hd:1<=d):R1 disp K d 130 (T1 K):=fun _=>rl H hd
theorem Sr(hd:1<=d):R1 disp K d 132 (Dw K):=fun _=>rl H hd
theorem Yp(hd:1<=d):R1 disp K d 134 (G3 K):=fun _=>rl H hd
theorem Ay0(hd:1<=d):R2 disp K d 135 (Tn K):=fun _ _=>rl H hd
theorem Anp(hd:2<=d):R3 disp K d 141 (Ya K):=fun _ _ _=>ll H hd (fun d hd=>V1 (IX H) hd<|rfl) 5 (e3 (Ka K) 0 1 6)
theorem Aj0(hd:0<=d):S1 disp K d 143 JB:=fun _=>rd rfl rfl H rfl
theorem tP(hd:1<=d):R1 disp K d 146 (oy K):=fun _=>rl H hd
theorem Ane(hd:1<=d):R1 disp K d 150 (Sl K):=fun _=>rl H hd
theorem Al7(hd:0<=d):S4 disp K d 160 JC:=fun _ _ _ _=>rd rfl rfl H rfl
theorem Alp(hd:0<=d):S2 disp K d 163 JD:=fun _ _=>rd rfl rfl H rfl
theorem Asy(hd:1<=d):R3 disp K d 165 (Yt K):=fun _ _ _=>rl H hd
theorem Ao7(hd:1<=d):R2 disp K d 183 (JE K):=fun _ _=>rl H hd
theorem J_(hd:1<=d):R1 disp K d 185 (Xm K):=fun _=>rl H hd
theorem Z1(hd:1<=d):R2 disp K d 186 (Kl K):=fun _ _=>rl H hd
theorem Axh(hd:1<=d):R3 disp K d 187 (On K):=fun _ _ _=>rl H hd
theorem Ay6(hd:1<=d):R1 disp K d 188 (W9 K):=fun _=>ll H hd (fun _ _=>rfl) 27 (e2 (Mr K) 0 3)
theorem X1(hd:1<=d):R1 disp K d 189 (O1 K):=fun _=>rl H hd
theorem Ani(hd:1<=d):S4 disp K d 198 JM:=fun _ _ _ _=>rd rfl rfl H (V2 (La H) hd<|rfl)
theorem KA(hd:1<=d):R2 disp K d 199 (Pq K):=fun _ _=>ll H hd (fun _ _=>rfl) 25 (e4 (K1 K) 2 3 4 6)
theorem Ze(hd:1<=d):R2 disp K d 200 (Hw K):=fun _ _=>rl H hd
theorem Sw(hd:1<=d):R1 disp K d 202 (Gb K):=fun _=>rl H hd
theorem H3(hd:1<=d):R1 disp K d 207 (D7 K):=fun _=>rl H hd
theorem KB(hd:1<=d):R2 disp K d 209 (Q2 K):=fun _ _=>rl H hd
theorem Zg(hd:1<=d):R2 disp K d 210 (Hy K):=fun _ _=>rl H hd
theorem Xe(hd:0<=d):S3 disp K d 211 Kc:=fun _ _ _=>rd rfl rfl H rfl
theorem Akg(hd:2<=d):R2 disp K d 212 (JQ K):=fun _ _=>rl H hd fun d hd=>V2 (KA H) hd<|rfl
theorem Xf(hd:2<=d):R1 disp K d 216 (Gs K):=fun _=>rl H hd fun d hd=>V1 (H3 H) hd<|rfl
theorem KC(hd:1<=d):R3 disp K d 217 (Qs K):=fun _ _ _=>rl H hd
theorem Aly(hd:2<=d):R1 disp K d 218 (Qw K):=fun _=>rl H hd fun d hd=>V3 (KC H) hd<|rfl
theorem Ajp(hd:2<=d):S2 disp K d 9 JR:=fun _ _=>rd rfl rfl H (V1 (Ac2 H) hd<|V1 (IW H) hd<|V1 (D5 H) hd<|rfl)
theorem YQ(hd:1<=d):S2 disp K d 39 DH:=fun _ _=>rd rfl rfl H (V1 (Aty H) hd<|rfl)
theorem YN(hd:1<=d){l:Nat}(tm:Ba)(h:Ab)(A:EV){st:LoopState}{p:Option Code}(G:h.get l=some (.loop st p 39 12 tm [8] (Eb TT 39 0).2.2.1 (Eb TT 39 0).2.2.2 d0)):
 Ag TT disp K (d+1) true l [A] h=DD (Ag TT disp K d false) (Ag TT disp K d true) K l (tmp tm 3) (tmp tm 4) A h:=rr rfl rfl (rfl) G rfl (by kernel_rfl)
theorem Awk(hd:1<=d):S2 disp K d 66 JS:=fun _ _=>rd rfl rfl H (V1 (Auv H) hd<|rfl)
theorem Apj(hd:1<=d){l:Nat}(tm:Ba)(h:Ab)(G:EV)(A:EV){st:LoopState}{p:Option Code}(J:h.get l=some (.loop st p 66 14 tm [9,10] (Eb TT 66 0).2.2.1 (Eb TT 66 0).2.2.2 d0)):
 Ag TT disp K (d+1) true l [G,A] h=JU (Ag TT disp K d false) (Ag TT disp K d true) K l (tmp tm 3) (tmp tm 4) A h:=rr rfl rfl (rfl) J rfl (by kernel_rfl)
theorem Asw(hd:2<=d):S2 disp K d 142 JW:=fun _ _=>rd rfl rfl H (V2 (F0 H) hd<|rfl)
theorem KD(hd:2<=d):R1 disp K d 154 (qA K):=fun _=>rl H hd fun d hd=>V1 (X1 H) hd<|rfl
theorem Xx(hd:2<=d):R1 disp K d 181 (Ha K):=fun _=>rl H hd fun d hd=>V1 (H3 H) hd<|rfl
theorem Aon(hd:1<=d):S2 disp K d 182 J':=fun _ _=>ld rfl rfl H (V1 (Ky H) hd<|V2 (Uz H) hd<|V1 (Sw H) hd<|rfl) 51 (fun c r=>e5 (K3 c r K) 0 1 5 9 10)
theorem YU(hd:3<=d):S2 disp K d 27 DL:=fun _ _=>rd rfl rfl H (V1 (Amd H) hd<|V1 (De H) hd<|V2 (F0 H) hd<|V1 (Iq H) hd<|V2 (Gv H) hd<|rfl)
end
end
section
noncomputable section
section
variable (c r:Ah)(K l:Nat)(k0:A0)(k1:A1)(k2:A2)(k3:A3)(k4:A4)(k5:A5)(k6:A6)(k7:A7)(k8:A8)(k9:A9)(oi:ma)(oo:mb)(oq:mR)(m0:B0)(m1:B1)(m2:B2)(m3:B3)(m4:B4)(m5:B5)(m6:B6)(m7:B7)(m8:B8)(m9:B9)(ot:mP)(ov:mQ)(ow:mS)(base:Nat)(s:DX)(tm:Ba)(a b d e f g i j n o p q t u w x y z aa ab ad ae af ag ai aj an ao ap aq au aw ax ay az ba bb bd be bf bg bi bj bn bo bp bq bt bu bw bx bz da db dd de df dg di dj dn dp dq dt du dw dx dy dz ea eb ed ee ef eg ei ej en eo ep eq et eu ew ex ey ez fa fb fd fe ff fg fi fj fn fo fp fq ft fu fw fx fy fz ga gb gd ge gf gg gi gj gn go gp gq gt gu gw gx gy gz ia ib ie ig ii ij io ip iq it iu iw ix iy iz ja jb:EV)(h:Ab)(ds:List Nat)
def EF:Ru K (Ru r (Ru c R)):=
 some (a,h)
def Pc:Ru K (Ru r (Ru c R)):=
 H4 e fun f=>
 k4 a b d f h
def Uo:R:=(.mk:Sg 0x1764340076534007288709e [a,b,d,e,f,g,i] h [Tu (Pc c r K k4)]).F
def EE:R:=(.mk:Sg 0x12028754371025ba8767102820e5220132307e2d01324e [a,b,d,e,f,g] h [Ei (Ls K),cl7 (Uo c r K k4)] [] [] [(.int .i64 (-1))]).F
def K6:R:=
 gX i j fun n=>
 gm n
 (Pc c r K k4 a b f g h)
 (EE c r K k4 a b d e f g h)
def Pj:R:=(.mk:Sg 0x120287654381024a9876581020fe5320104e2d9809e [a,b,d,e,f,g,i,j] h [c 167,cl8 (K6 c r K k4)]).F
def ED:R:=(.mk:Sg 0x12029849768302700ed900ecb8302522e21007e21217034301fe0fe2d20fe7421162201223 [a,b,d,e] h [Ei (Ls K),c 27,Eg (Cf K),cl8 (Pj c r K k4)] [cu1 (fun p=>ky 2 false 0 p)]).F
def Iu(c:Ah)(r:Ah)(K:Nat):Nat->A4
 | 0=>fun _ _ _ _ _=>none
 | m+1=>fun a b d e h=>
  cE Iz .lss 3 e d
  (ED c r K (Iu c r K m) a b d e h)
  (EF c r K b h)
def EG:R:=
 fE 0 a h fun b=>
 Al (Cf K b h) fun d h=>
 Al (Dd K d h) fun e h=>
 Iu c r K K a (.int .i64 (-1)) e (.int .i64 0) h
def Up:Ru K (Ru r R):=(.mk:Sg 0x1000e000e3101628430be [a,b,d] h [c 91]).F
def KE:R:=(.mk:Sg 0x120233102563102620e210130302e2a00323e [a,b] h [Eg (N4 K),Ld (Up c r K)]).F
def KF:Ru K R:=(.mk:Sg 0x1002321643c20ae233 [a] h).F
def Ig:R:=(.mk:Sg 0x1511003e0232820fe432010ee02328243 [a,b] h [Ei (G1 K),Eg (KF K)]).F
def H9:Ru K R:=(.mk:Sg 0x1002200e1021ee213e203 [a] h).F
def Ob:R:=(.mk:Sg 0x1b120c12030216b3cc233701ea13213e8031021673c321623ff3fa17e60c242170e772101618e432e5405b200e4011e0ee [a,b] h [Eg (fun e=>By (List.replicate 64 (.int .u8 0)) 32 64 1 [(0,e)]),Ei (Ef 32 64),Eg (H9 K)]).F
def Il:R:=(.mk:Sg 0x14320007e000200e63023701e233 [a,b] h [Ei (Ob K)]).F
def D6:R:=(.mk:Sg 0x134210200200e500218e801e3101312e9 [a,b] h [Eg (D7 K),Ei (Il K)]).F
def Ww:Ru K (Ru r (Ru c R)):=(.mk:Sg 0x1002 [] h).F
def Kh:Ru K (Ru r (Ru c R)):=
 H4 d fun e=>
 k3 a b e h
def Wn:R:=(.mk:Sg 0x165331022200218e801e32201 [a,b,d,e] h [c 56,Ld (Kh c r K k3)]).F
def Xb:R:=(.mk:Sg 0x1656442065431062820fe42201 [a,b,d] h [c 55,Ld (Kh c r K k3),Tu (Wn c r K k3)]).F
def Fu(c:Ah)(r:Ah)(K:Nat):Nat->A3
 | 0=>fun _ _ _ _=>none
 | m+1=>fun a b d h=>
  cE Iz .lss 3 d b
  (Xb c r K (Fu c r K m) a b d h)
  (Ww c r K h)
def Wt:R:=(.mk:Sg 0x1002532021112101203 [a] h [Eg (Cf K),Eg (Dd K),Ld (Fu c r K K)]).F
def Wv:R:=(.mk:Sg 0x105e11022200218e801e20ce2a20ffffff6f0ae723574007e00e3800006f08e211e23c0005f04e210ec3c21e004fd110ea3c2e2e8010e83c773111e0ee42162014e53c20ae20423c [a] h [c 53,Eg (Wt c r K)] [cu4 (fun n p t u=>Bp (Df [(0,1),(1,1),(2,1),(3,1)]) [.int .i64 0,.int .i64 0,.int .i64 0,.Bz] [(0,n),(1,p),(2,t),(3,u)])]).F
def EO:R:=(.mk:Sg 0x1512022200218e801e21112101203 [a] h [Eg (Bm K),c 52,Eg (Wv c r K)]).F
def KG:Ru r (Ru c R):=(.mk:Sg 0x1225220152116e263 [a,b,d] h [Ei (G9 K)]).F
def KH:R:=(.mk:Sg 0x137632006e023286521103e0230023301e5220126520c [a,b] h [Ei (Er K),c 66,Ld (KG c r K)]).F
def Yl:Ru K R:=
 gh a b fun d=>
 some (d,h)
def FY:R:=(.mk:Sg 0x120220024200c0221e413eb2a10223e213e [a] h [Ei (Yl K)]).F
def FX:Ru K R:=
 H4 f fun g=>
 k5 a b d e g h
def FW:R:=(.mk:Sg 0x1cba9851040232820fe26201204246e013e06e213e56413e15e [a,b,d,e,f] h [Ei (Vj K),cl5 (FX K k5)] [] [[.int .i64 0]++List.replicate 32 (.int .u8 0)]).F
def Oc(K:Nat):Nat->A5
 | 0=>fun _ _ _ _ _ _=>none
 | m+1=>fun a b d e f h=>
  cE Iz .lss 3 f e
  (FW K (Oc K m) a b d e f h)
  (FY K b h)
def Xz:R:=
 Fz b fun d=>
 Oc K K a b b d (.int .i64 0) h
def FR:Ru r R:=(.mk:Sg 0x1222522121112101203 [a] h [Eg (Cf K),Eg (Od K),c 49]).F
def KI:Ru r R:=(.mk:Sg 0x1c1202b211636e5321691c210121007e613214e036e06e236e500236e15e213 [a] h [Eg (Dw K),c 133,Eg k1] [cu1 (fun g=>il 68 g (some (.int .i64 1)) none none)] [List.replicate 4 (.int .i64 0)++List.replicate 64 (.int .u8 0)]).F
def Kt(c:Ah)(r:Ah)(K:Nat)(k1:A1)(base:Nat)(s:DX)(a:EV)(b:EV)(d:EV)(h:Ab):R:=
 gh b d fun e=>
 gm e
 (KI c r K k1 a h)
 (some (.tuple [],h))
def Nt:R:=
 gh b d fun e=>
 ir e
 (jw 1 18 262143 base a s h fun s f=>
 Ve 68 f (.int .i64 0) fun g=>
 gZ 0 21 2097151 base g s h fun s i=>
 jw 0 25 29392895 base a s h fun s j=>
 Kw 26 62947327 s h (fun h=>(Rx K j h)) fun n h s=>
 j9 i n fun o=>
 Kt c r K k1 base s a e o h)
 (Kt c r K k1 base s a e tU h)
def Km(c:Ah)(r:Ah)(K:Nat):Nat->A1
 | 0=>fun _ _=>none
 | m+1=>fun a h=>
  Yk h fun base s=>
  jw 0 3 7 base a s h fun s b=>
  Kw 4 15 s h (fun h=>(T1 K b h)) fun d h s=>
  iX d fun e=>
  ir e
  (jw 1 10 1023 base a s h fun s f=>
  Fz f fun g=>
  jk g (.int .i64 0) fun i=>
  Nt c r K (Km c r K m) base s a e i h)
  (Nt c r K (Km c r K m) base s a e tU h)
def Azr:R:=
 Km c r K K a h
def KJ:Ru K R:=(.mk:Sg 0x1002 [] h).F
def KK:Ru K R:=
 H4 d fun e=>
 k3 a b e h
def KL:R:=
 mT 1 a d h fun e=>
 Al (G3 K e h) fun f h=>
 KK K k3 a b d h
def J6(K:Nat):Nat->A3
 | 0=>fun _ _ _ _=>none
 | m+1=>fun a b d h=>
  cE Iz .lss 3 d b
  (KL K (J6 K m) a b d h)
  (KJ K h)
def KM:R:=(.mk:Sg 0x10023300213e503321643c20ae233 [a] h [Ld (J6 K K)]).F
def R9:R:=(.mk:Sg 0x131000ee02328243 [a] h [Eg (KM K)]).F
def Sc:Ru K (Ru r (Ru c R)):=(.mk:Sg 0x1002 [] h).F
def Lg:R:=(.mk:Sg 0x10100ee0230ee0218e701e2101 [a] h [c 143,cl0 (Sc c r K)]).F
def Lh:R:=(.mk:Sg 0x13100002328430be [a,b,d] h [Eg (Lg c r K)]).F
def Sa:R:=(.mk:Sg 0x1202831024a3102a25e8fce3c2a2825e6fbe3622014f9e31021642115e2fae3 [a,b] h [c 142,Ld (Lh c r K)]).F
def Vd:R:=(.mk:Sg 0x17622006e023286521103e0230023301e5220126521c [a,b] h [Ei (Er K),Ei (Eu K),Ei (Sa c r K)]).F
def KN:Ru K R:=
 some (a,h)
def KO:Ru K R:=
 H4 f fun g=>
 k5 a b d e g h
def KP:R:=(.mk:Sg 0x1a98265104623012f2e531be64116e [a,b,d,e,f] h [Ld (Yt K),cl5 (KO K k5)]).F
def Og(K:Nat):Nat->A5
 | 0=>fun _ _ _ _ _ _=>none
 | m+1=>fun a b d e f h=>
  cE Iz .lss 3 f e
  (KP K (Og K m) a b d e f h)
  (KN K b h)
def xp:R:=
 Fz d fun e=>
 Og K K a b d e (.int .i64 0) h
def Xh:R:=(.mk:Sg 0x1222101263 [a] h [Eg (Fg K)]).F
def KQ:Ru K R:=
 some (a,h)
def KR:Ru K R:=
 H4 e fun f=>
 k4 a b d f h
def KS:R:=(.mk:Sg 0x1ba92400273303e243503e21107e7d01fe21007e53116e [a,b,d,e] h [Tu (KR K k4)] [cu1 (fun f=>Tg .i64 f),cu1 (fun i=>Tg .u64 i)]).F
def K5(K:Nat):Nat->A4
 | 0=>fun _ _ _ _ _=>none
 | m+1=>fun a b d e h=>
  cE Iz .lss 3 e d
  (KS K (K5 K m) a b d e h)
  (KQ K a h)
def KT:R:=(.mk:Sg 0x1002300410213e32201 [a,b] h [Ei (Kl K),Tu (K5 K K)]).F
def Eo:R:=(.mk:Sg 0x154220002411172820fe3101 [a,b] h [Eg (Xm K),Eg (fun a=>Kl K a (.int .i64 (-1))),Ei (KT K)]).F
def Mf:R:=
 Al (Kl K a b h) fun d h=>
 some (d,h)
def Ho:Ru K R:=
 gh a b fun d=>
 some (d,h)
def J7:R:=(.mk:Sg 0x1202210242102101344c2a430be [a,b,d] h [Eg (fun f=>On K f (.int .i64 0) (.int .i64 281474976710655)),Ei (Ho K)]).F
def Ny:R:=(.mk:Sg 0x120233102453102101334d2a430be [a,b,d] h [Eg (fun f=>On K f (.int .i64 1) (.int .i64 4294967295)),Ld (J7 K)]).F
def Sv:R:=(.mk:Sg 0x120233102453102101324d2a430be [a,b,d] h [Eg (fun f=>On K f (.int .i64 0) (.int .i64 65535)),Ld (Ny K)]).F
def Ku:R:=(.mk:Sg 0x120243202463202111414d2a8010230120427ae9 [a] h [Ld (On K),Eg (fun f=>On K f (.int .i64 0) (.int .i64 65535)),Ld (Sv K)]).F
def vW:Ru K R:=
 H4 e fun f=>
 k4 a b d f h
def vV:R:=(.mk:Sg 0x1ba284200183603e321660c24211210141007e203 [a,b,d,e] h [Eg (fun g=>By [.int .u8 0] 5 1 1 [(0,g)]),Ei (Ef 5 1),Tu (vW K k4)] [cu1 (fun b=>Tg .u8 b)] [] [(.int .u64 8)]).F
def Jw(K:Nat):Nat->A4
 | 0=>fun _ _ _ _ _=>none
 | m+1=>fun a b d e h=>
  cE Iz .lss 3 e d
  (vV K (Jw K m) a b d e h)
  (some (.tuple [],h))
def v8:R:=
 Jw K K a d b (.int .i64 0) h
def Pp:R:=(.mk:Sg 0x1543300000e5021631ca286509e [a,b,d,e,f] h [Ld (v8 K)]).F
def Eh:R:=(.mk:Sg 0x1202654520248765206222e611101e2d20fe3101 [a,b,d] h [Eg (Xm K),Eg (W9 K),cl5 (Pp K)]).F
def Qj:Ru K (Ru r (Ru c R)):=
 H4 d fun e=>
 m3 ((tm.put 26 (some e)).put 12 (some e)) a b e h ds
def KU:R:=
 Ve 1 a d fun e=>
 Et e h fun f=>
 jE 1 [(.int .i64 0)] 3 d h fun g h=>
 Al (xj K f h) fun i h=>
 P9 c TT 156 27 0 i (((((((tm.put 14 (some d)).put 15 (some e)).put 16 (some f)).put 3 (some g)).put 4 (some f)).put 17 (some f)).put 18 (some i)) h ds (fun h ds=>
 Qj c r K m3 (((((((tm.put 14 (some d)).put 15 (some e)).put 16 (some f)).put 3 (some g)).put 4 (some f)).put 17 (some f)).put 18 (some i)) a b d h ds) (fun id h ds=>
 Bb (Nat.beq 2 id) (Qj c r K m3 (((((((tm.put 14 (some d)).put 15 (some e)).put 16 (some f)).put 3 (some g)).put 4 (some f)).put 17 (some f)).put 18 (some i)) a b d h ds) (Bb (Nat.beq 1 id) (Qj c r K m3 (((((((tm.put 14 (some d)).put 15 (some e)).put 16 (some f)).put 3 (some g)).put 4 (some f)).put 17 (some f)).put 18 (some i)) a b d h ds) (Bb (Nat.beq 0 id) (Dt ds h fun h=>some (.tuple [],h)) (none)))) (fun h ds=>
 tB tU h ds)
def Mo(c:Ah)(r:Ah)(K:Nat):Nat->B3
 | 0=>fun _ _ _ _ _ _=>none
 | m+1=>fun tm a b d h ds=>
  jj d b fun e=>
  gm e
  (KU c r K (Mo c r K m) (tm.put 13 (some e)) a b d h ds)
  (tB tU h ds)
def KV:R:=
 (fun(tm:Ba) (ds:List Nat)=>
 Pz 159 a h fun d h=>
 Et b h fun e=>
 jv e fun f=>
 Xg 6 f fun g=>
 Et g h fun i=>
 Fz i fun j=>
 Mo c r K K (((((((tm.put 2 (some d)).put 7 (some e)).put 8 (some f)).put 9 (some g)).put 10 (some i)).put 11 (some j)).put 12 (some (.int .i64 0))) i j (.int .i64 0) h ds) ((Tr.nil.put 0 (some a)).put 1 (some b)) []
def Yf:Ru K R:=(.mk:Sg 0x102001032820fe62330140de20de [a,b,d] h [Ld (fun e f d=>P0 c r e [f,d]),cl0 (Wh l false .done (some .ret)),cl0 (Wh l true .ready none)]).F
def KW:R:=
 Ez l h fun h=>Yf c r K l a b d h
def Wi(c:Ah)(r:Ah)(K:Nat)(tm:Ba)(a:EV)(h:Ab)(ds:List Nat):R:=
 Vz 1 a (.bool true) h fun h=>
 Dt ds h fun h=>Gi TT [.c a 4] h
def DY:R:=
 (fun(tm:Ba) (ds:List Nat)=>
 Pz 26 a h fun d h=>
 iZ (.cells [(.bool false)] 4) h fun e h=>
 Et d h fun f=>
 jv f fun g=>
 Xg 2 g fun i=>
 Et i h fun j=>
 Al (qQ K j b h) fun n h=>
 P9 c TT 167 40 0 n ((((((((tm.put 2 (some d)).put 4 (some e)).put 8 (some f)).put 9 (some g)).put 10 (some i)).put 11 (some j)).put 12 (some b)).put 13 (some n)) h ds (fun h ds=>
 Wi c r K ((((((((tm.put 2 (some d)).put 4 (some e)).put 8 (some f)).put 9 (some g)).put 10 (some i)).put 11 (some j)).put 12 (some b)).put 13 (some n)) e h ds) (fun id h ds=>
 Bb (Nat.beq 0 id) (Wi c r K ((((((((tm.put 2 (some d)).put 4 (some e)).put 8 (some f)).put 9 (some g)).put 10 (some i)).put 11 (some j)).put 12 (some b)).put 13 (some n)) e h ds) (none)) (fun h ds=>
 Dt ds h fun h=>Gi TT [.c e 4] h)) ((Tr.nil.put 0 (some a)).put 1 (some b)) []
def Dj(c:Ah)(r:Ah)(K:Nat)(l:Nat)(base:Nat)(s:DX)(a:EV)(b:EV)(d:EV)(h:Ab):R:=
 gX b d fun e=>
 gm e
 (Vz 1 a (.bool false) h fun h=>
 Wh l false .done (some .ret) h)
 (Wh l true .ready none h)
def Yi:R:=
 Et a h fun e=>
 fE 2 e h fun f=>
 Al (Lp K f d h) fun g h=>
 kM g fun i j=>
 jE 6 [(.int .i64 0),(.int .i64 0),(.int .i64 0),(.int .i64 0),(.int .i64 0),(.int .i64 0)] 87 i h fun n h=>
 Yk h fun base s=>
 L0 0 0 base a s fun s=>Et a h fun o=>
 jw 0 3 7 base o s h fun s p=>
 gZ 1 5 16 base n s h fun s q=>
 Kw 6 63 s h (fun h=>(Eu K p q h)) fun t h s=>
 gk t
 (L0 8 255 base a s fun s=>Et a h fun u=>
 jw 0 11 2047 base u s h fun s w=>
 gZ 2 13 4351 base n s h fun s x=>
 Kw 14 16383 s h (fun h=>(Eu K w x h)) fun y h s=>
 Dj c r K l base s b t y h)
 (Dj c r K l base s b t tU h)
def DW:R:=
 Ez l h fun h=>Yi c r K l a b d h
def KX:Ru r (Ru c R):=(.mk:Sg 0x1000e2ab323fff4f00e7242107e20ae94003fb32e10e24211e03f97232e5272e8b01e414e232e5212e6b4014e725704ba73311e0ee3233e6271e717e1f0e05e618e232011e57325304b673311e0ee2e1e0206e232007e434324 [a,b] h [Ei (pE TT 239 254 false),Ei (Pq K),Ld (pF TT 239)] [cu2 (fun d e=>Bp (Df [(0,1),(1,1)]) [.int .i64 0,.int .i64 0] [(0,d),(1,e)]),cu2 (fun y aa=>Bp (Df [(0,64),(64,1)]) (List.replicate 64 (.int .u8 0)++[.int .i64 0]) [(0,y),(1,aa)])] [[.int .i64 0,.int .i64 0],List.replicate 64 (.int .u8 0)++[.int .i64 0]]).F
def KY:R:=(.mk:Sg 0x189210000e200218e801e2456403ff3fa7232e52f2e9b5414e432e7310e302e5210e373011e0ee314e9 [a,b] h [c 198,Ei (KX c r K)]).F
def KZ:R:=(.mk:Sg 0x10026220142116e203 [a,b,d] h [Ei (Hw K)]).F
def Px:R:=(.mk:Sg 0x165431003e0232820fe32201 [a,b,d] h [Ei (G1 K),Ld (KZ K)]).F
def K_:R:=(.mk:Sg 0x123200e20ce210142116e263 [a,b] h [Eg (Gb K)]).F
def X8:R:=(.mk:Sg 0x14320003e000200e6285409e [a,b,d,e] h [Ei (K_ K)]).F
def Ps:R:=(.mk:Sg 0x12024340025764002623e213e36301e2d00320e [a,b] h [Tu (X8 K)]).F
def Li:R:=(.mk:Sg 0x122210142116e203 [a,b] h [Eg (Ee K)]).F
def Kk:R:=(.mk:Sg 0x154210c0232820fe32201 [a,b] h [Ei (G1 K),Ei (Li K)]).F
def Y5:Ru K (Ru r R):=(.mk:Sg 0x12242201203 [a,b] h [c 179]).F
def H6:R:=(.mk:Sg 0x14321022522013f9e3a0053701e0023286509e [a,b,d,e,f] h [c 41,Ei (Y5 c r K)]).F
def Lq:R:=(.mk:Sg 0x1202543500258765002724e22431c03e2d6509e [a,b,d,e,f] h [cl5 (H6 c r K)]).F
def LA:R:=(.mk:Sg 0x12025435102365451043201d2d01324e [a,b,d] h [Ei (Eu K),cl5 (Lq c r K)] [] [] [(.int .i64 (-1))]).F
def Uy:Ru K R:=
 some (a,h)
def LB:Ru K R:=
 H4 f fun g=>
 k5 a b d e g h
def LC:R:=
 mT 1 d f h fun g=>
 Al (G9 K a g h) fun i h=>
 LB K k5 a b d e f h
def Ix(K:Nat):Nat->A5
 | 0=>fun _ _ _ _ _ _=>none
 | m+1=>fun a b d e f h=>
  cE Iz .lss 3 f e
  (LC K (Ix K m) a b d e f h)
  (Uy K b h)
def Um:R:=
 Fz b fun d=>
 Ix K K a b b d (.int .i64 0) h
def LD:Ru K R:=
 H4 e fun f=>
 k4 a b d f h
def LF:R:=(.mk:Sg 0x18765430a92743027221311102e00218e701e20ce2101 [a,b,d,e] h [Eg (Gb K),Eg (fun g=>By [.int .i64 0] 3 1 1 [(0,g)]),Ei (Ef 3 1),Tu (LD K k4)]).F
def Is(K:Nat):Nat->A4
 | 0=>fun _ _ _ _ _=>none
 | m+1=>fun a b d e h=>
  cE Iz .lss 3 e d
  (LF K (Is K m) a b d e h)
  (Um K a b h)
def Ua:R:=(.mk:Sg 0x1002b034102101 [a] h [Eg (E9 K),Tu (Is K K)]).F
abbrev Vw(K:Nat)(c:Ah):Ah:=(w1 123 (E9 K) (w2 81 (G9 K) (w1 202 (Gb K) c)))
def LG:Ru K R:=
 Gi TT [.v a,.v b,.v d] h
def LH:R:=(.mk:Sg 0x123633050000000304ea00518e801e20ce5722120ce34221232112101 [a] h [Eg (fun a=>Kr K a (.int .i64 (-1))),Ei (Kr K),Ei (Ps K),Ld (LG K)]).F
def Yw:R:=(.mk:Sg 0x1311005e00000000304eb0023701e2101 [a] h [Eg (I9 K),Eg (LH K)]).F
def LI:R:=(.mk:Sg 0x12012ea1204e3a32e620ce6220142116e203 [a,b,d,e] h [Ei (Hy K)]).F
def T3:R:=(.mk:Sg 0x136544103012e41204e2432e60007e00e00218e801e43201012e05e [a,b,d] h [Ei (Ig K),Tu (LI K)] [cu0 (Bp (N8 1) (List.replicate 64 (.int .u8 0)) [])] [List.replicate 64 (.int .u8 0)]).F
def Zh:R:=(.mk:Sg 0x122210142116e203 [a,b] h [Eg (Gs K)]).F
def Qg:R:=(.mk:Sg 0x14321022200218e801e32201 [a,b] h [Ei (Ig K),Ei (Zh K)]).F
def J4:Ru K R:=
 gh a b fun d=>
 some (d,h)
def N7:R:=(.mk:Sg 0x1202210242102101318e5c2a430be [a,b,d] h [Eg (Qw K),Ei (J4 K)]).F
def Td:R:=(.mk:Sg 0x120233102453102101354d2a430be [a,b,d] h [Eg (fun f=>Qs K f (.int .i64 0) (.int .i64 65535)),Ld (N7 K)]).F
def Ry:R:=(.mk:Sg 0x120243202463202111434d2a2101214289e9 [a] h [Eg (fun d=>Qs K d (.int .i64 0) (.int .i64 281474976710655)),Eg (fun f=>Qs K f (.int .i64 0) (.int .i64 255)),Ld (Td K)]).F
def CY:Ru K R:=(.mk:Sg 0x10024226522319e31c542007e [a,b,d,e] h [] [cu2 (fun d e=>Bp (Df [(0,1),(1,1)]) [.int .i64 0,.int .i64 0] [(0,d),(1,e)])]).F
def CX:R:=(.mk:Sg 0x1654340003e023287609e [a,b,d,e,f,g] h [Tu (CY K)]).F
def CW:R:=(.mk:Sg 0x12065432600276543600870bec6d [a,b,d,e,f,g,i] h [cl6 (CX K)]).F
def CV:R:=(.mk:Sg 0x120765432700287654370001425e00e7a [a,b,d,e,f,g] h [cl7 (CW K)] [] [] [(.int .i64 (-1))]).F
def CU:R:=(.mk:Sg 0x120265436002376546006524ec2d7609e [a,b,d,e,f,g] h [cl6 (CV K)]).F
def CT:R:=(.mk:Sg 0x1202654361024876561020fe64330103e2d7609e [a,b,d,e,f,g] h [Ld (Q1 K),cl6 (CU K)]).F
def Ti:R:=(.mk:Sg 0x1202765462024987662020fe65431103e2d20fe3101 [a,b,d,e] h [Eg (qL K),Ld (Q1 K),cl6 (CT K)]).F
def Xj:Ru K (Ru r (Ru c R)):=(.mk:Sg 0x1002 [] h).F
def Se:R:=(.mk:Sg 0x10000fe02328320be [a,b] h [cl0 (Xj c r K)]).F
def Rz:R:=(.mk:Sg 0x12022202322000722e92a00224e21112101203 [a,b] h [Eg (Cq K),Eg (I9 K),Ei (Se c r K)]).F
def FN:Ru K (Ru r (Ru c R)):=
 H4 e fun f=>
 k4 a b d f h
def Sp:R:=
 gX f g fun i=>
 gm i
 (Rz c r K a b h)
 (FN c r K k4 a b d e h)
def FM:R:=(.mk:Sg 0x1202874360023985460000618e802e01e2d40fe [a,b,d,e,f,g] h [cl6 (Sp c r K k4)]).F
def FL:R:=(.mk:Sg 0x18723656102220ee0218e701e20ce2101 [a,b,d,e] h [c 87,cl6 (FM c r K k4)]).F
def FK:R:=(.mk:Sg 0x187654200023623601e21112101203 [a,b,d,e] h [Eg (Cq K),Eg (I9 K),Tu (FL c r K k4)]).F
def Nx(c:Ah)(r:Ah)(K:Nat):Nat->A4
 | 0=>fun _ _ _ _ _=>none
 | m+1=>fun a b d e h=>
  cE Iz .lss 3 e d
  (FK c r K (Nx c r K m) a b d e h)
  (Rz c r K a b h)
def FQ:R:=(.mk:Sg 0x1002764202301fe21112101203 [a,b] h [Eg (Cf K),Eg (Dd K),Tu (Nx c r K K)]).F
def P8:R:=(.mk:Sg 0x14320003e023285409e [a,b,d,e] h [Ei (FQ c r K)]).F
def FP:R:=(.mk:Sg 0x12024342026874202722e2111210130307e2d00320e [a,b] h [Eg (Cf K),Eg (Dd K),Tu (P8 c r K)]).F
def Wa(c:Ah)(r:Ah)(K:Nat)(tm:Ba)(a:EV)(h:Ab)(ds:List Nat):R:=
 Vz 1 a (.bool true) h fun h=>
 Dt ds h fun h=>Gi TT [.c a 4] h
def V9:R:=
 Xg 3 a fun d=>
 Et d h fun e=>
 Al (Xh K e h) fun f h=>
 P9 c TT 93 36 0 f (((tm.put 26 (some d)).put 27 (some e)).put 28 (some f)) h ds (fun h ds=>
 Wa c r K (((tm.put 26 (some d)).put 27 (some e)).put 28 (some f)) b h ds) (fun id h ds=>
 Bb (Nat.beq 0 id) (Wa c r K (((tm.put 26 (some d)).put 27 (some e)).put 28 (some f)) b h ds) (none)) (fun h ds=>
 Dt ds h fun h=>Gi TT [.c b 4] h)
def Jp:R:=
 gX d e fun f=>
 gm f
 (Vz 1 b (.bool false) h fun h=>
 Dt ds h fun h=>Gi TT [.c b 4] h)
 (V9 c r K (tm.put 25 (some f)) a b h ds)
def Mv:R:=
 gX d e fun f=>
 gk f
 (Xg 2 a fun g=>
 Et g h fun i=>
 Al (Tn K i (.int .i64 281474976710655) h) fun j h=>
 iX j fun n=>
 Jp c r K ((((((tm.put 19 (some f)).put 20 (some f)).put 21 (some g)).put 22 (some i)).put 23 (some j)).put 24 (some n)) a b f n h ds)
 (Jp c r K ((((((tm.put 19 (some f)).put 20 (some f)).put 21 (some tU)).put 22 (some tU)).put 23 (some tU)).put 24 (some tU)) a b f tU h ds)
def Qf:R:=
 gX d e fun f=>
 gk f
 (Xg 1 a fun g=>
 Et g h fun i=>
 Al (Tn K i (.int .i64 4294967295) h) fun j h=>
 iX j fun n=>
 Mv c r K ((((((tm.put 13 (some f)).put 14 (some f)).put 15 (some g)).put 16 (some i)).put 17 (some j)).put 18 (some n)) a b f n h ds)
 (Mv c r K ((((((tm.put 13 (some f)).put 14 (some f)).put 15 (some tU)).put 16 (some tU)).put 17 (some tU)).put 18 (some tU)) a b f tU h ds)
def AF:R:=
 (fun(tm:Ba) (ds:List Nat)=>
 Pz 58 a h fun b h=>
 iZ (.cells [(.bool false)] 4) h fun d h=>
 Xg 3 b fun e=>
 Et e h fun f=>
 Jk iD (bin TT .eql 55) f .Bz fun g=>
 gk g
 (Xg 0 b fun i=>
 Et i h fun j=>
 Al (Tn K j (.int .i64 281474976710655) h) fun n h=>
 iX n fun o=>
 Qf c r K ((((((((((tm.put 1 (some b)).put 2 (some d)).put 5 (some e)).put 6 (some f)).put 7 (some g)).put 8 (some g)).put 9 (some i)).put 10 (some j)).put 11 (some n)).put 12 (some o)) b d g o h ds)
 (Qf c r K ((((((((((tm.put 1 (some b)).put 2 (some d)).put 5 (some e)).put 6 (some f)).put 7 (some g)).put 8 (some g)).put 9 (some tU)).put 10 (some tU)).put 11 (some tU)).put 12 (some tU)) b d g tU h ds)) (Tr.nil.put 0 (some a)) []
def X7:Ru K (Ru r (Ru c R)):=(.mk:Sg 0x1010000405168233601e324444 [a,b,d] h [cl0 (Wh l false .done (some .ret)),cl0 (Wh l true .ready none)]).F
def AD:R:=
 jE 6 [(.int .i64 0),(.int .i64 0),(.int .i64 0),(.int .i64 0),(.int .i64 0),(.int .i64 0)] 87 d h fun e h=>
 Ez l h fun h=>X7 c r K l a b e h
def Qb:Ru K R:=
 gh a b fun d=>
 some (d,h)
def Qq:R:=(.mk:Sg 0x12022102521020053011021ee42405e2a540be [a,b,d,e] h [Ld (Lt K),Ei (Qb K)]).F
def Ns:R:=(.mk:Sg 0x120247430268b43020093211021ee21114650be2a2101265209e9 [a,b,d] h [Eg (Nr K),Eg (Dd K),Ld (Lt K),Tu (Qq K)]).F
def sY:R:=(.mk:Sg 0x178e08e1104e208e1ee602e13121001e32102e54210d32100e44230b321c342109321a2421073218142105321604232118242d0e90007e209e1606e2101334078e05e22ce9 [a] h [Eg (Gx K),Ei (fun j n=>Eh K j (.int .i64 6) n),Ld (Eh K),Eg (qA K)] [cu0 (Bp (Df [(0,1),(1,1)]) [.An,.bool false] [])] [List.replicate 44 (.int .u8 0),[.int .i64 0,.int .i64 0,.int .i64 0,.int .i64 0,.int .i64 0,.int .i64 0]]).F
def BV:Ru K R:=
 some (a,h)
def Ts:R:=(.mk:Sg 0x13120012300218e801e20ce522112101203 [a,b] h [Eg (Cq K),Ei (Ps K),Eg (BV K)] [] [] [(.int .i64 (-1))]).F
def N3:R:=
 gh e f fun g=>
 gm g
 (some (d,h))
 (Ts K a b h)
def Si:R:=(.mk:Sg 0x12026a9510259dc51020fe7220190304e2a01525e012162114e722319e51c214422319e21c [a,b] h [Ei (Eu K),cl5 (N3 K)] [] [] [(.int .i64 (-1))]).F
def BN:Ru r R:=(.mk:Sg 0x122522112101203 [a,b] h [Eg (Bm K),c 179]).F
def BM:R:=(.mk:Sg 0x17623000233023701e6222121112101203 [a,b] h [Eg (Bm K),Eg (Dl K),Ei (Kk K),Ei (BN c r K)]).F
def BL:Ru K (Ru r (Ru c R)):=
 H4 f fun g=>
 k5 a b d e g h
def Qv:R:=
 cE iF .neq 38 d (.int .i64 0)
 (some (d,h))
 (BL c r K k5 a b e f g h)
def Qk:R:=(.mk:Sg 0x18765436008760ae043600a28980be [a,b,d,e,f,g,i,j] h [cl6 (Qv c r K k5)]).F
def BK:R:=(.mk:Sg 0x120202e01e00e3dc8202303e02e01e400ed82002e425e00e2a00218e702e20ce2933171e77432e5406b21001e47573011e0ee212e032e06e232e56432e15e [a,b,d,e,f] h [Eg (Bm K),c 177,cl8 (Qk c r K k5)] [] [List.replicate 64 (.int .u8 0)]).F
def Mt(c:Ah)(r:Ah)(K:Nat):Nat->A5
 | 0=>fun _ _ _ _ _ _=>none
 | m+1=>fun a b d e f h=>
  cE Iz .lss 3 f e
  (BK c r K (Mt c r K m) a b d e f h)
  (BM c r K a b h)
def BQ:R:=
 Fz d fun e=>
 Mt c r K K a b d e (.int .i64 0) h
def BP:R:=(.mk:Sg 0x154331022200218e801e32201 [a,b,d] h [c 176,Ld (BQ c r K)]).F
def BO:R:=(.mk:Sg 0x13b932022200218e801e20ce8233171e77445405b21001e47373011e0ee32ce9 [a,b,d] h [Eg (Lb K),c 174,Ld (BP c r K)]).F
def zQ:R:=(.mk:Sg 0x122210142116e203 [a,b] h [Eg (Ha K)]).F
def Sn:R:=(.mk:Sg 0x14321022200218e801e32201 [a,b] h [Ei (Ig K),Ei (zQ K)]).F
def BJ:Ru r R:=(.mk:Sg 0x122522112101203 [a,b] h [Eg (Bm K),c 96]).F
def BI:R:=(.mk:Sg 0x17623000230023701e6222121112101203 [a,b] h [Eg (Bm K),Eg (Dl K),Ei (Kk K),Ei (BJ c r K)]).F
end
variable{d:Nat}(H:Ca disp)
include H
theorem ZV(hd:1<=d):S1 disp K d 127 EG:=fun _=>ld rfl rfl H (V1 (De H) hd<|V1 (Ew H) hd<|V2 (Yr H) hd<|rfl) 51 (fun c r=>e4 (Iu c r K) 0 3 11 12)
theorem Aql(hd:1<=d):S2 disp K d 139 KE:=fun _ _=>rd rfl rfl H (V1 (Zw H) hd<|rfl)
theorem Mz(hd:2<=d):R2 disp K d 180 (Ig K):=fun _ _=>rl H hd fun d hd=>V2 (La H) hd<|rfl
theorem Xd(hd:2<=d):R2 disp K d 215 (D6 K):=fun _ _=>rl H hd fun d hd=>V1 (H3 H) hd<|rfl
theorem ζ(hd:1<=d):S1 disp K d 17 EO:=fun _=>ld rfl rfl H (V1 (D5 H) hd<|V1 (De H) hd<|V1 (Ew H) hd<|rfl) 207 (fun c r=>e3 (Fu c r K) 0 62 63)
theorem As3(hd:2<=d):S2 disp K d 41 KH:=fun _ _=>rd rfl rfl H (V2 (F0 H) hd<|V2 (Uz H) hd<|rfl)
theorem Atm(hd:3<=d):R2 disp K d 67 (Xz K):=fun _ _=>ll H hd (fun d hd=>V2 (I4 H) hd<|rfl) 25 (e5 (Oc K) 0 1 7 8 9)
theorem ψ(hd:1<=d):S1 disp K d 68 FR:=fun _=>rd rfl rfl H (V1 (De H) hd<|V1 (Z2 H) hd<|rfl)
theorem Atf(hd:1<=d):S1 disp K d 91 Azr:=fun _=>ld rfl rfl H (V1 (Sr H) hd<|V1 (Ano H) hd<|V1 (Aqd H) hd<|rfl) 2 (fun c r=>e1 (Km c r K) 0)
theorem Ant(hd:2<=d):R1 disp K d 92 (R9 K):=fun _=>ll H hd (fun d hd=>V1 (Yp H) hd<|rfl) 103 (e3 (J6 K) 19 20 21)
theorem Acy(hd:3<=d):S2 disp K d 97 Vd:=fun _ _=>rd rfl rfl H (V2 (F0 H) hd<|V2 (Gv H) hd<|rfl)
theorem At1(hd:2<=d):R3 disp K d 120 (xp K):=fun _ _ _=>ll H hd (fun d hd=>V3 (Asy H) hd<|rfl) 25 (e5 (Og K) 0 1 9 10 11)
theorem LJ(hd:2<=d):R1 disp K d 136 (Xh K):=fun _=>rl H hd fun d hd=>V1 (Tx H) hd<|rfl
theorem N9(hd:2<=d):R2 disp K d 147 (Eo K):=fun _ _=>ll H hd (fun d hd=>V1 (J_ H) hd<|V2 (Z1 H) hd<|rfl) 103 (e4 (K5 K) 5 15 16 17)
theorem Xs(hd:2<=d):R2 disp K d 148 (Mf K):=fun _ _=>rl H hd fun d hd=>V2 (Z1 H) hd<|rfl
theorem Rs(hd:2<=d):R1 disp K d 149 (Ku K):=fun _=>rl H hd fun d hd=>V3 (Axh H) hd<|rfl
theorem Oq(hd:2<=d):R3 disp K d 153 (Eh K):=fun _ _ _=>ll H hd (fun d hd=>V1 (J_ H) hd<|V1 (Ay6 H) hd<|rfl) 11 (e4 (Jw K) 0 2 18 19)
theorem Arh(hd:1<=d):S2 disp K d 156 KV:=fun _ _=>ld rfl rfl H (V1 (Ara H) hd<|rfl) 11 (fun c r m A tm h ds=>Mo c r K m tm (A 10) (A 11) (A 12) h ds)
theorem Amh(hd:1<=d){l:Nat}(tm:Ba)(h:Ab)(G:EV)(A:EV){st:LoopState}{p:Option Code}(J:h.get l=some (.loop st p 156 27 tm [19,20] (Eb TT 156 0).2.2.1 (Eb TT 156 0).2.2.2 d0)):
 Ag TT disp K (d+1) true l [G,A] h=KW (Ag TT disp K d false) (Ag TT disp K d true) K l (tmp tm 2) (tmp tm 3) A h:=rr rfl rfl (rfl) J rfl (by kernel_rfl)
theorem ZL(hd:3<=d):S2 disp K d 167 DY:=fun _ _=>rd rfl rfl H (V2 (I' H) hd<|rfl)
theorem ZJ(hd:3<=d){l:Nat}(tm:Ba)(h:Ab)(A:EV){st:LoopState}{p:Option Code}(G:h.get l=some (.loop st p 167 40 tm [14] (Eb TT 167 0).2.2.1 (Eb TT 167 0).2.2.2 d0)):
 Ag TT disp K (d+1) true l [A] h=DW (Ag TT disp K d false) (Ag TT disp K d true) K l (tmp tm 2) (tmp tm 4) A h:=rr rfl rfl (V2 (Lw H) hd<|V2 (Gv H) hd<|rfl) G rfl (by kernel_rfl)
theorem Apa(hd:1<=d):S2 disp K d 169 KY:=fun _ _=>rd rfl rfl H (V2 (KA H) hd<|rfl)
theorem Aph(hd:2<=d):R3 disp K d 170 (Px K):=fun _ _ _=>rl H hd fun d hd=>V2 (La H) hd<|V2 (Ze H) hd<|rfl
theorem LK(hd:2<=d):R2 disp K d 173 (Ps K):=fun _ _=>rl H hd fun d hd=>V1 (Sw H) hd<|rfl
theorem Zl(hd:2<=d):R2 disp K d 178 (Kk K):=fun _ _=>rl H hd fun d hd=>V2 (La H) hd<|V1 (Ib H) hd<|rfl
theorem Akx(hd:3<=d):S3 disp K d 184 LA:=fun _ _ _=>rd rfl rfl H (V2 (Gv H) hd<|rfl)
omit H in
theorem Anr(c G r:Ah)(K:Nat)(m:Nat):jS false (Vw K c) G r K 191 103 [(2,fun A tm h ds=>Uy K (A 3) h)] m=(fun m A tm h ds=>Ix K m (A 0) (A 3) (A 24) (A 25) (A 26) h) m:=
 Mn (E:=fun m A tm h ds=>Ix K m (A 0) (A 3) (A 24) (A 25) (A 26) h) rfl (fun m=>jG fun A tm h ds=>by kernel_rfl) m
omit H in
theorem Anx(c G r:Ah)(K:Nat)(m:Nat):jS false (Vw K c) G r K 191 51 [(0,fun A tm h ds=>Um K (A 0) (A 3) h)] m=(fun m A tm h ds=>Is K m (A 0) (A 3) (A 9) (A 10) h) m:=
 Mn (E:=fun m A tm h ds=>Is K m (A 0) (A 3) (A 9) (A 10) h) rfl (fun m=>jG fun A tm h ds=>by kernel_rfl) m
theorem An8(hd:2<=d):R1 disp K d 191 (Ua K):=by
 obtain⟨d,rfl⟩:∃e,d=e+1:=⟨d-1,a_⟩;have hd:=Nat.le_of_succ_le_succ hd;exact fun _=>rm (q:=false) (D:=Vw K (Ag TT disp K d false)) (by kernel_rfl) rfl rfl H (V1 (Ky H) hd<|V2 (Uz H) hd<|V1 (Sw H) hd<|rfl) (cut [true,true,true,false,true,false] (Anr (Ag TT disp K d false) (Ag TT disp K d false) (Ag TT disp K d true) K K) (by kernel_rfl) (by kernel_rfl) (cut [true,true,false,true,false] (Anx (Ag TT disp K d false) (Ag TT disp K d false) (Ag TT disp K d true) K K) (by kernel_rfl) (by kernel_rfl) rfl))
theorem Atd(hd:4<=d):R1 disp K d 193 (Yw K):=fun _=>rl H hd fun d hd=>V1 (IZ H) hd<|V2 (Z0 H) hd<|V2 (LK H) hd<|rfl
theorem Aok(hd:3<=d):R3 disp K d 195 (T3 K):=fun _ _ _=>rl H hd fun d hd=>V2 (Mz H) hd<|V2 (Zg H) hd<|rfl
theorem Alg(hd:3<=d):R2 disp K d 206 (Qg K):=fun _ _=>rl H hd fun d hd=>V2 (Mz H) hd<|V1 (Xf H) hd<|rfl
theorem An0(hd:3<=d):R1 disp K d 208 (Ry K):=fun _=>rl H hd fun d hd=>V3 (KC H) hd<|V1 (Aly H) hd<|rfl
theorem Atr(hd:4<=d):R4 disp K d 38 (Ti K):=fun _ _ _ _=>rl H hd fun d hd=>V1 (I2 H) hd<|V3 (Arp H) hd<|rfl
theorem χ(hd:3<=d):S2 disp K d 49 FP:=fun _ _=>ld rfl rfl H (V1 (De H) hd<|V1 (Ew H) hd<|V1 (Iq H) hd<|V1 (IZ H) hd<|rfl) 51 (fun c r=>e4 (Nx c r K) 0 1 25 26)
theorem WH(hd:2<=d):S1 disp K d 93 AF:=fun _=>rd rfl rfl H (V2 (Ay0 H) hd<|V1 (LJ H) hd<|rfl)
theorem WB(hd:2<=d){l:Nat}(tm:Ba)(h:Ab)(G:EV)(A:EV){st:LoopState}{p:Option Code}(J:h.get l=some (.loop st p 93 36 tm [29,30] (Eb TT 93 0).2.2.1 (Eb TT 93 0).2.2.2 d0)):
 Ag TT disp K (d+1) true l [G,A] h=AD (Ag TT disp K d false) (Ag TT disp K d true) K l (tmp tm 1) (tmp tm 2) A h:=rr rfl rfl (rfl) J rfl (by kernel_rfl)
theorem LL(hd:4<=d):R3 disp K d 103 (Ns K):=fun _ _ _=>rl H hd fun d hd=>V1 (U4 H) hd<|V1 (Ew H) hd<|V3 (IY H) hd<|rfl
theorem A2c(hd:3<=d):R1 disp K d 104 (sY K):=fun _=>rl H hd fun d hd=>V1 (Oi H) hd<|V3 (Oq H) hd<|V1 (KD H) hd<|rfl
theorem Anv(hd:4<=d):R2 disp K d 137 (Si K):=fun _ _=>rl H hd fun d hd=>V2 (Gv H) hd<|V1 (Iq H) hd<|V2 (LK H) hd<|rfl
theorem XE(hd:2<=d):S3 disp K d 138 BO:=fun _ _ _=>ld rfl rfl H (V1 (Aj6 H) hd<|V1 (D5 H) hd<|V1 (Na H) hd<|V2 (Zl H) hd<|rfl) 207 (fun c r=>e5 (Mt c r K) 0 2 34 35 36)
theorem Anz(hd:3<=d):R2 disp K d 140 (Sn K):=fun _ _=>rl H hd fun d hd=>V2 (Mz H) hd<|V1 (Xx H) hd<|rfl
theorem XB(hd:2<=d):S2 disp K d 176 BI:=fun _ _=>rd rfl rfl H (V1 (D5 H) hd<|V1 (Na H) hd<|V2 (Zl H) hd<|rfl)
end
end
section
noncomputable section
section
variable (c r:Ah)(K l:Nat)(k0:A0)(k1:A1)(k2:A2)(k3:A3)(k4:A4)(k5:A5)(k6:A6)(k7:A7)(k8:A8)(k9:A9)(oi:ma)(oo:mb)(oq:mR)(m0:B0)(m1:B1)(m2:B2)(m3:B3)(m4:B4)(m5:B5)(m6:B6)(m7:B7)(m8:B8)(m9:B9)(ot:mP)(ov:mQ)(ow:mS)(base:Nat)(s:DX)(tm:Ba)(a b d e f g i j n o p q t u w x y z aa ab ad ae af ag ai aj an ao ap aq au aw ax ay az ba bb bd be bf bg bi bj bn bo bp bq bt bu bw bx bz da db dd de df dg di dj dn dp dq dt du dw dx dy dz ea eb ed ee ef eg ei ej en eo ep eq et eu ew ex ey ez fa fb fd fe ff fg fi fj fn fo fp fq ft fu fw fx fy fz ga gb gd ge gf gg gi gj gn go gp gq gt gu gw gx gy gz ia ib ie ig ii ij io ip iq it iu iw ix iy iz ja jb:EV)(h:Ab)(ds:List Nat)
def sX:R:=(.mk:Sg 0x1000e2c000e301c542c211a44210a301834230830162423063014142104301204349e9 [a,b] h [Ld (Eh K),Ei (fun a q=>Eh K a (.int .i64 6) q)]).F
def Ow:R:=(.mk:Sg 0x12201239e403e4220123be9 [a,b] h [Ei (fun d b=>xp K d (.int .u32 4294967295) b)] [] [] [(.int .u32 4294967295)]).F
def DU:Ru r R:=
 (fun(tm:Ba) (ds:List Nat)=>
 Pz 77 a h fun e h=>
 Et b h fun f=>
 Al (Xh K f h) fun g h=>
 P9 c TT 166 31 0 g (((tm.put 3 (some e)).put 6 (some f)).put 7 (some g)) h ds (fun h ds=>
 Dt ds h fun h=>some (.tuple [],h)) (fun id h ds=>
 Bb (Nat.beq 0 id) (Dt ds h fun h=>some (.tuple [],h)) (none)) (fun h ds=>
 Dt ds h fun h=>some (.tuple [],h))) (((Tr.nil.put 0 (some a)).put 1 (some b)).put 2 (some d)) []
def Ju:Ru K (Ru r (Ru c R)):=
 gh a b fun d=>
 gm d
 (Wh l false .done (some .ret) h)
 (Wh l true .ready none h)
def L5:R:=(.mk:Sg 0x12022102521020fe5220130de00e2a540be [a,b,d,e] h [Ei (fun g b=>P0 c r g [b]),Ei (Ju c r K l)]).F
def Mg:R:=(.mk:Sg 0x12043240025434006509ea4a [a,b,d,e,f] h [Tu (L5 c r K l)]).F
def Qa:R:=(.mk:Sg 0x12076435002a9765002324e30de52402e7d [a,b,d,e,f,g] h [cl5 (Mg c r K l)]).F
def DT:R:=(.mk:Sg 0x1202765460025a9876002324e50de71403e2a10224e504 [a,b,d,e] h [cl6 (Qa c r K l)]).F
def DS:R:=
 jE 6 [(.int .i64 0),(.int .i64 0),(.int .i64 0),(.int .i64 0),(.int .i64 0),(.int .i64 0)] 87 e h fun f h=>
 Ez l h fun h=>DT c r K l a b d f h
def Ro:R:=(.mk:Sg 0x123200e20ce2320f1e87732e5707b20de231e6b42115e273011e0ee [a,b,d] h [Ei (D6 K)]).F
def Nc(K:Nat)(base:Nat)(s:DX)(a:EV)(b:EV)(d:EV)(e:EV)(f:EV)(h:Ab):R:=
 gh e f fun g=>
 gm g
 (some (.tuple [(.int .i64 0),(.int .i64 33)],h))
 (Ro K a b d h)
def Zp:R:=
 Yk h fun base s=>
 jw 0 3 7 base a s h fun s e=>
 Ve 1 e b fun f=>
 L0 6 63 base f s fun s=>Et f h fun g=>
 Kw 7 127 s h (fun h=>(Ee K g h)) fun i h s=>
 mW i (.int .i64 0) fun j=>
 ir j
 (Kw 11 2047 s h (fun h=>(Qm K a h)) fun n h s=>
 jw 2 15 29695 base a s h fun s o=>
 mf n o fun p=>
 Nc K base s a b d j p h)
 (Nc K base s a b d j tU h)
def Qp:R:=(.mk:Sg 0x1354310200200e500218e801e43201412e9 [a,b,d] h [Ei (Ig K),Ld (Zp K)]).F
def Ye:R:=(.mk:Sg 0x1222a221246843121307e21939e603e21207e11739e603e21107e01539e603e41007e72221011522012f2e523be9 [a,b] h [Ei (Ow K),cl0 (By [.int .u8 0] 5 1 0 []),Ei (Ef 5 1),Tu (fun j o q u=>By [.int .u8 0] 5 1 4 [(0,j),(1,o),(2,q),(3,u)])] [cu1 (fun f=>Tg .u8 f),cu1 (fun n=>Tg .u8 n),cu1 (fun p=>Tg .u8 p),cu1 (fun t=>Tg .u8 t)] [] [(.int .u64 8),(.int .u64 16),(.int .u64 24)]).F
def LM:Ru r R:=(.mk:Sg 0x12221113032101 [a] h [c 91,Eg (R9 K)]).F
def AB:R:=(.mk:Sg 0x178e31104e231ee63101 [a,b] h [Eg (qA K)]).F
def AA:Ru K R:=
 H4 f fun g=>
 k5 a b d e g h
def z_:R:=(.mk:Sg 0x102e01e00edc520200e211265349e0606e20ce25201921de2301fe1031ee334 [a,b,d,e,f] h [Ei (Lp K),Ei (sX K),cl5 (AA K k5)] [] [[.int .i64 0,.int .i64 0,.int .i64 0,.int .i64 0,.int .i64 0,.int .i64 0]]).F
def Xv(K:Nat):Nat->A5
 | 0=>fun _ _ _ _ _ _=>none
 | m+1=>fun a b d e f h=>
  cE Iz .lss 3 f (.int .i64 2)
  (z_ K (Xv K m) a b d e f h)
  (AB K d e h)
def sZ:R:=(.mk:Sg 0x100356851071023012d0e90007e078e05e22ce9 [a,b] h [Ld (Eh K),cl5 (Xv K K)] [cu0 (Bp (Df [(0,1),(1,1)]) [.An,.bool false] [])] [List.replicate 44 (.int .u8 0)]).F
def zK:Ru K R:=(.mk:Sg 0x1402 [] h).F
def Ek(K:Nat)(base:Nat)(s:DX)(a:EV)(b:EV)(h:Ab):R:=
 gh a b fun d=>
 some (d,h)
def Fi:R:=
 gh b d fun e=>
 ir e
 (gZ 5 42 4398046511103 base a s h fun s f=>
 j9 f (.int .i64 4294967295) fun g=>
 Ek K base s e g h)
 (Ek K base s e tU h)
def Gj:R:=
 gh b d fun e=>
 ir e
 (gZ 5 37 137438953471 base a s h fun s f=>
 mf f (.int .i64 0) fun g=>
 Fi K base s a e g h)
 (Fi K base s a e tU h)
def Iv:R:=
 gh b d fun e=>
 ir e
 (gZ 4 32 4294967295 base a s h fun s f=>
 j9 f (.int .i64 281474976710655) fun g=>
 Gj K base s a e g h)
 (Gj K base s a e tU h)
def K2:R:=
 gh b d fun e=>
 ir e
 (gZ 4 27 134217727 base a s h fun s f=>
 mf f (.int .i64 1) fun g=>
 Iv K base s a e g h)
 (Iv K base s a e tU h)
def K9:R:=
 gh d e fun f=>
 ir f
 (L0 15 32767 base b s fun s=>Oo 6 b h fun g=>
 gZ 1 17 98303 base a s h fun s i=>
 Kw 18 262143 s h (fun h=>(Er K g i h)) fun j h s=>
 L0 19 32767 base b s fun s=>Oo 6 b h fun n=>
 gZ 2 21 1081343 base a s h fun s o=>
 Kw 22 4194303 s h (fun h=>(Er K n o h)) fun p h s=>
 jF j p fun q=>
 K2 K base s a f q h)
 (K2 K base s a f tU h)
def K8:R:=
 gm e
 (Oo 6 a h fun f=>
 oE 0 a h fun g=>
 Bp (Df [(0,1),(1,1),(2,1),(3,1),(4,1),(5,1)]) [(.int .i64 0),(.int .i64 0),(.int .i64 0),(.int .i64 0),(.int .i64 0),(.int .i64 0)] [(0,g)] fun i=>
 Jk iD (bin TT .eql 87) f i fun j=>
 some (j,h))
 (cE iD .eql 3 d (.int .i64 1)
 (Yk h fun base s=>
 L0 0 0 base b s fun s=>Oo 6 b h fun n=>
 gZ 1 2 2 base a s h fun s o=>
 gZ 3 4 8 base a s h fun s p=>
 Kw 5 31 s h (fun h=>(Ns K n o p h)) fun q h s=>
 ir q
 (L0 7 127 base b s fun s=>Oo 6 b h fun t=>
 gZ 2 9 383 base a s h fun s u=>
 gZ 3 11 1151 base a s h fun s w=>
 Kw 12 4095 s h (fun h=>(Ns K t u w h)) fun x h s=>
 K9 K base s a b q x h)
 (K9 K base s a b q tU h))
 (zK K h))
def Jm:R:=(.mk:Sg 0x1245640030324e234540072800224e304409e9249e9 [a,b] h [Tu (K8 K)]).F
def Lo(K:Nat)(base:Nat)(s:DX)(a:EV)(b:EV)(h:Ab):R:=
 gh a b fun d=>
 some (d,h)
def Lc:R:=
 Pz 87 b h fun d h=>
 Yk h fun base s=>
 gZ 0 1 1 base d s h fun s e=>
 mW e (.int .i64 1) fun f=>
 ir f
 (L0 4 15 base d s fun s=>Oo 6 d h fun g=>
 nV 1 a fun i=>
 L0 8 239 base i s fun s=>Oo 6 i h fun j=>
 Kw 9 511 s h (fun h=>(Jm K g j h)) fun n h s=>
 Lo K base s f n h)
 (Lo K base s f tU h)
def Zt:Ru K (Ru r (Ru c R)):=(.mk:Sg 0x110e0043e31204e2312e60007e [a] h [] [cu0 (Bp (N8 1) (List.replicate 32 (.int .u8 0)) [])]).F
def Nb:Ru K (Ru r (Ru c R)):=
 H4 f fun g=>
 k5 a b d e g h
def Rv:R:=(.mk:Sg 0x1985435008043e61204e2612e6612e500e28a909e [a,b,d,e,f,g,i,j,n] h [cl5 (Nb c r K k5)]).F
def Rl:R:=(.mk:Sg 0x120404e03e3202e01e00e9102505e04e4303e02e01e91000318e802e04e4d443e112e06e421ae20ce246940120de1051219e20de0031219e5652afe0206e652007e [a,b,d,e,f] h [c 112,cl9 (Rv c r K k5)] [cu2 (fun e f=>j8 2 2 true 2 e f)] [[.int .i64 0,.int .i64 0],List.replicate 32 (.int .u8 0)]).F
def Dn(c:Ah)(r:Ah)(K:Nat):Nat->A5
 | 0=>fun _ _ _ _ _ _=>none
 | m+1=>fun a b d e f h=>
  cE Iz .lss 3 f (.int .i64 2)
  (Rl c r K (Dn c r K m) a b d e f h)
  (Zt c r K d h)
def Zx:R:=(.mk:Sg 0x1002ba9500252207e232107e714624232007e424314 [a,b,d] h [cl5 (Dn c r K K)] [cu2 (fun e f=>Bp (N8 1) [.int .i64 0,.int .i64 0] [(0,e),(1,f)]),cu2 (fun i j=>Bp (N8 1) [.int .i64 0,.int .i64 0] [(0,i),(1,j)]),cu2 (fun g n=>Bp (N8 2) [.int .i64 0,.int .i64 0,.int .i64 0,.int .i64 0] [(0,g),(1,n)])]).F
def LN:R:=(.mk:Sg 0x156731000e0043e61204e2612e60007e01e2820fe25201365043e05e349e9 [a,b] h [Ei (Lc K),Ld (Zx c r K)] [cu0 (Bp (N8 1) (List.replicate 32 (.int .u8 0)) [])] [List.replicate 32 (.int .u8 0)]).F
def LO:Ru r R:=(.mk:Sg 0x1000e000e21419039c023701e000ec0233331e67902e5210e973011e0ee08e6023701e000e60233331e67902e5210e973011e0ee08e3023701e000e2a221836e5a1023701e714321623ff3fa17e72c242170e772101618e336e5305b300e4211e0ee314e9 [a,b] h [Eg (fun f=>By (List.replicate 4 (.int .i64 0)++List.replicate 64 (.int .u8 0)) 34 68 1 [(0,f)]),Ei (Ef 34 68),c 169,Ld (Px K),Eg (Sk K)]).F
def LP:Ru K R:=(.mk:Sg 0x1002200e23211432007e001 [a,b] h [cl0 (By [.int .u8 0] 5 1 0 []),Ei (Ef 5 1)] [cu2 (fun a b=>il 1 a none (some b) none)]).F
def LQ:Ru K R:=
 H4 g fun i=>
 k6 a b d e f i h
def LR:R:=
 iA (bin TT .shr 71) d (.int .u64 8) fun i=>
 LQ K k6 a b i e f g h
def LS:R:=(.mk:Sg 0x198765460001e0b0200e6235801e51007e75116e [a,b,d,e,f,g] h [cl6 (LR K k6)] [cu1 (fun d=>Tg .u8 d)]).F
def N0(K:Nat):Nat->A6
 | 0=>fun _ _ _ _ _ _ _=>none
 | m+1=>fun a b d e f g h=>
  cE Iz .lss 3 g f
  (LS K (N0 K m) a b d e f g h)
  (LP K a b h)
def LU:R:=(.mk:Sg 0x10023497610213e752107e232001e47532007e3f2e5300b0ee [a,b,d] h [Ei (Ow K),cl6 (N0 K K)] [cu2 (fun a d=>il 1 a none (some d) none),cu2 (fun a d=>il 1 a (some d) none none)]).F
def Zc:R:=(.mk:Sg 0x124630004e0b0200e60023301ec021ee413e23be9 [a,b] h [Ld (LU K)]).F
def Xi:Ru K (Ru r (Ru c R)):=(.mk:Sg 0x1002002164fdec62163fcec42162fbec [a,b,d] h).F
def Yb:R:=(.mk:Sg 0x13473100fe02300218e801e421ae20ce21012f9e3 [a] h [Eg (Yw K),Ld (Xi c r K)]).F
def Qn:R:=(.mk:Sg 0x1411022200218e801e2101203 [a] h [c 52,Eg (Yb c r K)]).F
def Ll:R:=(.mk:Sg 0x13100002328430be [a,b,d] h [Eg (Qn c r K)]).F
def LV:R:=(.mk:Sg 0x120243002683002420e22451c4fde304e2a01225e2fbe3 [a] h [Ld (Ll c r K)] [] [] [(.int .i64 (-1))]).F
def LW:Ru r R:=(.mk:Sg 0x12012e71204e3732e620ce76231140343201012e05e [a,b,d] h [c 139,Ld (T3 K)] [] [List.replicate 64 (.int .u8 0)]).F
def Sz:Ru K (Ru r (Ru c R)):=
 some (.tuple [a,b],h)
def LX:R:=(.mk:Sg 0x12323056230232214b2007e93304e00218e701e20ce2733131e67432e5405b473011e0ee43201412e9 [a,b,d] h [c 139,Ld (Qp K),builtin TT .delete #[116,239],Ei (Sz c r K)] [cu2 (fun b n=>Bp (Df [(0,1),(1,1)]) [.int .i64 0,.int .i64 0] [(0,b),(1,n)])]).F
def LY:Ru r R:=(.mk:Sg 0x1225221130332201 [a,b] h [c 139,Ei (Qg K)]).F
def LZ:Ru K (Ru r (Ru c R)):=
 H4 e fun f=>
 k4 a b d f h
def L':R:=(.mk:Sg 0x18765410000e22820fe26330153116e [a,b,d,e] h [Ld (fun a e f=>P0 c r a [e,f]),Tu (LZ c r K k4)]).F
def J9(c:Ah)(r:Ah)(K:Nat):Nat->A4
 | 0=>fun _ _ _ _ _=>none
 | m+1=>fun a b d e h=>
  cE Iz .lss 3 e d
  (L' c r K (J9 c r K m) a b d e h)
  (some (.tuple [],h))
def L_:R:=(.mk:Sg 0x100235410213e210130de [a,b] h [Eg (Ua K),Tu (J9 c r K K)]).F
def MB:R:=(.mk:Sg 0x15078e09e1204e209e1ee609e1ee54224107e1107e20ce01e131200e22121007ed614e230b311b54230931194421073117342105311524232013140d0e05e [a,b,d] h [Ei (fun e f=>Eh K e (.int .i64 6) f),Ld (Eh K),Ei (Q2 K),Eg (O1 K),builtin TT .copy #[106,106]] [cu1 (fun w=>Oa 32 1 w none none none),cu1 (fun d=>Oa 44 1 d none none none)] [[.An,.bool false]]).F
def Pn:R:=(.mk:Sg 0x156731000e0078e71204e271ee651ee501e2820fe2101418e5078e05e078e05e289e9 [a] h [Eg (Ry K),Ld (MB K)] [] [List.replicate 44 (.int .u8 0)]).F
def MC:Ru K R:=(.mk:Sg 0x100089e31204e2318e6318e5 [a,b] h).F
def tQ:R:=(.mk:Sg 0x14320000e0089e41204e2418e60007e01e285409e [a,b,d,e] h [Ei (MC K)] [cu0 (Bp (Df [(0,1),(1,1),(2,1),(3,1),(4,1),(5,1),(6,32)]) (List.replicate 6 (.int .i64 0)++List.replicate 32 (.int .u8 0)) [])]).F
def tR:R:=(.mk:Sg 0x1202c07e4602501e0ae4602378e802e09e1ee531ee504e2d00318e802e378e11ee06e20ce2151618e5232401e470ce0b2343721207e2614e0ee289e018e06e23456b6107e3062213052211042211032212111210131007e089e05e378e9 [a,b] h [Eg (oy K),Eg (fun g=>Eo K g (.int .i64 6)),Ei (Eo K),Ei (Mf K),builtin TT .copy #[106,106],Eg (Pn K),Tu (tQ K)] [cu1 (fun d=>Oa 44 1 d none none none),cu6 (fun a i j n o p=>Bp (Df [(0,1),(1,1),(2,1),(3,1),(4,1),(5,1),(6,32)]) (List.replicate 6 (.int .i64 0)++List.replicate 32 (.int .u8 0)) [(0,a),(1,i),(2,j),(3,n),(4,o),(5,p)]),cu1 (fun u=>Oa 32 1 u none none none)] [List.replicate 6 (.int .i64 0)++List.replicate 32 (.int .u8 0),List.replicate 44 (.int .u8 0)]).F
def MD:R:=(.mk:Sg 0x100012e71204e2732e6232e5232e26e522012f2e5 [a,b,d] h [Ei (Ye K)]).F
def ME:R:=(.mk:Sg 0x1308e06e3403012e09e1204e209e32e60107e00e00218e801e20ce02e131201e22121007e01e514e2c211d442c0a301b34230830192423063017141010430121033014040d0e05e [a,b,d] h [Ld (Eh K),Ei (fun e u=>Eh K e (.int .i64 6) u),Ei (Q2 K),Eg (O1 K),Ld (MD K)] [cu1 (fun x=>Oa 44 1 x none none none),cu0 (Bp (N8 1) (List.replicate 64 (.int .u8 0)) [])] [[.An,.bool false]]).F
def X6:R:=(.mk:Sg 0x156731000e0012e61204e2632e60007e01e2820fe2101323e5012e05e47ae923be9 [a,b] h [Eg (Ku K),Ld (ME K)] [cu0 (Bp (N8 1) (List.replicate 64 (.int .u8 0)) [])] [List.replicate 64 (.int .u8 0)]).F
def HE:R:=(.mk:Sg 0x1002200e285e9818e2573007e22221618e21102e57565504b22201318e322310e265200b0ee [a] h [Ei (Wl [.int .i64 0,.int .i64 0,.int .i64 0,.int .i64 0,.int .i64 0,.int .i64 0] 87),Eg (Dd K),Ei (Wl [.int .i64 0] 3)] [cu3 (fun b e i=>Bp (Df [(0,6),(6,1),(7,1)]) [.int .i64 0,.int .i64 0,.int .i64 0,.int .i64 0,.int .i64 0,.int .i64 0,.An,.An] [(0,b),(1,e),(2,i)])]).F
def mM:R:=(.mk:Sg 0x1511009e070200e62820fe2101265209e9 [a] h [Eg (Nr K),Eg (HE K)]).F
def AK:Ru K (Ru r (Ru c R)):=(.mk:Sg 0x1002200e [a] h).F
def AJ:Ru K (Ru r (Ru c R)):=
 H4 e fun f=>
 k4 a b d f h
def AH:R:=(.mk:Sg 0x1d2ba4302b2212111823e5521ee67514e92166214e802165014e62201245 [a,b,d,e] h [Ei (sZ K),Eg (fun o=>By (List.replicate 5 (.int .i64 0)++List.replicate 44 (.int .u8 0)) 136 49 1 [(0,o)]),Ei (Ef 136 49),Tu (AJ c r K k4)]).F
def S8(c:Ah)(r:Ah)(K:Nat):Nat->A4
 | 0=>fun _ _ _ _ _=>none
 | m+1=>fun a b d e h=>
  oE 3 a h fun f=>
  Al (Gx K f h) fun g h=>
  Al (I8 K g h) fun i h=>
  cE Iz .lss 3 e i
  (AH c r K (S8 c r K m) a b d e h)
  (AK c r K d h)
def AM:R:=(.mk:Sg 0x11024b4202111223e53223e621ff3f917e07ae05e818e24564007e21012e67545505b484010e322110e0ee [a,b] h [Eg (sY K),Eg (fun n=>By (List.replicate 5 (.int .i64 0)++List.replicate 44 (.int .u8 0)) 136 49 1 [(0,n)]),Tu (S8 c r K K)] [cu4 (fun a d e g=>Bp (Df [(0,1),(1,1),(2,1),(3,1),(4,1),(5,44)]) (List.replicate 5 (.int .i64 0)++List.replicate 44 (.int .u8 0)) [(0,.int .i64 4),(1,a),(3,d),(4,e),(5,g)])] [List.replicate 5 (.int .i64 0)++List.replicate 44 (.int .u8 0)]).F
def Yq:R:=(.mk:Sg 0x14320000e0b0200e6285409e [a,b,d,e] h [Ei (AM c r K)]).F
def wq:R:=(.mk:Sg 0x120257430269b43020fe0092321211153409e2d20fe210124522ce9 [a,b] h [c 93,Eg (Gx K),Ld (Ns K),Tu (Yq c r K)]).F
def zO:R:=(.mk:Sg 0x10023266271e717e93615e965905b673611e0ee102531166523201565 [a,b,d,e] h [Ei (fun a f=>S7 K a f (.int .i64 (-1))),Ld (S7 K)]).F
def J1:R:=(.mk:Sg 0x17bdc42000e0232820fe242111e57265200e4b80c665600b0ee32200318e801e349e0606e20ce43201449e9 [a,b,d] h [Ei (Lp K),Ei (Jm K),Tu (zO K)] [] [[.int .i64 0,.int .i64 0,.int .i64 0,.int .i64 0,.int .i64 0,.int .i64 0]]).F
def Lm:Ru K (Ru r (Ru c R)):=(.mk:Sg 0x10005043e31304e2312e6312e5 [a,b,d] h).F
def Yy:R:=(.mk:Sg 0x143230010e0000043e31304e2312e60007e04e0053701e [a,b,d,e] h [Ld (Lm c r K)] [cu0 (Bp (N8 1) (List.replicate 32 (.int .u8 0)) [])]).F
def Ik:Ru K (Ru r (Ru c R)):=
 H4 j fun n=>
 k8 a b d e f g i n h
def Yu:R:=(.mk:Sg 0x103e02e6cba9881004e03e72cba9810c0aed2820fe2620120de00a1219e80ae2612e6912e5 [a,b,d,e,f,g,i,j,n,o] h [Ei (Eu K),cl8 (Ik c r K k8)]).F
def Xo:R:=
 iX n fun q=>
 gm q
 (Ik c r K k8 a b d e f g o p h)
 (Yu c r K k8 a b d e f g i j o p h)
def Qy:R:=(.mk:Sg 0x107e06e42c05e04e03e02e01e00eb104000043e03e1304e203e12e60107e03e00318e801e443e112e06e421ae20ce246940120de1051219e20de0031219e5652afe0206e982007e [a,b,d,e,f,g,i,j] h [c 112,Bsr (Xo c r K k8)] [cu2 (fun i j=>j8 2 2 true 2 i j),cu0 (Bp (N8 1) (List.replicate 32 (.int .u8 0)) [])] [[.int .i64 0,.int .i64 0],List.replicate 32 (.int .u8 0)]).F
def Dc(c:Ah)(r:Ah)(K:Nat):Nat->A8
 | 0=>fun _ _ _ _ _ _ _ _ _=>none
 | m+1=>fun a b d e f g i j h=>
  cE Iz .lss 3 j (.int .i64 2)
  (Qy c r K (Dc c r K m) a b d e f g i j h)
  (Yy c r K d e f g h)
def Yh:R:=(.mk:Sg 0x100200009cba800252207e232107e814724232007e524414043e05e [a,b,d] h [cl8 (Dc c r K K)] [cu2 (fun f g=>Bp (N8 1) [.int .i64 0,.int .i64 0] [(0,f),(1,g)]),cu2 (fun j n=>Bp (N8 1) [.int .i64 0,.int .i64 0] [(0,j),(1,n)]),cu2 (fun i o=>Bp (N8 2) [.int .i64 0,.int .i64 0,.int .i64 0,.int .i64 0] [(0,i),(1,o)])] [List.replicate 32 (.int .u8 0)]).F
def MF:R:=(.mk:Sg 0x156731000e0000043e61304e2612e60007e04e2820fe25201365043e05e349e9 [a,b] h [Ei (Lc K),Ld (Yh c r K)] [cu0 (Bp (N8 1) (List.replicate 32 (.int .u8 0)) [])] [List.replicate 32 (.int .u8 0)]).F
def EU:Ru r (Ru c R):=(.mk:Sg 0x1222533031e67565505b273211e0ee [a,b,d] h [Ld (J1 K)]).F
def ET:R:=(.mk:Sg 0x12ba31032200318e801e426622fff4f00e17e049e05ed18e20ce26201ff3f972633007e612e5607b210e5210e23c0ee [a,b,d] h [c 69,Ld (EU c r K)] [cu3 (fun f b g=>Bp (Df [(0,1),(1,1),(2,1),(3,1),(4,1),(5,1),(6,32)]) (List.replicate 6 (.int .i64 0)++List.replicate 32 (.int .u8 0)) [(0,.int .i64 3),(1,f),(2,.int .i64 1),(3,b),(6,g)])] [[.int .i64 0,.int .i64 0,.int .i64 0,.int .i64 0,.int .i64 0,.int .i64 0]]).F
def Y0:R:=(.mk:Sg 0x132222b33210007e82300e10e0318e701e298310600318e701e4212e622ff3fa17e043e05e918e20ce232011e57565504b273011e0ee [a,b,d] h [c 121,Ld (ET c r K),Ld (J1 K)] [cu0 (Bp (Df [(0,1),(1,1),(2,1),(3,1),(4,1),(5,1)]) [.int .i64 0,.int .i64 0,.int .i64 0,.int .i64 0,.int .i64 0,.int .i64 0] [(0,.int .i64 2)])] [List.replicate 32 (.int .u8 0)]).F
def EX:R:=(.mk:Sg 0x139831000231023801e204349e0606e20ce42201223 [a,b] h [Ei (Lp K),Ld (Y0 c r K)] [] [[.int .i64 0,.int .i64 0,.int .i64 0,.int .i64 0,.int .i64 0,.int .i64 0]]).F
def CF:Ru K (Ru r R):=(.mk:Sg 0x16543100ee040200e60ee0218e701e62201203 [a,b,d,e] h [c 97,Ld k3]).F
def CE:R:=(.mk:Sg 0x17654410540200ea2162114e622319e41c06e0ee0218e701e0050200e422623fff4f00e17ea22319e81c2a2007e21f83f9010e622319e41c0ee1be00218e701e623301445 [a,b,d,e] h [c 138,Tu (CF c r K k3)] [cu2 (fun e n=>Bp (Df [(0,1),(1,1)]) [.int .i64 0,.int .i64 0] [(0,e),(1,n)])]).F
def Kz(c:Ah)(r:Ah)(K:Nat):Nat->A3
 | 0=>fun _ _ _ _=>none
 | m+1=>fun a b d h=>
  Al (Si K a b h) fun e h=>
  cE iD .eql 3 e (.int .i64 (-1))
  (some (.tuple [(.bool false),(.int .i64 0)],h))
  (CE c r K (Kz c r K m) a b d e h)
def CG:R:=
 Pz 58 d h fun e h=>
 Kz c r K K a b e h
def Uq:Ru K (Ru r (Ru c R)):=
 some (a,h)
def zR:R:=(.mk:Sg 0x1213031300065321b00218e701e5221130332201 [a,b] h [c 139,Ei (Sn K),Ld (Ya K),Eg (Uq c r K)]).F
def MG:Ru K R:=(.mk:Sg 0x10007ae31204e2323e6323e5 [a,b] h).F
def Vr:R:=(.mk:Sg 0x14320000e007ae41204e2423e60007e01e285409e [a,b,d,e] h [Ei (MG K)] [cu0 (Bp (Df [(0,1),(1,1),(2,1),(3,1),(4,1),(5,44)]) (List.replicate 5 (.int .i64 0)++List.replicate 44 (.int .u8 0)) [])]).F
def Vm:R:=(.mk:Sg 0x120253410247541000218e802e410103e2d6509e [a,b,d,e,f] h [Eg (Sl K),Tu (Vr K)]).F
def MH:R:=(.mk:Sg 0x120202e05e06e5602505e08e09e56020fe215102e23e503e2d1000e25e232401e4713e002e2343721107eb514e0ee6216a414e62169314e62168214e62167114e9121c0821130721130621110521127ae023e06e21007e1022113101 [a,b] h [Eg (oy K),Ei (Eo K),Eg (fun d=>Eo K d (.int .i64 6)),Ei (Mf K),builtin TT .copy #[106,106],Eg (Ku K),cl5 (Vm K)] [cu1 (fun e=>Bp (Df [(0,1),(1,1),(2,1),(3,1),(4,1),(5,44)]) (List.replicate 5 (.int .i64 0)++List.replicate 44 (.int .u8 0)) [(0,e)]),cu1 (fun x=>Oa 44 1 x none none none)] [List.replicate 5 (.int .i64 0)++List.replicate 44 (.int .u8 0)]).F
def tS:R:=(.mk:Sg 0x137210307ae81204e2823e60107e00e00218e801e20ce232032741007e4f2e5400b0ee07ae05e412e923be9 [a,b] h [Ei (Zc K),Ei (MH K)] [cu1 (fun e=>Oa 64 1 e none none none),cu0 (Bp (Df [(0,1),(1,1),(2,1),(3,1),(4,1),(5,44)]) (List.replicate 5 (.int .i64 0)++List.replicate 44 (.int .u8 0)) [])] [List.replicate 5 (.int .i64 0)++List.replicate 44 (.int .u8 0)]).F
def MI:Ru K R:=(.mk:Sg 0x10007ae31204e2323e6323e5 [a,b] h).F
def Hu:R:=(.mk:Sg 0x14320000e007ae41204e2423e60007e01e285409e [a,b,d,e] h [Ei (MI K)] [cu0 (Bp (Df [(0,1),(1,1),(2,1),(3,1),(4,1),(5,44)]) (List.replicate 5 (.int .i64 0)++List.replicate 44 (.int .u8 0)) [])]).F
def J5:R:=(.mk:Sg 0x12026540026a94002421e251ee52441405e2d7609e [a,b,d,e,f,g] h [Tu (Hu K)]).F
def Nv:R:=(.mk:Sg 0x120265436002487656004222e41401e2d7609e [a,b,d,e,f,g] h [cl6 (J5 K)]).F
def Kj:R:=(.mk:Sg 0x12023cd04e62025601e02e07e62020fe2111323e504e2d00718e802e27ae023e06e201e00edc36007e31ee5804378e11ee06e20ce2101318e507ae05e289e9 [a,b,d,e,f] h [Eg (Pn K),Eg (Ku K),cl6 (Nv K)] [cu6 (fun t b d e f u=>Bp (Df [(0,1),(1,1),(2,1),(3,1),(4,1),(5,44)]) (List.replicate 5 (.int .i64 0)++List.replicate 44 (.int .u8 0)) [(0,t),(1,b),(2,d),(3,e),(4,f),(5,u)])] [List.replicate 5 (.int .i64 0)++List.replicate 44 (.int .u8 0),List.replicate 44 (.int .u8 0)]).F
def MJ:Ru K R:=(.mk:Sg 0x100089e31204e2318e6318e5 [a,b] h).F
def MK:R:=(.mk:Sg 0x1cb2103089ec1204e2c18e60007e00e00218e801e20ce23456501644534424314418e5 [a,b,d] h [cl5 (Kj K),Ei (MJ K)] [cu0 (Bp (Df [(0,1),(1,1),(2,1),(3,1),(4,1),(5,1),(6,32)]) (List.replicate 6 (.int .i64 0)++List.replicate 32 (.int .u8 0)) [])]).F
def tT:R:=(.mk:Sg 0x129a3104089ea1204e2a18e60007e00e00318e801e389e018e06e20ce2420121ee54514e304089e05e27ae9 [a] h [Ei (tR K),Ld (MK K)] [cu0 (Bp (Df [(0,1),(1,1),(2,1),(3,1),(4,1),(5,1),(6,32)]) (List.replicate 6 (.int .i64 0)++List.replicate 32 (.int .u8 0)) [])] [List.replicate 6 (.int .i64 0)++List.replicate 32 (.int .u8 0)]).F
def AU:Ru K (Ru r (Ru c R)):=(.mk:Sg 0x1002200e [a] h).F
def AQ:Ru K (Ru r (Ru c R)):=
 H4 f fun g=>
 k5 a b d e g h
def AP:R:=
 Oo 64 d h fun i=>
 Al (By (List.replicate 64 (.int .u8 0)) 32 64 1 [(0,i)] h) fun j h=>
 Al (Ef 32 64 b j h) fun n h=>
 AQ c r K k5 a n e f g h
def AN:R:=(.mk:Sg 0x101e00ed2cb6103b0200e500318e801e312e132e06e20ce23201323e55f2e527ae023e06e223e56423e15e [a,b,d,e,f] h [Ei (X6 K),cl6 (AP c r K k5)] [] [List.replicate 5 (.int .i64 0)++List.replicate 44 (.int .u8 0),List.replicate 64 (.int .u8 0)]).F
def Qz(c:Ah)(r:Ah)(K:Nat):Nat->A5
 | 0=>fun _ _ _ _ _ _=>none
 | m+1=>fun a b d e f h=>
  cE Iz .lss 3 f e
  (AN c r K (Qz c r K m) a b d e f h)
  (AU c r K b h)
def AW:R:=(.mk:Sg 0x10024b03500313e [a,b] h [cl5 (Qz c r K K)]).F
def AV:R:=(.mk:Sg 0x1372102b0200e500218e801e20ce7220124542ce923be9 [a,b,d] h [c 63,Ei (AW c r K)]).F
def Nu:Ru K (Ru r (Ru c R)):=
 some (a,h)
def Nw:R:=(.mk:Sg 0x131000ae02328430be [a,b,d] h [Eg (Nu c r K)]).F
def ML:R:=(.mk:Sg 0x120233102453102525e8fde3c2a00218e702e20ce2533031e67532e5505b273011e0ee [a,b,d] h [c 177,Ld (Nw c r K)]).F
def MM:R:=(.mk:Sg 0x12a931032200318e801e4232e622ff3fa17e012e05e918e20ce232011e57623e5604b2f2e5273b27c0ee [a,b,d] h [Ei (X6 K),Ld (ML c r K)] [] [List.replicate 64 (.int .u8 0)]).F
def MN:R:=(.mk:Sg 0x12ca31032200318e801e4223e6217ff4fd17e07ae05ec18e20ceba28350f1e8750ee5fde11e318e5300b0ee72162514e389e9 [a,b,d,e,f,g] h [cl5 (Kj K),Ld (MM c r K)] [] [List.replicate 5 (.int .i64 0)++List.replicate 44 (.int .u8 0)]).F
def We:Ru K (Ru r (Ru c R)):=(.mk:Sg 0x1002 [] h).F
def GA:Ru K (Ru r (Ru c R)):=
 H4 f fun g=>
 k5 a b d e g h
def F_:R:=(.mk:Sg 0x100edcba510245303ff3fa726521c03f9bb8615e302e5010e573211e0ee246e013e06e213e56413e15e [a,b,d,e,f] h [Ld (J1 K),cl5 (GA c r K k5)] [] [[.int .i64 0]++List.replicate 32 (.int .u8 0)]).F
def Jq(c:Ah)(r:Ah)(K:Nat):Nat->A5
 | 0=>fun _ _ _ _ _ _=>none
 | m+1=>fun a b d e f h=>
  cE Iz .lss 3 f e
  (F_ c r K (Jq c r K m) a b d e f h)
  (We c r K h)
def Vx:R:=
 Fz b fun e=>
 Jq c r K K a d b e (.int .i64 0) h
def GD:Ru K (Ru r (Ru c R)):=
 H4 i fun j=>
 k7 a b d e f g j h
def GC:R:=(.mk:Sg 0x1cba2765720272112101665 [a,b,d,e,f,g,i,j] h [Eg (fun n=>By [.int .i64 0,.int .i64 0,.int .i64 0,.int .i64 0,.int .i64 0,.int .i64 0] 87 6 1 [(0,n)]),Ei (Ef 87 6),cl7 (GD c r K k7)]).F
def GB:R:=(.mk:Sg 0x106e05e04e203e02e01e00e81032200318e801e349e1606e20ce2a201245b4007e212e54114e304613e246e013e06e213e58613e15e [a,b,d,e,f,g,i] h [c 69,cl8 (GC c r K k7)] [cu4 (fun d p q u=>Bp (Df [(0,1),(1,1),(2,1),(3,1),(4,1),(5,1),(6,32)]) (List.replicate 6 (.int .i64 0)++List.replicate 32 (.int .u8 0)) [(0,.int .i64 1),(1,d),(2,p),(3,q),(6,u)])] [[.int .i64 0]++List.replicate 32 (.int .u8 0),[.int .i64 0,.int .i64 0,.int .i64 0,.int .i64 0,.int .i64 0,.int .i64 0]]).F
def Iy(c:Ah)(r:Ah)(K:Nat):Nat->A7
 | 0=>fun _ _ _ _ _ _ _ _=>none
 | m+1=>fun a b d e f g i h=>
  cE Iz .lss 3 i g
  (GB c r K (Iy c r K m) a b d e f g i h)
  (Vx c r K a b e h)
def GH:R:=(.mk:Sg 0x10026b0365700513e22423c [a,b] h [cl7 (Iy c r K K)]).F
def GG:R:=(.mk:Sg 0x14321022200218e801e2101 [a,b] h [c 68,Ei (GH c r K)]).F
def GF:R:=(.mk:Sg 0x15421003e0232820fe32201 [a,b] h [Ei (Xz K),Ei (GG c r K)]).F
abbrev Yo(K:Nat)(c:Ah):Ah:=(w2 67 (Xz K) (w3 70 (J1 K) c))
def GK:Ru K (Ru r (Ru c R)):=(.mk:Sg 0x1002 [] h).F
def GJ:Ru K (Ru r (Ru c R)):=
 H4 e fun f=>
 k4 a b d f h
def GI:R:=(.mk:Sg 0x187654102733010007e223 [a,b,d,e] h [Ld (J1 K),Tu (GJ c r K k4)] [cu0 (Bp (Df [(0,1),(1,1),(2,1),(3,1),(4,1),(5,1)]) [.int .i64 0,.int .i64 0,.int .i64 0,.int .i64 0,.int .i64 0,.int .i64 0] [])]).F
def Om(c:Ah)(r:Ah)(K:Nat):Nat->A4
 | 0=>fun _ _ _ _ _=>none
 | m+1=>fun a b d e h=>
  nX b d fun f=>
  cE Iz .lss 3 e f
  (GI c r K (Om c r K m) a b d e h)
  (GK c r K h)
def GO:R:=
 Om c r K K a b d b h
def GN:R:=(.mk:Sg 0x1ba931032200318e801e349e0606e20ce252016523007e22423c [a,b,d] h [c 69,Ld (GO c r K)] [cu3 (fun f b d=>Bp (Df [(0,1),(1,1),(2,1),(3,1),(4,1),(5,1),(6,32)]) (List.replicate 6 (.int .i64 0)++List.replicate 32 (.int .u8 0)) [(0,.int .i64 2),(1,f),(2,.int .i64 1),(3,b),(4,d)])] [[.int .i64 0,.int .i64 0,.int .i64 0,.int .i64 0,.int .i64 0,.int .i64 0]]).F
def GM:R:=(.mk:Sg 0x154331022200218e801e2101 [a,b,d] h [c 68,Ld (GN c r K)]).F
def Ov:R:=(.mk:Sg 0x154330003e023286509e [a,b,d,e,f] h [Ld (GM c r K)]).F
def So:R:=(.mk:Sg 0x120254351027a985102922e721ee21007e21013030be2d6509e [a,b,d,e,f] h [Eg (Cf K),cl5 (Ov c r K)] [cu1 (fun j=>ky 3 false 0 j)]).F
def GL:R:=(.mk:Sg 0x12026545102376551010620ec2d20fe32201 [a,b,d] h [Ei (Vj K),cl5 (So c r K)]).F
def MO:Ru K R:=(.mk:Sg 0x10007ae31204e2323e6323e5 [a,b] h).F
def tV:R:=(.mk:Sg 0x14320002e007ae41204e2423e60007e01e285409e [a,b,d,e] h [Ei (MO K)] [cu0 (Bp (Df [(0,1),(1,1),(2,1),(3,1),(4,1),(5,44)]) (List.replicate 5 (.int .i64 0)++List.replicate 44 (.int .u8 0)) [])]).F
def MP:R:=(.mk:Sg 0x12027640024984006225e724d2d3225e514 [a,b,d,e] h [Tu (tV K)]).F
def rE:R:=(.mk:Sg 0x12800ed410407ae91204e2923e60007e00e00318e801e37ae023e06e20ce23201432e54f2e507ae05e412e923be9 [a,b,d,e] h [Ei (tS K),Tu (MP K)] [cu0 (Bp (Df [(0,1),(1,1),(2,1),(3,1),(4,1),(5,44)]) (List.replicate 5 (.int .i64 0)++List.replicate 44 (.int .u8 0)) [])] [List.replicate 5 (.int .i64 0)++List.replicate 44 (.int .u8 0)]).F
def Qr:Ru K (Ru r R):=(.mk:Sg 0x1765435100ee0049e81204e28660007e01e0ee0218e701e72201 [a,b,d,e,f,g] h [c 97,cl5 k5] [cu0 (Bp (Df [(0,1),(1,1),(2,1),(3,1),(4,1),(5,1)]) [.int .i64 0,.int .i64 0,.int .i64 0,.int .i64 0,.int .i64 0,.int .i64 0] [])]).F
def Ys:R:=(.mk:Sg 0x1876543600ba987660032165fdec20ae3fde307e283701e2fce3 [a,b,d,e,f,g] h [cl6 (Qr c r K k5)]).F
def Xq:R:=(.mk:Sg 0x13a98766203049eb1204e2b660307e00e0ee0218e701e00049e0be1204e20be66565321605efdec20ae03efde3326627fffff6f09e17e049e05e08e18e203e89a5207e21107e24217e0005f05e721007e00e614e2f2e52e0004f02eb97c87003fbfde11e762e7fce11e673fbe11e0ee4ee00218e701e20ce5423401518e5 [a,b,d,e,f] h [c 160,Ei (Ow K),cl6 (Ys c r K k5)] [cu1 (fun w=>Oa 32 1 w none none none),cu1 (fun y=>Tg .i64 y),cu5 (fun o p q d z=>Bp (Df [(0,1),(1,1),(2,1),(3,1),(4,1),(5,1)]) [.int .i64 0,.int .i64 0,.int .i64 0,.int .i64 0,.int .i64 0,.int .i64 0] [(0,.int .i64 1),(1,o),(2,p),(3,q),(4,d),(5,z)]),cu0 (Bp (Df [(0,1),(1,1),(2,1),(3,1),(4,1),(5,1)]) [.int .i64 0,.int .i64 0,.int .i64 0,.int .i64 0,.int .i64 0,.int .i64 0] [])] [[.int .i64 0,.int .i64 0,.int .i64 0,.int .i64 0,.int .i64 0,.int .i64 0]]).F
def Gc(c:Ah)(r:Ah)(K:Nat):Nat->A5
 | 0=>fun _ _ _ _ _ _=>none
 | m+1=>fun a b d e f h=>
  Al (c 159 [a] h) fun g h=>
  cE iF .neq 38 g (.int .i64 0)
  (Bp (Df [(0,1),(1,1),(2,1),(3,1),(4,1),(5,1)]) [(.int .i64 0),(.int .i64 0),(.int .i64 0),(.int .i64 0),(.int .i64 0),(.int .i64 0)] [] fun i=>
  Vz 6 f i h fun h=>
  Gi TT [.c f 87,.v g] h)
  (Xq c r K (Gc c r K m) a b d e f h)
def Yv:R:=
 Gc c r K K a b d e f h
def MQ:R:=(.mk:Sg 0x178cb95104049e81204e28660007e00e00318e801e37ae123e06e20ce8700002501318e5049e05e389e9 [a,b,d,e] h [cl5 (Kj K),cl5 (Yv c r K)] [cu0 (Bp (Df [(0,1),(1,1),(2,1),(3,1),(4,1),(5,1)]) [.int .i64 0,.int .i64 0,.int .i64 0,.int .i64 0,.int .i64 0,.int .i64 0] [])] [[.int .i64 0,.int .i64 0,.int .i64 0,.int .i64 0,.int .i64 0,.int .i64 0],List.replicate 5 (.int .i64 0)++List.replicate 44 (.int .u8 0)]).F
def Zr:Ru K (Ru r (Ru c R)):=(.mk:Sg 0x100050043e41304e2412e6212e53614e [a,b] h).F
def Gu(c:Ah)(r:Ah)(K:Nat)(base:Nat)(s:DX)(a:EV)(b:EV)(d:EV)(e:EV)(h:Ab):R:=
 gX d e fun f=>
 gm f
 (Bp (N8 1) (List.replicate 32 (.int .u8 0)) [] fun g=>
 Vz 32 a g h fun h=>
 Gi TT [.c a 81,.v (.bool false),.v (.int .i64 0)] h)
 (Zr c r K a b h)
def Je:R:=
 gX f g fun i=>
 gk i
 (nV 7 a fun j=>
 L0 12 4095 base j s fun s=>Oo 256 j h fun n=>
 Xg 6 e fun o=>
 Oa 32 1 o none none none fun p=>
 Kw 15 32767 s h (fun h=>(Ow K n p h)) fun q h s=>
 Tg .i64 q fun t=>
 gZ 5 18 131583 base b s h fun s u=>
 jF t u fun w=>
 Gu c r K base s d e i w h)
 (Gu c r K base s d e i tU h)
def Zm:R:=
 Oo 49 f h fun g=>
 Al (tT K g h) fun i h=>
 kM i fun j n=>
 jE 38 (List.replicate 6 (.int .i64 0)++List.replicate 32 (.int .u8 0)) 151 j h fun o h=>
 Yk h fun base s=>
 Jk iF (bin TT .neq 38) n (.int .i64 0) fun p=>
 gk p
 (gZ 5 4 15 base o s h fun s q=>
 jF q b fun t=>
 Je c r K base s a d e o p t h)
 (Je c r K base s a d e o p tU h)
def Jh:R:=(.mk:Sg 0x17654350000040043e71304e2712e60007e04e288709e [a,b,d,e,f,g,i] h [cl5 (Zm c r K)] [cu0 (Bp (N8 1) (List.replicate 32 (.int .u8 0)) [])]).F
def Jg:R:=(.mk:Sg 0x12027654370025a98767002325e64474405e2d8709e [a,b,d,e,f,g,i] h [cl7 (Jh c r K)]).F
def Zk:R:=(.mk:Sg 0x1202301e00edb71024503e02e01ed71030224e30403e2d00318e802e4223e6217ff4fd17e07ae05ec18e20ce273440f1e87832e7310e932e5904b2f2e5273b27c0ee [a,b,d,e,f,g] h [Tu (rE K),cl7 (Jg c r K)] [] [List.replicate 5 (.int .i64 0)++List.replicate 44 (.int .u8 0)]).F
def MR:R:=(.mk:Sg 0x100040043e91304e2912e60007e2040043ea1304e3a12e6db2210007e08e0ce0318e701e4040043e91304e2912e60007e03e0ee0318e701e289dca610900318e701e4232e62bff3fc17e112e05eb18e20ce2833071e77412e6310e473011e0ee043e05e349e9 [a,b,d,e] h [c 162,cl6 (Zk c r K),c 163] [cu0 (Bp (N8 1) (List.replicate 32 (.int .u8 0)) [])] [List.replicate 32 (.int .u8 0),List.replicate 64 (.int .u8 0)]).F
def Gg:Ru r (Ru c R):=(.mk:Sg 0x12224534010007e [a,b,d] h [Tu (qV K)] [cu0 (Bp (Df [(0,1),(1,1),(2,1)]) [.int .i64 0,.int .i64 0,.int .i64 0] [(1,.int .i64 1),(2,.int .i64 1)])]).F
def Nn:Ru K (Ru r (Ru c R)):=
 H4 f fun g=>
 k5 a b d e g h
def Uk:R:=(.mk:Sg 0x187654530a987653092221411103e2820fe64201 [a,b,d,e,f] h [c 39,Eg (Cq K),c 41,cl5 (Nn c r K k5)]).F
def Ec(c:Ah)(r:Ah)(K:Nat):Nat->A5
 | 0=>fun _ _ _ _ _ _=>none
 | m+1=>fun a b d e f h=>
  cE Iz .lss 3 f e
  (Uk c r K (Ec c r K m) a b d e f h)
  (Gg c r K a b d h)
def Nm:R:=(.mk:Sg 0x10027655102101265 [a,b,d,e] h [Eg (Dd K),cl5 (Ec c r K K)]).F
def Uh:Ru K (Ru r (Ru c R)):=
 H4 f fun g=>
 k5 a b d e g h
def Ue:R:=(.mk:Sg 0x1cba9851025ba40120ae291fe414271fe214 [a,b,d,e,f] h [Tu (Ti K),cl5 (Uh c r K k5)]).F
def Dp(c:Ah)(r:Ah)(K:Nat):Nat->A5
 | 0=>fun _ _ _ _ _ _=>none
 | m+1=>fun a b d e f h=>
  cE Iz .lss 3 f (.int .i64 3)
  (Ue c r K (Dp c r K m) a b d e f h)
  (Nm c r K a b d e h)
def Mj:R:=
 Al (qT K b h) fun e h=>
 Dp c r K K a b d e (.int .i64 0) h
def Sy:R:=(.mk:Sg 0x15433007023286509e [a,b,d,e,f] h [Ld (Mj c r K)]).F
def Su:R:=(.mk:Sg 0x120248c5302359d53000318e802e00e2d00618e802e20ce212176520ce2353173700027265201b0ee [a,b] h [cl0 (q8 K),Ld (rD K),Eg (mM K),cl5 (Sy c r K)]).F
def Tp:R:=(.mk:Sg 0x139220702300218e801e20ce2343131e67502e5510e443210e210117265200b0ee [a] h [Eg (Dd K),Ld (rA K),Ei (Su c r K)]).F
def H8:R:=(.mk:Sg 0x131007023284309e [a,b,d] h [Eg (Tp c r K)]).F
def X2:R:=(.mk:Sg 0x1202531026931015e0222e231fe61450405e2d20fe2101265209e9 [a] h [Eg (H7 K),Ld (H8 c r K)]).F
abbrev Oy(K:Nat)(c:Ah):Ah:=(w1 33 (H7 K) (w4 42 (qV K) (w1 40 (Cq K) (w1 26 (Dd K) (w4 38 (Ti K) (w1 37 (qT K) (w0 24 (q8 K) (w3 35 (rD K) (w1 36 (mM K) (w3 34 (rA K) c))))))))))
end
variable{d:Nat}(H:Ca disp)
include H
theorem A63(hd:3<=d):R2 disp K d 155 (sX K):=fun _ _=>rl H hd fun d hd=>V3 (Oq H) hd<|rfl
theorem R8(hd:3<=d):R2 disp K d 161 (Ow K):=fun _ _=>rl H hd fun d hd=>V3 (At1 H) hd<|rfl
theorem ZD(hd:2<=d):S3 disp K d 166 DU:=fun _ _ _=>rd rfl rfl H (V1 (LJ H) hd<|rfl)
theorem Y'(hd:2<=d){l:Nat}(tm:Ba)(h:Ab)(A:EV)(G:EV){st:LoopState}{p:Option Code}(J:h.get l=some (.loop st p 166 31 tm [8,9] (Eb TT 166 0).2.2.1 (Eb TT 166 0).2.2.2 d0)):
 Ag TT disp K (d+1) true l [A,G] h=DS (Ag TT disp K d false) (Ag TT disp K d true) K l (tmp tm 2) (tmp tm 3) A G h:=rr rfl rfl (rfl) J rfl (by kernel_rfl)
theorem Ala(hd:3<=d):R3 disp K d 204 (Qp K):=fun _ _ _=>rl H hd fun d hd=>V2 (Mz H) hd<|V2 (Xd H) hd<|V1 (Ib H) hd<|V1 (Ame H) hd<|rfl
theorem Ath(hd:4<=d):R2 disp K d 213 (Ye K):=fun _ _=>rl H hd fun d hd=>V2 (R8 H) hd<|rfl
theorem Aqf(hd:2<=d):S1 disp K d 52 LM:=fun _=>rd rfl rfl H (V1 (Ant H) hd<|rfl)
theorem A2o(hd:4<=d):R2 disp K d 105 (sZ K):=fun _ _=>ll H hd (fun d hd=>V3 (Oq H) hd<|V1 (KD H) hd<|V2 (Lw H) hd<|V2 (A63 H) hd<|rfl) 103 (e5 (Xv K) 1 2 4 5 14)
theorem MS(hd:5<=d):R2 disp K d 109 (Jm K):=fun _ _=>rl H hd fun d hd=>V2 (F0 H) hd<|V3 (LL H) hd<|rfl
theorem W6(hd:6<=d):R2 disp K d 111 (Lc K):=fun _ _=>rl H hd fun d hd=>V2 (MS H) hd<|rfl
theorem Ak6(hd:6<=d):S2 disp K d 121 LN:=fun _ _=>ld rfl rfl H (V2 (W6 H) hd<|rfl) 51 (fun c r=>e5 (Dn c r K) 0 3 4 26 27)
theorem Anu(hd:2<=d):S2 disp K d 133 LO:=fun _ _=>rd rfl rfl H (V3 (Aph H) hd<|V1 (Anf H) hd<|rfl)
theorem Asu(hd:4<=d):R2 disp K d 145 (Zc K):=fun _ _=>ll H hd (fun d hd=>V2 (R8 H) hd<|rfl) 207 (e6 (N0 K) 1 6 7 22 23 24)
theorem Ajr(hd:4<=d):S1 disp K d 159 LV:=fun _=>rd rfl rfl H (V1 (Atd H) hd<|rfl)
theorem Ark(hd:3<=d):S3 disp K d 162 LW:=fun _ _ _=>rd rfl rfl H (V3 (Aok H) hd<|rfl)
theorem An1(hd:3<=d):S3 disp K d 177 LX:=fun _ _ _=>rd rfl rfl H (V3 (Ala H) hd<|rfl)
theorem An2(hd:3<=d):S2 disp K d 179 LY:=fun _ _=>rd rfl rfl H (V2 (Alg H) hd<|rfl)
theorem Anw(hd:2<=d):S2 disp K d 190 L_:=fun _ _=>ld rfl rfl H (V1 (An8 H) hd<|rfl) 5 (fun c r=>e4 (J9 c r K) 0 6 7 8)
theorem MT(hd:4<=d):R1 disp K d 192 (Pn K):=fun _=>rl H hd fun d hd=>V1 (An0 H) hd<|V3 (Oq H) hd<|V2 (KB H) hd<|V1 (X1 H) hd<|rfl
theorem A5y(hd:5<=d):R2 disp K d 196 (tR K):=fun _ _=>rl H hd fun d hd=>V1 (tP H) hd<|V2 (N9 H) hd<|V2 (Xs H) hd<|V1 (MT H) hd<|rfl
theorem MU(hd:5<=d):R2 disp K d 203 (X6 K):=fun _ _=>rl H hd fun d hd=>V1 (Rs H) hd<|V2 (Ath H) hd<|V3 (Oq H) hd<|V2 (KB H) hd<|V1 (X1 H) hd<|rfl
theorem MV(hd:4<=d):R1 disp K d 36 (mM K):=fun _=>rl H hd fun d hd=>V1 (U4 H) hd<|V1 (Ew H) hd<|rfl
theorem AL(hd:4<=d:=by omega):S2 disp K d 63 wq:=fun _ _=>ld rfl rfl H (V1 (Oi H) hd<|V3 (LL H) hd<|V2 (A2o H) hd<|V1 (U3 H) hd<|V1 (A2c H) hd<|rfl) 207 (fun c r=>e4 (S8 c r K) 2 6 7 8)
theorem T5(hd:6<=d):R3 disp K d 70 (J1 K):=fun _ _ _=>rl H hd fun d hd=>V2 (Lw H) hd<|V2 (MS H) hd<|V3 (Ato H) hd<|rfl
theorem Akr(hd:6<=d):S2 disp K d 71 MF:=fun _ _=>ld rfl rfl H (V2 (W6 H) hd<|V2 (Gv H) hd<|rfl) 207 (fun c r=>e8 (Dc c r K) 0 3 4 7 8 9 30 31)
theorem ξ(hd:6<=d):S2 disp K d 84 EX:=fun _ _=>rd rfl rfl H (V2 (Lw H) hd<|V3 (T5 H) hd<|rfl)
theorem XZ(hd:4<=d):S3 disp K d 95 CG:=fun _ _ _=>ld rfl rfl H (V2 (Anv H) hd<|rfl) 5 (fun c r=>e3 (Kz c r K) 0 1 5)
theorem VO(hd:3<=d):S2 disp K d 96 zR:=fun _ _=>rd rfl rfl H (V2 (Anz H) hd<|V3 (Anp H) hd<|rfl)
theorem Axd(hd:5<=d):R2 disp K d 99 (tS K):=fun _ _=>rl H hd fun d hd=>V2 (Asu H) hd<|V1 (Ane H) hd<|V1 (tP H) hd<|V2 (N9 H) hd<|V2 (Xs H) hd<|V1 (Rs H) hd<|rfl
theorem Rj(hd:5<=d):R5 disp K d 158 (Kj K):=fun _ _ _ _ _=>rl H hd fun d hd=>V1 (MT H) hd<|V1 (Rs H) hd<|rfl
theorem A0w(hd:6<=d):R1 disp K d 164 (tT K):=fun _=>rl H hd fun d hd=>V2 (A5y H) hd<|V5 (Rj H) hd<|rfl
theorem WO(hd:5<=d):S3 disp K d 174 AV:=fun _ _ _=>ld rfl rfl H (V2 (MU H) hd<|rfl) 207 (fun c r=>e5 (Qz c r K) 3 10 24 25 26)
theorem An3(hd:5<=d):S6 disp K d 194 MN:=fun _ _ _ _ _ _=>rd rfl rfl H (V5 (Rj H) hd<|V2 (MU H) hd<|rfl)
omit H in
theorem Aqa(c r:Ah)(K:Nat)(m:Nat):jS false (Yo K c) c r K 29 831 [(2,fun A tm h ds=>We c r K h)] m=(fun m A tm h ds=>Jq c r K m (A 0) (A 7) (A 55) (A 56) (A 57) h) m:=
 Mn (E:=fun m A tm h ds=>Jq c r K m (A 0) (A 7) (A 55) (A 56) (A 57) h) rfl (fun m=>jG fun A tm h ds=>by kernel_rfl) m
omit H in
theorem Ans(c r:Ah)(K:Nat)(m:Nat):jS false (Yo K c) c r K 29 415 [(0,fun A tm h ds=>Vx c r K (A 0) (A 1) (A 7) h)] m=(fun m A tm h ds=>Iy c r K m (A 0) (A 1) (A 6) (A 7) (A 28) (A 29) (A 30) h) m:=
 Mn (E:=fun m A tm h ds=>Iy c r K m (A 0) (A 1) (A 6) (A 7) (A 28) (A 29) (A 30) h) rfl (fun m=>jG fun A tm h ds=>by kernel_rfl) m
theorem Δ(hd:6<=d):S2 disp K d 29 GF:=fun _ _=>rm (q:=false) (D:=Yo K (Ag TT disp K d false)) (by kernel_rfl) rfl rfl H (V2 (Atm H) hd<|V3 (T5 H) hd<|rfl) (cut [true,true,true,true,true,true,false,true,false] (Aqa (Ag TT disp K d false) (Ag TT disp K d true) K K) (by kernel_rfl) (by kernel_rfl) (cut [true,true,true,true,true,false,true,false] (Ans (Ag TT disp K d false) (Ag TT disp K d true) K K) (by kernel_rfl) (by kernel_rfl) rfl))
theorem Ι(hd:6<=d):S3 disp K d 45 GL:=fun _ _ _=>ld rfl rfl H (V2 (I4 H) hd<|V3 (T5 H) hd<|V1 (De H) hd<|rfl) 207 (fun c r=>e4 (Om c r K) 0 1 2 10)
theorem MW(hd:6<=d):R4 disp K d 61 (rE K):=fun _ _ _ _=>rl H hd fun d hd=>V2 (Axd H) hd<|rfl
theorem Ajx(hd:5<=d):S4 disp K d 108 MQ:=fun _ _ _ _=>ld rfl rfl H (V5 (Rj H) hd<|V2 (R8 H) hd<|rfl) 11 (fun c r=>e5 (Gc c r K) 0 2 3 5 8)
theorem Al2(hd:6<=d):S4 disp K d 112 MR:=fun _ _ _ _=>rd rfl rfl H (V2 (R8 H) hd<|V1 (A0w H) hd<|V4 (MW H) hd<|rfl)
omit H in
theorem Ae1(c r:Ah)(K:Nat)(m:Nat):jS false (Oy K c) c r K 6 6655 [(2,fun A tm h ds=>Gg c r K (A 5) (A 7) (A 9) h)] m=(fun m A tm h ds=>Ec c r K m (A 5) (A 7) (A 9) (A 72) (A 73) h) m:=
 Mn (E:=fun m A tm h ds=>Ec c r K m (A 5) (A 7) (A 9) (A 72) (A 73) h) rfl (fun m=>jG fun A tm h ds=>by kernel_rfl) m
omit H in
theorem Aem(c r:Ah)(K:Nat)(m:Nat):jS false (Oy K c) c r K 6 3327 [(0,fun A tm h ds=>Nm c r K (A 1) (A 5) (A 7) (A 9) h)] m=(fun m A tm h ds=>Dp c r K m (A 1) (A 5) (A 7) (A 9) (A 55) h) m:=
 Mn (E:=fun m A tm h ds=>Dp c r K m (A 1) (A 5) (A 7) (A 9) (A 55) h) rfl (fun m=>jG fun A tm h ds=>by kernel_rfl) m
theorem Afa(hd:5<=d):S1 disp K d 6 X2:=fun _=>rm (q:=false) (D:=Oy K (Ag TT disp K d false)) (by kernel_rfl) rfl rfl H (V1 (Agq H) hd<|V4 (A6o H) hd<|V1 (Iq H) hd<|V1 (Ew H) hd<|V4 (Atr H) hd<|V1 (A6z H) hd<|V0 (HM H) hd<|V3 (A0t H) hd<|V1 (MV H) hd<|V3 (A62 H) hd<|rfl) (cut [true,true,true,true,true,true,true,true,true,false,true,false] (Ae1 (Ag TT disp K d false) (Ag TT disp K d true) K K) (by kernel_rfl) (by kernel_rfl) (cut [true,true,true,true,true,true,true,true,false,true,false] (Aem (Ag TT disp K d false) (Ag TT disp K d true) K K) (by kernel_rfl) (by kernel_rfl) rfl))
end
end
section
noncomputable section
section
variable (c r:Ah)(K l:Nat)(k0:A0)(k1:A1)(k2:A2)(k3:A3)(k4:A4)(k5:A5)(k6:A6)(k7:A7)(k8:A8)(k9:A9)(oi:ma)(oo:mb)(oq:mR)(m0:B0)(m1:B1)(m2:B2)(m3:B3)(m4:B4)(m5:B5)(m6:B6)(m7:B7)(m8:B8)(m9:B9)(ot:mP)(ov:mQ)(ow:mS)(base:Nat)(s:DX)(tm:Ba)(a b d e f g i j n o p q t u w x y z aa ab ad ae af ag ai aj an ao ap aq au aw ax ay az ba bb bd be bf bg bi bj bn bo bp bq bt bu bw bx bz da db dd de df dg di dj dn dp dq dt du dw dx dy dz ea eb ed ee ef eg ei ej en eo ep eq et eu ew ex ey ez fa fb fd fe ff fg fi fj fn fo fp fq ft fu fw fx fy fz ga gb gd ge gf gg gi gj gn go gp gq gt gu gw gx gy gz ia ib ie ig ii ij io ip iq it iu iw ix iy iz ja jb:EV)(h:Ab)(ds:List Nat)
def Vn:Ru K R:=(.mk:Sg 0x122213 [a] h).F
def MX:Ru K R:=(.mk:Sg 0x125200e214722319e51c204422319e21c [a,b] h).F
def Pu:R:=(.mk:Sg 0x1542100101200e62820fe3101 [a,b] h [Eg (qL K),Ei (MX K)] [] [] [(.int .i64 (-1))]).F
end
variable{d:Nat}(H:Ca disp)
include H
theorem Arl(hd:1<=d):R1 disp K d 19 (Vn K):=fun _=>rl H hd
theorem Aoa(hd:2<=d):R2 disp K d 20 (Pu K):=fun _ _=>rl H hd fun d hd=>V1 (I2 H) hd<|rfl
end
end
section
noncomputable section
section
variable (c r:Ah)(K l:Nat)(k0:A0)(k1:A1)(k2:A2)(k3:A3)(k4:A4)(k5:A5)(k6:A6)(k7:A7)(k8:A8)(k9:A9)(oi:ma)(oo:mb)(oq:mR)(m0:B0)(m1:B1)(m2:B2)(m3:B3)(m4:B4)(m5:B5)(m6:B6)(m7:B7)(m8:B8)(m9:B9)(ot:mP)(ov:mQ)(ow:mS)(base:Nat)(s:DX)(tm:Ba)(a b d e f g i j n o p q t u w x y z aa ab ad ae af ag ai aj an ao ap aq au aw ax ay az ba bb bd be bf bg bi bj bn bo bp bq bt bu bw bx bz da db dd de df dg di dj dn dp dq dt du dw dx dy dz ea eb ed ee ef eg ei ej en eo ep eq et eu ew ex ey ez fa fb fd fe ff fg fi fj fn fo fp fq ft fu fw fx fy fz ga gb gd ge gf gg gi gj gn go gp gq gt gu gw gx gy gz ia ib ie ig ii ij io ip iq it iu iw ix iy iz ja jb:EV)(h:Ab)(ds:List Nat)
def MY:Ru K (Ru r (Ru c R)):=
 some ((.bool true),h)
def MZ:Ru K (Ru r (Ru c R)):=
 H4 e fun f=>
 k4 a b d f h
def M_:R:=(.mk:Sg 0x198764004023247ae801e223e57523e15e223e55223e15e [a,b,d,e] h [Tu (MZ c r K k4)]).F
def Y6(c:Ah)(r:Ah)(K:Nat):Nat->A4
 | 0=>fun _ _ _ _ _=>none
 | m+1=>fun a b d e h=>
  cE Iz .lss 3 e d
  (M_ c r K (Y6 c r K m) a b d e h)
  (MY c r K h)
def NA:R:=
 Fz a fun d=>
 Y6 c r K K a b d (.int .i64 0) h
def xq:R:=(.mk:Sg 0x1432004023285409e [a,b,d,e] h [Ei (NA c r K)]).F
def NB:R:=(.mk:Sg 0x120248410257b4102325e513e813e00e2d2618e802e20ce00220164520ce00220134542ce922ce9 [a,b] h [c 63,Tu (xq c r K)]).F
def Gp:Ru K R:=
 Pz 115 a h fun b h=>
 some ((.func 90 [] [b]),h)
def NC(K:Nat)(a:EV)(h:Ab):R:=
 some (.tuple [],h)
def Q3:Ru K (Ru r (Ru c R)):=
 H4 e fun f=>
 k4 a b d f h
def I7:R:=(.mk:Sg 0x1ba98410000e22820fe26201236e5214e036e06e236e55336e15e [a,b,d,e] h [Ei (fun a j=>P0 c r a [j]),Tu (Q3 c r K k4)] [] [List.replicate 4 (.int .i64 0)++List.replicate 64 (.int .u8 0)]).F
def Dy(c:Ah)(r:Ah)(K:Nat):Nat->A4
 | 0=>fun _ _ _ _ _=>none
 | m+1=>fun a b d e h=>
  cE Iz .lss 3 e d
  (I7 c r K (Dy c r K m) a b d e h)
  (some (.tuple [],h))
def J2:R:=(.mk:Sg 0x100234400213e30de [a,b] h [Tu (Dy c r K K)]).F
def Ge:Ru K R:=
 Pz 63 a h fun b h=>
 some ((.func 144 [] [b]),h)
def H5:Ru K (Ru r (Ru c R)):=
 H4 e fun f=>
 k4 a b d f h
def Ia:R:=(.mk:Sg 0x1ba98410000e22820fe296301232e5212e032e06e232e55332e15e [a,b,d,e] h [Ld (fun a e j=>P0 c r a [e,j]),Tu (H5 c r K k4)] [] [List.replicate 64 (.int .u8 0)]).F
def Cx(c:Ah)(r:Ah)(K:Nat):Nat->A4
 | 0=>fun _ _ _ _ _=>none
 | m+1=>fun a b d e h=>
  cE Iz .lss 3 e d
  (Ia c r K (Cx c r K m) a b d e h)
  (some (.tuple [],h))
def Jx:R:=(.mk:Sg 0x100234400213e30de [a,b] h [Tu (Cx c r K K)]).F
def Oe:R:=(.mk:Sg 0x1222101213 [a] h [Eg (Gp K)]).F
def Ma:R:=(.mk:Sg 0x1222101203 [a] h [Eg (Ge K)]).F
def tW:R:=(.mk:Sg 0x149e02e1104e202e66c654216b514e4216a414ec0d201c11152167314e52166214e52165114e108201307201306201249e0606e21007e103201049e05e [a] h [Ei (Eo K),Eg (fun a=>Eo K a (.int .i64 6))] [cu1 (fun d=>Bp (Df [(0,1),(1,1),(2,1),(3,1),(4,1),(5,1)]) [.int .i64 0,.int .i64 0,.int .i64 0,.int .i64 0,.int .i64 0,.int .i64 0] [(0,d)])] [[.int .i64 0,.int .i64 0,.int .i64 0,.int .i64 0,.int .i64 0,.int .i64 0]]).F
def ND:R:=(.mk:Sg 0x122210142116e203 [a,b] h [Eg (Ma K)]).F
def Js:R:=(.mk:Sg 0x15421001232820fe32201 [a,b] h [Ei (G1 K),Ei (ND K)] [] [] [(.func 59 [] [])]).F
def rF:R:=(.mk:Sg 0x1402ce0de1204e20de4604e45421603e314e20ce213186552167514e52166414e52165314e1000e22110d22130c221209e1606e2343207e10922110822110722132462f1e817e02ce05e718e2343107e41102e57743310e611410e0ee210121007e3514e02ce05e27ae9 [a] h [Eg (oy K),Eg (fun g=>Eo K g (.int .i64 6)),Ei (Eo K),Eg (mM K)] [cu1 (fun e=>Oa 44 1 e none none none),cu3 (fun i j n=>Bp (Df [(0,1),(1,1),(2,1),(3,1)]) [.int .i64 0,.int .i64 0,.int .i64 0,.Bz] [(0,i),(1,j),(2,n)]),cu3 (fun q t u=>Bp (Df [(0,1),(1,1),(2,1),(3,1),(4,1),(5,1)]) [.int .i64 0,.int .i64 0,.int .i64 0,.int .i64 0,.int .i64 0,.int .i64 0] [(0,q),(1,t),(2,u)])] [[.int .i64 0,.int .i64 0,.int .i64 0,.Bz],[.int .i64 0,.int .i64 0,.int .i64 0,.int .i64 0,.int .i64 0,.int .i64 0]]).F
def tX:Ru K R:=(.mk:Sg 0x1002 [] h).F
def NF:Ru K R:=
 H4 e fun f=>
 k4 a b d f h
def NG:R:=(.mk:Sg 0x1a76541022200218e801e283301665234 [a,b,d,e,f,g] h [Ld (J1 K),Tu (NF K k4)]).F
def NH:R:=(.mk:Sg 0x100e65dcb6300203263601e21007e211183472662f5e917e049e05e818e921de2301fe1021ee443210e4101170ee [a,b,d,e] h [Eg (tW K),Eg (Gx K),cl0 (tX K),cl6 (NG K k4)] [cu1 (fun q=>ky 3 false 0 q)] [[.int .i64 0,.int .i64 0,.int .i64 0,.int .i64 0,.int .i64 0,.int .i64 0]]).F
def Y8(K:Nat):Nat->A4
 | 0=>fun _ _ _ _ _=>none
 | m+1=>fun a b d e h=>
  cE Iz .lss 3 e (.int .i64 2)
  (NH K (Y8 K m) a b d e h)
  (tX K h)
def rG:R:=(.mk:Sg 0x100256410210121007e2514e47ae922ce9 [a,b] h [Eg (oy K),Tu (Y8 K K)] [cu1 (fun f=>Oa 44 1 f (some (.int .i64 1)) none none)]).F
def xr:Ru K (Ru r (Ru c R)):=(.mk:Sg 0x10002ce31204e2346345 [a,b] h).F
def NI:Ru K (Ru r (Ru c R)):=
 H4 g fun i=>
 k6 a b d e f i h
def NJ:R:=(.mk:Sg 0x1dcba9860000e002cea1204e2a460007e01e247ae801e223e5b623e15e223e527ae023e06e223e57523e15e [a,b,d,e,f,g] h [cl6 (NI c r K k6)] [cu0 (Bp (Df [(0,1),(1,1),(2,1),(3,1)]) [.int .i64 0,.int .i64 0,.int .i64 0,.Bz] [])] [List.replicate 5 (.int .i64 0)++List.replicate 44 (.int .u8 0)]).F
def Tv(c:Ah)(r:Ah)(K:Nat):Nat->A6
 | 0=>fun _ _ _ _ _ _ _=>none
 | m+1=>fun a b d e f g h=>
  cE Iz .lss 3 g f
  (NJ c r K (Tv c r K m) a b d e f g h)
  (xr c r K b d h)
def NK:R:=
 Fz e fun f=>
 Tv c r K K a b d e f (.int .i64 0) h
def tY:R:=(.mk:Sg 0x13a9841000e002cea1204e2a460007e01e00218e801e20ce242011e57200e4110e00323e15e445400b0ee [a,b,d] h [c 63,Tu (NK c r K)] [cu0 (Bp (Df [(0,1),(1,1),(2,1),(3,1)]) [.int .i64 0,.int .i64 0,.int .i64 0,.Bz] [])]).F
def NL:Ru K (Ru r (Ru c R)):=
 H4 g fun i=>
 k6 a b d e f i h
def tZ:R:=(.mk:Sg 0x187654360000e002ce51204e25460007e01e289809e [a,b,d,e,f,g,i,j] h [cl6 (NL c r K k6)] [cu0 (Bp (Df [(0,1),(1,1),(2,1),(3,1)]) [.int .i64 0,.int .i64 0,.int .i64 0,.Bz] [])]).F
def NN:R:=(.mk:Sg 0x1202dcba988102603e02e01e00edc81000218e802e23201623e5a450ee2d2325eb0ae22427ae023e06e223e57523e15e [a,b,d,e,f,g] h [Ei (rG K),cl8 (tZ c r K k6)] [] [List.replicate 5 (.int .i64 0)++List.replicate 44 (.int .u8 0)]).F
def Q9(c:Ah)(r:Ah)(K:Nat):Nat->A6
 | 0=>fun _ _ _ _ _ _ _=>none
 | m+1=>fun a b d e f g h=>
  cE Iz .lss 3 g f
  (NN c r K (Q9 c r K m) a b d e f g h)
  (tY c r K a b d h)
def NO:R:=(.mk:Sg 0x10023987620213e252007e21112101434 [a,b,d] h [Eg (Gx K),Eg (I8 K),cl6 (Q9 c r K K)] [cu2 (fun a g=>il 49 a (some (.int .i64 1)) (some g) none)]).F
def t_:R:=(.mk:Sg 0x154330000e002ce51204e25460007e01e286509e [a,b,d,e,f] h [Ld (NO c r K)] [cu0 (Bp (Df [(0,1),(1,1),(2,1),(3,1)]) [.int .i64 0,.int .i64 0,.int .i64 0,.Bz] [])]).F
def NP:R:=(.mk:Sg 0x12023a953027801e00e5302322ec13e212121113340ae2d00318e802e32ce0406e20ce2101223e500223e15e [a,b] h [Eg (rF K),Eg (Gx K),Eg (I8 K),cl5 (t_ c r K)] [] [[.int .i64 0,.int .i64 0,.int .i64 0,.Bz]]).F
def NQ:R:=(.mk:Sg 0x13420000e002ce41204e24460007e01e0023701e313e02ce05e [a] h [Ei (NP c r K)] [cu0 (Bp (Df [(0,1),(1,1),(2,1),(3,1)]) [.int .i64 0,.int .i64 0,.int .i64 0,.Bz] [])] [[.int .i64 0,.int .i64 0,.int .i64 0,.Bz]]).F
abbrev xt(K:Nat)(c:Ah):Ah:=(w2 102 (rG K) (w1 94 (Gx K) (w1 101 (I8 K) (w1 100 (rF K) c))))
def ua:Ru K (Ru r R):=(.mk:Sg 0x1202ce51204e354620ce3101 [a,b] h [c 62]).F
def NR:Ru K (Ru r (Ru c R)):=
 H4 i fun j=>
 k7 a b d e f g j h
def NS:R:=
 Oo 49 f h fun n=>
 Al (By (List.replicate 5 (.int .i64 0)++List.replicate 44 (.int .u8 0)) 136 49 1 [(0,n)] h) fun o h=>
 Al (Ef 136 49 e o h) fun p h=>
 NR c r K k7 a b d p g i j h
def NT:R:=(.mk:Sg 0x103e02e01e200edcb82000ed210500318e801e37ae123e06e20ced723401332e56f2e5212e032e06e232e58632e15e [a,b,d,e,f,g,i] h [Tu (rE K),Ei (ua c r K),cl8 (NS c r K k7)] [] [List.replicate 64 (.int .u8 0),List.replicate 5 (.int .i64 0)++List.replicate 44 (.int .u8 0)]).F
def U6(c:Ah)(r:Ah)(K:Nat):Nat->A7
 | 0=>fun _ _ _ _ _ _ _ _=>none
 | m+1=>fun a b d e f g i h=>
  cE Iz .lss 3 i g
  (NT c r K (U6 c r K m) a b d e f g i h)
  (ua c r K d e h)
def NU:R:=(.mk:Sg 0x10027b0346700613e02ce05e23be9 [a,b,d] h [cl7 (U6 c r K K)] [] [[.int .i64 0,.int .i64 0,.int .i64 0,.Bz]]).F
end
variable{d:Nat}(H:Ca disp)
include H
theorem A2g(hd:0<=d):S2 disp K d 25 NB:=fun _ _=>ld rfl rfl H rfl 207 (fun c r=>e4 (Y6 c r K) 5 7 31 32)
theorem Rw(hd:1<=d):R1 disp K d 51 (Gp K):=fun _=>rl H hd
theorem Al1(hd:1<=d):R1 disp K d 59 (NC K):=fun _=>rl H hd
theorem Ql(hd:0<=d):S2 disp K d 90 J2:=fun _ _=>ld rfl rfl H rfl 5 (fun c r=>e4 (Dy c r K) 0 5 6 7)
theorem Q8(hd:1<=d):R1 disp K d 98 (Ge K):=fun _=>rl H hd
theorem Py(hd:0<=d):S2 disp K d 144 Jx:=fun _ _=>ld rfl rfl H rfl 5 (fun c r=>e4 (Cx c r K) 0 5 6 7)
theorem Ank(hd:2<=d):R1 disp K d 16 (Oe K):=fun _=>rl H hd fun d hd=>V1 (Rw H) hd<|rfl
theorem Aah(hd:2<=d):R1 disp K d 60 (Ma K):=fun _=>rl H hd fun d hd=>V1 (Q8 H) hd<|rfl
theorem A3b(hd:3<=d):R1 disp K d 151 (tW K):=fun _=>rl H hd fun d hd=>V2 (N9 H) hd<|rfl
theorem Ao1(hd:3<=d):R2 disp K d 22 (Js K):=fun _ _=>rl H hd fun d hd=>V2 (La H) hd<|V1 (Aah H) hd<|rfl
theorem A1o(hd:5<=d):R1 disp K d 100 (rF K):=fun _=>rl H hd fun d hd=>V1 (tP H) hd<|V2 (N9 H) hd<|V1 (MV H) hd<|rfl
theorem A2j(hd:7<=d):R2 disp K d 102 (rG K):=fun _ _=>ll H hd (fun d hd=>V1 (tP H) hd<|V3 (T5 H) hd<|V1 (A3b H) hd<|V1 (Oi H) hd<|rfl) 51 (e4 (Y8 K) 2 3 5 13)
omit H in
theorem A1q(c r:Ah)(K:Nat)(m:Nat):jS false (xt K c) c r K 62 3327 [(2,fun A tm h ds=>xr c r K (A 2) (A 4) h)] m=(fun m A tm h ds=>Tv c r K m (A 0) (A 2) (A 4) (A 73) (A 74) (A 75) h) m:=
 Mn (E:=fun m A tm h ds=>Tv c r K m (A 0) (A 2) (A 4) (A 73) (A 74) (A 75) h) rfl (fun m=>jG fun A tm h ds=>by kernel_rfl) m
omit H in
theorem Ay5(c r:Ah)(K:Nat)(m:Nat):jS false (xt K c) c r K 62 415 [(0,fun A tm h ds=>tY c r K (A 0) (A 2) (A 4) h)] m=(fun m A tm h ds=>Q9 c r K m (A 0) (A 2) (A 4) (A 41) (A 42) (A 43) h) m:=
 Mn (E:=fun m A tm h ds=>Q9 c r K m (A 0) (A 2) (A 4) (A 41) (A 42) (A 43) h) rfl (fun m=>jG fun A tm h ds=>by kernel_rfl) m
theorem A2b(hd:7<=d):S1 disp K d 62 NQ:=fun _=>rm (q:=false) (D:=xt K (Ag TT disp K d false)) (by kernel_rfl) rfl rfl H (V2 (A2j H) hd<|V1 (Oi H) hd<|V1 (U3 H) hd<|V1 (A1o H) hd<|rfl) (cut [true,true,true,true,true,true,true,true,false,true,false] (A1q (Ag TT disp K d false) (Ag TT disp K d true) K K) (by kernel_rfl) (by kernel_rfl) (cut [true,true,true,true,true,false,true,false] (Ay5 (Ag TT disp K d false) (Ag TT disp K d true) K K) (by kernel_rfl) (by kernel_rfl) rfl))
theorem A09(hd:6<=d):S3 disp K d 23 NU:=fun _ _ _=>ld rfl rfl H (V4 (MW H) hd<|rfl) 51 (fun c r=>e7 (U6 c r K) 1 3 6 8 13 14 15)
end
end
noncomputable section
section
variable (c r:Ah)(K l:Nat)(k0:A0)(k1:A1)(k2:A2)(k3:A3)(k4:A4)(k5:A5)(k6:A6)(k7:A7)(k8:A8)(k9:A9)(oi:ma)(oo:mb)(oq:mR)(m0:B0)(m1:B1)(m2:B2)(m3:B3)(m4:B4)(m5:B5)(m6:B6)(m7:B7)(m8:B8)(m9:B9)(ot:mP)(ov:mQ)(ow:mS)(base:Nat)(s:DX)(tm:Ba)(a b d e f g i j n o p q t u w x y z aa ab ad ae af ag ai aj an ao ap aq au aw ax ay az ba bb bd be bf bg bi bj bn bo bp bq bt bu bw bx bz da db dd de df dg di dj dn dp dq dt du dw dx dy dz ea eb ed ee ef eg ei ej en eo ep eq et eu ew ex ey ez fa fb fd fe ff fg fi fj fn fo fp fq ft fu fw fx fy fz ga gb gd ge gf gg gi gj gn go gp gq gt gu gw gx gy gz ia ib ie ig ii ij io ip iq it iu iw ix iy iz ja jb:EV)(h:Ab)(ds:List Nat)
def H2(c:Ah)(r:Ah)(K:Nat)(tm:Ba)(a:EV)(b:EV)(h:Ab)(ds:List Nat):R:=
 mf b (.int .i64 2) fun d=>
 Vz 1 a d h fun h=>
 Dt ds h fun h=>Gi TT [.c a 4] h
def H0:Ru K (Ru r (Ru c R)):=
 H4 f fun g=>
 m5 ((tm.put 137 (some g)).put 124 (some g)) a b d e g h ds
def Ff:R:=
 gh g i fun j=>
 gm j
 (Vz 1 a (.bool false) h fun h=>
 Dt ds h fun h=>Gi TT [.c a 4] h)
 (H0 c r K m5 (tm.put 136 (some j)) a b d e f h ds)
def Ni:R:=
 Al (c 27 [b,f] h) fun g h=>
 ir g
 (Al (Rf K b h) fun i h=>
 Al (Ls K i f h) fun j h=>
 mW j (.int .i64 0) fun n=>
 Ff c r K m5 (((((((((((tm.put 126 (some f)).put 20 (some f)).put 127 (some b)).put 128 (some f)).put 129 (some g)).put 130 (some g)).put 131 (some b)).put 132 (some i)).put 133 (some f)).put 134 (some j)).put 135 (some n)) a b d e f g n h ds)
 (Ff c r K m5 (((((((((((tm.put 126 (some f)).put 20 (some f)).put 127 (some b)).put 128 (some f)).put 129 (some g)).put 130 (some g)).put 131 (some tU)).put 132 (some tU)).put 133 (some tU)).put 134 (some tU)).put 135 (some tU)) a b d e f g tU h ds)
def Cu(c:Ah)(r:Ah)(K:Nat):Nat->B5
 | 0=>fun _ _ _ _ _ _ _ _=>none
 | m+1=>fun tm a b d e f h ds=>
  jj f e fun g=>
  gm g
  (Ni c r K (Cu c r K m) (tm.put 125 (some g)) a b d e f h ds)
  (H2 c r K (tm.put 125 (some g)) a d h ds)
def Fe:R:=
 Oo 6 a h fun f=>
 Al (Dd K f h) fun g h=>
 Cu c r K K (((tm.put 122 (some f)).put 123 (some g)).put 124 (some (.int .i64 0))) b d e g (.int .i64 0) h ds
def Dg:Ru K (Ru r (Ru c R)):=
 H4 g fun i=>
 m6 ((tm.put 121 (some i)).put 83 (some i)) a b d e f i h ds
def Fc:R:=
 gh i j fun n=>
 gm n
 (H4 f fun o=>
 Dg c r K m6 ((((tm.put 118 (some n)).put 119 (some f)).put 120 (some o)).put 11 (some o)) a b d e o g h ds)
 (Dg c r K m6 (tm.put 118 (some n)) a b d e f g h ds)
def E7:R:=
 Yk h fun base s=>
 Kw 0 0 s h (fun h=>(q8 K h)) fun n h s=>
 L0 2 0 base i s fun s=>Et i h fun o=>
 Kw 3 7 s h (fun h=>(c 23 [n,g,o] h)) fun p h s=>
 kM p fun q t=>
 mg 7 h s fun s=>iZ (.cells [(.int .i64 0),(.int .i64 0),(.int .i64 0),.Bz] 58) h fun u h=>
 mX 8 191 u s fun s=>Vz 4 u q h fun h=>
 Jk iD (bin TT .eql 38) t (.int .i64 0) fun w=>
 ir w
 (Oo 4 u h fun x=>
 Oo 4 e h fun y=>
 Al (c 25 [x,y] h) fun z h=>
 Fc c r K m6 (((((((((((((((tm.put 106 (some n)).put 107 (some g)).put 108 (some o)).put 109 (some p)).put 105 (some p)).put 110 (some q)).put 111 (some t)).put 18 (some u)).put 19 (some t)).put 112 (some t)).put 113 (some w)).put 114 (some w)).put 115 (some x)).put 116 (some y)).put 117 (some z)) a b d e f j w z h ds)
 (Fc c r K m6 (((((((((((((((tm.put 106 (some n)).put 107 (some g)).put 108 (some o)).put 109 (some p)).put 105 (some p)).put 110 (some q)).put 111 (some t)).put 18 (some u)).put 19 (some t)).put 112 (some t)).put 113 (some w)).put 114 (some w)).put 115 (some tU)).put 116 (some tU)).put 117 (some tU)) a b d e f j w tU h ds)
def L6:R:=
 Al (Vn K d h) fun i h=>
 Al (Pu K i g h) fun j h=>
 kM j fun n o=>
 iZ (.cells [.An] 63) h fun p h=>
 Al (Hq K d h) fun q h=>
 Al (Bm K q h) fun t h=>
 Al (Dl K t h) fun u h=>
 Al (Js K u n h) fun w h=>
 P9 c TT 4 140 1 w ((((((((((((((((((tm.put 85 (some g)).put 12 (some g)).put 87 (some d)).put 88 (some i)).put 89 (some g)).put 90 (some j)).put 86 (some j)).put 91 (some n)).put 92 (some o)).put 13 (some n)).put 14 (some o)).put 15 (some p)).put 93 (some d)).put 94 (some q)).put 95 (some t)).put 96 (some u)).put 97 (some n)).put 98 (some w)) h ds (fun h ds=>
 E7 c r K m6 ((((((((((((((((((tm.put 85 (some g)).put 12 (some g)).put 87 (some d)).put 88 (some i)).put 89 (some g)).put 90 (some j)).put 86 (some j)).put 91 (some n)).put 92 (some o)).put 13 (some n)).put 14 (some o)).put 15 (some p)).put 93 (some d)).put 94 (some q)).put 95 (some t)).put 96 (some u)).put 97 (some n)).put 98 (some w)) a b d e f n p g h ds) (fun id h ds=>
 Bb (Nat.beq 6 id) (E7 c r K m6 ((((((((((((((((((tm.put 85 (some g)).put 12 (some g)).put 87 (some d)).put 88 (some i)).put 89 (some g)).put 90 (some j)).put 86 (some j)).put 91 (some n)).put 92 (some o)).put 13 (some n)).put 14 (some o)).put 15 (some p)).put 93 (some d)).put 94 (some q)).put 95 (some t)).put 96 (some u)).put 97 (some n)).put 98 (some w)) a b d e f n p g h ds) (Bb (Nat.beq 5 id) (Dg c r K m6 ((((((((((((((((((tm.put 85 (some g)).put 12 (some g)).put 87 (some d)).put 88 (some i)).put 89 (some g)).put 90 (some j)).put 86 (some j)).put 91 (some n)).put 92 (some o)).put 13 (some n)).put 14 (some o)).put 15 (some p)).put 93 (some d)).put 94 (some q)).put 95 (some t)).put 96 (some u)).put 97 (some n)).put 98 (some w)) a b d e f g h ds) (Bb (Nat.beq 4 id) (Fe c r K ((((((((((((((((((tm.put 85 (some g)).put 12 (some g)).put 87 (some d)).put 88 (some i)).put 89 (some g)).put 90 (some j)).put 86 (some j)).put 91 (some n)).put 92 (some o)).put 13 (some n)).put 14 (some o)).put 15 (some p)).put 93 (some d)).put 94 (some q)).put 95 (some t)).put 96 (some u)).put 97 (some n)).put 98 (some w)) a b d f h ds) (none)))) (fun h ds=>
 Dt ds h fun h=>Gi TT [.c b 4] h)
def Cp(c:Ah)(r:Ah)(K:Nat):Nat->B6
 | 0=>fun _ _ _ _ _ _ _ _ _=>none
 | m+1=>fun tm a b d e f g h ds=>
  jj g (.int .i64 3) fun i=>
  gm i
  (L6 c r K (Cp c r K m) (tm.put 84 (some i)) a b d e f g h ds)
  (Fe c r K (tm.put 84 (some i)) a b d f h ds)
def Mc:R:=
 Yk h fun base s=>
 Xg 0 e fun f=>
 L0 1 1 base f s fun s=>Et f h fun g=>
 Xg 1 e fun i=>
 L0 3 4 base i s fun s=>Et i h fun j=>
 Xg 2 e fun n=>
 L0 5 16 base n s fun s=>Et n h fun o=>
 Kw 7 64 s h (fun h=>(Rf K d h)) fun p h s=>
 Bp (Df [(0,1),(1,1),(2,1),(3,1)]) [(.int .i64 0),(.int .i64 0),(.int .i64 0),.Bz] [(0,g),(1,j),(2,o),(3,p)] fun q=>
 mg 9 h s fun s=>iZ (.cells [(.int .i64 0),(.int .i64 0),(.int .i64 0),.Bz] 58) h fun t h=>
 mX 10 1023 t s fun s=>Vz 4 t q h fun h=>
 Cp c r K K ((((((((((((tm.put 74 (some f)).put 75 (some g)).put 76 (some i)).put 77 (some j)).put 78 (some n)).put 79 (some o)).put 80 (some d)).put 81 (some p)).put 82 (some q)).put 10 (some t)).put 11 (some (.int .i64 0))).put 83 (some (.int .i64 0))) a b d t (.int .i64 0) (.int .i64 0) h ds
def Hd:R:=
 gX f g fun i=>
 gm i
 (Vz 1 b (.bool false) h fun h=>
 Dt ds h fun h=>Gi TT [.c b 4] h)
 (Mc c r K (tm.put 73 (some i)) a b d e h ds)
def Hl:R:=
 gX g i fun j=>
 gk j
 (Xg 2 f fun n=>
 Et n h fun o=>
 Xg 2 e fun p=>
 Et p h fun q=>
 jF o q fun t=>
 Hd c r K (((((((tm.put 66 (some j)).put 67 (some j)).put 68 (some n)).put 69 (some o)).put 70 (some p)).put 71 (some q)).put 72 (some t)) a b d f j t h ds)
 (Hd c r K (((((((tm.put 66 (some j)).put 67 (some j)).put 68 (some tU)).put 69 (some tU)).put 70 (some tU)).put 71 (some tU)).put 72 (some tU)) a b d f j tU h ds)
def Hn:R:=
 Al (Kg K d h) fun f h=>
 jE 3 [(.int .i64 0),(.int .i64 0),(.int .i64 0)] 45 f h fun g h=>
 Xg 0 g fun i=>
 Et i h fun j=>
 Xg 0 e fun n=>
 Et n h fun o=>
 H4 o fun p=>
 jF j p fun q=>
 gk q
 (Xg 1 g fun t=>
 Et t h fun u=>
 Xg 1 e fun w=>
 Et w h fun x=>
 jF u x fun y=>
 Hl c r K (((((((((((((((tm.put 52 (some d)).put 53 (some f)).put 9 (some g)).put 54 (some i)).put 55 (some j)).put 56 (some n)).put 57 (some o)).put 58 (some p)).put 59 (some q)).put 60 (some q)).put 61 (some t)).put 62 (some u)).put 63 (some w)).put 64 (some x)).put 65 (some y)) a b d e g q y h ds)
 (Hl c r K (((((((((((((((tm.put 52 (some d)).put 53 (some f)).put 9 (some g)).put 54 (some i)).put 55 (some j)).put 56 (some n)).put 57 (some o)).put 58 (some p)).put 59 (some q)).put 60 (some q)).put 61 (some tU)).put 62 (some tU)).put 63 (some tU)).put 64 (some tU)).put 65 (some tU)) a b d e g q tU h ds)
def Hj:R:=
 Al (c 17 [d] h) fun f h=>
 Jk iF (bin TT .neq 38) f (.int .i64 0) fun g=>
 gm g
 (Vz 1 b (.bool true) h fun h=>
 Dt ds h fun h=>Gi TT [.c b 4] h)
 (Hn c r K (((tm.put 49 (some d)).put 50 (some f)).put 51 (some g)) a b d e h ds)
def E5:R:=
 Al (Kg K d h) fun e h=>
 jE 3 [(.int .i64 0),(.int .i64 0),(.int .i64 0)] 45 e h fun f h=>
 Al (Hq K d h) fun g h=>
 Al (Bm K g h) fun i h=>
 Al (Oe K i h) fun j h=>
 P9 c TT 4 140 0 j (((((((tm.put 42 (some d)).put 43 (some e)).put 8 (some f)).put 44 (some d)).put 45 (some g)).put 46 (some i)).put 47 (some j)) h ds (fun h ds=>
 Hj c r K (((((((tm.put 42 (some d)).put 43 (some e)).put 8 (some f)).put 44 (some d)).put 45 (some g)).put 46 (some i)).put 47 (some j)) a b d f h ds) (fun id h ds=>
 Bb (Nat.beq 2 id) (Hj c r K (((((((tm.put 42 (some d)).put 43 (some e)).put 8 (some f)).put 44 (some d)).put 45 (some g)).put 46 (some i)).put 47 (some j)) a b d f h ds) (none)) (fun h ds=>
 Dt ds h fun h=>Gi TT [.c b 4] h)
def Mq:Ru K (Ru r (Ru c R)):=
 H4 g fun i=>
 m6 ((tm.put 41 (some i)).put 34 (some i)) a b d e f i h ds
def L8:R:=
 Ve 72 e g fun i=>
 Oo 72 i h fun j=>
 jE 72 (List.replicate 3 (.int .i64 0)++[.An]++List.replicate 4 (.int .i64 0)++List.replicate 64 (.int .u8 0)) 36 j h fun n h=>
 Oo 72 n h fun o=>
 Al (c 9 [o,d] h) fun p h=>
 Mq c r K m6 ((((((tm.put 36 (some i)).put 37 (some j)).put 7 (some n)).put 38 (some o)).put 39 (some d)).put 40 (some p)) a b d e f g h ds
def Db(c:Ah)(r:Ah)(K:Nat):Nat->B6
 | 0=>fun _ _ _ _ _ _ _ _ _=>none
 | m+1=>fun tm a b d e f g h ds=>
  jj g f fun i=>
  gm i
  (L8 c r K (Db c r K m) (tm.put 35 (some i)) a b d e f g h ds)
  (E5 c r K (tm.put 35 (some i)) a b d h ds)
def Mm:R:=
 Fz a fun f=>
 Db c r K K (((tm.put 32 (some a)).put 33 (some f)).put 34 (some (.int .i64 0))) b d e a f (.int .i64 0) h ds
def D3:R:=
 gX f g fun i=>
 gm i
 (Vz 1 d (.bool true) h fun h=>
 Dt ds h fun h=>Gi TT [.c d 4] h)
 (Mm c r K (tm.put 31 (some i)) a b d e h ds)
def Mp:R:=
 Oo 6 b h fun e=>
 Al (c 6 [e] h) fun f h=>
 Jk iD (bin TT .eql 26) f .Bz fun g=>
 gk g
 (Fz a fun i=>
 jk i (.int .i64 40) fun j=>
 D3 c r K (((((((((tm.put 23 (some e)).put 24 (some f)).put 5 (some f)).put 25 (some f)).put 26 (some g)).put 27 (some g)).put 28 (some a)).put 29 (some i)).put 30 (some j)) a b d f g j h ds)
 (D3 c r K (((((((((tm.put 23 (some e)).put 24 (some f)).put 5 (some f)).put 25 (some f)).put 26 (some g)).put 27 (some g)).put 28 (some tU)).put 29 (some tU)).put 30 (some tU)) a b d f g tU h ds)
def Jv:R:=
 (fun(tm:Ba) (ds:List Nat)=>
 Pz 23 a h fun d h=>
 iZ (.cells [(.bool false)] 4) h fun e h=>
 Al (c 5 [] h) fun f h=>
 iX f fun g=>
 gm g
 (Vz 1 e (.bool false) h fun h=>
 Dt ds h fun h=>Gi TT [.c e 4] h)
 (Mp c r K ((((tm.put 2 (some d)).put 4 (some e)).put 21 (some f)).put 22 (some g)) b d e h ds)) ((Tr.nil.put 0 (some a)).put 1 (some b)) []
abbrev Ft(K:Nat)(c:Ah):Ah:=(w1 18 (Rf K) (w2 28 (Ls K) (w1 26 (Dd K) (w0 24 (q8 K) (w1 19 (Vn K) (w2 20 (Pu K) (w1 14 (Hq K) (w1 15 (Bm K) (w1 21 (Dl K) (w2 22 (Js K) (w1 13 (Kg K) (w1 16 (Oe K) c))))))))))))
def Kn:Ru K (Ru r (Ru c R)):=
 Vz 1 a (.bool true) h fun h=>
 Wh l false .done (some .ret) h
def Nh:R:=
 Ez l h fun h=>Kn c r K l a h
def Ko:Ru K (Ru r (Ru c R)):=(.mk:Sg 0x10202616242112101432e520de [a,b] h [Eg (fun e=>By (List.replicate 64 (.int .u8 0)) 32 64 1 [(0,e)]),Ei (Ef 32 64),cl0 (Wh l true .ready none)]).F
def Ng:R:=
 jE 64 (List.replicate 64 (.int .u8 0)) 32 b h fun d h=>
 Ez l h fun h=>Ko c r K l a d h
end
variable{d:Nat}(H:Ca disp)
include H
omit H in
theorem Vc(c r:Ah)(K:Nat)(m:Nat):jS true (Ft K c) c r K 4 106495 [(8,fun A tm h ds=>H2 c r K tm (A 4) (A 11) h ds)] m=(fun m A tm h ds=>Cu c r K m tm (A 4) (A 5) (A 11) (A 123) (A 124) h ds) m:=
 Mn (E:=fun m A tm h ds=>Cu c r K m tm (A 4) (A 5) (A 11) (A 123) (A 124) h ds) rfl (fun m=>jG fun A tm h ds=>by kernel_rfl) m
omit H in
theorem Ut(c r:Ah)(K:Nat)(m:Nat):jS true (Ft K c) c r K 4 53247 [(4,fun A tm h ds=>Fe c r K tm (A 2) (A 4) (A 5) (A 11) h ds)] m=(fun m A tm h ds=>Cp c r K m tm (A 2) (A 4) (A 5) (A 10) (A 11) (A 83) h ds) m:=
 Mn (E:=fun m A tm h ds=>Cp c r K m tm (A 2) (A 4) (A 5) (A 10) (A 11) (A 83) h ds) rfl (fun m=>jG fun A tm h ds=>by kernel_rfl) m
omit H in
theorem U2(c r:Ah)(K:Nat)(m:Nat):jS true (Ft K c) c r K 4 207 [(0,fun A tm h ds=>E5 c r K tm (A 2) (A 4) (A 5) h ds)] m=(fun m A tm h ds=>Db c r K m tm (A 2) (A 4) (A 5) (A 32) (A 33) (A 34) h ds) m:=
 Mn (E:=fun m A tm h ds=>Db c r K m tm (A 2) (A 4) (A 5) (A 32) (A 33) (A 34) h ds) rfl (fun m=>jG fun A tm h ds=>by kernel_rfl) m
theorem V8(hd:3<=d):S2 disp K d 4 Jv:=fun _ _=>rm (q:=true) (D:=Ft K (Ag TT disp K d false)) (by kernel_rfl) rfl rfl H (V1 (Awo H) hd<|V2 (Yr H) hd<|V1 (Ew H) hd<|V0 (HM H) hd<|V1 (Arl H) hd<|V2 (Aoa H) hd<|V1 (IW H) hd<|V1 (D5 H) hd<|V1 (Na H) hd<|V2 (Ao1 H) hd<|V1 (Ann H) hd<|V1 (Ank H) hd<|rfl) (cut [true,true,true,true,true,true,true,true,true,true,true,true,true,false,true,false] (Vc (Ag TT disp K d false) (Ag TT disp K d true) K K) (by kernel_rfl) (by kernel_rfl) (cut [true,true,true,true,true,true,true,true,true,true,true,true,false,true,false] (Ut (Ag TT disp K d false) (Ag TT disp K d true) K K) (by kernel_rfl) (by kernel_rfl) (cut [true,true,true,true,false,true,false] (U2 (Ag TT disp K d false) (Ag TT disp K d true) K K) (by kernel_rfl) (by kernel_rfl) rfl)))
theorem Ty(hd:3<=d){l:Nat}(tm:Ba)(h:Ab)(A:EV){st:LoopState}{p:Option Code}(G:h.get l=some (.loop st p 4 140 tm [48] (Eb TT 4 0).2.2.1 (Eb TT 4 0).2.2.2 d0)):
 Ag TT disp K (d+1) true l [A] h=Nh (Ag TT disp K d false) (Ag TT disp K d true) K l (tmp tm 4) h:=rr rfl rfl (rfl) G rfl (by kernel_rfl)
theorem Ub(hd:3<=d){l:Nat}(tm:Ba)(h:Ab)(G:EV)(A:EV){st:LoopState}{p:Option Code}(J:h.get l=some (.loop st p 4 140 tm [99,100] (Eb TT 4 1).2.2.1 (Eb TT 4 1).2.2.2 d0)):
 Ag TT disp K (d+1) true l [G,A] h=Ng (Ag TT disp K d false) (Ag TT disp K d true) K l (tmp tm 15) A h:=rr rfl rfl (rfl) J rfl (by kernel_rfl)
end
end
end Go.Ev
