import Derived.Test.YtadnemjjlacolaaGreatProg
import Derived.Test.YtadnemjjlacolaaGreatEvFive
set_option linter.all false
namespace Go.Ev
open Go.Proofs
set_option maxRecDepth 100000
set_option maxHeartbeats 4000000
variable {disp:Nat->Option FT}{K d0 sz base:Nat}{v:EV}{h h' h0:Ab}{P Q:EV->Ab->Prop}{l' xs:List EV}{ps:List (Nat × EV)}{F:EV->EV->EV->EV->EV->Ab->R}{kh:EV->Ab->R}{α:Type}{ke:EV->Ab->DX->R}
noncomputable def fn2:Tr Func:=F1 Tryz.prog.funcs.toList 0 .nil
noncomputable def ty2:Tr TypeInfo:=F1 Tryz.prog.types.toList 0 .nil
def FA:List (Nat × List Nat):=[(227,List.replicate 2 0),(52,List.replicate 2 0),(23,List.replicate 6 0),(47,List.replicate 6 0),(49,List.replicate 32 0),(165,List.replicate 44 0),(167,List.replicate 49 0),(96,List.replicate 256 0),(69,List.replicate 3 0)]
noncomputable def TT:Ig:=tW fn2 ty2 FA [227,52]
noncomputable abbrev TP:Program:=Tryz.prog
theorem Blh:Tryz.prog.follows .mixedOrders=true:=by kernel_rfl
theorem Bnb:(Tryz.prog.funcs.toList.all fun f=>!(f.name == "runtime.NumGoroutine"))=true:=by kernel_rfl
theorem Bps:(FA.all fun x=>decide (flat Tryz.prog 6 x.1=some x.2)&&iC Tryz.prog x.1&&!(Tryz.prog.eqGuardType Tryz.prog.depth x.1))=true:=by kernel_rfl
theorem Bsg:rN Tryz.prog 227=true:=by kernel_rfl
theorem Bqj:rO Tryz.prog 52=true:=by kernel_rfl
theorem FC:Qg TP TT:=Blu Blh Bnb (fun x G=>by
 have:=dV.1 Bps x G;simp only[aS,aV,Bool.not_eq_true']at this;exact⟨this.1.1,this.1.2,this.2⟩) (fun t A=>by
 rcases bX.1 A with rfl|A
 ·exact .inl Bsg
 ·rw[aP]at A;subst A;exact .inr Bqj)
noncomputable def Brf(g:Nat):Bool:=Bb (Nat.beq g 11) false (Bb (Nat.beq g 51) false (Bb (Nat.beq g 103) false true))
noncomputable section
abbrev Ru {α:Type}(_:α)(β:Type):Type:=β
abbrev A0:=Ab->R
abbrev B0:=Ba->Ab->List Nat->R
abbrev A1:=EV->Ab->R
abbrev B1:=Ba->EV->Ab->List Nat->R
abbrev A2:=EV->EV->Ab->R
abbrev B2:=Ba->EV->EV->Ab->List Nat->R
abbrev A3:=EV->EV->EV->Ab->R
abbrev B3:=Ba->EV->EV->EV->Ab->List Nat->R
abbrev A4:=EV->EV->EV->EV->Ab->R
abbrev B4:=Ba->EV->EV->EV->EV->Ab->List Nat->R
abbrev A5:=EV->EV->EV->EV->EV->Ab->R
abbrev B5:=Ba->EV->EV->EV->EV->EV->Ab->List Nat->R
abbrev A6:=EV->EV->EV->EV->EV->EV->Ab->R
abbrev B6:=Ba->EV->EV->EV->EV->EV->EV->Ab->List Nat->R
abbrev A7:=EV->EV->EV->EV->EV->EV->EV->Ab->R
abbrev B7:=Ba->EV->EV->EV->EV->EV->EV->EV->Ab->List Nat->R
abbrev A8:=EV->EV->EV->EV->EV->EV->EV->EV->Ab->R
abbrev B8:=Ba->EV->EV->EV->EV->EV->EV->EV->EV->Ab->List Nat->R
abbrev A9:=EV->EV->EV->EV->EV->EV->EV->EV->EV->Ab->R
abbrev B9:=Ba->EV->EV->EV->EV->EV->EV->EV->EV->EV->Ab->List Nat->R
abbrev mm:=EV->EV->EV->EV->EV->EV->EV->EV->EV->EV->Ab->R
abbrev m_:=Ba->EV->EV->EV->EV->EV->EV->EV->EV->EV->EV->Ab->List Nat->R
abbrev mq:=EV->EV->EV->EV->EV->EV->EV->EV->EV->EV->EV->Ab->R
abbrev nf:=Ba->EV->EV->EV->EV->EV->EV->EV->EV->EV->EV->EV->Ab->List Nat->R
abbrev ng:=EV->EV->EV->EV->EV->EV->EV->EV->EV->EV->EV->EV->Ab->R
abbrev nh:=Ba->EV->EV->EV->EV->EV->EV->EV->EV->EV->EV->EV->EV->Ab->List Nat->R
abbrev tU:EV:=.tuple []
def oE(c:Nat)(v:EV)(h:Ab)(k:EV->R):R:=iP c v fun v=>Hq v h k
def fE(c:Nat)(v:EV)(h:Ab)(k:EV->R):R:=jI v fun v=>oE c v h k
def oA(c:Nat)(v:EV)(k:EV->R):R:=jI v fun v=>iP c v k
def h_(c:Nat)(i:Nat)(b:Nat)(base:Nat)(v:EV)(s:DX)(h:Ab)(kd:DX->EV->R):R:=iP c v fun v=>O6 i b base v s fun s=>Hq v h (kd s)
def jw(c:Nat)(i:Nat)(b:Nat)(base:Nat)(v:EV)(s:DX)(h:Ab)(kd:DX->EV->R):R:=jI v fun v=>h_ c i b base v s h kd
def nj(n:Nat)(v:EV)(w:EV)(h:Ab)(k:EV->R):R:=ir n v w fun v=>Hq v h k
def kD(n:Nat)(l:List EV)(t:Nat)(x:EV)(h:Ab)(kh:EV->Ab->R):R:=jT (.cells l t) h fun v h=>f_ n v x h (kh v)
def kS(v:EV)(kk:EV->EV->R):R:=kT 0 v fun a=>kT 1 v (kk a)
def hG(x:EV)(y:EV)(k:EV->R):R:=kE x y (.bool false) k
def il(x:EV)(y:EV)(k:EV->R):R:=kE x (.bool true) y k
def iQ(v:EV)(p:R)(q:R):R:=Bb (Er v true) p q
def hM(v:EV)(p:R)(q:R):R:=Bb (Er v false) p q
def tX(v:EV)(h:Ab)(ds:List Nat):R:=Fz ds h fun h=>some (v,h)
def cE(g:IG)(f:BinOp)(t:Nat)(x:EV)(y:EV)(p:R)(q:R):R:=J5 g (bin TT f t) x y fun v=>hQ v p q
def nr(x:EV)(p:R)(q:R):R:=cE iX .neq 35 x (.int .i64 0) p q
def Jg(x:EV)(k:EV->R):R:=J5 kU (bin TT .add 3) x (.int .i64 1) k
def oC(x:EV)(y:EV)(k:EV->R):R:=J5 kU (bin TT .add 3) x y k
def rP(x:EV)(y:EV)(k:EV->R):R:=J5 oD (bin TT .sub 3) x y k
def mz(x:EV)(y:EV)(k:EV->R):R:=J5 pU (bin TT .mul 3) x y k
def jU(x:EV)(y:EV)(k:EV->R):R:=J5 I8 (bin TT .lss 3) x y k
def kn(x:EV)(y:EV)(k:EV->R):R:=J5 oF (bin TT .leq 3) x y k
def jV(x:EV)(y:EV)(k:EV->R):R:=J5 nt (bin TT .gtr 3) x y k
def nu(x:EV)(y:EV)(k:EV->R):R:=J5 oG (bin TT .geq 3) x y k
def nv(x:EV)(y:EV)(k:EV->R):R:=J5 iW (bin TT .eql 3) x y k
def kF(x:EV)(y:EV)(k:EV->R):R:=J5 iX (bin TT .neq 3) x y k
abbrev Zi:Prop:=
 (∀(g:IG) (f:BinOp) (t:Nat) (x:EV) (y:EV) (p:R) (q:R),cE g f t x y p q=J5 g (bin TT f t) x y fun v=>hQ v p q) /\
 (∀(x:EV) (p:R) (q:R),nr x p q=cE iX .neq 35 x (.int .i64 0) p q) /\
 (∀(x:EV) (k:EV->R),Jg x k=J5 kU (bin TT .add 3) x (.int .i64 1) k) /\
 (∀(x:EV) (y:EV) (k:EV->R),oC x y k=J5 kU (bin TT .add 3) x y k) /\
 (∀(x:EV) (y:EV) (k:EV->R),rP x y k=J5 oD (bin TT .sub 3) x y k) /\
 (∀(x:EV) (y:EV) (k:EV->R),mz x y k=J5 pU (bin TT .mul 3) x y k) /\
 (∀(x:EV) (y:EV) (k:EV->R),jU x y k=J5 I8 (bin TT .lss 3) x y k) /\
 (∀(x:EV) (y:EV) (k:EV->R),kn x y k=J5 oF (bin TT .leq 3) x y k) /\
 (∀(x:EV) (y:EV) (k:EV->R),jV x y k=J5 nt (bin TT .gtr 3) x y k) /\
 (∀(x:EV) (y:EV) (k:EV->R),nu x y k=J5 oG (bin TT .geq 3) x y k) /\
 (∀(x:EV) (y:EV) (k:EV->R),nv x y k=J5 iW (bin TT .eql 3) x y k) /\
 (∀(x:EV) (y:EV) (k:EV->R),kF x y k=J5 iX (bin TT .neq 3) x y k)
abbrev Zs:Prop:=
 (∀(c:Nat) (v:EV) (h:Ab) (k:EV->R),oE c v h k=iP c v fun v=>Hq v h k) /\
 (∀(c:Nat) (v:EV) (h:Ab) (k:EV->R),fE c v h k=jI v fun v=>oE c v h k) /\
 (∀(c:Nat) (v:EV) (k:EV->R),oA c v k=jI v fun v=>iP c v k) /\
 (∀(c:Nat) (i:Nat) (b:Nat) (base:Nat) (v:EV) (s:DX) (h:Ab) (kd:DX->EV->R),h_ c i b base v s h kd=iP c v fun v=>O6 i b base v s fun s=>Hq v h (kd s)) /\
 (∀(c:Nat) (i:Nat) (b:Nat) (base:Nat) (v:EV) (s:DX) (h:Ab) (kd:DX->EV->R),jw c i b base v s h kd=jI v fun v=>h_ c i b base v s h kd) /\
 (∀(n:Nat) (v:EV) (w:EV) (h:Ab) (k:EV->R),nj n v w h k=ir n v w fun v=>Hq v h k) /\
 (∀(n:Nat) (l:List EV) (t:Nat) (x:EV) (h:Ab) (kh:EV->Ab->R),kD n l t x h kh=jT (.cells l t) h fun v h=>f_ n v x h (kh v)) /\
 (∀(v:EV) (kk:EV->EV->R),kS v kk=kT 0 v fun a=>kT 1 v (kk a)) /\
 (∀(x:EV) (y:EV) (k:EV->R),hG x y k=kE x y (.bool false) k) /\
 (∀(x:EV) (y:EV) (k:EV->R),il x y k=kE x (.bool true) y k) /\
 (∀(v:EV) (p:R) (q:R),iQ v p q=Bb (Er v true) p q) /\
 (∀(v:EV) (p:R) (q:R),hM v p q=Bb (Er v false) p q) /\
 (∀(v:EV) (h:Ab) (ds:List Nat),tX v h ds=Fz ds h fun h=>some (v,h))
theorem tY:Zi:=by refine⟨?_,?_,?_,?_,?_,?_,?_,?_,?_,?_,?_,?_⟩<;>intros<;>rfl
theorem dz:Zs:=by refine⟨?_,?_,?_,?_,?_,?_,?_,?_,?_,?_,?_,?_,?_⟩<;>intros<;>rfl
theorem dq:Zs/\Zi:=⟨dz,tY⟩
section
variable {c:Nat}{i:Nat}{b:Nat}{n:Nat}{t:Nat}{w:EV}{x:EV}{y:EV}{s:DX}{k:EV->R}{p:R}{q:R}{kd:DX->EV->R}{kk:EV->EV->R}{g:IG}{f:BinOp}{l:List EV}{ds:List Nat}{v' w' x' y':EV}
@[congr] theorem oE.cg(e0:v=v'):oE c v h k=oE c v' h k:=by rw[e0]
@[congr] theorem fE.cg(e0:v=v'):fE c v h k=fE c v' h k:=by rw[e0]
@[congr] theorem oA.cg(e0:v=v'):oA c v k=oA c v' k:=by rw[e0]
@[congr] theorem h_.cg(e0:v=v'):h_ c i b base v s h kd=h_ c i b base v' s h kd:=by rw[e0]
@[congr] theorem jw.cg(e0:v=v'):jw c i b base v s h kd=jw c i b base v' s h kd:=by rw[e0]
@[congr] theorem nj.cg(e0:v=v')(e1:w=w'):nj n v w h k=nj n v' w' h k:=by rw[e0,e1]
@[congr] theorem kD.cg(e0:x=x')(e1:l=l'):kD n l t x h kh=kD n l' t x' h kh:=by rw[e0,e1]
@[congr] theorem kS.cg(e0:v=v'):kS v kk=kS v' kk:=by rw[e0]
@[congr] theorem hG.cg(e0:x=x'):hG x y k=hG x' y k:=by rw[e0]
@[congr] theorem il.cg(e0:x=x'):il x y k=il x' y k:=by rw[e0]
@[congr] theorem iQ.cg(e0:v=v'):iQ v p q=iQ v' p q:=by rw[e0]
@[congr] theorem hM.cg(e0:v=v'):hM v p q=hM v' p q:=by rw[e0]
@[congr] theorem cE.cg(e0:x=x')(e1:y=y'):cE g f t x y p q=cE g f t x' y' p q:=by rw[e0,e1]
@[congr] theorem nr.cg(e0:x=x'):nr x p q=nr x' p q:=by rw[e0]
@[congr] theorem Jg.cg(e0:x=x'):Jg x k=Jg x' k:=by rw[e0]
@[congr] theorem oC.cg(e0:x=x')(e1:y=y'):oC x y k=oC x' y' k:=by rw[e0,e1]
@[congr] theorem rP.cg(e0:x=x')(e1:y=y'):rP x y k=rP x' y' k:=by rw[e0,e1]
@[congr] theorem mz.cg(e0:x=x')(e1:y=y'):mz x y k=mz x' y' k:=by rw[e0,e1]
@[congr] theorem jU.cg(e0:x=x')(e1:y=y'):jU x y k=jU x' y' k:=by rw[e0,e1]
@[congr] theorem kn.cg(e0:x=x')(e1:y=y'):kn x y k=kn x' y' k:=by rw[e0,e1]
@[congr] theorem jV.cg(e0:x=x')(e1:y=y'):jV x y k=jV x' y' k:=by rw[e0,e1]
@[congr] theorem nu.cg(e0:x=x')(e1:y=y'):nu x y k=nu x' y' k:=by rw[e0,e1]
@[congr] theorem nv.cg(e0:x=x')(e1:y=y'):nv x y k=nv x' y' k:=by rw[e0,e1]
@[congr] theorem kF.cg(e0:x=x')(e1:y=y'):kF x y k=kF x' y' k:=by rw[e0,e1]
end
end
section
noncomputable section
abbrev NM:=List EV->Ab->R
abbrev UM:=List EV->(EV->R)->R
def cl0(F:Ab->R):NM:=fun x h=>match x with | []=>F h|_=>none
def Dy(F:EV->Ab->R):NM:=fun x h=>match x with | [a]=>F a h|_=>none
def Eh(F:EV->EV->Ab->R):NM:=fun x h=>match x with | [a,b]=>F a b h|_=>none
def Kk(F:EV->EV->EV->Ab->R):NM:=fun x h=>match x with | [a,b,c]=>F a b c h|_=>none
def Tc(F:EV->EV->EV->EV->Ab->R):NM:=fun x h=>match x with | [a,b,c,d]=>F a b c d h|_=>none
def cl5(F:EV->EV->EV->EV->EV->Ab->R):NM:=fun x h=>match x with | [a,b,c,d,e]=>F a b c d e h|_=>none
def cl6(F:EV->EV->EV->EV->EV->EV->Ab->R):NM:=fun x h=>match x with | [a,b,c,d,e,f]=>F a b c d e f h|_=>none
def cl7(F:EV->EV->EV->EV->EV->EV->EV->Ab->R):NM:=fun x h=>match x with | [a,b,c,d,e,f,i]=>F a b c d e f i h|_=>none
def cl8(F:EV->EV->EV->EV->EV->EV->EV->EV->Ab->R):NM:=fun x h=>match x with | [a,b,c,d,e,f,i,j]=>F a b c d e f i j h|_=>none
def cl9(F:EV->EV->EV->EV->EV->EV->EV->EV->EV->Ab->R):NM:=fun x h=>match x with | [a,b,c,d,e,f,i,j,k]=>F a b c d e f i j k h|_=>none
def Bsa(F:EV->EV->EV->EV->EV->EV->EV->EV->EV->EV->Ab->R):NM:=fun x h=>match x with | [a,b,c,d,e,f,i,j,k,l]=>F a b c d e f i j k l h|_=>none
def Btw(F:EV->EV->EV->EV->EV->EV->EV->EV->EV->EV->EV->Ab->R):NM:=fun x h=>match x with | [a,b,c,d,e,f,i,j,k,l,m]=>F a b c d e f i j k l m h|_=>none
def Bud(F:EV->EV->EV->EV->EV->EV->EV->EV->EV->EV->EV->EV->Ab->R):NM:=fun x h=>match x with | [a,b,c,d,e,f,i,j,k,l,m,n]=>F a b c d e f i j k l m n h|_=>none
def cu0(F:(EV->R)->R):UM:=fun x k=>match x with | []=>F k|_=>none
def cu1(F:EV->(EV->R)->R):UM:=fun x k=>match x with | [a]=>F a k|_=>none
def cu2(F:EV->EV->(EV->R)->R):UM:=fun x k=>match x with | [a,b]=>F a b k|_=>none
def cu3(F:EV->EV->EV->(EV->R)->R):UM:=fun x k=>match x with | [a,b,c]=>F a b c k|_=>none
def cu4(F:EV->EV->EV->EV->(EV->R)->R):UM:=fun x k=>match x with | [a,b,c,d]=>F a b c d k|_=>none
def cu5(F:EV->EV->EV->EV->EV->(EV->R)->R):UM:=fun x k=>match x with | [a,b,c,d,e]=>F a b c d e k|_=>none
def cu6(F:EV->EV->EV->EV->EV->EV->(EV->R)->R):UM:=fun x k=>match x with | [a,b,c,d,e,f]=>F a b c d e f k|_=>none
def nth(d:α):List α->Nat->α
 | [],_=>d
 | a::_,0=>a
 | _::r,n+1=>nth d r n
def kc:List EV:=[(.int .i64 0),(.int .i64 1),tU,(.int .i64 2),(.bool false),(.bool true),(.int .i64 3),.Ch,(.int .i64 5),(.int .i64 7),(.int .u8 0),.Aq,(.int .i64 4),(.int .i64 8),(.int .i64 10),(.int .i64 11),(.int .i64 12),(.int .i64 13),(.int .i64 14),(.int .i64 15),(.int .i64 16),(.int .i64 17),(.int .i64 18),(.int .i64 20),(.int .i64 30),(.int .i64 31),(.int .i64 32),(.int .i64 33),(.int .i64 34),(.int .i64 40),(.int .i64 41),(.int .i64 42),(.int .i64 43),(.int .i64 44),(.int .i64 48),(.int .i64 64)]
def tk:Nat->Nat->List Nat
 | 0,_=>[]
 | f+1,n=>if n=1 then[]else if n%16=14 then(n/16%256+14)::tk f (n/4096)else if n%16=15 then(n/256%16^(n/16%16))::tk f (n/256/16^(n/16%16))else n%16::tk f (n/16)
def rT:List Nat->(Nat->List Nat->R)->R
 | t::n,k=>k t n
 | [],_=>none
def rW(C e:List EV)(k:EV->List Nat->R):Nat->List Nat->R
 | 0,n=>rT n fun i n=>k (nth tU kc i) n
 | 1,n=>rT n fun i n=>k (nth tU C i) n
 | x+2,n=>k (nth tU e x) n
def rV(C e:List EV)(n:List Nat)(k:EV->List Nat->R):R:=rT n fun q n=>rW C e k q n
def rL(C e:List EV):Nat->List Nat->(List EV->List Nat->R)->R
 | 0,n,k=>k [] n
 | m+1,n,k=>rV C e n fun v n=>rL C e m n fun l n=>k (v::l) n
def rR(C e:List EV):Nat->List Nat->(List RV->R)->R
 | 0,_,k=>k []
 | m+1,n,k=>rT n fun q n=>rV C e n fun v n=>nth none [rR C e m n fun l=>k (.v v::l),rT n fun t n=>rR C e m n fun l=>k (.c v t::l)] q
def rC(N:List NM)(C e:List EV)(n:List Nat)(k:(Ab->R)->List Nat->R):R:=rT n fun j n=>rT n fun m n=>rL C e m n fun l n=>k (nth (fun _ _=>none) N j l) n
def gOf(n:Nat)(k:IG->BinOp->R):R:=nth none [k kU .add,k oD .sub,k pU .mul,k I8 .lss,k oF .leq,k nt .gtr,k oG .geq,k iW .eql,k iX .neq] n
def bOf(n:Nat):BinOp:=nth .shr [.quo,.rem,.and,.or,.xor,.shl,.shr] n
def dk(N:List NM)(U:List UM)(Z:List (List EV))(C:List EV):Nat->List Nat->Nat->DX->List EV->Ab->R
 | f+1,q::n,base,s,e,h=>nth (fun _=>none) [
 fun n=>rC N C e n fun c _=>c h,
 fun n=>rC N C e n fun c n=>Am (c h) fun v h=>dk N U Z C f n base s (v::e) h,
 fun n=>rV C e n fun v _=>some (v,h),
 fun n=>rT n fun p0 n=>rV C e n fun p1 n=>fE p0 p1 h fun v=>dk N U Z C f n base s (v::e) h,
 fun n=>rT n fun p0 n=>rV C e n fun p1 n=>oE p0 p1 h fun v=>dk N U Z C f n base s (v::e) h,
 fun n=>rT n fun p0 n=>rV C e n fun p1 n=>Pg p0 p1 h fun v=>dk N U Z C f n base s (v::e) h,
 fun n=>rT n fun p0 n=>rV C e n fun p1 n=>rV C e n fun A n=>f_ p0 p1 A h fun h=>dk N U Z C f n base s e h,
 fun n=>rT n fun i n=>rT n fun b n=>rC N C e n fun c n=>Ld i b s h (fun h=>c h) fun v h s=>dk N U Z C f n base s (v::e) h,
 fun n=>rV C e n fun p0 n=>rT n fun L n=>hQ p0 (dk N U Z C f n base s e h) (dk N U Z C f (n.drop L) base s e h),
 fun n=>rT n fun p0 n=>rV C e n fun p1 n=>Sl p0 p1 h fun v h=>dk N U Z C f n base s (v::e) h,
 fun n=>rV C e n fun p0 n=>rT n fun L n=>iQ p0 (dk N U Z C f n base s e h) (dk N U Z C f (n.drop L) base s e h),
 fun n=>rT n fun p0 n=>rT n fun p1 n=>rV C e n fun A n=>O6 p0 p1 base A s fun s=>dk N U Z C f n base s e h,
 fun n=>rT n fun p0 n=>rV C e n fun p1 n=>oA p0 p1 fun v=>dk N U Z C f n base s (v::e) h,
 fun n=>rV C e n fun p0 n=>rT n fun L n=>hM p0 (dk N U Z C f n base s e h) (dk N U Z C f (n.drop L) base s e h),
 fun n=>rT n fun m n=>rL C e m n fun l _=>some (.tuple l,h),
 fun n=>rT n fun g n=>rT n fun t n=>rV C e n fun x n=>rV C e n fun y n=>rT n fun L n=>gOf g fun g o=>cE g o t x y (dk N U Z C f n base s e h) (dk N U Z C f (n.drop L) base s e h),
 fun n=>rT n fun g n=>rT n fun t n=>rV C e n fun x n=>rV C e n fun y n=>gOf g fun g o=>J5 g (bin TT o t) x y fun v=>dk N U Z C f n base s (v::e) h,
 fun n=>rT n fun g n=>rT n fun t n=>rV C e n fun x n=>rV C e n fun y n=>iK (bin TT (bOf g) t) x y fun v=>dk N U Z C f n base s (v::e) h,
 fun n=>rT n fun m n=>rR C e m n fun l=>Jk TT l h,
 fun n=>rT n fun t n=>rT n fun z n=>jT (.cells (nth [] Z z) t) h fun v h=>dk N U Z C f n base s (v::e) h,
 fun n=>rT n fun m n=>rT n fun z n=>rT n fun t n=>rV C e n fun x n=>kD m (nth [] Z z) t x h fun v h=>dk N U Z C f n base s (v::e) h,
 fun n=>rT n fun j n=>rT n fun m n=>rL C e m n fun l n=>nth (fun _ _=>none) U j l fun v=>dk N U Z C f n base s (v::e) h,
 fun n=>none,
 fun n=>rV C e n fun p0 n=>rV C e n fun p1 n=>il p0 p1 fun v=>dk N U Z C f n base s (v::e) h,
 fun n=>rV C e n fun p0 n=>Jg p0 fun v=>dk N U Z C f n base s (v::e) h,
 fun n=>rV C e n fun p0 n=>rV C e n fun p1 n=>hG p0 p1 fun v=>dk N U Z C f n base s (v::e) h,
 fun n=>rV C e n fun p0 n=>kS p0 fun v w=>dk N U Z C f n base s (w::v::e) h,
 fun n=>rV C e n fun p0 n=>Hq p0 h fun v=>dk N U Z C f n base s (v::e) h,
 fun n=>Zy h fun base s=>dk N U Z C f n base s e h,
 fun n=>rV C e n fun p0 n=>jj p0 fun v=>dk N U Z C f n base s (v::e) h,
 fun n=>rT n fun p0 n=>rT n fun p1 n=>rT n fun A n=>rV C e n fun G n=>h_ p0 p1 A base G s h fun s v=>dk N U Z C f n base s (v::e) h,
 fun n=>rT n fun p0 n=>rT n fun p1 n=>rT n fun A n=>rV C e n fun G n=>jw p0 p1 A base G s h fun s v=>dk N U Z C f n base s (v::e) h,
 fun n=>rV C e n fun p0 n=>rT n fun L n=>nr p0 (dk N U Z C f n base s e h) (dk N U Z C f (n.drop L) base s e h),
 fun n=>rV C e n fun p0 n=>Hg p0 fun v=>dk N U Z C f n base s (v::e) h,
 fun n=>rT n fun p0 n=>rV C e n fun p1 n=>iP p0 p1 fun v=>dk N U Z C f n base s (v::e) h,
 fun n=>rT n fun p0 n=>rV C e n fun p1 n=>rV C e n fun A n=>ir p0 p1 A fun v=>dk N U Z C f n base s (v::e) h,
 fun n=>rT n fun p0 n=>rV C e n fun p1 n=>rV C e n fun A n=>nj p0 p1 A h fun v=>dk N U Z C f n base s (v::e) h,
 fun n=>rT n fun p0 n=>rT n fun p1 n=>rV C e n fun A n=>pV p0 p1 A s fun s=>dk N U Z C f n base s e h,
 fun n=>rT n fun p0 n=>oH p0 h s fun s=>dk N U Z C f n base s e h,
 fun n=>rT n fun p0 n=>rT n fun p1 n=>rV C e n fun A n=>rV C e n fun G n=>jW p0 p1 A G fun v=>dk N U Z C f n base s (v::e) h,
 fun n=>rT n fun p0 n=>rV C e n fun p1 n=>kT p0 p1 fun v=>dk N U Z C f n base s (v::e) h,
 fun n=>rV C e n fun p0 n=>jI p0 fun v=>dk N U Z C f n base s (v::e) h,
 fun n=>rV C e n fun p0 n=>oI p0 fun v=>dk N U Z C f n base s (v::e) h,
 fun n=>rV C e n fun p0 n=>rV C e n fun p1 n=>oC p0 p1 fun v=>dk N U Z C f n base s (v::e) h,
 fun n=>rV C e n fun p0 n=>rV C e n fun p1 n=>rP p0 p1 fun v=>dk N U Z C f n base s (v::e) h,
 fun n=>rV C e n fun p0 n=>rV C e n fun p1 n=>mz p0 p1 fun v=>dk N U Z C f n base s (v::e) h,
 fun n=>rV C e n fun p0 n=>rV C e n fun p1 n=>jU p0 p1 fun v=>dk N U Z C f n base s (v::e) h,
 fun n=>rV C e n fun p0 n=>rV C e n fun p1 n=>kn p0 p1 fun v=>dk N U Z C f n base s (v::e) h,
 fun n=>rV C e n fun p0 n=>rV C e n fun p1 n=>jV p0 p1 fun v=>dk N U Z C f n base s (v::e) h,
 fun n=>rV C e n fun p0 n=>rV C e n fun p1 n=>nu p0 p1 fun v=>dk N U Z C f n base s (v::e) h,
 fun n=>rV C e n fun p0 n=>rV C e n fun p1 n=>nv p0 p1 fun v=>dk N U Z C f n base s (v::e) h,
 fun n=>rV C e n fun p0 n=>rV C e n fun p1 n=>kF p0 p1 fun v=>dk N U Z C f n base s (v::e) h,
 fun n=>rT n fun p0 n=>rV C e n fun p1 n=>oJ p0 p1 fun v=>dk N U Z C f n base s (v::e) h] q n
 | _,_,_,_,_,_=>none
def s0:DX:=⟨0,[],[],[],[]⟩
inductive Nf:R->R->Prop where
 | mk (x:R):Nf x x
structure Dm(x y:R):Prop where
structure Sg(n:Nat)(e:List EV)(h:Ab)(N:List NM:=[])(U:List UM:=[])(Z:List (List EV):=[])(C:List EV:=[]) where mk ::
 {t:List Nat}
 {F:R}
 (p:tk 900 n=t:=by
  simp only[tk,↓reduceIte,Nat.reduceMod,Nat.reduceDiv,Nat.reduceEqDiff,Nat.reduceAdd,Nat.reducePow]
  first|done|rfl)
 (q:Dm (dk N U Z C 300 t 0 s0 e h) F:=by
  refine' (?f:∀x y,Nf x y->Dm x y) _ _ ?m
  case m=>
   dsimp only[dk,rT,rW,rV,rL,rR,rC,nth,kc,gOf,bOf,List.drop,cl0,Dy,Eh,Kk,Tc,cl5,cl6,cl7,cl8,cl9,Bsa,Btw,Bud,cu0,cu1,cu2,cu3,cu4,cu5,cu6];exact .mk _
  case f=>
   intros;exact⟨⟩)
theorem dr:Zs/\Zi:=⟨dz,tY⟩
end
end
noncomputable section
def mb(n:Nat):EV:=.int .u8 (.ofNat n)
def ny(x:Nat):Nat:=Bb (Nat.beq (Nat.land x 1) 1) (Nat.xor (Nat.div x 2) 2197175160) (Nat.div x 2)
def Buo:Nat->Nat->List EV:=@Nat.rec (fun _=>Nat->List EV) (fun _=>[]) fun _ A i=>.int .u32 (.ofNat (ny (ny (ny (ny (ny (ny (ny (ny i)))))))))::A (Nat.succ i)
def Be:List EV:=Buo 256 0
def Uh:EV:=.agg Be
def A77:FT:=fun _ _ _ args h=>@List.rec EV (fun _=>R) (some (Uh,h)) (fun _ _ _=>none) args
def xo(_:Nat)(h:Ab):R:=some (Uh,h)
end
noncomputable def Axo(g:Nat):Bool:=Brf g
structure Bv(disp:Nat->Option FT):Prop where
 plain:∀g,Axo g=true->disp g=none
 crc:disp 51=some A77
theorem A9w(H:Bv disp){d:Nat}(hd:1<=d)(h:Ab):Ag TT disp K d false 51 [] h=xo K h:=by
 obtain⟨d,rfl⟩:∃e,d=e+1:=⟨d-1,by omega⟩;rw[Blz H.crc];rfl
section
def Ok(x:R)(Q:EV->Ab->Prop):Prop:=∃v h,x=some (v,h)/\Q v h
theorem Ok.ret(q:Q v h):Ok (some (v,h)) Q:=⟨v,h,rfl,q⟩
theorem Ok.mono {x:R}(a:Ok x P)(b:∀v h,P v h->Q v h):Ok x Q:=by
 obtain⟨v,h,e,p⟩:=a;exact⟨v,h,e,b v h p⟩
theorem Ok.Am {x:R}{k:EV->Ab->R}(a:Ok x P)(b:∀v h,P v h->Ok (k v h) Q):Ok (Am x k) Q:=by
 obtain⟨v,h,e,p⟩:=a;rw[e];exact b v h p
theorem Ok.eq {x y:R}(e:x=y)(a:Ok y Q):Ok x Q:=by rw[e];exact a
def HB(h:Ab):Prop:=∀q o,h.get q=some o->q<h.next
theorem HB.new(a:HB h)(o:D3):HB (h.new o):=fun q x e=>by
 rw[Ab.K7]at e;split at e
 ·rename_i A;rw[Ab.Dx];omega
 ·exact Nat.lt_succ_of_lt (a q x e)
theorem HB.put(a:HB h){i:Nat}(A:i<h.next)(o:D3):HB (h.put i o):=fun q x e=>by
 rw[Ab.get_put]at e;split at e
 ·rename_i G;subst G;exact A
 ·exact a q x e
theorem HB.del(a:HB h)(i:Nat):HB (h.del i):=fun q x e=>by
 rw[Ab.kV]at e;split at e
 ·cases e
 ·exact a q x e
structure Av(S:Nat->Prop)(h h':Ab):Prop where
 get:∀i,i<h.next->¬S i->h'.get i=h.get i
 next:h.next<=h'.next
 mw:∀w,w<=h.mw->w<=h.next->(∀i,S i->w<=i)->w<=h'.mw
 hb:HB h->HB h'
abbrev Ext:Ab->Ab->Prop:=Av fun _=>False
variable {S T:Nat->Prop}{h1 h2 h3:Ab}
theorem Av.refl(h:Ab):Av S h h:=⟨fun _ _ _=>rfl,aE _,fun _ a _ _=>a,id⟩
theorem Av.trans(a:Av S h1 h2)(b:Av S h2 h3):Av S h1 h3:=
 ⟨fun i A hs=>by rw[b.get i (aN A a.next) hs,a.get i A hs],bQ a.next b.next,
  fun w w1 w2 w3=>b.mw w (a.mw w w1 w2 w3) (bQ w2 a.next) w3,fun x=>b.hb (a.hb x)⟩
theorem Av.mono(a:Av S h h')(st:∀i,S i->T i):Av T h h':=⟨fun i A hs=>a.get i A fun x=>hs (st i x),a.next,fun w w1 w2 w3=>a.mw w w1 w2 fun i A=>w3 i (st i A),a.hb⟩
theorem Av.then(a:Av S h1 h2)(b:Av T h2 h3)(st:∀i,T i->i<h1.next->S i):Av S h1 h3:=by
 refine⟨fun i A hs=>by rw[b.get i (aN A a.next) fun x=>hs (st i x A),a.get i A hs],bQ a.next b.next,fun w w1 w2 w3=>?_,fun x=>b.hb (a.hb x)⟩;refine b.mw w (a.mw w w1 w2 w3) (bQ w2 a.next) fun i A=>?_
 by_cases G:i<h1.next
 ·exact w3 i (st i A G)
 ·omega
theorem Ext.to(a:Ext h h'):Av S h h':=a.mono fun _ x=>x.elim
theorem Av.new(h:Ab)(o:D3):Av S h (h.new o):=
 ⟨fun i A _=>Ay o A,by rw[Ab.Dx];omega,fun w w1 _ _=>by rw[Ab.Br2];exact w1,fun x=>x.new o⟩
theorem Av.put(h:Ab){i:Nat}(A:S i\/h.next<=i)(G:HB h->i<h.next)(o:D3):Av S h (h.put i o):=by
 refine⟨fun j hj hs=>Af o fun e=>?_,by rw[Ab.Qr];exact aE _,fun w w1 w2 w3=>?_,fun x=>x.put (G x) o⟩
 ·subst e;rcases A with A|A
  ·exact hs A
  ·omega
 ·rw[Ab.nA]
  rcases A with A|A
  ·have:=w3 i A;omega
  ·omega
theorem Av.del(h:Ab){i:Nat}(A:S i\/h.next<=i):Av S h (h.del i):=by
 refine⟨fun j hj hs=>Bcs fun e=>?_,by rw[Ab.xp];exact aE _,fun w w1 w2 w3=>?_,fun x=>x.del i⟩
 ·subst e;rcases A with A|A
  ·exact hs A
  ·omega
 ·rw[Ab.rQ]
  rcases A with A|A
  ·have:=w3 i A;omega
  ·omega
theorem Av.Ar(x:Av S h0 h){i:Nat}(A:S i\/h0.next<=i)(G:i<h.next)(o:D3):Av S h0 (h.put i o):=
 x.then (T:=fun j=>j=i) (Av.put (S:=fun j=>j=i) h (.inl rfl) (fun _=>G) o) fun j hj J=>by
  have e:j=i:=hj;subst e;rcases A with A|A
  ·exact A
  ·omega
theorem Av.Da(x:Av S h0 h)(o:D3):Av S h0 (h.new o):=x.trans (Av.new _ _)
theorem Av.at(c:Av S h h')(hb:HB h){i:Nat}{o:D3}(g:h.get i=some o)(A:¬S i):h'.get i=some o:=by rw[c.get i (hb i o g) A];exact g
theorem Ext.at(c:Ext h h')(hb:HB h){i:Nat}{o:D3}(g:h.get i=some o):h'.get i=some o:=Av.at c hb g id
theorem Az {i j:Nat}{o o':D3}(a:h.get i=some o)(b:h.get j=some o')(n:o≠o'):i≠j:=fun e=>n (by rw[e,b]at a;cases a;rfl)
noncomputable def Ab.lift(h:Ab):Ab:=⟨h.t,h.next,h.next⟩
structure iO(h h':Ab):Prop where
 get:∀i,h'.get i=h.get i
 next:h'.next=h.next
theorem jf(h:Ab)(i:Nat):h.get i=h.t.get i:=by cases h;rfl
theorem Bx(h:Ab)(i:Nat):h.lift.get i=h.get i:=by rw[jf,jf];rfl
theorem rS(h:Ab):h.lift.next=h.next:=rfl
theorem C8(a:HB h):HB h.lift:=fun q o e=>a q o (by rw[<-Bx];exact e)
theorem iO.lift(h:Ab):iO h h.lift:=⟨Bx h,rfl⟩
theorem iO.hb(a:iO h h')(b:HB h):HB h':=fun q o e=>by rw[a.next];exact b q o (by rw[<-a.get];exact e)
section
variable {i b:Nat}{s:DX}{call:Ab->R}{k:EV->Ab->DX->R}
theorem Ok.Ld(hb:Abu b s=true)(A:loose b s.nw = [])(G:Ok (call h.lift) P)(he:∀v h1,P v h1->Ext h.lift h1)
 (J:∀v h1 h2,P v h1->iO h1 h2->Ext h h2->Ok (k v h2 (s.big i)) Q):Ok (Ld i b s h call k) Q:=by
 obtain⟨v,h1,e,p⟩:=G;have x:=he v h1 p;have L:Hs b s h=h.lift:=by unfold Hs;rw[A];rfl
 have hm:h.next<=h1.mw:=x.mw h.next (aE _) (aE _) fun _ y=>y.elim
 have M:Ev.Ld i b s h call k=k v ⟨h1.t,h1.next,h.mw⟩ (s.big i):=by
  show Bb (Abu b s) (Ev.Am (call (Hs b s h)) fun v h'=>Mp i b s h h' fun s h=>k v h s) none=_;rw[hb,Ak,L,e];show Mp i b s h h1 (fun s h=>k v h s)=_;unfold Mp;rw[aQ hm,Ak,A];rfl
 rw[M];refine J v h1 _ p ⟨fun i=>by rw[jf,jf],rfl⟩ ⟨fun i O U=>?_,x.next,fun w w1 _ _=>w1,fun y=>?_⟩
 ·rw[jf];show h1.t.get i=_;rw[<-jf,x.get i O U,Bx]
 ·exact iO.hb (h:=h1) ⟨fun i=>by rw[jf,jf],rfl⟩ (x.hb (C8 y))
theorem Ok.bE(A:Ok (call h.lift) P)(he:∀v h1,P v h1->Ext h.lift h1)(G:∀v h1 h2,P v h1->iO h1 h2->Ext h h2->Ok (k v h2 (s.big i)) Q)(hb:Abu b s=true:=by kernel_rfl)(J:loose b s.nw = []:=by kernel_rfl):Ok (Ev.Ld i b s h call k) Q:=Ok.Ld hb J A he G
theorem Ok.rq(hb:Abu b s=true)(A:loose b s.nw = [])(L:∀w,Se b w s.Cw=true)(M:Ok (call h.lift) P)(he:∀v h1,P v h1->Av S h.lift h1)
 (G:∀v h1 h2 s',P v h1->iO h1 h2->Av S h h2->(s'=s.big i\/∃w,s'=s.iI i w/\w=h1.mw)->Ok (k v h2 s') Q):Ok (Ev.Ld i b s h call k) Q:=by
 obtain⟨v,h1,e,p⟩:=M;have x:=he v h1 p;have O:Hs b s h=h.lift:=by unfold Hs;rw[A];rfl
 have U:Ev.Ld i b s h call k=Mp i b s h h1 fun s h=>k v h s:=by
  show Bb (Abu b s) (Ev.Am (call (Hs b s h)) fun v h'=>Mp i b s h h' fun s h=>k v h s) none=_;rw[hb,Ak,O,e];rfl
 rw[U];unfold Mp;rw[A];have sm:∀w,iO h1 ⟨h1.t,h1.next,w⟩:=fun w=>⟨fun i=>by rw[jf,jf],rfl⟩
 have J:∀w i,i<h.next->¬S i->(⟨h1.t,h1.next,w⟩:Ab).get i=h.get i:=fun w i V W=>by
  rw[(sm w).get,x.get i V W,Bx]
 cases hle:Nat.ble h.next h1.mw with
 | true=>
  rw[Ak];exact G v h1 _ _ p (sm _) ⟨J _,x.next,fun w w1 _ _=>w1,fun y=>(sm _).hb (x.hb (C8 y))⟩ (.inl rfl)
 | false=>
  rw[Bm,L,Ak];refine G v h1 _ _ p (sm _) ⟨J _,x.next,fun w w1 w2 w3=>?_,fun y=>(sm _).hb (x.hb (C8 y))⟩ (.inr ⟨_,rfl,rfl⟩);have:=x.mw w w2 w2 w3;show w<=Bb (Nat.ble h.mw h1.mw) h.mw h1.mw;rw[Bq];split<;>assumption
theorem Ok.bC(A:Ok (call h.lift) P)(he:∀v h1,P v h1->Av S h.lift h1)
 (G:∀v h1 h2 s',P v h1->iO h1 h2->Av S h h2->(s'=s.big i\/∃w,s'=s.iI i w/\w=h1.mw)->Ok (k v h2 s') Q) (hb:Abu b s=true:=by kernel_rfl) (J:loose b s.nw = []:=by kernel_rfl) (L:∀w,Se b w s.Cw=true:=by exact fun _=>by kernel_rfl):Ok (Ev.Ld i b s h call k) Q:=Ok.rq hb J L A he G
theorem Cp {i b q o:Nat}{s:DX}{k:DX->R}(A:q<base)(G:Bb (Fm b q s.st) (Yx b q s.lou) false=true):O6 i b base (.ptr q o) s k=k (s.ld i q):=by
 show Bb (tZ b base q s) _ none=_;unfold tZ;rw[aQ (show Nat.succ q<=base from A),Ak,G,Ak]
theorem Hb {i b q o:Nat}{s:DX}{k:DX->R}(A:q<base)(G:Bb (Fm b q s.st) (Yx b q s.lou) false=true:=by kernel_rfl):O6 i b base (.ptr q o) s k=k (s.ld i q):=Cp A G
theorem G1 {i b q o:Nat}{s:DX}{k:DX->R}(A:pW b q s=true:=by kernel_rfl):pV i b (.ptr q o) s k=k (s.sto i q):=by
 show Bb (pW b q s) _ none=_;rw[A,Ak]
end
section
variable {i o c n s j len:Nat}{l:List EV}{t:TypeId}{k:EV->R}
noncomputable def rowOf:D3->Option (List EV)
 | .cells l _=>some l
 | .vec l _ _=>some l
 | _=>none
theorem Ai {x:D3}(G:h.get i=some x)(A:rowOf x=some l)(J:l[o]? = some v):Hq (.ptr i o) h k=k v:=by
 show oB _ (mj (h.get i) o 1)=_;rw[G];have L:Og l o 1=some [v]:=by
  obtain⟨h1,h2⟩:=aY.1 J;rw[Fx (by omega),dU h1,h2];rfl
 cases x<;>first|(cases A;done)|(cases A;show oB _ (Og l o 1)=_;rw[L];rfl)
theorem Mw {q off A rm:Nat}{op:Bool}{kd:IntKind}(hj:j<A):ir sz (.slice q off A rm op) (.int kd (j:Int)) k=k (.ptr q (off+j*sz)):=Bqr hj k kd
theorem Cn {x:D3}(G:h.get i=some x)(A:rowOf x=some l)(J:Og l o n=some l'):Pg n (.ptr i o) h k=k (.agg l'):=by
 show oB _ (mj (h.get i) o n)=_;rw[G];cases x<;>first|(cases A;done)|(cases A;show oB _ (Og l o n)=_;rw[J];rfl)
theorem mV {kk:Ab->R}(A:h.get i=some (.cells l t))(hp:v.plain=true)(G:Ga v.cells=n)(J:Mv l o v.cells=some l'):f_ n (.ptr i o) v h kk=kk (h.put i (.cells l' t)):=by
 show Bb v.plain (Bb (Nat.beq (Ga v.cells) n) (nB h i (fun l=>Mv l o v.cells) kk) none) none=_;rw[hp,Ak,G,cQ,Ak,A3f A,J];rfl
theorem Bpp {kk:Ab->R}{z:Nat}(A:h.get i=some (.vec l t z))(hp:v.plain=true)(G:Ga v.cells=n)(J:Mv l o v.cells=some l'):f_ n (.ptr i o) v h kk=kk (h.put i (.vec l' t z)):=by
 show Bb v.plain (Bb (Nat.beq (Ga v.cells) n) (nB h i (fun l=>Mv l o v.cells) kk) none) none=_;rw[hp,Ak,G,cQ,Ak];unfold nB;rw[A];simp only;rw[J];rfl
theorem Ok.st {kk:Ab->R}(l':List EV)(A:h.get i=some (.cells l t))(hp:v.plain=true)(G:Ga v.cells=n)(J:Mv l o v.cells=some l')(L:Ok (kk (h.put i (.cells l' t))) Q):Ok (f_ n (.ptr i o) v h kk) Q:=by
 rw[mV A hp G J];exact L
theorem nW(h:Ab)(o:D3):∃h',h.new o=h'/\Ext h h'/\h'.get h.next=some o/\h'.next=h.next+1:=⟨_,rfl,Av.new _ _,Ad _ _,rfl⟩
theorem nP(h:Ab)(z o:D3):∃h',(h.new z).put h.next o=h'/\Ext h h'/\h'.get h.next=some o/\h'.next=h.next+1:=⟨_,rfl,(Av.new h _:Ext _ _).Ar (.inr (aE _)) (aO _) _,Ae _ _ _,rfl⟩
theorem Ok.mk {z:List EV}{kk:Ab->R}(G:z.length=n)(A:xs.length=n)(J:∀h',Ext h h'->h'.get h.next=some (.cells xs t)->h'.next=h.next+1->Ok (kk h') Q):Ok (f_ n (.ptr h.next 0) (.agg xs) (h.new (.cells z t)) kk) Q:=by
 obtain⟨h',e,a,b,c⟩:=nP h (.cells z t) (.cells xs t);refine Ok.st xs (Ad _ _) rfl (by show Ga xs=n;rw[Bh,A]) (Bn (by show z.length=xs.length;rw[G,A])) ?_;rw[e];exact J h' a b c
theorem Ok.gT {kk:Ab->R}(G:h.get i=some (.cells l t))(hp:v.plain=true)(A:v.cells = [v])(J:o<l.length)(L:Ok (kk (h.put i (.cells (l.set o v) t))) Q):Ok (f_ 1 (.ptr i o) v h kk) Q:=by
 rw[mV G hp (by rw[A];rfl) (by rw[A];exact FD v l o J)];exact L
theorem τ(hp:v.plain=true):Sl t v h kh=kh (.ptr h.next 0) (h.new (.cells v.cells t)):=by unfold Sl;rw[hp,Ak]
theorem FE {a b:EV}{x:Bool}:kE (.bool x) a b k=Bb x (k a) (k b):=rfl
theorem Au:Am (some (v,h')) kh=kh v h':=rfl
theorem Xi {q off A:Nat}{kd:IntKind}(hj:j<A):jW A sz (.ptr q off) (.int kd (j:Int)) k=k (.ptr q (off+j*sz)):=by
 show Bb (Nat.ble (Nat.succ j) A) _ none=_;rw[aQ hj,Ak];rfl
theorem FF {kd A:IntKind}{x:Int}:So kd (.int A x) k=k (.int kd (Dr kd x)):=rfl
theorem Bnh {kd:IntKind}{x:Int}:oI (.int kd x) k=k (.int kd (Dr kd (0-x))):=rfl
theorem w_(A:l[o]? = some v):Vx o false 0 (.agg l) k=k v:=by
 show oB k (kG l o)=_;rw[t_,A];rfl
theorem Ax {place:Nat->Option (Nat × Nat)}{z:List EV}(A:jh place ps z=some l):Bo place z ps k=k (.agg l):=by
 unfold Bo;rw[A];rfl
theorem Aj {l:List EV}{n:Nat}(A:l.length=n):Og l 0 n=some l:=by
 subst A;rw[Fx (by omega),dF,bW]
theorem Cl {n:Int}(h1 : -9223372036854775808<=n:=by omega)(h2:n<=9223372036854775807:=by omega):Dr .i64 n=n:=FG h1 (by omega)
end
theorem rU {b:Int}{T:Ig}{t:Nat}{a:Int}{k:EV->R}(hb:0<b)(h1:0<=a)(h2:a<9223372036854775808):iK (bin T .quo t) (.int .i64 a) (.int .i64 b) k=k (.int .i64 (a/b)):=by
 obtain⟨n,rfl⟩:=bA (Int.le_of_lt hb);show oB k (Bb (iN (.ofNat n) 0) none (some (.int .i64 (Dr .i64 (a.tdiv (.ofNat n))))))=_;have:iN (.ofNat n) 0=false:=by
  show Nat.beq n 0=false;cases n with
  | zero=>exact absurd hb (by decide)
  | succ n=>rfl
 rw[this,Bm];have e:a.tdiv (.ofNat n)=a/n:=Int.tdiv_eq_ediv_of_nonneg h1;have h3:a/(n:Int)<=a:=Int.ediv_le_self _ h1;have h4:0<=a/(n:Int):=Int.ediv_nonneg h1 (by omega);rw[e,FG (by omega) (by omega)];rfl
section
variable {v' w w' a a' b b' x':EV}{x y r r':R}{k:EV->R}{kk:Ab->R}{kd:DX->R}{kb:Nat->DX->R}
@[congr] theorem Ok.c {Q:EV->Ab->Prop}(e:r=r'):Ok r Q=Ok r' Q:=by rw[e]
@[congr] theorem Bb.c {α:Type}{p q:Bool}{x y:α}(e:p=q):Bb p x y=Bb q x y:=by rw[e]
@[congr] theorem oB.c {α β:Type}{k:α->Option β}{p q:Option α}(e:p=q):oB k p=oB k q:=by rw[e]
@[congr] theorem Am.c(e:r=r'):Am r kh=Am r' kh:=by rw[e]
@[congr] theorem Hq.c(e:v=v'):Hq v h k=Hq v' h k:=by rw[e]
@[congr] theorem Pg.c {n:Nat}(e:v=v'):Pg n v h k=Pg n v' h k:=by rw[e]
@[congr] theorem f_.c {n:Nat}(e:a=a')(e':v=v'):f_ n a v h kk=f_ n a' v' h kk:=by rw[e,e']
@[congr] theorem jT.c {o o':D3}(e:o=o'):jT o h kh=jT o' h kh:=by rw[e]
@[congr] theorem Sl.c {t:Nat}(e:v=v'):Sl t v h kh=Sl t v' h kh:=by rw[e]
@[congr] theorem J5.c {g:IG}{f:EV->EV->Option EV}(e:v=v')(e':w=w'):J5 g f v w k=J5 g f v' w' k:=by rw[e,e']
@[congr] theorem iK.c {f:EV->EV->Option EV}(e:v=v')(e':w=w'):iK f v w k=iK f v' w' k:=by rw[e,e']
@[congr] theorem kE.c(e:v=v'):kE v a b k=kE v' a b k:=by rw[e]
@[congr] theorem jj.c(e:v=v'):jj v k=jj v' k:=by rw[e]
@[congr] theorem oI.c(e:v=v'):oI v k=oI v' k:=by rw[e]
@[congr] theorem jI.c(e:v=v'):jI v k=jI v' k:=by rw[e]
@[congr] theorem iP.c {n:Nat}(e:v=v'):iP n v k=iP n v' k:=by rw[e]
@[congr] theorem jW.c {n m:Nat}(e:v=v')(e':w=w'):jW n m v w k=jW n m v' w' k:=by rw[e,e']
@[congr] theorem ir.c {n:Nat}(e:v=v')(e':w=w'):ir n v w k=ir n v' w' k:=by rw[e,e']
@[congr] theorem kj.c {n m q:Nat}{g:Bool}(e:v=v')(e':w=w'):kj n m g q v w k=kj n m g q v' w' k:=by rw[e,e']
@[congr] theorem Vx.c {n m:Nat}{g:Bool}(e:v=v'):Vx n g m v k=Vx n g m v' k:=by rw[e]
@[congr] theorem So.c {c:IntKind}(e:v=v'):So c v k=So c v' k:=by rw[e]
@[congr] theorem kT.c {n:Nat}(e:v=v'):kT n v k=kT n v' k:=by rw[e]
@[congr] theorem Hg.c(e:v=v'):Hg v k=Hg v' k:=by rw[e]
@[congr] theorem oJ.c {n:Nat}(e:v=v'):oJ n v k=oJ n v' k:=by rw[e]
@[congr] theorem Bo.c {place:Nat->Option (Nat × Nat)}{z:List EV}{ps c_:List (Nat × EV)}(e:ps=c_):Bo place z ps k=Bo place z c_ k:=by rw[e]
@[congr] theorem iD.c {n:Nat}{L A M G O J:Option EV}(e:v=v')(e1:L=A)(e2:M=G)(e3:O=J):iD n v L M O k=iD n v' A G J k:=by rw[e,e1,e2,e3]
@[congr] theorem Nq.c {n m:Nat}{L A M G O J:Option EV}(e:v=v')(e1:L=A)(e2:M=G)(e3:O=J):Nq n m v L M O k=Nq n m v' A G J k:=by rw[e,e1,e2,e3]
@[congr] theorem hQ.c(e:v=v'):hQ v x y=hQ v' x y:=by rw[e]
@[congr] theorem Zy.c(e:h=h'):Zy h kb=Zy h' kb:=by rw[e]
@[congr] theorem O6.c {i b base:Nat}{s:DX}(e:v=v'):O6 i b base v s kd=O6 i b base v' s kd:=by rw[e]
@[congr] theorem pV.c {i b:Nat}{s:DX}(e:v=v'):pV i b v s kd=pV i b v' s kd:=by rw[e]
@[congr] theorem oH.c {i:Nat}{s s':DX}(e:s=s'):oH i h s kd=oH i h s' kd:=by rw[e]
@[congr] theorem Ld.c {i b:Nat}{s s':DX}{call:Ab->R}(e:s=s'):Ld i b s h call ke=Ld i b s' h call ke:=by rw[e]
@[congr] theorem X6.c {c:Ah}{T:Ig}{g n i:Nat}{tm:Ba}{ds:List Nat}{k1:Ab->List Nat->R}{k2:Nat->Ab->List Nat->R}{k3:Ab->List Nat->R}(e:v=v'):X6 c T g n i v tm h ds k1 k2 k3=X6 c T g n i v' tm h ds k1 k2 k3:=by rw[e]
@[congr] theorem pQ.c {c:Ah}{T:Ig}{g n i l0:Nat}{tm:Ba}{ds:List Nat}{k1:Ab->List Nat->R}{k2:Nat->Ab->List Nat->R}{k3:Ab->List Nat->R}(e:v=v'):pQ c T g n i l0 v tm h ds k1 k2 k3=pQ c T g n i l0 v' tm h ds k1 k2 k3:=by rw[e]
@[congr] theorem Fi.c {l:Nat}(e:h=h'):Fi l h kk=Fi l h' kk:=by rw[e]
end
theorem Cw{i:Nat}{x:D3}{l:List EV}(G:h.get i=some x)(A:rowOf x=some l):∀(o:Nat) (k:EV->R),Hq (.ptr i o) h k=oB k l[o]?:=by
 intro o k;cases J:l[o]? with
 | some v=>exact Ai G A J
 | none=>
  show oB _ (mj (h.get i) o 1)=_;rw[G];have L:l.length<=o:=List.getElem?_eq_none_iff.1 J;have M:Og l o 1=none:=by
   rw[nC,Ta,List.drop_eq_nil_of_le L];rfl
  cases x<;>first|(cases A;done)|(cases A;show oB _ (Og l o 1)=_;rw[M];rfl)
theorem Cy{i:Nat}{x:D3}{l:List EV}(G:h.get i=some x)(A:rowOf x=some l):∀(n o:Nat) (k:EV->R),Pg n (.ptr i o) h k=oB (fun l=>k (.agg l)) (Og l o n):=by
 intro n o k;show oB _ (mj (h.get i) o n)=_;rw[G];cases x<;>first|(cases A;done)|(cases A;rfl)
theorem Aa:Zs/\Zi /\
 (∀(i o:Nat) (k:EV->R),jI (.ptr i o) k=k (.ptr i o))/\(∀(c i o:Nat) (k:EV->R),iP c (.ptr i o) k=k (.ptr i (o+c))) /\
 (∀(o:D3) (h:Ab) (k:EV->Ab->R),jT o h k=k (.ptr h.next 0) (h.new o)) /\
 (∀(t:Nat) (c:IntKind) (n:Int) (h:Ab) (k:EV->Ab->R),Sl t (.int c n) h k=k (.ptr h.next 0) (h.new (.cells [.int c n] t))) /\
 (∀(t:Nat) (l:List EV) (h:Ab) (k:EV->Ab->R),Sl t (.agg l) h k=k (.ptr h.next 0) (h.new (.cells l t))) /\
 (∀(t i o:Nat) (h:Ab) (k:EV->Ab->R),Sl t (.ptr i o) h k=k (.ptr h.next 0) (h.new (.cells [.ptr i o] t))) /\
 (∀(t i o n m:Nat) (p:Bool) (h:Ab) (k:EV->Ab->R),Sl t (.slice i o n m p) h k=k (.ptr h.next 0) (h.new (.cells [.slice i o n m p] t))) /\
 (∀(t:Nat) (h:Ab) (k:EV->Ab->R),Sl t .Aq h k=k (.ptr h.next 0) (h.new (.cells [.Aq] t))) /\
 (∀(x:Bool) (a b:EV) (k:EV->R),kE (.bool x) a b k=Bb x (k a) (k b)) /\
 (∀(x:Bool) (k:EV->R),jj (.bool x) k=Bb x (k (.bool false)) (k (.bool true))) /\
 (∀(x:Bool) (a b:R),hQ (.bool x) a b=Bb x a b) /\
 (∀(k:EV->R),Hg .Aq k=k (.int .i64 0))/\(∀(q off A rm:Nat) (op:Bool) (k:EV->R),Hg (.slice q off A rm op) k=k (.int .i64 (A:Int))) /\
 (∀(o:Nat) (l:List EV) (k:EV->R),kT o (.tuple l) k=oB k l[o]?) /\
 (∀(h:Ab) (k:Nat->DX->R),Zy h k=k h.next ⟨0,[],[],[],[]⟩)/\(∀(i:Nat) (h:Ab) (s:DX) (k:DX->R),oH i h s k=k (s.new i h.next)) /\
 (∀(v:EV) (h:Ab) (k:EV->Ab->R),Am (some (v,h)) k=k v h) /\
 (∀(o:Nat) (l:List EV) (k:EV->R),Vx o false 0 (.agg l) k=oB k l[o]?) /\
 (∀(c G:IntKind) (n:Int) (k:EV->R),So c (.int G n) k=k (.int c (Dr c n))) /\
 (∀(x y:R),Bb true x y=x)/\(∀(x y:R),Bb false x y=y)/\(Bb true true false=true)/\(Bb false true false=false)/\(Bb true false true=false)/\(Bb false false true=true)/\jk true=false/\jk false=true /\
 (∀(k:EV->R) (v:EV),oB k (some v)=k v)/\(∀(h:Ab) (v:EV),Jk TT [.v v] h=some (v,h))/\(∀(h:Ab) (v w:EV),Jk TT [.v v,.v w] h=some (.tuple [v,w],h))/\(∀(h:Ab) (v w x:EV),Jk TT [.v v,.v w,.v x] h=some (.tuple [v,w,x],h)) /\
 (∀(h:Ab) (k:Ab->R),Fz [] h k=k h)/\(∀(p:EV) (r:List EV),(p::r)[0]? = some p)/\(∀(p:EV) (r:List EV) (n:Nat),(p::r)[n+1]? = r[n]?)/\(∀n:Nat,0+n=n)/\(∀(k:List EV->R) (l:List EV),oB k (some l)=k l):=
 ⟨dz,tY,fun _ _ _=>rfl,fun _ _ _ _=>rfl,fun _ _ _=>rfl,fun _ _ _ _ _=>rfl,fun _ _ _ _=>rfl,fun _ _ _ _ _=>rfl,fun _ _ _ _ _ _ _ _=>rfl,fun _ _ _=>rfl,fun _ _ _ _=>rfl,fun _ _=>rfl,fun _ _ _=>rfl,
  fun _=>rfl,fun _ _ _ _ _ _=>rfl,fun o l k=>by show oB k (kG l o)=_;rw[t_],fun _ _=>rfl,fun _ _ _ _=>rfl,fun _ _ _=>rfl,fun o l k=>by show oB k (kG l o)=_;rw[t_],fun _ _ _ _=>rfl,
  fun _ _=>rfl,fun _ _=>rfl,rfl,rfl,rfl,rfl,rfl,rfl,fun _ _=>rfl,fun _ _=>rfl,fun _ _ _=>rfl,fun _ _ _ _=>rfl,fun _ _=>rfl,fun _ _=>rfl,fun _ _ _=>rfl,bM,fun _ _=>rfl⟩
theorem As:
 (∀(s:DX) (i q:Nat),s.ld i q=⟨s.bg,s.nw,(Nat.shiftLeft 1 i,q)::s.Cw,s.lou,s.st⟩)/\(∀(s:DX) (i q:Nat),s.new i q=⟨s.bg,(Nat.shiftLeft 1 i,q)::s.nw,s.Cw,s.lou,s.st⟩) /\
 (∀(s:DX) (i:Nat),s.big i=⟨Nat.lor s.bg (Nat.shiftLeft 1 i),s.nw,s.Cw,s.lou,s.st⟩)/\(∀(b q:Nat),Fm b q []=true)/\(∀(b q:Nat),Yx b q []=true):=
 ⟨fun _ _ _=>rfl,fun _ _ _=>rfl,fun _ _=>rfl,fun _ _=>rfl,fun _ _=>rfl⟩
theorem Ac:Zs/\Zi /\
 (∀(g:IG) (f:EV->EV->Option EV) (x y:Int) (k:EV->R),J5 g f (.int .i64 x) (.int .i64 y) k=k (g .i64 x y)) /\
 (∀(c:IntKind) (a b:Int),I8 c a b=.bool (decide (a<b)))/\(∀(c:IntKind) (a b:Int),oF c a b=.bool (decide (a<=b))) /\
 (∀(c:IntKind) (a b:Int),nt c a b=.bool (decide (b<a)))/\(∀(c:IntKind) (a b:Int),oG c a b=.bool (decide (b<=a))) /\
 (∀(c:IntKind) (a b:Int),iW c a b=.bool (decide (a=b)))/\(∀(c:IntKind) (a b:Int),iX c a b=.bool (decide (¬a=b))) /\
 (∀(c:IntKind) (a b:Int),kU c a b=.int c (Dr c (a+b)))/\(∀(c:IntKind) (a b:Int),oD c a b=.int c (Dr c (a-b)))/\(∀(c:IntKind) (a b:Int),pU c a b=.int c (Dr c (a*b))) /\
 (∀(b w:Bool),Er (.bool b) w=Bb b w (jk w))/\(∀w,Er (.tuple []) w=false):=
 ⟨dz,tY,fun _ _ _ _ _=>rfl,fun _ a b=>by rw[Bp9,rX],fun _ a b=>by rw[Bp4,rX,ua];congr 1;exact eO.2 (by omega),
  fun _ a b=>by rw[Bqt,rX],fun _ a b=>by rw[Bpk,rX,ua];congr 1;exact eO.2 (by omega),
  fun _ a b=>by rw[Bpw,tP],fun _ a b=>by rw[FH,tP,ua],
  fun _ a b=>by rw[Bpu,Bi2],fun _ a b=>by unfold oD;rw[Bc6],fun _ a b=>rfl,fun _ _=>rfl,fun _=>rfl⟩
end
def Cd(h:Ab)(s:EV)(q:Nat)(e:TypeId)(sz len:Nat)(l:List EV):Prop:=
 (len=0/\l = []/\(s=.Aq\/∃b,s=.slice b 0 0 0 false))\/(0<len/\s=.slice q 0 len len true/\h.get q=some (.vec l e sz)/\l.length=len*sz)
theorem Cd.nil(h:Ab)(q:Nat)(e:TypeId)(sz:Nat):Cd h .Aq q e sz 0 []:=.inl ⟨rfl,rfl,.inl rfl⟩
theorem Cd.empty(h:Ab)(b q:Nat)(e:TypeId)(sz:Nat):Cd h (.slice b 0 0 0 false) q e sz 0 []:=.inl ⟨rfl,rfl,.inr ⟨_,rfl⟩⟩
theorem Cd.frame {s:EV}{q:Nat}{e:TypeId}{len:Nat}{l:List EV}(r:Cd h s q e sz len l)(g:0<len->h'.get q=h.get q):Cd h' s q e sz len l:=by
 rcases r with r|⟨a,b,c,d⟩
 ·exact .inl r
 ·exact .inr ⟨a,b,by rw[g a];exact c,d⟩
theorem Cd.len {s:EV}{q:Nat}{e:TypeId}{len:Nat}{l:List EV}(r:Cd h s q e sz len l):lenOf s=some len:=by
 rcases r with⟨rfl,_,rfl|⟨_,rfl⟩⟩|⟨_,rfl,_⟩<;>rfl
theorem Cd.Hg {s:EV}{q:Nat}{e:TypeId}{len:Nat}{l:List EV}(r:Cd h s q e sz len l)(k:EV->R):Ev.Hg s k=k (.int .i64 (len:Int)):=by
 unfold Ev.Hg;rw[r.len];rfl
theorem Cd.plain {s:EV}{q:Nat}{e:TypeId}{len:Nat}{l:List EV}(r:Cd h s q e sz len l):s.plain=true/\s.cells = [s]:=by
 rcases r with⟨rfl,_,rfl|⟨_,rfl⟩⟩|⟨_,rfl,_⟩<;>exact⟨rfl,rfl⟩
theorem Cd.size {s:EV}{q:Nat}{e:TypeId}{len:Nat}{l:List EV}(r:Cd h s q e sz len l):l.length=len*sz:=by
 rcases r with⟨rfl,rfl,_⟩|⟨_,_,_,d⟩
 ·rw[gK];rfl
 ·exact d
theorem Cd.ix {s:EV}{q:Nat}{e:TypeId}{len:Nat}{l:List EV}(r:Cd h s q e sz len l){j:Nat}(hj:j<len)(kd:IntKind)(k:EV->R):ir sz s (.int kd (j:Int)) k=k (.ptr q (j*sz)):=by
 rcases r with⟨rfl,_,_⟩|⟨_,rfl,_,_⟩
 ·omega
 ·rw[Mw hj,bM]
theorem Cd.block {s:EV}{q:Nat}{e:TypeId}{len:Nat}{l:List EV}(r:Cd h s q e sz len l)(A:0<len):h.get q=some (.vec l e sz):=by
 rcases r with⟨rfl,_,_⟩|⟨_,_,c,_⟩
 ·omega
 ·exact c
theorem Cd.slice {s:EV}{q:Nat}{e:TypeId}{len:Nat}{l:List EV}(r:Cd h s q e sz len l)(A:0<len):s=.slice q 0 len len true:=by
 rcases r with⟨rfl,_,_⟩|⟨_,c,_⟩
 ·omega
 ·exact c
theorem pX {s x:EV}{q:Nat}{e:TypeId}{len n:Nat}{l new:List EV}(r:Cd h s q e sz len l)(G:lenOf x=some n)(U:0<n)(A:n<=65536)(M:len<=1048576)(J:O9 h sz n x=some new)(hs:new.length=n*sz):
 ∃h',Eo e sz s x h=some (.slice h.next 0 (len+n) (len+n) true,h')/\Cd h' (.slice h.next 0 (len+n) (len+n) true) h.next e sz (len+n) (l++new)/\h'.next=h.next+1/\Av (fun i=>0<len/\i=q) h h':=by
 have e0:Nat.beq n 0=false:=by cases n with|zero=>omega|succ n=>rfl
 rcases r with⟨rfl,rfl,rfl|⟨b,rfl⟩⟩|⟨hp,rfl,O,hlen⟩
 ·refine⟨h.new (.vec new e sz),?_,.inr ⟨by omega,rfl,?_,by rw[cV,bM];exact hs⟩,rfl,Av.new _ _⟩
  ·unfold Eo
   simp only[G,G2,e0,Bm,J,aQ A,Ak,bM]
  ·rw[Ad];rfl
 ·have e2:Nat.ble (Nat.add 0 n) 0=false:=by cases n with|zero=>omega|succ n=>show Nat.ble (0+(n+1)) 0=false;rw[bM];rfl
  have e3:O9 h sz 0 (.slice b 0 0 0 false)=some []:=rfl;refine⟨h.new (.vec new e sz),?_,.inr ⟨by omega,rfl,?_,by rw[cV,bM];exact hs⟩,rfl,Av.new _ _⟩
  ·unfold Eo
   simp only[G,G2,e0,Bm,J,e3,e2,aQ A,aQ M,Ak];rfl
  ·rw[Ad];rfl
 ·have L:O9 h sz len (.slice q 0 len len true)=some l:=by
   show Bb (Nat.beq len 0) (some []) (Yz h q 0 (Nat.mul len sz))=_;have:Nat.beq len 0=false:=by cases len with|zero=>omega|succ n=>rfl
   rw[this,Bm];unfold Yz mA;rw[O];exact Aj hlen
  refine⟨(h.del q).new (.vec (l++new) e sz),?_,.inr ⟨by omega,rfl,?_,by rw[aF,hlen,hs,gH]⟩,rfl,?_⟩
  ·unfold Eo
   simp only[G,G2,e0,Bm,J,L,O,aQ A,aQ M,Ak];rw[show Nat.beq 0 0=true from rfl,Ak,cQ,Ak,Bh,hlen,show Nat.beq (len*sz) (Nat.mul len sz)=true from cQ _,Ak,cQ,Ak,cQ,Ak,q_];rfl
  ·rw[show h.next=(h.del q).next from rfl,Ad]
  ·exact(Av.del h (.inl ⟨hp,rfl⟩)).trans (Av.new _ _)
theorem Wb {z:List EV}{e:TypeId}(hp:v.plain=true)(G:z.length=sz)(A:v.cells.length=sz)(hs:sz<=65536:=by omega):Bz z e sz 1 [(0,v)] h=some (.slice h.next 0 1 1 false,h.new (.cells v.cells e)):=by
 unfold Bz;rw[aQ (show Nat.mul 1 sz<=65536 by show 1*sz<=65536;omega),Ak];have J:jh (Mt sz) [(0,v)] (rep z 1)=some v.cells:=by
  show oB (ub fun off size=>Bb v.plain (Bb (Nat.beq (Ga v.cells) size) (oB _ (Mv (rep z 1) off v.cells)) none) none) (Mt sz 0)=_;show Bb v.plain (Bb (Nat.beq (Ga v.cells) sz) (oB _ (Mv (rep z 1) (Nat.mul 0 sz) v.cells)) none) none=_;rw[hp,Ak,Bh,A,cQ,Ak];have:rep z 1=z:=by show z++[]=z;rw[dO]
  rw[this,show Nat.mul 0 sz=0 from gK sz,Bn (by rw[G,A])];rfl
 rw[J];rfl
theorem X1 {b:Nat}{e:TypeId}{l:List EV}(hb:h.get b=some (.cells l e))(A:l.length=sz):O9 h sz 1 (.slice b 0 1 1 false)=some l:=by
 show Bb (Nat.beq 1 0) (some []) (Yz h b 0 (Nat.mul 1 sz))=_;rw[show Nat.beq 1 0=false from rfl,Bm];unfold Yz mA;rw[hb];exact Aj (by rw[A];show sz=1*sz;omega)
theorem Md {s:EV}{q:Nat}{e:TypeId}{len:Nat}{l z:List EV}{k:EV->Ab->R}(r:Cd h s q e sz len l)(hb:HB h)(hp:v.plain=true)(J:z.length=sz)(A:v.cells.length=sz)(hs:sz<=65536)(G:len<=1048575)
 (L:∀h',Cd h' (.slice (h.next+1) 0 (len+1) (len+1) true) (h.next+1) e sz (len+1) (l++v.cells)->h'.next=h.next+2->Av (fun i=>0<len/\i=q) h h'->Ok (k (.slice (h.next+1) 0 (len+1) (len+1) true) h') Q) :
 Ok (Am (Bz z e sz 1 [(0,v)] h) fun w h=>Am (Eo e sz s w h) k) Q:=by
 rw[Wb hp J A hs,Au];have M:Cd (h.new (.cells v.cells e)) s q e sz len l:=r.frame fun G=>Ay _ (hb q _ (r.block G))
 obtain⟨h',e1,O,U,c2⟩:=pX (n:=1) (x:=.slice h.next 0 1 1 false) M rfl (by omega) (by omega) (by omega) (X1 (Ad _ _) A) (by rw[A];omega);rw[e1,Au];exact L h' O U ((Av.new h _).trans c2)
section
noncomputable section
section
variable (fl:Bool)(T:Ig)(call a_ round:Ah)(fuel fn n:Nat)(Dt:Option Nat)(out:Nat->CD)(ret:CD)
abbrev uc(p:List Bool):Hk->Code->iU->CD->Code × iU × CD:=
 @List.rec Bool (fun _=>Hk->Code->iU->CD->Code × iU × CD) (fun _ c env k=>(c,env,k))
  (fun s _ A H c env k=>match c with
   | .seq x y=>Bb s (A H.r y env k) (A H.l x env (Qj fl T call a_ round fuel fn n Dt out ret H.r y env k))
   | .cond _ x y=>Bb s (A H.r y env k) (A H.l x env k)
   | .block id x=>A H.l x ((id,k)::env) k
   | c=>(c,env,k)) p
end
def xq:Nat:=have _:=@X6;have _:=@Ld;have _:=@Sl;have _:=@Eo;have _:=@p';have _:=@p_;have _:=@builtin;have _:=@J5;have _:=@Nq;have _:=@Fz;have _:=@Bz;have _:=@Jk;0
def xr(c:Code):Bool:=match c with | .loop _=>true|_=>false
@[reducible] def cH(q:Bool)(C c r:Ah)(K g:Nat)(H:Hk):CD:=let _:=xq;Qj q TT C c r K g (kW TT g) none nE (jJ q TT g) H (Oh TT g) [] (jJ q TT g)
@[reducible] def lH(q:Bool)(C c r:Ah)(K g p:Nat):Code × iU × CD:=uc q TT C c r K g (kW TT g) none nE (jJ q TT g) (pathOf p) .no (Oh TT g) [] (jJ q TT g)
@[reducible] def ue(q:Bool)(C c r:Ah)(K g p:Nat)(X:CD):CD:=let _:=xq;match lH q C c r K g p with
 | (.loop x,env,_)=>jm q TT C c r K g (kW TT g) none nE (jJ q TT g) x env X
 | _=>X
@[reducible] def nG(xs:List EV)(B:CD)(h:Ab):R:=let _:=xq;B (rY xs 0 u0) (setArgs xs 0 .nil) h []
@[reducible] def kX(q:Bool)(C c r:Ah)(K g p:Nat)(env:iU)(m:Nat):CD:=qa (fun A=>jm q TT C c r K g (kW TT g) none nE (jJ q TT g) (Bt6 TT g (pathOf p)) env A) m
abbrev e0(X:Nat->A0):Nat->CD:=fun m _ _ h _=>X m h
abbrev e1(X:Nat->A1)(a:Nat):Nat->CD:=fun m A _ h _=>X m (A a) h
abbrev e2(X:Nat->A2)(a b:Nat):Nat->CD:=fun m A _ h _=>X m (A a) (A b) h
abbrev e3(X:Nat->A3)(a b c:Nat):Nat->CD:=fun m A _ h _=>X m (A a) (A b) (A c) h
abbrev e4(X:Nat->A4)(a b c d:Nat):Nat->CD:=fun m A _ h _=>X m (A a) (A b) (A c) (A d) h
abbrev e5(X:Nat->A5)(a b c d e:Nat):Nat->CD:=fun m A _ h _=>X m (A a) (A b) (A c) (A d) (A e) h
abbrev e6(X:Nat->A6)(a b c d e f:Nat):Nat->CD:=fun m A _ h _=>X m (A a) (A b) (A c) (A d) (A e) (A f) h
abbrev e7(X:Nat->A7)(a b c d e f i:Nat):Nat->CD:=fun m A _ h _=>X m (A a) (A b) (A c) (A d) (A e) (A f) (A i) h
abbrev e8(X:Nat->A8)(a b c d e f i j:Nat):Nat->CD:=fun m A _ h _=>X m (A a) (A b) (A c) (A d) (A e) (A f) (A i) (A j) h
abbrev e9(X:Nat->A9)(a b c d e f i j k:Nat):Nat->CD:=fun m A _ h _=>X m (A a) (A b) (A c) (A d) (A e) (A f) (A i) (A j) (A k) h
abbrev wK(X:Nat->mm)(a b c d e f i j k l:Nat):Nat->CD:=fun m A _ h _=>X m (A a) (A b) (A c) (A d) (A e) (A f) (A i) (A j) (A k) (A l) h
abbrev YG(X:Nat->mq)(a b c d e f i j k l n:Nat):Nat->CD:=fun m A _ h _=>X m (A a) (A b) (A c) (A d) (A e) (A f) (A i) (A j) (A k) (A l) (A n) h
end
section
variable {fl:Bool}{T:Ig}{call a_ round:Ah}{fuel fn n:Nat}{Dt:Option Nat}{out:Nat->CD}{ret:CD}
theorem xt:∀(p:List Bool) (H:Hk) (c:Code) (env:iU) (k:CD),oK fl T call a_ round fuel fn n Dt out ret p H c env k=jm fl T call a_ round fuel fn n Dt out ret (uc fl T call a_ round fuel fn n Dt out ret p H c env k).1 (uc fl T call a_ round fuel fn n Dt out ret p H c env k).2.1 (uc fl T call a_ round fuel fn n Dt out ret p H c env k).2.2
 | [],_,_,_,_=>rfl
 | s::p,H,c,env,k=>by
  cases c<;>first|rfl|exact xt p _ _ _ _|(cases s<;>exact xt p _ _ _ _)
end
section
variable{m d g p:Nat}{q:Bool}{C:Nat->Ah}{D c r:Ah}{E:Nat->CD}{Y:Ab->R}{B:CD}
theorem FI(A:xr (lH q D c r K g p).1=true)(h0:E 0=fun _ _ _ _=>none)(hs:∀m G tm h ds,ue q D c r K g p (E m) G tm h ds=E (m+1) G tm h ds)(J:kY (pathOf p) .no (Oh TT g)=true):
 cH q D c r K g .no=cH q D c r K g (kH (pathOf p) (E K) .no):=by
 refine oL _ (pathOf p) .no (Oh TT g) [] (jJ q TT g) J ?_;rw[xt];have hs:=fun m=>kI (hs m)
 show jm q TT D c r K g (kW TT g) none nE (jJ q TT g) (lH q D c r K g p).1 (lH q D c r K g p).2.1 (lH q D c r K g p).2.2=E K;unfold ue at hs;generalize lH q D c r K g p=x at A hs⊢;obtain⟨L,env,k⟩:=x;cases L<;>first|exact Qf h0 hs K|cases A
abbrev R0(disp:Nat->Option FT)(K d g:Nat)(F:Ab->R):Prop:=∀h,Ag TT disp K d false g [] h=F h
abbrev S0(disp:Nat->Option FT)(K d g:Nat)(F:Ah->Ah->Nat->Ab->R):Prop:=∀h,Ag TT disp K (d+1) false g [] h=F (Ag TT disp K d false) (Ag TT disp K d true) K h
theorem V0 {F:Ab->R}{k:Nat}{x:Ah}(e:k<=d->R0 disp K d g F)(hd:m<=d)(y:Ag TT disp K d false=x)(A:Nat.ble k m=true:=by rfl):Ag TT disp K d false=w0 g F x:=W0 (e (lq hd A)) y
abbrev R1(disp:Nat->Option FT)(K d g:Nat)(F:EV->Ab->R):Prop:=∀a h,Ag TT disp K d false g [a] h=F a h
abbrev S1(disp:Nat->Option FT)(K d g:Nat)(F:Ah->Ah->Nat->EV->Ab->R):Prop:=∀a h,Ag TT disp K (d+1) false g [a] h=F (Ag TT disp K d false) (Ag TT disp K d true) K a h
theorem V1 {F:EV->Ab->R}{k:Nat}{x:Ah}(e:k<=d->R1 disp K d g F)(hd:m<=d)(y:Ag TT disp K d false=x)(A:Nat.ble k m=true:=by rfl):Ag TT disp K d false=w1 g F x:=W1 (e (lq hd A)) y
abbrev R2(disp:Nat->Option FT)(K d g:Nat)(F:EV->EV->Ab->R):Prop:=∀a b h,Ag TT disp K d false g [a,b] h=F a b h
abbrev S2(disp:Nat->Option FT)(K d g:Nat)(F:Ah->Ah->Nat->EV->EV->Ab->R):Prop:=∀a b h,Ag TT disp K (d+1) false g [a,b] h=F (Ag TT disp K d false) (Ag TT disp K d true) K a b h
theorem V2 {F:EV->EV->Ab->R}{k:Nat}{x:Ah}(e:k<=d->R2 disp K d g F)(hd:m<=d)(y:Ag TT disp K d false=x)(A:Nat.ble k m=true:=by rfl):Ag TT disp K d false=w2 g F x:=W2 (e (lq hd A)) y
abbrev R3(disp:Nat->Option FT)(K d g:Nat)(F:EV->EV->EV->Ab->R):Prop:=∀a b e h,Ag TT disp K d false g [a,b,e] h=F a b e h
abbrev S3(disp:Nat->Option FT)(K d g:Nat)(F:Ah->Ah->Nat->EV->EV->EV->Ab->R):Prop:=∀a b e h,Ag TT disp K (d+1) false g [a,b,e] h=F (Ag TT disp K d false) (Ag TT disp K d true) K a b e h
theorem V3 {F:EV->EV->EV->Ab->R}{k:Nat}{x:Ah}(e:k<=d->R3 disp K d g F)(hd:m<=d)(y:Ag TT disp K d false=x)(A:Nat.ble k m=true:=by rfl):Ag TT disp K d false=w3 g F x:=W3 (e (lq hd A)) y
abbrev R4(disp:Nat->Option FT)(K d g:Nat)(F:EV->EV->EV->EV->Ab->R):Prop:=∀a b e f h,Ag TT disp K d false g [a,b,e,f] h=F a b e f h
abbrev S4(disp:Nat->Option FT)(K d g:Nat)(F:Ah->Ah->Nat->EV->EV->EV->EV->Ab->R):Prop:=∀a b e f h,Ag TT disp K (d+1) false g [a,b,e,f] h=F (Ag TT disp K d false) (Ag TT disp K d true) K a b e f h
theorem V4 {F:EV->EV->EV->EV->Ab->R}{k:Nat}{x:Ah}(e:k<=d->R4 disp K d g F)(hd:m<=d)(y:Ag TT disp K d false=x)(A:Nat.ble k m=true:=by rfl):Ag TT disp K d false=w4 g F x:=W4 (e (lq hd A)) y
abbrev R5(disp:Nat->Option FT)(K d g:Nat)(F:EV->EV->EV->EV->EV->Ab->R):Prop:=∀a b e f i h,Ag TT disp K d false g [a,b,e,f,i] h=F a b e f i h
abbrev S5(disp:Nat->Option FT)(K d g:Nat)(F:Ah->Ah->Nat->EV->EV->EV->EV->EV->Ab->R):Prop:=∀a b e f i h,Ag TT disp K (d+1) false g [a,b,e,f,i] h=F (Ag TT disp K d false) (Ag TT disp K d true) K a b e f i h
theorem V5{k:Nat}{x:Ah}(e:k<=d->R5 disp K d g F)(hd:m<=d)(y:Ag TT disp K d false=x)(A:Nat.ble k m=true:=by rfl):Ag TT disp K d false=w5 g F x:=W5 (e (lq hd A)) y
abbrev S6(disp:Nat->Option FT)(K d g:Nat)(F:Ah->Ah->Nat->EV->EV->EV->EV->EV->EV->Ab->R):Prop:=∀a b e f i j h,Ag TT disp K (d+1) false g [a,b,e,f,i,j] h=F (Ag TT disp K d false) (Ag TT disp K d true) K a b e f i j h
theorem rf(A:jP (Oh TT g)=q)(M:Ag TT disp K d false=c)(O:Ag TT disp K d true=r)(e:c=D)(G:cH q D c r K g .no=B)(J:nH TT g (Ga xs)=true:=by kernel_rfl)(L:∀h,nG xs B h=Y h:=by intros;kernel_rfl)(h:Ab):kZ TT c r K g xs h=Y h:=by
 rw[Bhl J,A];exact(congrArg (fun C=>nG xs (cH q C c r K g .no) h) e).trans ((congrArg (fun B=>nG xs B h) G).trans (L h))
theorem rm(A:jP (Oh TT g)=q)(G:Ag TT disp K d false=c)(J:Ag TT disp K d true=r)(H:Bv disp)(e:c=D)(L:Qj q TT D c r K g (kW TT g) none nE (jJ q TT g) .no (Oh TT g) [] (jJ q TT g)=B)(M:Axo g=true:=by kernel_rfl)(O:nH TT g (Ga xs)=true:=by kernel_rfl)(U:∀h,nG xs B h=Y h:=by intros;kernel_rfl)(h:Ab):Ag TT disp K (d+1) false g xs h=Y h:=by
 subst G J;have e0:Ag TT disp K (d+1) false g xs h = @Option.rec FT (fun _=>qb) (kZ TT (Ag TT disp K d false) (Ag TT disp K d true) K g) (fun F=>F (Ag TT disp K d false) (Ag TT disp K d true) K) (disp g) xs h:=rfl;rw[e0,H.plain g M];exact rf A rfl rfl e L O U h
theorem rd(A:Ag TT disp K d false=c)(G:Ag TT disp K d true=r)(H:Bv disp)(e:c=D)(J:Axo g=true:=by kernel_rfl)(L:nH TT g (Ga xs)=true:=by kernel_rfl)(M:∀h,nG xs (cH (jP (Oh TT g)) D c r K g .no) h=Y h:=by intros;kernel_rfl)(h:Ab):Ag TT disp K (d+1) false g xs h=Y h:=rm rfl A G H e rfl J L M h
theorem ld(G:Ag TT disp K d false=c)(J:Ag TT disp K d true=r)(H:Bv disp)(e:c=D)(p:Nat)(E:Ah->Ah->Nat->CD)(h0:E c r 0=fun _ _ _ _=>none:=by rfl)(L:Axo g=true:=by kernel_rfl)(M:nH TT g (Ga xs)=true:=by kernel_rfl)(O:kY (pathOf p) .no (Oh TT g)=true:=by kernel_rfl)
 (U:xr (lH (jP (Oh TT g)) D c r K g p).1=true:=by kernel_rfl) (hs:∀m A tm h ds,ue (jP (Oh TT g)) D c r K g p (E c r m) A tm h ds=E c r (m+1) A tm h ds:=by intros;kernel_rfl)
 (V:∀h,nG xs (cH (jP (Oh TT g)) D c r K g (kH (pathOf p) (E c r K) .no)) h=Y h:=by intros;kernel_rfl) (h:Ab):Ag TT disp K (d+1) false g xs h=Y h:=rm rfl G J H e (FI U h0 hs O) L M V h
theorem rl(H:Bv disp)(hd:m+1<=d)(e:∀d,m<=d->Ag TT disp K d false=C d:=by exact fun _ _=>rfl)(A:Axo g=true:=by kernel_rfl)(G:nH TT g (Ga xs)=true:=by kernel_rfl)(J:jP (Oh TT g)=false:=by kernel_rfl)(L:∀d c r h,nG xs (cH false (C d) c r K g .no) h=Y h:=by intros;kernel_rfl)(h:Ab):Ag TT disp K d false g xs h=Y h:=by
 obtain⟨d,rfl⟩:∃e,d=e+1:=⟨d-1,by omega⟩;exact rm J rfl rfl H (e d (Nat.le_of_succ_le_succ hd)) rfl A G (L d _ _) h
theorem ll(H:Bv disp)(hd:m+1<=d)(e:∀d,m<=d->Ag TT disp K d false=C d)(p:Nat)(E:Nat->CD)(h0:E 0=fun _ _ _ _=>none:=by rfl)(G:Axo g=true:=by kernel_rfl)(J:nH TT g (Ga xs)=true:=by kernel_rfl)(L:jP (Oh TT g)=false:=by kernel_rfl)(M:kY (pathOf p) .no (Oh TT g)=true:=by kernel_rfl)
 (O:∀d c r,xr (lH false (C d) c r K g p).1=true:=by intros;kernel_rfl) (hs:∀d c r m A tm h ds,ue false (C d) c r K g p (E m) A tm h ds=E (m+1) A tm h ds:=by intros;kernel_rfl)
 (U:∀d c r h,nG xs (cH false (C d) c r K g (kH (pathOf p) (E K) .no)) h=Y h:=by intros;kernel_rfl) (h:Ab):Ag TT disp K d false g xs h=Y h:=by
 obtain⟨d,rfl⟩:∃e,d=e+1:=⟨d-1,by omega⟩;exact rm L rfl rfl H (e d (Nat.le_of_succ_le_succ hd)) (FI (O d _ _) h0 (hs d _ _) M) G J (U d _ _) h
theorem rr {l n:Nat}{st:LoopState}{j:Option Code}{tm A:Ba}{ps:List Tmp}{a b:Code}{X:R}(G:Ag TT disp K d false=c)(J:Ag TT disp K d true=r)(e:c=D)(L:h.get l=some (.loop st j g n tm ps a b d0))(hs:Wh ps xs n tm=some A)
 (M:xv TT D c r K l g n a b (rZ n ps xs (tmp tm)) A h []=X):Ag TT disp K (d+1) true l xs h=X:=by
 subst G J;rw[A97];unfold qd;rw[L];simp only;rw[hs];simp only;exact(congrArg (fun C=>xv TT C (Ag TT disp K d false) (Ag TT disp K d true) K l g n a b (rZ n ps xs (tmp tm)) A h []) e).trans M
end
end
section
noncomputable section
section
variable (c r:Ah)(K l:Nat)(k0:A0)(k1:A1)(k2:A2)(k3:A3)(k4:A4)(k5:A5)(k6:A6)(k7:A7)(k8:A8)(k9:A9)(oM:mm)(oN:mq)(oO:ng)(m0:B0)(m1:B1)(m2:B2)(m3:B3)(m4:B4)(m5:B5)(m6:B6)(m7:B7)(m8:B8)(m9:B9)(oP:m_)(oQ:nf)(oR:nh)(base:Nat)(s:DX)(tm:Ba)(a b d e f g i j n o p q t u w x y z aa ab ad ae af ag ai aj an ao ap aq au aw ax ay az ba bb bd be bf bg bi bj bn bo bp bq bt bu bw bx bz da db dd de df dg di dj dn dp dq dt du dw dx dy dz ea eb ed ee ef eg ei ej en eo ep eq et eu ew ex ey ez fa fb fd fe ff fg fi fj fn fo fp fq ft fu fw fx fy fz ga gb gd ge gf gg gi gj gn go gp gq gt gu gw gx gy gz ia ib ie ig ii ij io ip iq it iu iw ix iy iz ja jb:EV)(h:Ab)(ds:List Nat)
def Ef:Ru K R:=(.mk:Sg 0x122203 [a] h).F
def Gr:Ru K R:=(.mk:Sg 0x122223 [a] h).F
def Nw:Ru K R:=(.mk:Sg 0x122c021de231fe344204209e9 [a] h).F
def Cs:Ru K R:=(.mk:Sg 0x1222f9e3 [a] h).F
def Dn:Ru K R:=(.mk:Sg 0x122231fe314204209e9 [a] h).F
def Rs:Ru K R:=(.mk:Sg 0x137e41104e243623533c037e05e [a] h [] [] [[.int .i64 0,.int .i64 0,.int .i64 0]]).F
def FJ:Ru K R:=(.mk:Sg 0x122233003e314 [a,b] h).F
def Ur:R:=
 il d e fun f=>
 hQ f
 (some ((.int .i64 (-1)),h))
 (FJ K a b h)
def E4:R:=(.mk:Sg 0x12023541025684102723e210136503e2d00420e209e9 [a,b] h [Dy (Dn K),Tc (Ur K)]).F
def Fe:Ru K R:=(.mk:Sg 0x1222101203 [a] h [Dy uf]).F
def FK:R:=(.mk:Sg 0x122210142116e263 [a,b] h [Dy (Fe K)]).F
def Vq:R:=(.mk:Sg 0x1432000023285409e [a,b,d,e] h [Eh (FK K)]).F
def Vf:R:=(.mk:Sg 0x12024340025764002623e213e36301e2d00320e [a,b] h [Tc (Vq K)]).F
def FL:Ru K R:=
 some (a,h)
def N4:Ru K R:=
 Jg g fun i=>
 k6 a b d e f i h
def He(K:Nat)(k6:A6)(base:Nat)(s:DX)(a:EV)(b:EV)(d:EV)(e:EV)(f:EV)(g:EV)(i:EV)(j:EV)(n:EV)(h:Ab):R:=
 hG j n fun o=>
 hQ o
 (N4 K k6 a b e f g i h)
 (N4 K k6 a b d f g i h)
def Hi:R:=
 iQ j
 (il n o fun p=>
 He K k6 base s a b d e f g i j p h)
 (He K k6 base s a b d e f g i j tU h)
def Ng:R:=
 hM o
 (Ld 8 255 s h (fun h=>(Fe K f h)) fun p h s=>
 jw 6 12 3711 base a s h fun s q=>
 ir 1 q d fun t=>
 O6 15 32383 base t s fun s=>Hq t h fun u=>
 Ld 16 65535 s h (fun h=>(Fe K u h)) fun w h s=>
 jV p w fun x=>
 Hi K k6 base s a b d e g i j n o x h)
 (Hi K k6 base s a b d e g i j n o tU h)
def FM:R:=
 nj 1 e g h fun i=>
 Zy h fun base s=>
 kF g b fun j=>
 iQ j
 (jU d (.int .i64 0) fun n=>
 Ng K k6 base s a b d g i e f g j n h)
 (Ng K k6 base s a b d g i e f g j tU h)
def Hc(K:Nat):Nat->A6
 | 0=>fun _ _ _ _ _ _ _=>none
 | m+1=>fun a b d e f g h=>
  cE I8 .lss 3 g f
  (FM K (Hc K m) a b d e f g h)
  (FL K d h)
def Ke:R:=
 fE 6 a h fun d=>
 Hg d fun e=>
 Hc K K a b (.int .i64 (-1)) d e (.int .i64 0) h
def Tw:Ru K R:=
 some (a,h)
def Tt:Ru K R:=
 oC d (.int .i64 2) fun e=>
 k3 a b e h
def Tu:R:=
 Jg b fun e=>
 Tt K k3 a e d h
def Gg(K:Nat):Nat->A3
 | 0=>fun _ _ _ _=>none
 | m+1=>fun a b d h=>
  oE 3 a h fun e=>
  cE I8 .lss 3 d e
  (Tu K (Gg K m) a b d h)
  (Tw K b h)
def K2:R:=(.mk:Sg 0x10010230024ae9 [a] h [Kk (Gg K K)]).F
def D7:Ru K R:=(.mk:Sg 0x122203 [a] h).F
def Ni:Ru K R:=(.mk:Sg 0x122213e203 [a] h).F
def Pd:Ru K R:=(.mk:Sg 0x122213 [a] h).F
def Yw:Ru K R:=(.mk:Sg 0x1223023003e [a] h).F
def Ow:R:=(.mk:Sg 0x121002221ce3023003e2101ee00e0023301e [a] h [Dy (Yw K)]).F
def xw:Ru K R:=
 hG a b fun d=>
 some (d,h)
def r7:R:=(.mk:Sg 0x1202200232004321e82a10223e [a,b] h [Eh (xw K)]).F
def Va:Ru K R:=(.mk:Sg 0x1002200e2bce921007e [a] h [] [cu1 (fun a=>Bo (Df [(0,1),(1,1),(2,1),(3,1),(4,1)]) [.Aq,.int .i64 0,.int .i64 0,.int .i64 0,.bool false] [(1,a)])]).F
def Uv:R:=(.mk:Sg 0x1310003e070200e6284309e [a,b,d] h [Dy (Va K)]).F
def Ms:R:=(.mk:Sg 0x1202330023430015e0322ea2d10220e [a] h [Kk (Uv K)]).F
def FN:Ru K R:=(.mk:Sg 0x1002200e2a2e921007e2101 [a] h [Dy ug] [cu1 (fun b=>Bo (Df [(0,1)]) [.Ae6] [(0,b)])]).F
def FO:R:=(.mk:Sg 0x1310003e070200e6284309e [a,b,d] h [Dy (FN K)]).F
def uh:R:=(.mk:Sg 0x1202330023430001322ea2d10220e [a] h [Kk (FO K)] [] [] [(.int .i64 4096)]).F
def Il:Ru K R:=(.mk:Sg 0x1222101de3023003e1021ee3021de234209e9 [a] h).F
def Pl:R:=(.mk:Sg 0x122251ee231fe08e4407e041021ee0123603e2721120ae231ee9301fea21fed0420ae521ee621fe1021ee80421032e77665606b3021ee231ee343410e211110e0ee209e9 [a] h [Dy (Nw K),builtin TT .min #[3,3]] [] [] [(.int .u64 1)]).F
def FP:Ru K R:=
 hG a b fun d=>
 some (d,h)
def Ln:R:=(.mk:Sg 0x1202200232005321e82a3223e [a,b,d] h [Eh (FP K)]).F
def Rj:Ru K R:=(.mk:Sg 0x122233 [a] h).F
def FQ:R:=(.mk:Sg 0x12225221261ee2421131013033003e [a,b] h [Dy (fun a=>Ke K a (.int .i64 (-1))),Eh (Vf K),builtin TT .min #[3,3]]).F
def FR:Ru K R:=
 Jg f fun g=>
 k5 a b d e g h
def FU:R:=(.mk:Sg 0x198725510251de210164116e [a,b,d,e,f] h [Dy (Fe K),cl5 (FR K k5)]).F
def L7(K:Nat):Nat->A5
 | 0=>fun _ _ _ _ _ _=>none
 | m+1=>fun a b d e f h=>
  cE I8 .lss 3 f e
  (FU K (L7 K m) a b d e f h)
  (FQ K a b h)
def Im:R:=(.mk:Sg 0x10023004500213e263 [a] h [cl5 (L7 K K)]).F
def Sp:Ru K R:=
 hG a b fun d=>
 some (d,h)
def D5:R:=(.mk:Sg 0x12022102521010224e82116e6fae302e2a00223e5220126521c [a,b] h [Eh (E4 K),Eh (Sp K)]).F
def Kj:R:=(.mk:Sg 0x122251ee231fe512e6410e484010e1021ee3101170ee [a,b] h [Dy (Ow K)]).F
def Is:R:=(.mk:Sg 0x1706e200206e2005723301e20ae231ee9301fec21fe01e0420ae521ee821fe1021eea04c021de231fe7446043021ee231ee34421424ae9 [a] h [Eh (Kj K)]).F
def FV:Ru K R:=(.mk:Sg 0x1002200e [a] h).F
def FW:Ru K R:=
 Jg e fun f=>
 k4 a b d f h
def FX:R:=(.mk:Sg 0x1a976420321660c232115101303 [a,b,d,e,f] h [Dy (fun d=>Bz [.Ch] 184 1 1 [(0,d)]),Eh (Eo 184 1),Tc (FW K k4)]).F
def FY:R:=(.mk:Sg 0x187365510270200e5212e20ce2101 [a,b,d,e] h [Dy (Ms K),cl5 (FX K k4)]).F
def r8(K:Nat):Nat->A4
 | 0=>fun _ _ _ _ _=>none
 | m+1=>fun a b d e h=>
  cE I8 .lss 3 e d
  (FY K (r8 K m) a b d e h)
  (FV K b h)
def FZ:R:=
 Bo (Df [(0,1),(1,1),(2,1),(3,1),(4,1)]) [.Aq,(.int .i64 0),(.int .i64 0),(.int .i64 0),(.bool false)] [(1,b),(2,d)] fun e=>
 Sl 183 e h fun f h=>
 r8 K K b f a (.int .i64 0) h
def F_:R:=(.mk:Sg 0x154330003e070200e6286509e [a,b,d,e,f] h [Kk (FZ K)]).F
def ui:R:=(.mk:Sg 0x12026545202487652020fe15e0621102e2d20fe2101 [a,b,d] h [Dy (fun a=>r7 K a (.int .i64 512)),Eh (r7 K),cl5 (F_ K)]).F
def G3:Ru K R:=
 hG a b fun d=>
 some (d,h)
def Ha:R:=(.mk:Sg 0x12022102421015e0c0230135402e2a430be [a,b,d] h [Kk (Ln K),Eh (G3 K)]).F
def G4:R:=(.mk:Sg 0x12023310245310c000230134403e2a430be [a,b,d] h [Kk (Ln K),Kk (Ha K)]).F
def G7:R:=(.mk:Sg 0x120233102453102101334d2a430be [a,b,d] h [Dy (fun f=>Ln K f (.int .i64 1) (.int .i64 256)),Kk (G4 K)]).F
def G6:R:=(.mk:Sg 0x1202331024531015e0c0230132403e2a430be [a,b,d] h [Kk (Ln K),Kk (G7 K)]).F
def Vi:R:=(.mk:Sg 0x1202431024631015e010230141403e2ad0602301204209e9 [a] h [Kk (Ln K),Kk (G6 K)]).F
def Ir(K:Nat)(base:Nat)(s:DX)(a:EV)(b:EV)(h:Ab):R:=
 hG a b fun d=>
 some (d,h)
def T2:R:=
 Zy h fun base s=>
 O6 0 0 base a s fun s=>Pg 6 a h fun b=>
 Ld 1 1 s h (fun h=>(K2 K b h)) fun d h s=>
 h_ 2 3 4 base a s h fun s e=>
 kn d e fun f=>
 iQ f
 (h_ 3 7 127 base a s h fun s g=>
 mz (.int .i64 2) g fun i=>
 h_ 2 10 575 base a s h fun s j=>
 O6 11 63 base a s fun s=>Pg 6 a h fun n=>
 Ld 12 2111 s h (fun h=>(Is K n h)) fun o h s=>
 mz j o fun p=>
 kn i p fun q=>
 Ir K base s f q h)
 (Ir K base s f tU h)
def Bt:R:=
 il b d fun e=>
 hQ e
 (some ((.bool false),h))
 (T2 K a h)
def By:R:=
 il b d fun e=>
 hM e
 (oE 5 a h fun f=>
 jV f (.int .i64 64) fun g=>
 Bt K a e g h)
 (Bt K a e tU h)
def Ca:R:=
 il b d fun e=>
 hM e
 (oE 5 a h fun f=>
 jU f (.int .i64 4) fun g=>
 By K a e g h)
 (By K a e tU h)
def Cm:R:=
 il b d fun e=>
 hM e
 (oE 4 a h fun f=>
 jV f (.int .i64 4) fun g=>
 Ca K a e g h)
 (Ca K a e tU h)
def Cu:R:=
 il b d fun e=>
 hM e
 (oE 4 a h fun f=>
 jU f (.int .i64 0) fun g=>
 Cm K a e g h)
 (Cm K a e tU h)
def Cz:R:=
 il b d fun e=>
 hM e
 (oE 3 a h fun f=>
 jV f (.int .i64 256) fun g=>
 Cu K a e g h)
 (Cu K a e tU h)
def Dp:R:=
 il b d fun e=>
 hM e
 (oE 3 a h fun f=>
 jU f (.int .i64 1) fun g=>
 Cz K a e g h)
 (Cz K a e tU h)
def Ec:R:=
 il b d fun e=>
 hM e
 (oE 2 a h fun f=>
 jV f (.int .i64 64) fun g=>
 Dp K a e g h)
 (Dp K a e tU h)
def E3:R:=
 il b d fun e=>
 hM e
 (oE 2 a h fun f=>
 jU f (.int .i64 4) fun g=>
 Ec K a e g h)
 (Ec K a e tU h)
def F6:R:=
 il b d fun e=>
 hM e
 (oE 1 a h fun f=>
 jV f (.int .i64 64) fun g=>
 E3 K a e g h)
 (E3 K a e tU h)
def Ht:R:=
 il b d fun e=>
 hM e
 (oE 1 a h fun f=>
 jU f (.int .i64 1) fun g=>
 F6 K a e g h)
 (F6 K a e tU h)
def Hv:R:=
 Sl 88 a h fun b h=>
 oE 0 b h fun d=>
 jU d (.int .i64 3) fun e=>
 hM e
 (oE 0 b h fun f=>
 jV f (.int .i64 8) fun g=>
 Ht K b e g h)
 (Ht K b e tU h)
def GA:Ru K R:=(.mk:Sg 0x1002200e281e9232007e001 [a] h [cl0 uj] [cu2 (fun a b=>Bo (Df [(0,1),(1,1),(2,1),(3,1)]) [.Ch,.Aq,.Aq,.Al8] [(0,a),(3,b)])]).F
def r9:R:=(.mk:Sg 0x13110270200e5212e20ce432301 [a,b,d] h [Kk (ui K),Dy (GA K)]).F
def L8(K:Nat)(base:Nat)(s:DX)(a:EV)(b:EV)(h:Ab):R:=
 hG a b fun d=>
 some (d,h)
def Pw:R:=
 hG b d fun e=>
 iQ e
 (h_ 3 11 2047 base a s h fun s f=>
 mz (.int .i64 2) f fun g=>
 h_ 2 14 9215 base a s h fun s i=>
 O6 15 1023 base a s fun s=>Pg 6 a h fun j=>
 Ld 16 33791 s h (fun h=>(Pl K j h)) fun n h s=>
 mz i n fun o=>
 kn g o fun p=>
 L8 K base s e p h)
 (L8 K base s e tU h)
def M0:R:=
 Sl 23 a h fun b h=>
 Zy h fun base s=>
 O6 0 0 base b s fun s=>Pg 6 b h fun d=>
 Ld 1 1 s h (fun h=>(Vi K d h)) fun e h s=>
 iQ e
 (O6 3 7 base b s fun s=>Pg 6 b h fun f=>
 Ld 4 15 s h (fun h=>(Il K f h)) fun g h s=>
 h_ 2 6 39 base b s h fun s i=>
 kn g i fun j=>
 Pw K base s b e j h)
 (Pw K base s b e tU h)
def GB:Ru K R:=(.mk:Sg 0x1002200e [a] h).F
def GC:Ru K R:=
 Jg e fun f=>
 k4 a b d f h
def GD:R:=(.mk:Sg 0x1a976420321666c232115101363 [a,b,d,e,f] h [Dy (fun d=>Bz [.Ch] 124 1 1 [(0,d)]),Eh (Eo 124 1),Tc (GC K k4)]).F
def GF:R:=(.mk:Sg 0x198376510270200e5212e20ce2101214 [a,b,d,e] h [Dy (uh K),cl5 (GD K k4)]).F
def r_(K:Nat):Nat->A4
 | 0=>fun _ _ _ _ _=>none
 | m+1=>fun a b d e h=>
  cE I8 .lss 3 e d
  (GF K (r_ K m) a b d e h)
  (GB K b h)
def GG:R:=(.mk:Sg 0x10023640050426de921007e265 [a] h [Tc (r_ K K)] [cu1 (fun b=>Bo (Df [(0,6),(6,1)]) [.int .i64 0,.int .i64 0,.int .i64 0,.int .i64 0,.int .i64 0,.int .i64 0,.Aq] [(0,b)])]).F
def qe:R:=(.mk:Sg 0x1511009e070200e62820fe2101265209e9 [a] h [Dy (M0 K),Dy (GG K)]).F
def GH:R:=(.mk:Sg 0x1002200e261e9818e2a5675007e22211618e21002e57565504b5f2e5502b365301b0ee [a,b,d,e] h [Dy (Dn K),Eh (Vl [.int .i64 0] 3)] [cu5 (fun a f g e n=>Bo (Df [(0,1),(1,6),(7,256),(263,1),(264,1),(265,1),(266,1),(267,1)]) ([.Ch]++List.replicate 6 (.int .i64 0)++List.replicate 256 (.int .u32 0)++[.Ch]++[.Aq]++List.replicate 3 (.int .i64 0)) [(0,a),(1,f),(2,g),(3,e),(4,n),(5,.int .i64 (-1)),(6,.int .i64 (-1))])]).F
def Qv(K:Nat)(base:Nat)(s:DX)(a:EV)(b:EV)(d:EV)(e:EV)(f:EV)(g:EV)(h:Ab):R:=
 il f g fun i=>
 hQ i
 (some (.tuple [.Ch,(.int .i64 20)],h))
 (GH K a b d e h)
def uk:R:=
 il f g fun i=>
 hM i
 (Ld 12 4095 s h (fun h=>(D7 K a h)) fun j h s=>
 Ld 13 8191 s h (fun h=>(Pd K j h)) fun n h s=>
 h_ 2 15 18431 base b s h fun s o=>
 kF n o fun p=>
 Qv K base s a b d e i p h)
 (Qv K base s a b d e i tU h)
def sc:R:=
 Sl 23 b h fun e h=>
 Sl 96 d h fun f h=>
 Pg 6 e h fun g=>
 Am (qe K g h) fun i h=>
 kS i fun j n=>
 Zy h fun base s=>
 J5 iX (bin TT .neq 35) n (.int .i64 0) fun o=>
 hM o
 (Ld 4 15 s h (fun h=>(D7 K a h)) fun p h s=>
 Ld 5 31 s h (fun h=>(Ni K p h)) fun q h s=>
 O6 6 7 base e s fun s=>Pg 6 e h fun t=>
 Ld 7 127 s h (fun h=>(Dn K t h)) fun u h s=>
 kF q u fun w=>
 uk K base s a e f j o w h)
 (uk K base s a e f j o tU h)
end
variable{d:Nat}(H:Bv disp)
include H
theorem Jw(hd:1<=d):R1 disp K d 14 (Ef K):=fun _=>rl H hd
theorem N5(hd:1<=d):R1 disp K d 16 (Gr K):=fun _=>rl H hd
theorem Zl(hd:1<=d):R1 disp K d 21 (Nw K):=fun _=>rl H hd
theorem Hu(hd:1<=d):R1 disp K d 22 (Cs K):=fun _=>rl H hd
theorem E7(hd:1<=d):R1 disp K d 24 (Dn K):=fun _=>rl H hd
theorem Anv(hd:1<=d):R1 disp K d 32 (Rs K):=fun _=>rl H hd
theorem F9(hd:2<=d):R2 disp K d 69 (E4 K):=fun _ _=>rl H hd fun d hd=>V1 (E7 H) hd<|rfl
theorem Kv(hd:1<=d):R1 disp K d 70 (Fe K):=fun _=>rl H hd
theorem Ar7(hd:2<=d):R2 disp K d 71 (Vf K):=fun _ _=>rl H hd fun d hd=>V1 (Kv H) hd<|rfl
theorem Zj(hd:2<=d):R2 disp K d 72 (Ke K):=fun _ _=>ll H hd (fun d hd=>V1 (Kv H) hd<|rfl) 51 (e6 (Hc K) 0 1 5 11 12 13)
theorem Aha(hd:1<=d):R1 disp K d 86 (K2 K):=fun _=>ll H hd (fun _ _=>rfl) 51 (e3 (Gg K) 1 3 4)
theorem Mo(hd:1<=d):R1 disp K d 90 (D7 K):=fun _=>rl H hd
theorem Z0(hd:1<=d):R1 disp K d 91 (Ni K):=fun _=>rl H hd
theorem GI(hd:1<=d):R1 disp K d 92 (Pd K):=fun _=>rl H hd
theorem Aj8(hd:1<=d):R1 disp K d 121 (Ow K):=fun _=>rl H hd
theorem Azn(hd:1<=d):R2 disp K d 122 (r7 K):=fun _ _=>rl H hd
theorem Ahc(hd:1<=d):R1 disp K d 123 (Ms K):=fun _=>rl H hd
theorem A26(hd:1<=d):R1 disp K d 124 (uh K):=fun _=>rl H hd
theorem Uj(hd:1<=d):R1 disp K d 126 (Il K):=fun _=>rl H hd
theorem Amw(hd:2<=d):R1 disp K d 127 (Pl K):=fun _=>rl H hd fun d hd=>V1 (Zl H) hd<|rfl
theorem GJ(hd:1<=d):R3 disp K d 151 (Ln K):=fun _ _ _=>rl H hd
theorem Anw(hd:1<=d):R1 disp K d 153 (Rj K):=fun _=>rl H hd
theorem GK(hd:3<=d):R1 disp K d 23 (Im K):=fun _=>ll H hd (fun d hd=>V2 (Zj H) hd<|V2 (Ar7 H) hd<|V1 (Kv H) hd<|rfl) 51 (e5 (L7 K) 0 3 9 10 11)
theorem Et(hd:3<=d):R2 disp K d 67 (D5 K):=fun _ _=>rl H hd fun d hd=>V2 (F9 H) hd<|rfl
theorem Abk(hd:2<=d):R1 disp K d 87 (Is K):=fun _=>rl H hd fun d hd=>V1 (Aj8 H) hd<|rfl
theorem A6r(hd:2<=d):R3 disp K d 88 (ui K):=fun _ _ _=>ll H hd (fun d hd=>V2 (Azn H) hd<|V1 (Ahc H) hd<|rfl) 103 (e4 (r8 K) 1 8 23 24)
theorem Aru(hd:2<=d):R1 disp K d 125 (Vi K):=fun _=>rl H hd fun d hd=>V3 (GJ H) hd<|rfl
theorem Ag7(hd:3<=d):R1 disp K d 48 (Hv K):=fun _=>rl H hd fun d hd=>V1 (Aha H) hd<|V1 (Abk H) hd<|rfl
theorem A64(hd:3<=d):R3 disp K d 49 (r9 K):=fun _ _ _=>rl H hd fun d hd=>V3 (A6r H) hd<|rfl
theorem Un(hd:3<=d):R1 disp K d 93 (M0 K):=fun _=>rl H hd fun d hd=>V1 (Aru H) hd<|V1 (Uj H) hd<|V1 (Amw H) hd<|rfl
theorem A6m(hd:4<=d):R1 disp K d 89 (qe K):=fun _=>ll H hd (fun d hd=>V1 (Un H) hd<|V1 (A26 H) hd<|rfl) 103 (e4 (r_ K) 1 4 14 15)
theorem A2f(hd:5<=d):R3 disp K d 50 (sc K):=fun _ _ _=>rl H hd fun d hd=>V1 (A6m H) hd<|V1 (Mo H) hd<|V1 (Z0 H) hd<|V1 (E7 H) hd<|V1 (GI H) hd<|rfl
end
end
section
noncomputable section
section
variable (c r:Ah)(K l:Nat)(k0:A0)(k1:A1)(k2:A2)(k3:A3)(k4:A4)(k5:A5)(k6:A6)(k7:A7)(k8:A8)(k9:A9)(oM:mm)(oN:mq)(oO:ng)(m0:B0)(m1:B1)(m2:B2)(m3:B3)(m4:B4)(m5:B5)(m6:B6)(m7:B7)(m8:B8)(m9:B9)(oP:m_)(oQ:nf)(oR:nh)(base:Nat)(s:DX)(tm:Ba)(a b d e f g i j n o p q t u w x y z aa ab ad ae af ag ai aj an ao ap aq au aw ax ay az ba bb bd be bf bg bi bj bn bo bp bq bt bu bw bx bz da db dd de df dg di dj dn dp dq dt du dw dx dy dz ea eb ed ee ef eg ei ej en eo ep eq et eu ew ex ey ez fa fb fd fe ff fg fi fj fn fo fp fq ft fu fw fx fy fz ga gb gd ge gf gg gi gj gn go gp gq gt gu gw gx gy gz ia ib ie ig ii ij io ip iq it iu iw ix iy iz ja jb:EV)(h:Ab)(ds:List Nat)
def Ly:Ru K R:=(.mk:Sg 0x1203040304e4fde33fce32fbe3 [a] h).F
def AO:Ru K R:=(.mk:Sg 0x12242116e273 [a,b] h).F
def Z9:R:=(.mk:Sg 0x1432000023285409e [a,b,d,e] h [Eh (AO K)]).F
def Qw:R:=(.mk:Sg 0x12024340025764002623e213e37301e2d00320e [a,b] h [Tc (Z9 K)]).F
def GL:Ru K (Ru r R):=(.mk:Sg 0x1222101 [a] h [c 61]).F
def GM:Ru K (Ru r (Ru c R)):=
 Jg e fun f=>
 k4 a b d f h
def GN:R:=(.mk:Sg 0x17654410222212e2320153116e [a,b,d,e] h [c 74,Tc (GM c r K k4)]).F
def Mc(c:Ah)(r:Ah)(K:Nat):Nat->A4
 | 0=>fun _ _ _ _ _=>none
 | m+1=>fun a b d e h=>
  cE I8 .lss 3 e d
  (GN c r K (Mc c r K m) a b d e h)
  (GL c r K a h)
def GO:R:=(.mk:Sg 0x100234410213e32201 [a,b] h [c 73,Tc (Mc c r K K)]).F
def GP:R:=(.mk:Sg 0x15421003e0232820fe32201 [a,b] h [c 19,Eh (GO c r K)]).F
def AN:Ru K R:=(.mk:Sg 0x100021e71204e276626542615e263 [a,b,d] h).F
def wj:R:=(.mk:Sg 0x154330003e0021e61204e26660007e01e286509e [a,b,d,e,f] h [Kk (AN K)] [cu0 (Bo (Df [(0,1),(1,1),(2,1),(3,1),(4,1),(5,1)]) [.int .i64 0,.int .i64 0,.int .i64 0,.int .i64 0,.int .i64 0,.int .i64 0] [])]).F
def Lf:R:=(.mk:Sg 0x1202354500256875002723e213e46302e2d00420e021e05e [a,b] h [cl5 (wj K)] [] [[.int .i64 0,.int .i64 0,.int .i64 0,.int .i64 0,.int .i64 0,.int .i64 0]]).F
def GQ:Ru K (Ru r R):=(.mk:Sg 0x1250200e32201 [a,b] h [c 27]).F
def GR:R:=(.mk:Sg 0x1232100040200e60123701e2101 [a] h [c 33,Eh (GQ c r K)] [] [] [(.int .i64 (-1))]).F
def GS:R:=(.mk:Sg 0x13120250200e31119282101 [a] h [c 81,c 61,Dy (GR c r K)]).F
def E_:Ru K R:=(.mk:Sg 0x123e31104e2312e6312e5 [a,b] h).F
def EZ:Ru K R:=
 Jg e fun f=>
 k4 a b d f h
def EY:R:=
 jW 32 1 d e fun f=>
 f_ 1 f a h fun h=>
 EZ K k4 a b d e h
def U5(K:Nat):Nat->A4
 | 0=>fun _ _ _ _ _=>none
 | m+1=>fun a b d e h=>
  cE I8 .lss 3 e (.int .i64 32)
  (EY K (U5 K m) a b d e h)
  (E_ K b d h)
def tV:R:=(.mk:Sg 0x100234400023e05e023e05e [a] h [Tc (U5 K K)] [] [List.replicate 32 (.int .u8 0)]).F
def GU:Ru K (Ru r (Ru c R)):=(.mk:Sg 0x100023e31204e2312e6312e5 [a,b] h).F
def GV:R:=(.mk:Sg 0x1432000ee0023e41204e2412e60007e01e28540be [a,b,d,e] h [Eh (GU c r K)] [cu0 (Bo (Mt 1) (List.replicate 32 (.int .u8 0)) [])]).F
def GW:R:=(.mk:Sg 0x12026541024874100ee0215e702e4320104e2a30620e [a,b,d,e,f] h [c 59,Tc (GV c r K)]).F
def GX:R:=(.mk:Sg 0x142ba95104023ec1204e2c12e60007e00e312e5212e624ff3fb17e023e05ea18e421ae20ce232011e57665604b273011e0ee [a,b,d,e] h [c 18,cl5 (GW c r K)] [cu0 (Bo (Mt 1) (List.replicate 32 (.int .u8 0)) [])] [List.replicate 32 (.int .u8 0)]).F
def Rp:R:=(.mk:Sg 0x1765440010e0023e71204e2712e60007e01e3023701e6048023e61204e2612e60007e00e288709e [a,b,d,e,f,g,i] h [Tc (GX c r K)] [cu0 (Bo (Mt 1) (List.replicate 32 (.int .u8 0)) [])]).F
def GY:R:=(.mk:Sg 0x1202438a97102465acb71000224e30403e2d00315e802e321e1606e20ce52201323023e05e [a,b] h [Eh (Lf K),cl7 (Rp c r K)] [] [List.replicate 32 (.int .u8 0),[.int .i64 0,.int .i64 0,.int .i64 0,.int .i64 0,.int .i64 0,.int .i64 0]]).F
def ER:Ru K R:=
 some (a,h)
def EP:Ru K R:=
 Jg b fun d=>
 k2 a d h
def EO:R:=(.mk:Sg 0x1652004226522319e31c0007e [a,b] h [Eh (EP K k2)] [cu0 (Bo (Df [(0,1),(1,1)]) [.int .i64 0,.int .i64 0] [(0,.int .i64 (-1)),(1,.int .i64 (-1))])]).F
def Sf(K:Nat):Nat->A2
 | 0=>fun _ _ _=>none
 | m+1=>fun a b h=>
  cE I8 .lss 3 b (.int .i64 3)
  (EO K (Sf K m) a b h)
  (ER K a h)
def rJ:R:=(.mk:Sg 0x100220028ae921007e [a] h [Eh (Sf K K)] [cu1 (fun a=>Bo (Df [(0,1),(1,6)]) [.Ch,.int .i64 0,.int .i64 0,.int .i64 0,.int .i64 0,.int .i64 0,.int .i64 0] [(0,a)])]).F
def rK:Ru K R:=(.mk:Sg 0x12225fe926544007e235537e9 [a,b,d,e] h [] [cu4 (fun a b d g=>Bo (Df [(0,1),(1,1),(2,1),(3,3),(6,1)]) [.Ch,.Ch,.Ch,.int .i64 0,.int .i64 0,.int .i64 0,.bool false] [(0,a),(1,b),(2,d),(3,g)])]).F
def Bu:Ru K R:=(.mk:Sg 0x122203 [a] h).F
def Fj:Ru K R:=
 Sl 113 a h fun b h=>
 some ((.func 104 [] [b]),h)
def Ce:Ru K R:=(.mk:Sg 0x109e41104e246626531c009e05e [a] h [] [] [[.int .i64 0,.int .i64 0,.int .i64 0,.int .i64 0,.int .i64 0,.int .i64 0]]).F
def xy:Ru K R:=
 Sl 57 a h fun b h=>
 some ((.func 113 [] [b]),h)
def xk:Ru K R:=
 hG a b fun d=>
 some (d,h)
def Ux:R:=(.mk:Sg 0x1202210262102720e21007e210130305e2a00323e [a,b] h [Dy (Ce K),Eh (xk K)] [cu1 (fun f=>Vx 3 false 0 f)]).F
def O5:Ru K (Ru r (Ru c R)):=(.mk:Sg 0x15021e31204e2366365 [a,b,d] h).F
def Tl:R:=(.mk:Sg 0x13200e3109806e3105021603e6c42162214e01e3c20ae224c3c12e0fe0315e701e8705e31042162214e01e3c20ae224c3c0ae00315e701e42662bffff5f06e17e021e05e05e18e20ce2467407fff4f01e723c004f00e210e63c21e03f9110e43c418e5404b273011e0ee [a,b,d] h [c 115,Kk (O5 c r K)] [] [[.int .i64 0,.int .i64 0,.int .i64 0,.int .i64 0,.int .i64 0,.int .i64 0]]).F
def Axf:R:=(.mk:Sg 0x15433004021626c [a,b,d] h [Kk (Tl c r K)]).F
def xz:R:=(.mk:Sg 0x13453204563100fe0021e51204e25660007e01e212e3021e51204e25660007e00e0ee0215e701e510123e28463021e05e375e9 [a,b] h [c 61,Kk (Axf c r K),Kk (Tl c r K)] [cu0 (Bo (Df [(0,1),(1,1),(2,1),(3,1),(4,1),(5,1)]) [.int .i64 0,.int .i64 0,.int .i64 0,.int .i64 0,.int .i64 0,.int .i64 0] [])] [[.int .i64 0,.int .i64 0,.int .i64 0,.int .i64 0,.int .i64 0,.int .i64 0]]).F
def GZ:Ru K (Ru r (Ru c R)):=(.mk:Sg 0x1402 [] h).F
def G':Ru K (Ru r (Ru c R)):=
 Jg d fun e=>
 k3 a b e h
def G_:R:=(.mk:Sg 0x154331050232842201 [a,b,d] h [c 100,Kk (G' c r K k3)]).F
def N6(c:Ah)(r:Ah)(K:Nat):Nat->A3
 | 0=>fun _ _ _ _=>none
 | m+1=>fun a b d h=>
  cE I8 .lss 3 d b
  (G_ c r K (N6 c r K m) a b d h)
  (GZ c r K h)
def HA:R:=(.mk:Sg 0x1002532021112101203 [a] h [Dy (Ce K),Dy (Dn K),Kk (N6 c r K K)]).F
def CY:Ru K R:=
 hG a b fun d=>
 some (d,h)
def rB:R:=(.mk:Sg 0x12022002320060320e92a00223e [a] h [Eh (CY K)]).F
def Vm:Ru K R:=
 il a b fun d=>
 some (d,h)
def Qh:R:=(.mk:Sg 0x1202220262207224e72211210130306e2d01424e [a,b,d] h [Dy (Ce K),Eh (E4 K),Eh (Vm K)] [] [] [(.int .i64 (-1))]).F
def w7:Ru K R:=
 Sl 100 a h fun b h=>
 some ((.func 128 [] [b]),h)
def Gx:Ru K R:=(.mk:Sg 0x107e0200230023701e201ae42201203 [a,b] h [Eh oS]).F
def X8:Ru K (Ru r (Ru c R)):=
 hG a b fun d=>
 some (d,h)
def DU:R:=(.mk:Sg 0x12022202522000224e5221132303e2a32201 [a,b] h [c 19,Eh (Qw K),Eh (X8 c r K)]).F
def Aq2:Ru K (Ru r (Ru c R)):=(.mk:Sg 0x1002 [] h).F
def Aq0:R:=(.mk:Sg 0x10100ee0230ee0215e701e42201203 [a,b] h [c 134,cl0 (Aq2 c r K)]).F
def HC:R:=(.mk:Sg 0x1652402220ee0215e701e2282231212150300e00215e701e522112101203 [a,b] h [Dy (Bu K),c 133,Dy (Cs K),c 56,Eh (Aq0 c r K)]).F
def F4:Ru K (Ru r (Ru c R)):=
 Jg e fun f=>
 k4 a b d f h
def F2:R:=(.mk:Sg 0x1ba98410000e22820fe296301265221e0606e26553615e [a,b,d,e] h [Kk (fun a e j=>T5 c r a [e,j]),Tc (F4 c r K k4)] [] [[.int .i64 0,.int .i64 0,.int .i64 0,.int .i64 0,.int .i64 0,.int .i64 0]]).F
def Cf(c:Ah)(r:Ah)(K:Nat):Nat->A4
 | 0=>fun _ _ _ _ _=>none
 | m+1=>fun a b d e h=>
  cE I8 .lss 3 e d
  (F2 c r K (Cf c r K m) a b d e h)
  (some (.tuple [],h))
def Gs:R:=(.mk:Sg 0x100234400213e30de [a,b] h [Tc (Cf c r K K)]).F
def rH:Ru K R:=
 Sl 43 a h fun d h=>
 Sl 3 b h fun e h=>
 some ((.func 144 [] [d,e]),h)
def xA:Ru K R:=
 Sl 124 a h fun b h=>
 some ((.func 145 [] [b]),h)
def St:Ru K R:=(.mk:Sg 0x1000e000e321627ff3fb17e56115e02e21de20de271e7b23115ea02e5210ea73711e0ee321627ff3fb17e56115ea21de20de271e7b23115e402e5110e473711e0ee3ce1023701e204321e9 [a,b,d] h).F
def Ek:Ru K R:=(.mk:Sg 0x109e41104e246626530c009e05e [a] h [] [] [[.int .i64 0,.int .i64 0,.int .i64 0,.int .i64 0,.int .i64 0,.int .i64 0]]).F
def K1:Ru K (Ru r (Ru c R)):=
 Jg d fun e=>
 k3 a b e h
def Ut(c:Ah)(r:Ah)(K:Nat)(k3:A3)(k5:A5)(a:EV)(b:EV)(d:EV)(e:EV)(f:EV)(h:Ab):R:=
 Jg f fun g=>
 k5 a b d e g h
def Ic:R:=
 hG g i fun j=>
 hQ j
 (some (.tuple [],h))
 (Ut c r K k3 k5 a b d e f h)
def DL:R:=(.mk:Sg 0x12028765471024a987671020fe3420103e2a01225e652007e [a,b,d,e,f] h [Eh (fun a g=>T5 c r a [g]),cl7 (Ic c r K k3 k5)] [cu2 (fun e f=>kj 2 1 false 1 e f)] [] [(.int .i64 (-1))]).F
def Eu(c:Ah)(r:Ah)(K:Nat)(k3:A3):Nat->A5
 | 0=>fun _ _ _ _ _ _=>none
 | m+1=>fun a b d e f h=>
  cE I8 .lss 3 f (.int .i64 2)
  (DL c r K k3 (Eu c r K k3 m) a b d e f h)
  (K1 c r K k3 a b d h)
def DM:R:=(.mk:Sg 0x1002987500232107e314204287e0206e432007e [a,b,d] h [cl5 (Eu c r K k3 K)] [cu2 (fun b d=>kj 3 2 true 2 b d),cu2 (fun g i=>Bo (Mt 1) [.int .i64 0,.int .i64 0] [(0,g),(1,i)])] [[.int .i64 0,.int .i64 0]]).F
def Gk(c:Ah)(r:Ah)(K:Nat):Nat->A3
 | 0=>fun _ _ _ _=>none
 | m+1=>fun a b d h=>
  cE I8 .lss 3 d (.int .i64 3)
  (DM c r K (Gk c r K m) a b d h)
  (some (.tuple [],h))
def DP:R:=(.mk:Sg 0x1002530026521c30de [a,b] h [Kk (Gk c r K K)]).F
abbrev V8(K:Nat)(c:Ah):Ah:=c
def Rl:Ru K R:=(.mk:Sg 0x1000e5021624c [a] h).F
def Gj:Ru K R:=(.mk:Sg 0x152e41104e24f2e62f2e537c052e05e [a] h [] [] [List.replicate 256 (.int .u32 0)]).F
def Eg:Ru K R:=(.mk:Sg 0x122233 [a] h).F
def Zp:Ru K R:=
 some (a,h)
def Ra:Ru K R:=
 Jg e fun f=>
 k4 a b d f h
def Z2:R:=(.mk:Sg 0x17654410876241040ae91023701e210153116e [a,b,d,e] h [Dy (Eg K),Tc (Ra K k4)]).F
def Ix(K:Nat):Nat->A4
 | 0=>fun _ _ _ _ _=>none
 | m+1=>fun a b d e h=>
  cE I8 .lss 3 e d
  (Z2 K (Ix K m) a b d e h)
  (Zp K a h)
def P6:R:=(.mk:Sg 0x1002300400213e203 [a] h [Tc (Ix K K)]).F
def HD:Ru r R:=(.mk:Sg 0x12221112101203 [a] h [Dy (Bu K),c 98]).F
def Uc(c:Ah)(r:Ah)(K:Nat)(tm:Ba)(a:EV)(h:Ab)(ds:List Nat):R:=
 Hq a h fun b=>
 tX b h ds
def ED:R:=
 (fun(tm:Ba) (ds:List Nat)=>
 jT (.cells [.Aq] 28) h fun d h=>
 jI a fun e=>
 iP 2 e fun f=>
 Hq f h fun g=>
 Am (rH K g b h) fun i h=>
 X6 c TT 73 19 0 i ((((((((tm.put 4 (some .Aq)).put 5 (some d)).put 7 (some a)).put 8 (some e)).put 9 (some f)).put 10 (some g)).put 11 (some b)).put 12 (some i)) h ds (fun h ds=>
 Uc c r K ((((((((tm.put 4 (some .Aq)).put 5 (some d)).put 7 (some a)).put 8 (some e)).put 9 (some f)).put 10 (some g)).put 11 (some b)).put 12 (some i)) d h ds) (fun id h ds=>
 Bb (Nat.beq 0 id) (Uc c r K ((((((((tm.put 4 (some .Aq)).put 5 (some d)).put 7 (some a)).put 8 (some e)).put 9 (some f)).put 10 (some g)).put 11 (some b)).put 12 (some i)) d h ds) (none)) (fun h ds=>
 Fz ds h fun h=>some (.Aq,h))) ((Tr.nil.put 0 (some a)).put 1 (some b)) []
def Wn:Ru K (Ru r (Ru c R)):=(.mk:Sg 0x1020251623211410120de [a,b] h [Dy (fun b=>Bz [.int .i64 0] 3 1 1 [(0,b)]),Eh (Eo 3 1),cl0 (Xh l true .ready none)]).F
def EC:R:=
 Fi l h fun h=>Wn c r K l a b h
def HE:Ru K (Ru r (Ru c R)):=(.mk:Sg 0x1002200e [a] h).F
def HF:R:=(.mk:Sg 0x121000fe02200e53023301e [a] h [Dy (HE c r K)]).F
def HG:R:=(.mk:Sg 0x16120200200e5212e21112101203 [a,b] h [Dy (Bu K),c 98,Dy (HF c r K)]).F
def HH:Ru K (Ru r (Ru c R)):=
 Jg e fun f=>
 k4 a b d f h
def HI:R:=(.mk:Sg 0x16432400724340040ae958 [a,b,d,e,f] h [Tc (HH c r K k4)]).F
def HJ:R:=(.mk:Sg 0x193876510200200e5212e20ce263301345 [a,b,d,e] h [c 132,cl5 (HI c r K k4)]).F
def Kx(c:Ah)(r:Ah)(K:Nat):Nat->A4
 | 0=>fun _ _ _ _ _=>none
 | m+1=>fun a b d e h=>
  cE I8 .lss 3 e (.int .i64 3)
  (HJ c r K (Kx c r K m) a b d e h)
  (HG c r K a d h)
def HK:R:=
 Kx c r K K a b (.int .i64 0) (.int .i64 0) h
def Us(c:Ah)(r:Ah)(K:Nat)(base:Nat)(s:DX)(a:EV)(b:EV)(d:EV)(e:EV)(h:Ab):R:=
 il d e fun f=>
 hQ f
 (some (.tuple [(.int .i64 0),(.int .i64 10)],h))
 (HK c r K a b h)
def HL:R:=
 Sl 160 b h fun d h=>
 Zy h fun base s=>
 O6 0 0 base d s fun s=>Pg 4 d h fun e=>
 Ld 1 1 s h (fun h=>(c 131 [e] h)) fun f h s=>
 jj f fun g=>
 hM g
 (h_ 3 5 31 base d s h fun s i=>
 Ld 6 63 s h (fun h=>(Ek K i h)) fun j h s=>
 jw 0 10 911 base a s h fun s n=>
 Ld 11 2047 s h (fun h=>(Ce K n h)) fun o h s=>
 J5 iX (bin TT .neq 23) j o fun p=>
 Us c r K base s a d g p h)
 (Us c r K base s a d g tU h)
end
variable{d:Nat}(H:Bv disp)
include H
theorem Amb(hd:1<=d):R1 disp K d 15 (Ly K):=fun _=>rl H hd
theorem HM(hd:1<=d):R2 disp K d 26 (Qw K):=fun _ _=>rl H hd
theorem Arw(hd:0<=d):S2 disp K d 27 GP:=fun _ _=>ld rfl rfl H rfl 51 (fun c r=>e4 (Mc c r K) 0 14 15 16)
theorem Lq(hd:1<=d):R2 disp K d 31 (Lf K):=fun _ _=>rl H hd
theorem Atg(hd:0<=d):S1 disp K d 34 GS:=fun _=>rd rfl rfl H rfl
theorem A0f(hd:1<=d):R1 disp K d 46 (tV K):=fun _=>ll H hd (fun _ _=>rfl) 51 (e4 (U5 K) 0 2 3 5)
theorem Aud(hd:1<=d):S2 disp K d 47 GY:=fun _ _=>rd rfl rfl H (V2 (Lq H) hd<|rfl)
theorem A6x(hd:1<=d):R1 disp K d 53 (rJ K):=fun _=>ll H hd (fun _ _=>rfl) 51 (e2 (Sf K) 3 8)
theorem A6b(hd:1<=d):R4 disp K d 57 (rK K):=fun _ _ _ _=>rl H hd
theorem Eb(hd:1<=d):R1 disp K d 62 (Bu K):=fun _=>rl H hd
theorem Te(hd:1<=d):R1 disp K d 64 (Fj K):=fun _=>rl H hd
theorem Dc(hd:1<=d):R1 disp K d 68 (Ce K):=fun _=>rl H hd
theorem Aux(hd:1<=d):R1 disp K d 75 (xy K):=fun _=>rl H hd
theorem HN(hd:2<=d):R2 disp K d 76 (Ux K):=fun _ _=>rl H hd fun d hd=>V1 (Dc H) hd<|rfl
theorem HO(hd:0<=d:=by omega):S2 disp K d 78 xz:=fun _ _=>rd rfl rfl H rfl
theorem Atv(hd:1<=d):S1 disp K d 81 HA:=fun _=>ld rfl rfl H (V1 (Dc H) hd<|V1 (E7 H) hd<|rfl) 25 (fun c r=>e3 (N6 c r K) 0 9 10)
theorem HP(hd:1<=d):R1 disp K d 94 (rB K):=fun _=>rl H hd
theorem Ars(hd:3<=d):R3 disp K d 95 (Qh K):=fun _ _ _=>rl H hd fun d hd=>V1 (Dc H) hd<|V2 (F9 H) hd<|rfl
theorem Aut(hd:1<=d):R1 disp K d 96 (w7 K):=fun _=>rl H hd
theorem T9(hd:1<=d):R2 disp K d 97 (Gx K):=fun _ _=>rl H hd
theorem κ(hd:1<=d):S2 disp K d 100 DU:=fun _ _=>rd rfl rfl H (V2 (HM H) hd<|rfl)
theorem Anr(hd:1<=d):S2 disp K d 101 HC:=fun _ _=>rd rfl rfl H (V1 (Eb H) hd<|V1 (Hu H) hd<|rfl)
theorem Jm(hd:0<=d):S2 disp K d 104 Gs:=fun _ _=>ld rfl rfl H rfl 5 (fun c r=>e4 (Cf c r K) 0 5 6 7)
theorem HQ(hd:1<=d):R2 disp K d 111 (rH K):=fun _ _=>rl H hd
theorem Arq(hd:1<=d):R1 disp K d 114 (xA K):=fun _=>rl H hd
theorem Aun(hd:1<=d):R3 disp K d 116 (St K):=fun _ _ _=>rl H hd
theorem Fv(hd:1<=d):R1 disp K d 120 (Ek K):=fun _=>rl H hd
omit H in
theorem An9(c r:Ah)(K:Nat)(G:EV->EV->EV->Ab->R)(m:Nat):kX false (V8 K c) c r K 128 1637 [(2,fun A tm h ds=>K1 c r K G (A 0) (A 10) (A 11) h),(1,fun A tm h ds=>K1 c r K G (A 0) (A 10) (A 11) h),(0,jJ false TT 128)] m=(fun m A tm h ds=>Eu c r K G m (A 0) (A 10) (A 11) (A 18) (A 19) h) m:=
 Qf (E:=fun m A tm h ds=>Eu c r K G m (A 0) (A 10) (A 11) (A 18) (A 19) h) rfl (fun m=>kI fun A tm h ds=>by kernel_rfl) m
omit H in
theorem Anq(c r:Ah)(K:Nat)(m:Nat):kX false (V8 K c) c r K 128 5 [(0,jJ false TT 128)] m=(fun m A tm h ds=>Gk c r K m (A 0) (A 10) (A 11) h) m:=
 Bts (E:=fun m A tm h ds=>Gk c r K m (A 0) (A 10) (A 11) h) rfl (fun m=>(cut [true,true,false,false,true,true,false] (An9 c r K (Gk c r K m) K) (by kernel_rfl) (by kernel_rfl) rfl)) (fun m=>kI fun A tm h ds=>by kernel_rfl) m
theorem ε(hd:0<=d):S2 disp K d 128 DP:=fun _ _=>rm (q:=false) (D:=V8 K (Ag TT disp K d false)) (by kernel_rfl) rfl rfl H (rfl) (cut [true,false] (Anq (Ag TT disp K d false) (Ag TT disp K d true) K K) (by kernel_rfl) (by kernel_rfl) rfl)
theorem An6(hd:1<=d):R1 disp K d 182 (Rl K):=fun _=>rl H hd
theorem Wj(hd:1<=d):R1 disp K d 185 (Gj K):=fun _=>rl H hd
theorem H4(hd:1<=d):R1 disp K d 214 (Eg K):=fun _=>rl H hd
theorem Alx(hd:2<=d):R1 disp K d 228 (P6 K):=fun _=>ll H hd (fun d hd=>V1 (H4 H) hd<|rfl) 51 (e4 (Ix K) 3 9 10 11)
theorem Ar4(hd:1<=d):S1 disp K d 60 HD:=fun _=>rd rfl rfl H (V1 (Eb H) hd<|rfl)
theorem Ι(hd:1<=d):S2 disp K d 73 ED:=fun _ _=>rd rfl rfl H (V2 (HQ H) hd<|rfl)
theorem Η(hd:1<=d){l:Nat}(tm:Ba)(h:Ab)(A:EV){st:LoopState}{p:Option Code}(G:h.get l=some (.loop st p 73 19 tm [13] (Fk TT 73 0).2.2.1 (Fk TT 73 0).2.2.2 d0)):
 Ag TT disp K (d+1) true l [A] h=EC (Ag TT disp K d false) (Ag TT disp K d true) K l (tmp tm 5) A h:=rr rfl rfl (rfl) G rfl (by kernel_rfl)
theorem Apt(hd:1<=d):S2 disp K d 99 HL:=fun _ _=>ld rfl rfl H (V1 (Fv H) hd<|V1 (Dc H) hd<|V1 (Eb H) hd<|rfl) 103 (fun c r=>e4 (Kx c r K) 0 3 6 25)
end
end
section
noncomputable section
section
variable (c r:Ah)(K l:Nat)(k0:A0)(k1:A1)(k2:A2)(k3:A3)(k4:A4)(k5:A5)(k6:A6)(k7:A7)(k8:A8)(k9:A9)(oM:mm)(oN:mq)(oO:ng)(m0:B0)(m1:B1)(m2:B2)(m3:B3)(m4:B4)(m5:B5)(m6:B6)(m7:B7)(m8:B8)(m9:B9)(oP:m_)(oQ:nf)(oR:nh)(base:Nat)(s:DX)(tm:Ba)(a b d e f g i j n o p q t u w x y z aa ab ad ae af ag ai aj an ao ap aq au aw ax ay az ba bb bd be bf bg bi bj bn bo bp bq bt bu bw bx bz da db dd de df dg di dj dn dp dq dt du dw dx dy dz ea eb ed ee ef eg ei ej en eo ep eq et eu ew ex ey ez fa fb fd fe ff fg fi fj fn fo fp fq ft fu fw fx fy fz ga gb gd ge gf gg gi gj gn go gp gq gt gu gw gx gy gz ia ib ie ig ii ij io ip iq it iu iw ix iy iz ja jb:EV)(h:Ab)(ds:List Nat)
def Zk:Ru K (Ru r (Ru c R)):=(.mk:Sg 0x1002 [] h).F
def HR:R:=(.mk:Sg 0x10100ee0230ee0215e701e32201 [a,b] h [c 134,cl0 (Zk c r K)]).F
def Zx:Ru K (Ru r R):=(.mk:Sg 0x129200e547823601518e5 [a,b,d,e,f,g] h [c 177]).F
def HS:R:=(.mk:Sg 0x1456a9761025200e4212e983426601418e54fce33fbe3375e9 [a,b,d,e] h [c 177,cl6 (Zx c r K)]).F
def Th:Ru K R:=(.mk:Sg 0x122243 [a] h).F
def F7:Ru K R:=(.mk:Sg 0x12232211001 [a] h [cl0 (Bz (List.replicate 4 (.int .i64 0)++List.replicate 64 (.int .u8 0)) 32 68 0 []),Eh (Eo 32 68)]).F
def Dw:R:=(.mk:Sg 0x12100b023b027fe701e [a] h [Dy (F7 K)]).F
def Gu:Ru K R:=(.mk:Sg 0x1000e321642c213e203 [a] h).F
def BK:Ru K R:=
 hG a b fun d=>
 some (d,h)
def Sh:R:=(.mk:Sg 0x1202200232004321e82a10223e [a,b] h [Eh (BK K)]).F
def HT:Ru K R:=
 Jg d fun e=>
 k3 a b e h
def HU:R:=
 fE 3 a h fun e=>
 Bo (Df [(0,1),(1,1)]) [(.int .i64 0),(.int .i64 0)] [(0,b),(1,d)] fun f=>
 Am (builtin TT .delete #[140,227] [e,f] h) fun _ h=>
 HT K k3 a b d h
def Jv(K:Nat):Nat->A3
 | 0=>fun _ _ _ _=>none
 | m+1=>fun a b d h=>
  fE 0 a h fun e=>
  Am (Pd K e h) fun f h=>
  cE I8 .lss 3 d f
  (HU K (Jv K m) a b d h)
  (some (.tuple [],h))
def Xl:R:=
 Jv K K a b d h
def HV:Ru K (Ru r (Ru c R)):=(.mk:Sg 0x1002 [] h).F
def Rb:R:=(.mk:Sg 0x100005e023283209e [a,b] h [cl0 (HV c r K)]).F
def HW:R:=(.mk:Sg 0x12022202622000224e9221142116e86307e2d00220e232011e5740de404b265273b30c0ee339 [a,b] h [Eh (E4 K),Eh (fun o d=>c 191 [o,.func 192 [] [d]]),Eh (Rb c r K)]).F
def Pu:Ru K (Ru r (Ru c R)):=
 some (a,h)
def HX:R:=(.mk:Sg 0x131102110400315e701e679301578301002167fdec012166fcec012165fbec4fde33fce32fbe3 [a] h [c 193,Dy (Pu c r K)] [] [] [(.int .i64 (-1))]).F
def O3:Ru K R:=(.mk:Sg 0x100010e71204e2732e6232e54232e15e203 [a,b,d] h).F
def Je:R:=(.mk:Sg 0x15433000be0010e61204e2632e6632e501e287609e [a,b,d,e,f,g] h [Kk (O3 K)]).F
def Hm:R:=(.mk:Sg 0x120245766002578a96002923e213e60303e2d00620e0ce0010e51204e2532e6332e501ec023701e433010e05e010e05e [a,b] h [cl6 (Je K)] [] [List.replicate 64 (.int .u8 0)]).F
def oT:Ru K R:=(.mk:Sg 0x1222d9e921007e32211001 [a] h [cl0 (Bz [.int .u8 0] 5 1 0 []),Eh (Eo 5 1)] [cu1 (fun d=>Bo (Df [(0,1),(1,1)]) [.Aq,.bool false] [(0,d)])]).F
def Aqw:Ru K R:=(.mk:Sg 0x1002 [] h).F
def Aqp:R:=(.mk:Sg 0x100004e023283209e [a,b] h [cl0 (Aqw K)]).F
def Rk:R:=(.mk:Sg 0x12022002520000222e213e30300e2d213 [a] h [Eh (Aqp K)]).F
def Xn:Ru K R:=(.mk:Sg 0x1222650e403e20de251f2e19e725403e51007e01450e603e252e9 [a,b,d] h [] [cu1 (fun b=>So .u8 b)] [] [(.int .u64 8)]).F
def Ge:Ru K R:=(.mk:Sg 0x105e000200e002200e321ae80023701e201ae200201203 [a] h [Eh oU]).F
def Uo:Ru K (Ru r (Ru c R)):=
 some (a,h)
def Ox:Ru K (Ru r (Ru c R)):=
 Jg f fun g=>
 k5 a b d e g h
def HY:R:=
 Am (Gx K a e h) fun i h=>
 Ox c r K k5 a b d f g h
def HZ:R:=
 Am (T5 c r b [e] h) fun i h=>
 jj i fun j=>
 hQ j
 (Jg d fun n=>
 Ox c r K k5 a b n f g h)
 (HY c r K k5 a b d e f g h)
def H':R:=
 Am (Ge K a h) fun g h=>
 kS g fun i j=>
 nr j
 (Uo c r K d h)
 (HZ c r K k5 a b d i e f h)
def Ky(c:Ah)(r:Ah)(K:Nat):Nat->A5
 | 0=>fun _ _ _ _ _ _=>none
 | m+1=>fun a b d e f h=>
  cE I8 .lss 3 f e
  (H' c r K (Ky c r K m) a b d e f h)
  (Uo c r K d h)
def H_:R:=(.mk:Sg 0x100200435102101 [a,b] h [Dy (Fe K),cl5 (Ky c r K K)]).F
def IA:Ru K R:=(.mk:Sg 0x1222325e30de [a,b] h).F
def Vn:Ru K R:=
 hG a b fun d=>
 some (d,h)
def Gy:R:=(.mk:Sg 0x1202200252002620e213e303d2a00323e [a,b] h [Eh (Vn K)]).F
def xB:Ru K R:=
 hG a b fun d=>
 some (d,h)
def Yr:R:=(.mk:Sg 0x12022002320090321e92a10223e [a] h [Eh (xB K)]).F
def IB:Ru K R:=(.mk:Sg 0x152321660c622107e403422007e203 [a,b] h [] [cu2 (fun d b=>iD 1 d none (some b) (some b)),cu2 (fun f b=>iD 1 f (some b) none none)]).F
def IC:R:=(.mk:Sg 0x143200b025021641cb021630c05e285409e [a,b,d,e] h [Eh (IB K)]).F
def ID:R:=(.mk:Sg 0x12024340025764002622e213e30301e2d5409e [a,b,d,e] h [Tc (IC K)]).F
def J8:R:=(.mk:Sg 0x120243400235440000420eb2d213 [a,b] h [Tc (ID K)]).F
def xC:Ru K R:=
 hG a b fun d=>
 some (d,h)
def N2:R:=(.mk:Sg 0x1202200232005321e82a3223e [a,b,d] h [Eh (xC K)]).F
def Qp:Ru K R:=(.mk:Sg 0x1000e321640c42201203 [a,b] h [Eh (Eo 5 1)]).F
def IE:Ru K R:=(.mk:Sg 0x1002200e23211303001 [a] h [cl0 (Bz [.int .u8 0] 5 1 0 []),Eh (Eo 5 1)]).F
def Oj:R:=(.mk:Sg 0x1310003e0b0200e628213 [a] h [Dy (IE K)]).F
def IF:Ru K (Ru r R):=(.mk:Sg 0x12276230142116e203 [a,b,d,e] h [Kk (fun g d e=>c 224 [g,d,.func 225 [] [e]])]).F
def IH:R:=(.mk:Sg 0x1476541003e0232820fe43201510e9 [a,b,d,e] h [Eh (Gy K),Tc (IF c r K)]).F
def II:Ru K R:=(.mk:Sg 0x110e41104e2432e6232e5 [a,b] h).F
def IJ:Ru K R:=
 Jg e fun f=>
 k4 a b d f h
def IK:R:=(.mk:Sg 0x1ba9840032162f1e817ea7132e19e245403e20de20ae5b75132e19e20de232b52132e19e0ee [a,b,d,e] h [Tc (IJ K k4)]).F
def Kz(K:Nat):Nat->A4
 | 0=>fun _ _ _ _ _=>none
 | m+1=>fun a b d e h=>
  cE I8 .lss 3 e (.int .i64 64)
  (IK K (Kz K m) a b d e h)
  (II K a d h)
def O8:R:=(.mk:Sg 0x100234400010e05e410e9210e9 [a,b] h [Tc (Kz K K)] [] [List.replicate 64 (.int .u8 0)]).F
def E2:Ru K R:=(.mk:Sg 0x1000e000e521633c9285409e [a,b,d,e] h).F
def Ey:R:=(.mk:Sg 0x1204324002543400650bea4d [a,b,d,e,f] h [Tc (E2 K)]).F
def Gc:R:=(.mk:Sg 0x120543250027654500c0225e23301e5a [a,b,d,e] h [cl5 (Ey K)]).F
def Hn:R:=(.mk:Sg 0x120243400235440060424eb2dc0324e [a,b] h [Tc (Gc K)]).F
def Nu:Ru K R:=(.mk:Sg 0x1002 [] h).F
def Ea:R:=(.mk:Sg 0x10000ae0236023701e0ce023c023701e233 [a] h [cl0 (Nu K)]).F
def xD:Ru K R:=
 hG a b fun d=>
 some (d,h)
def Px:R:=(.mk:Sg 0x1202200232005321e82a3223e [a,b,d] h [Eh (xD K)]).F
def Zw:Ru K R:=(.mk:Sg 0x1402 [] h).F
def Q2:Ru K R:=
 hG a b fun d=>
 some (d,h)
def Mj:Ru K R:=
 hG a b fun d=>
 some (d,h)
def Q9:R:=(.mk:Sg 0x1202200262002323e702e0007e212e53614e05e2a430be [a,b,d] h [Eh (Mj K)] [cu0 (Bo (Mt 1) (List.replicate 32 (.int .u8 0)) [])]).F
def Q5:Ru K R:=
 hG a b fun d=>
 some (d,h)
def Pk:R:=(.mk:Sg 0x10402022302423000224e544c2a10224e3240ee6023701e202532026932021043012011ee63454409e2a10224e3241ae3023701e2022102421000224e544c2ac010230132412e1023701e204275e9 [a] h [Kk (Px K),Eh (Q2 K),Kk (Q9 K),Eh (Q5 K),cl0 (Zw K)] [] [] [(.int .i64 256)]).F
def IL:Ru K R:=
 some (a,h)
def X3:R:=(.mk:Sg 0x13100d023284309e [a,b,d] h [Dy (IL K)]).F
def Y5:R:=(.mk:Sg 0x1202430023530090422ea2d00220e [a,b] h [Kk (X3 K)]).F
def IM:Ru K R:=(.mk:Sg 0x12320040ae0123603e [a,b] h [Eh k2] [] [] [(.int .u64 8)]).F
def Mh(K:Nat):Nat->A2
 | 0=>fun _ _ _=>none
 | m+1=>fun a b h=>
  iK (bin TT .shr 3) a (.int .u64 8) fun d=>
  cE nt .gtr 3 d (.int .i64 0)
  (IM K (Mh K m) a b h)
  (Y5 K a b h)
def Ws:R:=
 Mh K K a (.int .i64 1) h
def N1:Ru K R:=(.mk:Sg 0x10023232e627fff4f01e17e8632e15e28201fe04fd7232e52fc03fcb5232e15e31c03f9011e273011e0ee [a,b,d] h [Eh (fun d i=>T5 c r d [i])]).F
def Fu:R:=(.mk:Sg 0x15433000be023286509e [a,b,d,e,f] h [Kk (N1 c r K)]).F
def Jt:R:=(.mk:Sg 0x1202543500258765002623e213e30302e2d00320e [a,b,d] h [cl5 (Fu c r K)]).F
def IP:R:=(.mk:Sg 0x110e51104e2532e623201632e5332e5010e05e210e9 [a,b] h [Eh (O8 K)] [] [List.replicate 64 (.int .u8 0)]).F
def Nz:Ru K R:=(.mk:Sg 0x10025021634c3021623c [a] h).F
def Gl:R:=(.mk:Sg 0x13110222212e2101 [a] h [Dy (Ea K),Dy (Nz K)]).F
def qZ:R:=(.mk:Sg 0x197e91104e291ee671ee54221151007e20ce4101097e05e097e05e [a] h [Dy (Oj K),builtin TT .copy #[173,173]] [cu1 (fun d=>Nq 44 1 d none none none)] [List.replicate 44 (.int .u8 0)]).F
def xE(c:Ah)(r:Ah)(K:Nat)(tm:Ba)(a:EV)(h:Ab)(ds:List Nat):R:=
 f_ 1 a (.bool false) h fun h=>
 Fz ds h fun h=>Jk TT [.c a 4] h
def IQ:R:=
 (fun(tm:Ba) (ds:List Nat)=>
 Sl 3 b h fun d h=>
 jT (.cells [(.bool false)] 4) h fun e h=>
 Am (xy K a h) fun f h=>
 X6 c TT 29 14 0 f ((((tm.put 3 (some d)).put 4 (some e)).put 7 (some a)).put 8 (some f)) h ds (fun h ds=>
 xE c r K ((((tm.put 3 (some d)).put 4 (some e)).put 7 (some a)).put 8 (some f)) e h ds) (fun id h ds=>
 Bb (Nat.beq 0 id) (xE c r K ((((tm.put 3 (some d)).put 4 (some e)).put 7 (some a)).put 8 (some f)) e h ds) (none)) (fun h ds=>
 Fz ds h fun h=>Jk TT [.c e 4] h)) ((Tr.nil.put 0 (some a)).put 1 (some b)) []
def IU:Ru K (Ru r (Ru c R)):=(.mk:Sg 0x1010000504168253701e20de [a,b,d] h [cl0 (Xh l false .done (some .ret)),cl0 (Xh l true .ready none)]).F
def IV:R:=
 Fi l h fun h=>IU c r K l a b d h
def Yo(c:Ah)(r:Ah)(K:Nat)(tm:Ba)(a:EV)(h:Ab)(ds:List Nat):R:=
 f_ 1 a (.bool false) h fun h=>
 Fz ds h fun h=>Jk TT [.c a 4] h
def DO:R:=
 (fun(tm:Ba) (ds:List Nat)=>
 Sl 3 b h fun d h=>
 jT (.cells [(.bool false)] 4) h fun e h=>
 Am (w7 K a h) fun f h=>
 X6 c TT 55 12 0 f ((((tm.put 3 (some d)).put 4 (some e)).put 6 (some a)).put 7 (some f)) h ds (fun h ds=>
 Yo c r K ((((tm.put 3 (some d)).put 4 (some e)).put 6 (some a)).put 7 (some f)) e h ds) (fun id h ds=>
 Bb (Nat.beq 0 id) (Yo c r K ((((tm.put 3 (some d)).put 4 (some e)).put 6 (some a)).put 7 (some f)) e h ds) (none)) (fun h ds=>
 Fz ds h fun h=>Jk TT [.c e 4] h)) ((Tr.nil.put 0 (some a)).put 1 (some b)) []
def Zb:Ru K (Ru r (Ru c R)):=(.mk:Sg 0x1010000504168253701e20de [a,b,d] h [cl0 (Xh l false .done (some .ret)),cl0 (Xh l true .ready none)]).F
def DK:R:=
 Fi l h fun h=>Zb c r K l a b d h
def On:Ru K R:=(.mk:Sg 0x10024021654c0021643c0021632cb021620c [a] h).F
def G0:R:=(.mk:Sg 0x13110222212e2101 [a] h [Dy (Ea K),Dy (On K)]).F
def Fp:Ru K (Ru r (Ru c R)):=
 hG a b fun d=>
 some (d,h)
def Gi:R:=(.mk:Sg 0x12022202622020fe62211210130305e2a540be [a,b,d,e] h [Dy (Cs K),c 29,Eh (Fp c r K)]).F
def Ij:R:=(.mk:Sg 0x120243410257641020fe5220131303e2a540be [a,b,d,e] h [c 55,Tc (Gi c r K)]).F
def O0:R:=(.mk:Sg 0x120243410257641020fe5220130303e2a540be [a,b,d,e] h [Eh (D5 K),Tc (Ij c r K)]).F
def Ub:R:=(.mk:Sg 0x12024340023544005425ea2a650be [a,b,d,e,f] h [Tc (O0 c r K)]).F
def DS:R:=(.mk:Sg 0x12027cb530238dc5308c25eb2a00223ea22212111703421ae20ce2101203 [a,b] h [Dy (Ly K),Dy (Ce K),Eh (E4 K),cl5 (Ub c r K)]).F
end
variable{d:Nat}(H:Bv disp)
include H
theorem Amh(hd:0<=d):S2 disp K d 107 HR:=fun _ _=>rd rfl rfl H rfl
theorem Amr(hd:0<=d):S4 disp K d 148 HS:=fun _ _ _ _=>rd rfl rfl H rfl
theorem Ap2(hd:1<=d):R1 disp K d 152 (Th K):=fun _=>rl H hd
theorem R8(hd:1<=d):R1 disp K d 154 (Dw K):=fun _=>rl H hd
theorem Xk(hd:1<=d):R1 disp K d 156 (Gu K):=fun _=>rl H hd
theorem Azl(hd:1<=d):R2 disp K d 157 (Sh K):=fun _ _=>rl H hd
theorem Aod(hd:2<=d):R3 disp K d 161 (Xl K):=fun _ _ _=>ll H hd (fun d hd=>V1 (GI H) hd<|rfl) 5 (e3 (Jv K) 0 1 6)
theorem Atx(hd:2<=d):S2 disp K d 162 HW:=fun _ _=>rd rfl rfl H (V2 (F9 H) hd<|rfl)
theorem Aj9(hd:0<=d):S1 disp K d 163 HX:=fun _=>rd rfl rfl H rfl
theorem Y7(hd:1<=d):R2 disp K d 166 (Hm K):=fun _ _=>rl H hd
theorem um(hd:1<=d):R1 disp K d 168 (oT K):=fun _=>rl H hd
theorem An7(hd:1<=d):R1 disp K d 172 (Rk K):=fun _=>rl H hd
theorem At2(hd:1<=d):R3 disp K d 174 (Xn K):=fun _ _ _=>rl H hd
theorem Ss(hd:1<=d):R1 disp K d 175 (Ge K):=fun _=>rl H hd
theorem Aoq(hd:1<=d):S2 disp K d 191 H_:=fun _ _=>ld rfl rfl H (V1 (Kv H) hd<|V2 (T9 H) hd<|V1 (Ss H) hd<|rfl) 51 (fun c r=>e5 (Ky c r K) 0 1 5 9 10)
theorem Aow(hd:1<=d):R2 disp K d 192 (IA K):=fun _ _=>rl H hd
theorem Kr(hd:1<=d):R2 disp K d 195 (Gy K):=fun _ _=>rl H hd
theorem IW(hd:1<=d):R1 disp K d 196 (Yr K):=fun _=>rl H hd
theorem Zz(hd:1<=d):R2 disp K d 197 (J8 K):=fun _ _=>rl H hd
theorem Axg(hd:1<=d):R3 disp K d 198 (N2 K):=fun _ _ _=>rl H hd
theorem IX(hd:1<=d):R2 disp K d 201 (Qp K):=fun _ _=>rl H hd
theorem Y4(hd:1<=d):R1 disp K d 202 (Oj K):=fun _=>rl H hd
theorem Aob(hd:1<=d):S4 disp K d 209 IH:=fun _ _ _ _=>rd rfl rfl H (V2 (Kr H) hd<|rfl)
theorem IY(hd:1<=d):R2 disp K d 210 (O8 K):=fun _ _=>ll H hd (fun _ _=>rfl) 25 (e4 (Kz K) 2 3 4 6)
theorem Y9(hd:1<=d):R2 disp K d 211 (Hn K):=fun _ _=>rl H hd
theorem Ho(hd:1<=d):R1 disp K d 216 (Ea K):=fun _=>rl H hd
theorem IZ(hd:1<=d):R3 disp K d 217 (Px K):=fun _ _ _=>rl H hd
theorem Al7(hd:2<=d):R1 disp K d 218 (Pk K):=fun _=>rl H hd fun d hd=>V3 (IZ H) hd<|rfl
theorem Azk(hd:1<=d):R1 disp K d 219 (Ws K):=fun _=>ll H hd (fun _ _=>rfl) 27 (e2 (Mh K) 0 3)
theorem Ww(hd:0<=d):S3 disp K d 224 Jt:=fun _ _ _=>rd rfl rfl H rfl
theorem Ale(hd:2<=d):R2 disp K d 225 (IP K):=fun _ _=>rl H hd fun d hd=>V2 (IY H) hd<|rfl
theorem Wx(hd:2<=d):R1 disp K d 230 (Gl K):=fun _=>rl H hd fun d hd=>V1 (Ho H) hd<|rfl
theorem I2(hd:2<=d):R1 disp K d 235 (qZ K):=fun _=>rl H hd fun d hd=>V1 (Y4 H) hd<|rfl
theorem Awi(hd:1<=d):S2 disp K d 29 IQ:=fun _ _=>rd rfl rfl H (V1 (Aux H) hd<|rfl)
theorem Ao6(hd:1<=d){l:Nat}(tm:Ba)(h:Ab)(G:EV)(A:EV){st:LoopState}{p:Option Code}(J:h.get l=some (.loop st p 29 14 tm [9,10] (Fk TT 29 0).2.2.1 (Fk TT 29 0).2.2.2 d0)):
 Ag TT disp K (d+1) true l [G,A] h=IV (Ag TT disp K d false) (Ag TT disp K d true) K l (tmp tm 3) (tmp tm 4) A h:=rr rfl rfl (rfl) J rfl (by kernel_rfl)
theorem δ(hd:1<=d):S2 disp K d 55 DO:=fun _ _=>rd rfl rfl H (V1 (Aut H) hd<|rfl)
theorem Z'(hd:1<=d){l:Nat}(tm:Ba)(h:Ab)(A:EV){st:LoopState}{p:Option Code}(G:h.get l=some (.loop st p 55 12 tm [8] (Fk TT 55 0).2.2.1 (Fk TT 55 0).2.2.2 d0)):
 Ag TT disp K (d+1) true l [A] h=DK (Ag TT disp K d false) (Ag TT disp K d true) K l (tmp tm 3) (tmp tm 4) A h:=rr rfl rfl (rfl) G rfl (by kernel_rfl)
theorem Xx(hd:2<=d):R1 disp K d 190 (G0 K):=fun _=>rl H hd fun d hd=>V1 (Ho H) hd<|rfl
theorem θ(hd:3<=d):S2 disp K d 19 DS:=fun _ _=>rd rfl rfl H (V1 (Amb H) hd<|V1 (Dc H) hd<|V2 (F9 H) hd<|V1 (Hu H) hd<|V2 (Et H) hd<|rfl)
end
end
section
noncomputable section
section
variable (c r:Ah)(K l:Nat)(k0:A0)(k1:A1)(k2:A2)(k3:A3)(k4:A4)(k5:A5)(k6:A6)(k7:A7)(k8:A8)(k9:A9)(oM:mm)(oN:mq)(oO:ng)(m0:B0)(m1:B1)(m2:B2)(m3:B3)(m4:B4)(m5:B5)(m6:B6)(m7:B7)(m8:B8)(m9:B9)(oP:m_)(oQ:nf)(oR:nh)(base:Nat)(s:DX)(tm:Ba)(a b d e f g i j n o p q t u w x y z aa ab ad ae af ag ai aj an ao ap aq au aw ax ay az ba bb bd be bf bg bi bj bn bo bp bq bt bu bw bx bz da db dd de df dg di dj dn dp dq dt du dw dx dy dz ea eb ed ee ef eg ei ej en eo ep eq et eu ew ex ey ez fa fb fd fe ff fg fi fj fn fo fp fq ft fu fw fx fy fz ga gb gd ge gf gg gi gj gn go gp gq gt gu gw gx gy gz ia ib ie ig ii ij io ip iq it iu iw ix iy iz ja jb:EV)(h:Ab)(ds:List Nat)
def I4:Ru r R:=(.mk:Sg 0x1222522121112101203 [a] h [Dy (Ce K),Dy (Nw K),c 20]).F
def Xm:Ru K R:=
 hG a b fun d=>
 some (d,h)
def I':R:=(.mk:Sg 0x120220024200c0221e413eb2a10223e213e [a] h [Eh (Xm K)]).F
def I_:Ru K R:=
 Jg f fun g=>
 k5 a b d e g h
def JA:R:=(.mk:Sg 0x1cba9851040232820fe26201204246e013e06e213e56413e15e [a,b,d,e,f] h [Eh (Ux K),cl5 (I_ K k5)] [] [[.int .i64 0]++List.replicate 32 (.int .u8 0)]).F
def Nc(K:Nat):Nat->A5
 | 0=>fun _ _ _ _ _ _=>none
 | m+1=>fun a b d e f h=>
  cE I8 .lss 3 f e
  (JA K (Nc K m) a b d e f h)
  (I' K b h)
def Xy:R:=
 Hg b fun d=>
 Nc K K a b b d (.int .i64 0) h
def Uf:Ru K (Ru r R):=(.mk:Sg 0x1000e000e3101628430be [a,b,d] h [c 129]).F
def JB:R:=(.mk:Sg 0x120233102563102620e210130302e2a00323e [a,b] h [Dy (Ni K),Kk (Uf c r K)]).F
def JC:R:=(.mk:Sg 0x123200e20ce210142116e263 [a,b] h [Dy (Ge K)]).F
def Yn:R:=(.mk:Sg 0x14320003e000200e6285409e [a,b,d,e] h [Eh (JC K)]).F
def Pb:R:=(.mk:Sg 0x12024340025764002623e213e36301e2d00320e [a,b] h [Tc (Yn K)]).F
def H8:Ru K R:=(.mk:Sg 0x1002200e1021ee213e203 [a] h).F
def Nn:R:=(.mk:Sg 0x1b120c12030216b3cc233701ea13213e8031021673c321623ff3fa17e60c242170e772101618e432e5405b200e4011e0ee [a,b] h [Dy (fun e=>Bz (List.replicate 64 (.int .u8 0)) 30 64 1 [(0,e)]),Eh (Eo 30 64),Dy (H8 K)]).F
def Hr:R:=(.mk:Sg 0x14320007e000200e63023701e233 [a,b] h [Eh (Nn K)]).F
def D9:R:=(.mk:Sg 0x134210200200e5212e3101310e9 [a,b] h [Dy (Ea K),Eh (Hr K)]).F
def X5:R:=(.mk:Sg 0x1222101263 [a] h [Dy (Fj K)]).F
def EI:Ru K (Ru r (Ru c R)):=
 some (a,h)
def Oz:Ru K (Ru r (Ru c R)):=
 Jg e fun f=>
 k4 a b d f h
def Uk:R:=(.mk:Sg 0x1764340076534007288709e [a,b,d,e,f,g,i] h [Tc (Oz c r K k4)]).F
def EH:R:=(.mk:Sg 0x12028754371025ba8767102820e5220132307e2d01324e [a,b,d,e,f,g] h [Eh (Qw K),cl7 (Uk c r K k4)] [] [] [(.int .i64 (-1))]).F
def K0:R:=
 il i j fun n=>
 hQ n
 (Oz c r K k4 a b f g h)
 (EH c r K k4 a b d e f g h)
def Oo:R:=(.mk:Sg 0x120287654381024a9876581020fe5320104e2d9809e [a,b,d,e,f,g,i,j] h [c 80,cl8 (K0 c r K k4)]).F
def EG:R:=(.mk:Sg 0x12029849768302700ed900ecb8302522e21007e21217034301fe0fe2d20fe7421162201223 [a,b,d,e] h [Eh (Qw K),c 19,Dy (Ce K),cl8 (Oo c r K k4)] [cu1 (fun p=>Vx 2 false 0 p)]).F
def Ii(c:Ah)(r:Ah)(K:Nat):Nat->A4
 | 0=>fun _ _ _ _ _=>none
 | m+1=>fun a b d e h=>
  cE I8 .lss 3 e d
  (EG c r K (Ii c r K m) a b d e h)
  (EI c r K b h)
def EJ:R:=
 fE 0 a h fun b=>
 Am (Ce K b h) fun d h=>
 Am (Dn K d h) fun e h=>
 Ii c r K K a (.int .i64 (-1)) e (.int .i64 0) h
def DG:Ru K R:=(.mk:Sg 0x10024226522319e31c542007e [a,b,d,e] h [] [cu2 (fun d e=>Bo (Df [(0,1),(1,1)]) [.int .i64 0,.int .i64 0] [(0,d),(1,e)])]).F
def DF:R:=(.mk:Sg 0x1654340003e023287609e [a,b,d,e,f,g] h [Tc (DG K)]).F
def DE:R:=(.mk:Sg 0x12065432600276543600870bec6d [a,b,d,e,f,g,i] h [cl6 (DF K)]).F
def DD:R:=(.mk:Sg 0x120765432700287654370001425e00e7a [a,b,d,e,f,g] h [cl7 (DE K)] [] [] [(.int .i64 (-1))]).F
def DC:R:=(.mk:Sg 0x120265436002376546006524ec2d7609e [a,b,d,e,f,g] h [cl6 (DD K)]).F
def C_:R:=(.mk:Sg 0x1202654361024876561020fe64330103e2d7609e [a,b,d,e,f,g] h [Kk (Qh K),cl6 (DC K)]).F
def Sv:R:=(.mk:Sg 0x1202765462024987662020fe65431103e2d20fe3101 [a,b,d,e] h [Dy (rB K),Kk (Qh K),cl6 (C_ K)]).F
def JD:Ru r (Ru c R):=(.mk:Sg 0x1225220152116e263 [a,b,d] h [Eh (Gx K)]).F
def JE:R:=(.mk:Sg 0x137632006e023286521103e0230023301e5220126520c [a,b] h [Eh (E4 K),c 29,Kk (JD c r K)]).F
def Wl:Ru K (Ru r (Ru c R)):=(.mk:Sg 0x1002 [] h).F
def Kg:Ru K (Ru r (Ru c R)):=
 Jg d fun e=>
 k3 a b e h
def Wo:R:=(.mk:Sg 0x1653310222212e32201 [a,b,d,e] h [c 101,Kk (Kg c r K k3)]).F
def Wi:R:=(.mk:Sg 0x1656442065431062820fe42201 [a,b,d] h [c 100,Kk (Kg c r K k3),Tc (Wo c r K k3)]).F
def Fy(c:Ah)(r:Ah)(K:Nat):Nat->A3
 | 0=>fun _ _ _ _=>none
 | m+1=>fun a b d h=>
  cE I8 .lss 3 d b
  (Wi c r K (Fy c r K m) a b d h)
  (Wl c r K h)
def Wu:R:=(.mk:Sg 0x1002532021112101203 [a] h [Dy (Ce K),Dy (Dn K),Kk (Fy c r K K)]).F
def Wm:R:=(.mk:Sg 0x105e110222212e20ce2a20ffffff6f0ae723574007e00e3800006f08e211e23c0005f04e210ec3c21e004fd110ea3c2e2e8010e83c773111e0ee42162014e53c20ae20423c [a] h [c 99,Dy (Wu c r K)] [cu4 (fun n p t u=>Bo (Df [(0,1),(1,1),(2,1),(3,1)]) [.int .i64 0,.int .i64 0,.int .i64 0,.Ch] [(0,n),(1,p),(2,t),(3,u)])]).F
def JF:R:=(.mk:Sg 0x15120222212e21112101203 [a] h [Dy (Bu K),c 98,Dy (Wm c r K)]).F
def Vy(c:Ah)(r:Ah)(K:Nat)(tm:Ba)(a:EV)(h:Ab)(ds:List Nat):R:=
 f_ 1 a (.bool true) h fun h=>
 Fz ds h fun h=>Jk TT [.c a 4] h
def EA:R:=
 (fun(tm:Ba) (ds:List Nat)=>
 Sl 26 a h fun d h=>
 jT (.cells [(.bool false)] 4) h fun e h=>
 Hq d h fun f=>
 jI f fun g=>
 iP 2 g fun i=>
 Hq i h fun j=>
 Am (rH K j b h) fun n h=>
 X6 c TT 80 40 0 n ((((((((tm.put 2 (some d)).put 4 (some e)).put 8 (some f)).put 9 (some g)).put 10 (some i)).put 11 (some j)).put 12 (some b)).put 13 (some n)) h ds (fun h ds=>
 Vy c r K ((((((((tm.put 2 (some d)).put 4 (some e)).put 8 (some f)).put 9 (some g)).put 10 (some i)).put 11 (some j)).put 12 (some b)).put 13 (some n)) e h ds) (fun id h ds=>
 Bb (Nat.beq 0 id) (Vy c r K ((((((((tm.put 2 (some d)).put 4 (some e)).put 8 (some f)).put 9 (some g)).put 10 (some i)).put 11 (some j)).put 12 (some b)).put 13 (some n)) e h ds) (none)) (fun h ds=>
 Fz ds h fun h=>Jk TT [.c e 4] h)) ((Tr.nil.put 0 (some a)).put 1 (some b)) []
def Dh(c:Ah)(r:Ah)(K:Nat)(l:Nat)(base:Nat)(s:DX)(a:EV)(b:EV)(d:EV)(h:Ab):R:=
 il b d fun e=>
 hQ e
 (f_ 1 a (.bool false) h fun h=>
 Xh l false .done (some .ret) h)
 (Xh l true .ready none h)
def Xq:R:=
 Hq a h fun e=>
 fE 2 e h fun f=>
 Am (Lf K f d h) fun g h=>
 kS g fun i j=>
 kD 6 [(.int .i64 0),(.int .i64 0),(.int .i64 0),(.int .i64 0),(.int .i64 0),(.int .i64 0)] 47 i h fun n h=>
 Zy h fun base s=>
 O6 0 0 base a s fun s=>Hq a h fun o=>
 jw 0 3 7 base o s h fun s p=>
 h_ 1 5 16 base n s h fun s q=>
 Ld 6 63 s h (fun h=>(D5 K p q h)) fun t h s=>
 hM t
 (O6 8 255 base a s fun s=>Hq a h fun u=>
 jw 0 11 2047 base u s h fun s w=>
 h_ 2 13 4351 base n s h fun s x=>
 Ld 14 16383 s h (fun h=>(D5 K w x h)) fun y h s=>
 Dh c r K l base s b t y h)
 (Dh c r K l base s b t tU h)
def D_:R:=
 Fi l h fun h=>Xq c r K l a b d h
def Pj:Ru K (Ru r (Ru c R)):=
 Jg d fun e=>
 m3 ((tm.put 26 (some e)).put 12 (some e)) a b e h ds
def JG:R:=
 ir 1 a d fun e=>
 Hq e h fun f=>
 kD 1 [(.int .i64 0)] 3 d h fun g h=>
 Am (xA K f h) fun i h=>
 X6 c TT 113 27 0 i (((((((tm.put 14 (some d)).put 15 (some e)).put 16 (some f)).put 3 (some g)).put 4 (some f)).put 17 (some f)).put 18 (some i)) h ds (fun h ds=>
 Pj c r K m3 (((((((tm.put 14 (some d)).put 15 (some e)).put 16 (some f)).put 3 (some g)).put 4 (some f)).put 17 (some f)).put 18 (some i)) a b d h ds) (fun id h ds=>
 Bb (Nat.beq 2 id) (Pj c r K m3 (((((((tm.put 14 (some d)).put 15 (some e)).put 16 (some f)).put 3 (some g)).put 4 (some f)).put 17 (some f)).put 18 (some i)) a b d h ds) (Bb (Nat.beq 1 id) (Pj c r K m3 (((((((tm.put 14 (some d)).put 15 (some e)).put 16 (some f)).put 3 (some g)).put 4 (some f)).put 17 (some f)).put 18 (some i)) a b d h ds) (Bb (Nat.beq 0 id) (Fz ds h fun h=>some (.tuple [],h)) (none)))) (fun h ds=>
 tX tU h ds)
def Lx(c:Ah)(r:Ah)(K:Nat):Nat->B3
 | 0=>fun _ _ _ _ _ _=>none
 | m+1=>fun tm a b d h ds=>
  jU d b fun e=>
  hQ e
  (JG c r K (Lx c r K m) (tm.put 13 (some e)) a b d h ds)
  (tX tU h ds)
def JH:R:=
 (fun(tm:Ba) (ds:List Nat)=>
 Sl 153 a h fun d h=>
 Hq b h fun e=>
 jI e fun f=>
 iP 6 f fun g=>
 Hq g h fun i=>
 Hg i fun j=>
 Lx c r K K (((((((tm.put 2 (some d)).put 7 (some e)).put 8 (some f)).put 9 (some g)).put 10 (some i)).put 11 (some j)).put 12 (some (.int .i64 0))) i j (.int .i64 0) h ds) ((Tr.nil.put 0 (some a)).put 1 (some b)) []
def Yt:Ru K R:=(.mk:Sg 0x102001032820fe62330140de20de [a,b,d] h [Kk (fun e f d=>T5 c r e [f,d]),cl0 (Xh l false .done (some .ret)),cl0 (Xh l true .ready none)]).F
def JI:R:=
 Fi l h fun h=>Yt c r K l a b d h
def JJ:Ru r R:=(.mk:Sg 0x1c1202b211636e5321691c210121007e613212e036e06e236e500236e15e213 [a] h [Dy (Dw K),c 155,Dy k1] [cu1 (fun g=>iD 68 g (some (.int .i64 1)) none none)] [List.replicate 4 (.int .i64 0)++List.replicate 64 (.int .u8 0)]).F
def Ki(c:Ah)(r:Ah)(K:Nat)(k1:A1)(base:Nat)(s:DX)(a:EV)(b:EV)(d:EV)(h:Ab):R:=
 hG b d fun e=>
 hQ e
 (JJ c r K k1 a h)
 (some (.tuple [],h))
def Nr:R:=
 hG b d fun e=>
 iQ e
 (jw 1 18 262143 base a s h fun s f=>
 ir 68 f (.int .i64 0) fun g=>
 h_ 0 21 2097151 base g s h fun s i=>
 jw 0 25 29392895 base a s h fun s j=>
 Ld 26 62947327 s h (fun h=>(Rj K j h)) fun n h s=>
 kn i n fun o=>
 Ki c r K k1 base s a e o h)
 (Ki c r K k1 base s a e tU h)
def Ka(c:Ah)(r:Ah)(K:Nat):Nat->A1
 | 0=>fun _ _=>none
 | m+1=>fun a h=>
  Zy h fun base s=>
  jw 0 3 7 base a s h fun s b=>
  Ld 4 15 s h (fun h=>(Th K b h)) fun d h s=>
  jj d fun e=>
  iQ e
  (jw 1 10 1023 base a s h fun s f=>
  Hg f fun g=>
  jV g (.int .i64 0) fun i=>
  Nr c r K (Ka c r K m) base s a e i h)
  (Nr c r K (Ka c r K m) base s a e tU h)
def A1i:R:=
 Ka c r K K a h
def JK:Ru K R:=(.mk:Sg 0x1002 [] h).F
def JL:Ru K R:=
 Jg d fun e=>
 k3 a b e h
def JM:R:=
 nj 1 a d h fun e=>
 Am (Gu K e h) fun f h=>
 JL K k3 a b d h
def Ju(K:Nat):Nat->A3
 | 0=>fun _ _ _ _=>none
 | m+1=>fun a b d h=>
  cE I8 .lss 3 d b
  (JM K (Ju K m) a b d h)
  (JK K h)
def JN:R:=(.mk:Sg 0x10023300213e503321643c20ae233 [a] h [Kk (Ju K K)]).F
def Rz:R:=(.mk:Sg 0x131000ee02328243 [a] h [Dy (JN K)]).F
def Vo(c:Ah)(r:Ah)(K:Nat)(tm:Ba)(a:EV)(h:Ab)(ds:List Nat):R:=
 f_ 1 a (.bool true) h fun h=>
 Fz ds h fun h=>Jk TT [.c a 4] h
def Vr:R:=
 iP 3 a fun d=>
 Hq d h fun e=>
 Am (X5 K e h) fun f h=>
 X6 c TT 131 36 0 f (((tm.put 26 (some d)).put 27 (some e)).put 28 (some f)) h ds (fun h ds=>
 Vo c r K (((tm.put 26 (some d)).put 27 (some e)).put 28 (some f)) b h ds) (fun id h ds=>
 Bb (Nat.beq 0 id) (Vo c r K (((tm.put 26 (some d)).put 27 (some e)).put 28 (some f)) b h ds) (none)) (fun h ds=>
 Fz ds h fun h=>Jk TT [.c b 4] h)
def Jj:R:=
 il d e fun f=>
 hQ f
 (f_ 1 b (.bool false) h fun h=>
 Fz ds h fun h=>Jk TT [.c b 4] h)
 (Vr c r K (tm.put 25 (some f)) a b h ds)
def L9:R:=
 il d e fun f=>
 hM f
 (iP 2 a fun g=>
 Hq g h fun i=>
 Am (Sh K i (.int .i64 281474976710655) h) fun j h=>
 jj j fun n=>
 Jj c r K ((((((tm.put 19 (some f)).put 20 (some f)).put 21 (some g)).put 22 (some i)).put 23 (some j)).put 24 (some n)) a b f n h ds)
 (Jj c r K ((((((tm.put 19 (some f)).put 20 (some f)).put 21 (some tU)).put 22 (some tU)).put 23 (some tU)).put 24 (some tU)) a b f tU h ds)
def Pp:R:=
 il d e fun f=>
 hM f
 (iP 1 a fun g=>
 Hq g h fun i=>
 Am (Sh K i (.int .i64 4294967295) h) fun j h=>
 jj j fun n=>
 L9 c r K ((((((tm.put 13 (some f)).put 14 (some f)).put 15 (some g)).put 16 (some i)).put 17 (some j)).put 18 (some n)) a b f n h ds)
 (L9 c r K ((((((tm.put 13 (some f)).put 14 (some f)).put 15 (some tU)).put 16 (some tU)).put 17 (some tU)).put 18 (some tU)) a b f tU h ds)
def BM:R:=
 (fun(tm:Ba) (ds:List Nat)=>
 Sl 160 a h fun b h=>
 jT (.cells [(.bool false)] 4) h fun d h=>
 iP 3 b fun e=>
 Hq e h fun f=>
 J5 iW (bin TT .eql 43) f .Ch fun g=>
 hM g
 (iP 0 b fun i=>
 Hq i h fun j=>
 Am (Sh K j (.int .i64 281474976710655) h) fun n h=>
 jj n fun o=>
 Pp c r K ((((((((((tm.put 1 (some b)).put 2 (some d)).put 5 (some e)).put 6 (some f)).put 7 (some g)).put 8 (some g)).put 9 (some i)).put 10 (some j)).put 11 (some n)).put 12 (some o)) b d g o h ds)
 (Pp c r K ((((((((((tm.put 1 (some b)).put 2 (some d)).put 5 (some e)).put 6 (some f)).put 7 (some g)).put 8 (some g)).put 9 (some tU)).put 10 (some tU)).put 11 (some tU)).put 12 (some tU)) b d g tU h ds)) (Tr.nil.put 0 (some a)) []
def Xs:Ru K (Ru r (Ru c R)):=(.mk:Sg 0x1010000405168233601e324444 [a,b,d] h [cl0 (Xh l false .done (some .ret)),cl0 (Xh l true .ready none)]).F
def BJ:R:=
 kD 6 [(.int .i64 0),(.int .i64 0),(.int .i64 0),(.int .i64 0),(.int .i64 0),(.int .i64 0)] 47 d h fun e h=>
 Fi l h fun h=>Xs c r K l a b e h
def Ro:Ru K (Ru r (Ru c R)):=(.mk:Sg 0x1002 [] h).F
def K5:R:=(.mk:Sg 0x10100ee0230ee0215e701e2101 [a] h [c 163,cl0 (Ro c r K)]).F
def Lk:R:=(.mk:Sg 0x13100002328430be [a,b,d] h [Dy (K5 c r K)]).F
def Rc:R:=(.mk:Sg 0x1202831024a3102a25e8fce3c2a2825e6fbe3622014f9e31021642115e2fae3 [a,b] h [c 162,Kk (Lk c r K)]).F
def Uz:R:=(.mk:Sg 0x17622006e023286521103e0230023301e5220126521c [a,b] h [Eh (E4 K),Eh (D5 K),Eh (Rc c r K)]).F
def JO:Ru K R:=
 some (a,h)
def JP:Ru K R:=
 Jg f fun g=>
 k5 a b d e g h
def JQ:R:=(.mk:Sg 0x1a98265104623012f2e531be64116e [a,b,d,e,f] h [Kk (Xn K),cl5 (JP K k5)]).F
def Nm(K:Nat):Nat->A5
 | 0=>fun _ _ _ _ _ _=>none
 | m+1=>fun a b d e f h=>
  cE I8 .lss 3 f e
  (JQ K (Nm K m) a b d e f h)
  (JO K b h)
def xF:R:=
 Hg d fun e=>
 Nm K K a b d e (.int .i64 0) h
def Uu:Ru K R:=
 some (a,h)
def JR:Ru K R:=
 Jg f fun g=>
 k5 a b d e g h
def JS:R:=
 nj 1 d f h fun g=>
 Am (Gx K a g h) fun i h=>
 JR K k5 a b d e f h
def Ih(K:Nat):Nat->A5
 | 0=>fun _ _ _ _ _ _=>none
 | m+1=>fun a b d e f h=>
  cE I8 .lss 3 f e
  (JS K (Ih K m) a b d e f h)
  (Uu K b h)
def Um:R:=
 Hg b fun d=>
 Ih K K a b b d (.int .i64 0) h
def JT:Ru K R:=
 Jg e fun f=>
 k4 a b d f h
def JU:R:=(.mk:Sg 0x18765430a92743027221311102e00215e701e20ce2101 [a,b,d,e] h [Dy (Ge K),Dy (fun g=>Bz [.int .i64 0] 3 1 1 [(0,g)]),Eh (Eo 3 1),Tc (JT K k4)]).F
def Ia(K:Nat):Nat->A4
 | 0=>fun _ _ _ _ _=>none
 | m+1=>fun a b d e h=>
  cE I8 .lss 3 e d
  (JU K (Ia K m) a b d e h)
  (Um K a b h)
def Tf:R:=(.mk:Sg 0x1002b034102101 [a] h [Dy (Fe K),Tc (Ia K K)]).F
abbrev Vp(K:Nat)(c:Ah):Ah:=(w1 70 (Fe K) (w2 97 (Gx K) (w1 175 (Ge K) c)))
def CN:Ru K R:=
 some (a,h)
def S8:R:=(.mk:Sg 0x131200123212e20ce522112101203 [a,b] h [Dy (Cs K),Eh (Pb K),Dy (CN K)] [] [] [(.int .i64 (-1))]).F
def N7:R:=
 hG e f fun g=>
 hQ g
 (some (d,h))
 (S8 K a b h)
def Rq:R:=(.mk:Sg 0x12026a9510259dc51020fe7220190304e2a01525e012162114e722319e51c214422319e21c [a,b] h [Eh (D5 K),cl5 (N7 K)] [] [] [(.int .i64 (-1))]).F
def JV:Ru K R:=(.mk:Sg 0x1002321643c20ae233 [a] h).F
def Hz:R:=(.mk:Sg 0x1511003e0232820fe432010ee02328243 [a,b] h [Eh (Gy K),Dy (JV K)]).F
def JW:Ru K R:=
 some (a,h)
def JX:Ru K R:=
 Jg e fun f=>
 k4 a b d f h
def JY:R:=(.mk:Sg 0x1ba92400273303e243503e21107e7d01fe21007e53116e [a,b,d,e] h [Tc (JX K k4)] [cu1 (fun f=>So .i64 f),cu1 (fun i=>So .u64 i)]).F
def Ks(K:Nat):Nat->A4
 | 0=>fun _ _ _ _ _=>none
 | m+1=>fun a b d e h=>
  cE I8 .lss 3 e d
  (JY K (Ks K m) a b d e h)
  (JW K a h)
def JZ:R:=(.mk:Sg 0x1002300410213e32201 [a,b] h [Eh (J8 K),Tc (Ks K K)]).F
def E1:R:=(.mk:Sg 0x154220002411172820fe3101 [a,b] h [Dy (Yr K),Dy (fun a=>J8 K a (.int .i64 (-1))),Eh (JZ K)]).F
def Ma:R:=
 Am (J8 K a b h) fun d h=>
 some (d,h)
def Hj:Ru K R:=
 hG a b fun d=>
 some (d,h)
def J0:R:=(.mk:Sg 0x1202210242102101344c2a430be [a,b,d] h [Dy (fun f=>N2 K f (.int .i64 0) (.int .i64 281474976710655)),Eh (Hj K)]).F
def Nd:R:=(.mk:Sg 0x120233102453102101334d2a430be [a,b,d] h [Dy (fun f=>N2 K f (.int .i64 1) (.int .i64 4294967295)),Kk (J0 K)]).F
def Sc:R:=(.mk:Sg 0x120233102453102101324d2a430be [a,b,d] h [Dy (fun f=>N2 K f (.int .i64 0) (.int .i64 65535)),Kk (Nd K)]).F
def J6:R:=(.mk:Sg 0x120243202463202111414d2a80102301204299e9 [a] h [Kk (N2 K),Dy (fun f=>N2 K f (.int .i64 0) (.int .i64 65535)),Kk (Sc K)]).F
def J':Ru K R:=
 Jk TT [.v a,.v b,.v d] h
def J_:R:=(.mk:Sg 0x123633050000000304ea512e20ce5722120ce34221232112101 [a] h [Dy (fun a=>Ke K a (.int .i64 (-1))),Eh (Ke K),Eh (Pb K),Kk (J' K)]).F
def X9:R:=(.mk:Sg 0x1311005e00000000304eb0023701e2101 [a] h [Dy (Im K),Dy (J_ K)]).F
def KA:Ru r (Ru c R):=(.mk:Sg 0x1000e2ab323fff4f00e7242107e20ae94003fb32e10e24211e03f97232e5272e8b01e414e232e5212e6b4014e725704ba73311e0ee3233e6271e717e1e8e05e618e232011e57325304b673311e0ee2d5e0206e232007e434324 [a,b] h [Eh (p' TT 227 246 false),Eh (O8 K),Kk (p_ TT 227)] [cu2 (fun d e=>Bo (Df [(0,1),(1,1)]) [.int .i64 0,.int .i64 0] [(0,d),(1,e)]),cu2 (fun y aa=>Bo (Df [(0,64),(64,1)]) (List.replicate 64 (.int .u8 0)++[.int .i64 0]) [(0,y),(1,aa)])] [[.int .i64 0,.int .i64 0],List.replicate 64 (.int .u8 0)++[.int .i64 0]]).F
def KB:R:=(.mk:Sg 0x189210000e2212e2456403ff3fa7232e52f2e9b5414e432e7310e302e5210e373011e0ee312e9 [a,b] h [c 209,Eh (KA c r K)]).F
def KC:R:=(.mk:Sg 0x10026220142116e203 [a,b,d] h [Eh (Hn K)]).F
def O2:R:=(.mk:Sg 0x165431003e0232820fe32201 [a,b,d] h [Eh (Gy K),Kk (KC K)]).F
def KD:R:=(.mk:Sg 0x122210142116e203 [a,b] h [Dy (Eg K)]).F
def J7:R:=(.mk:Sg 0x154210c0232820fe32201 [a,b] h [Eh (Gy K),Eh (KD K)]).F
def Xz:Ru K (Ru r R):=(.mk:Sg 0x12242201203 [a,b] h [c 189]).F
def H3:R:=(.mk:Sg 0x14321022522013f9e3a0053701e0023286509e [a,b,d,e,f] h [c 56,Eh (Xz c r K)]).F
def K6:R:=(.mk:Sg 0x1202543500258765002724e22431c03e2d6509e [a,b,d,e,f] h [cl5 (H3 c r K)]).F
def KE:R:=(.mk:Sg 0x12025435102365451043201d2d01324e [a,b,d] h [Eh (D5 K),cl5 (K6 c r K)] [] [] [(.int .i64 (-1))]).F
def J4:Ru K R:=
 hG a b fun d=>
 some (d,h)
def Nh:R:=(.mk:Sg 0x1202210242102101318e5c2a430be [a,b,d] h [Dy (Pk K),Eh (J4 K)]).F
def Sx:R:=(.mk:Sg 0x120233102453102101354d2a430be [a,b,d] h [Dy (fun f=>Px K f (.int .i64 0) (.int .i64 65535)),Kk (Nh K)]).F
def R6:R:=(.mk:Sg 0x120243202463202111434d2a2101214275e9 [a] h [Dy (fun d=>Px K d (.int .i64 0) (.int .i64 281474976710655)),Dy (fun f=>Px K f (.int .i64 0) (.int .i64 255)),Kk (Sx K)]).F
def wB:Ru K R:=
 Jg e fun f=>
 k4 a b d f h
def wA:R:=(.mk:Sg 0x1ba284200183603e321660c24211210141007e203 [a,b,d,e] h [Dy (fun g=>Bz [.int .u8 0] 5 1 1 [(0,g)]),Eh (Eo 5 1),Tc (wB K k4)] [cu1 (fun b=>So .u8 b)] [] [(.int .u64 8)]).F
def I5(K:Nat):Nat->A4
 | 0=>fun _ _ _ _ _=>none
 | m+1=>fun a b d e h=>
  cE I8 .lss 3 e d
  (wA K (I5 K m) a b d e h)
  (some (.tuple [],h))
def Z6:R:=
 I5 K K a d b (.int .i64 0) h
def O4:R:=(.mk:Sg 0x1543300000e5021631ca286509e [a,b,d,e,f] h [Kk (Z6 K)]).F
def Em:R:=(.mk:Sg 0x1202654520248765206222e611101e2d20fe3101 [a,b,d] h [Dy (Yr K),Dy (Ws K),cl5 (O4 K)]).F
def Zt:R:=(.mk:Sg 0x122210142116e203 [a,b] h [Dy (Gl K)]).F
def Py:R:=(.mk:Sg 0x143210222212e32201 [a,b] h [Eh (Hz K),Eh (Zt K)]).F
def tJ:R:=(.mk:Sg 0x197e08e1104e208e1ee602e13121001e32102e54210d32100e44230b321c342109321a2421073218142105321604232118242dbe90007e209e1606e2101334097e05e292e9 [a] h [Dy (Ek K),Eh (fun j n=>Em K j (.int .i64 6) n),Kk (Em K),Dy (qZ K)] [cu0 (Bo (Df [(0,1),(1,1)]) [.Aq,.bool false] [])] [List.replicate 44 (.int .u8 0),[.int .i64 0,.int .i64 0,.int .i64 0,.int .i64 0,.int .i64 0,.int .i64 0]]).F
def KF:Ru K (Ru r (Ru c R)):=(.mk:Sg 0x1002 [] h).F
def KG:R:=(.mk:Sg 0x10000fe02328320be [a,b] h [cl0 (KF c r K)]).F
def Oa:R:=(.mk:Sg 0x12022202322000722e92a00224e21112101203 [a,b] h [Dy (Cs K),Dy (Im K),Eh (KG c r K)]).F
def KH:Ru K (Ru r (Ru c R)):=
 Jg e fun f=>
 k4 a b d f h
def Yk:R:=
 il f g fun i=>
 hQ i
 (Oa c r K a b h)
 (KH c r K k4 a b d e h)
def KI:R:=(.mk:Sg 0x1202874360023985460000615e802e01e2d40fe [a,b,d,e,f,g] h [cl6 (Yk c r K k4)]).F
def KJ:R:=(.mk:Sg 0x18723656102220ee0215e701e20ce2101 [a,b,d,e] h [c 34,cl6 (KI c r K k4)]).F
def W7:R:=(.mk:Sg 0x187654200023623601e21112101203 [a,b,d,e] h [Dy (Cs K),Dy (Im K),Tc (KJ c r K k4)]).F
def J9(c:Ah)(r:Ah)(K:Nat):Nat->A4
 | 0=>fun _ _ _ _ _=>none
 | m+1=>fun a b d e h=>
  cE I8 .lss 3 e d
  (W7 c r K (J9 c r K m) a b d e h)
  (Oa c r K a b h)
def KK:R:=(.mk:Sg 0x1002764202301fe21112101203 [a,b] h [Dy (Ce K),Dy (Dn K),Tc (J9 c r K K)]).F
def KL:R:=(.mk:Sg 0x14320003e023285409e [a,b,d,e] h [Eh (KK c r K)]).F
def KM:R:=(.mk:Sg 0x12024342026874202722e2111210130307e2d00320e [a,b] h [Dy (Ce K),Dy (Dn K),Tc (KL c r K)]).F
def Qa:Ru K R:=
 hG a b fun d=>
 some (d,h)
def Pn:R:=(.mk:Sg 0x12022102521020053011021ee42405e2a540be [a,b,d,e] h [Kk (Ln K),Eh (Qa K)]).F
def Mz:R:=(.mk:Sg 0x120247430268b43020093211021ee21114650be2a2101265209e9 [a,b,d] h [Dy (M0 K),Dy (Dn K),Kk (Ln K),Tc (Pn K)]).F
def KN:R:=(.mk:Sg 0x12010ea1204e3a32e620ce6220142116e203 [a,b,d,e] h [Eh (Hm K)]).F
def Ts:R:=(.mk:Sg 0x136544103010e41204e2432e60007e00e212e43201010e05e [a,b,d] h [Eh (Hz K),Tc (KN K)] [cu0 (Bo (Mt 1) (List.replicate 64 (.int .u8 0)) [])] [List.replicate 64 (.int .u8 0)]).F
def KO:Ru r R:=(.mk:Sg 0x122522112101203 [a,b] h [Dy (Bu K),c 189]).F
def KP:R:=(.mk:Sg 0x17623000233023701e6222121112101203 [a,b] h [Dy (Bu K),Dy (D7 K),Eh (J7 K),Eh (KO c r K)]).F
def KQ:Ru K (Ru r (Ru c R)):=
 Jg f fun g=>
 k5 a b d e g h
def KR:R:=
 nr d
 (some (d,h))
 (KQ c r K k5 a b e f g h)
def KS:R:=(.mk:Sg 0x18765436008760ae043600a28980be [a,b,d,e,f,g,i,j] h [cl6 (KR c r K k5)]).F
def KT:R:=(.mk:Sg 0x120202e01e00e3dc8202303e02e01e400ed82002e425e00e2a00215e702e20ce2933171e77432e5406b21001e47573011e0ee210e032e06e232e56432e15e [a,b,d,e,f] h [Dy (Bu K),c 187,cl8 (KS c r K k5)] [] [List.replicate 64 (.int .u8 0)]).F
def Mb(c:Ah)(r:Ah)(K:Nat):Nat->A5
 | 0=>fun _ _ _ _ _ _=>none
 | m+1=>fun a b d e f h=>
  cE I8 .lss 3 f e
  (KT c r K (Mb c r K m) a b d e f h)
  (KP c r K a b h)
def KU:R:=
 Hg d fun e=>
 Mb c r K K a b d e (.int .i64 0) h
def KV:R:=(.mk:Sg 0x1543310222212e32201 [a,b,d] h [c 186,Kk (KU c r K)]).F
def KW:R:=(.mk:Sg 0x13b9320222212e20ce8233171e77445405b21001e47373011e0ee392e9 [a,b,d] h [Dy (Gj K),c 184,Kk (KV c r K)]).F
def AY:R:=(.mk:Sg 0x122210142116e203 [a,b] h [Dy (G0 K)]).F
def Re:R:=(.mk:Sg 0x143210222212e32201 [a,b] h [Eh (Hz K),Eh (AY K)]).F
def KX:Ru r R:=(.mk:Sg 0x122522112101203 [a,b] h [Dy (Bu K),c 133]).F
def KY:R:=(.mk:Sg 0x17623000230023701e6222121112101203 [a,b] h [Dy (Bu K),Dy (D7 K),Eh (J7 K),Eh (KX c r K)]).F
end
variable{d:Nat}(H:Bv disp)
include H
theorem Aof(hd:1<=d):S1 disp K d 77 I4:=fun _=>rd rfl rfl H (V1 (Dc H) hd<|V1 (Zl H) hd<|rfl)
theorem Atz(hd:3<=d):R2 disp K d 85 (Xy K):=fun _ _=>ll H hd (fun d hd=>V2 (HN H) hd<|rfl) 25 (e5 (Nc K) 0 1 7 8 9)
theorem Ap3(hd:1<=d):S2 disp K d 138 JB:=fun _ _=>rd rfl rfl H (V1 (Z0 H) hd<|rfl)
theorem KZ(hd:2<=d):R2 disp K d 183 (Pb K):=fun _ _=>rl H hd fun d hd=>V1 (Ss H) hd<|rfl
theorem Wv(hd:2<=d):R2 disp K d 229 (D9 K):=fun _ _=>rl H hd fun d hd=>V1 (Ho H) hd<|rfl
theorem K_(hd:2<=d):R1 disp K d 17 (X5 K):=fun _=>rl H hd fun d hd=>V1 (Te H) hd<|rfl
theorem Μ(hd:1<=d):S1 disp K d 33 EJ:=fun _=>ld rfl rfl H (V1 (Dc H) hd<|V1 (E7 H) hd<|V2 (HM H) hd<|rfl) 51 (fun c r=>e4 (Ii c r K) 0 3 11 12)
theorem Auk(hd:4<=d):R4 disp K d 54 (Sv K):=fun _ _ _ _=>rl H hd fun d hd=>V1 (HP H) hd<|V3 (Ars H) hd<|rfl
theorem Atp(hd:2<=d):S2 disp K d 56 JE:=fun _ _=>rd rfl rfl H (V2 (F9 H) hd<|V2 (T9 H) hd<|rfl)
theorem Ajm(hd:1<=d):S1 disp K d 61 JF:=fun _=>ld rfl rfl H (V1 (Eb H) hd<|V1 (Dc H) hd<|V1 (E7 H) hd<|rfl) 207 (fun c r=>e3 (Fy c r K) 0 62 63)
theorem Β(hd:3<=d):S2 disp K d 80 EA:=fun _ _=>rd rfl rfl H (V2 (HQ H) hd<|rfl)
theorem ω(hd:3<=d){l:Nat}(tm:Ba)(h:Ab)(A:EV){st:LoopState}{p:Option Code}(G:h.get l=some (.loop st p 80 40 tm [14] (Fk TT 80 0).2.2.1 (Fk TT 80 0).2.2.2 d0)):
 Ag TT disp K (d+1) true l [A] h=D_ (Ag TT disp K d false) (Ag TT disp K d true) K l (tmp tm 2) (tmp tm 4) A h:=rr rfl rfl (V2 (Lq H) hd<|V2 (Et H) hd<|rfl) G rfl (by kernel_rfl)
theorem Ar5(hd:1<=d):S2 disp K d 113 JH:=fun _ _=>ld rfl rfl H (V1 (Arq H) hd<|rfl) 11 (fun c r m A tm h ds=>Lx c r K m tm (A 10) (A 11) (A 12) h ds)
theorem Ami(hd:1<=d){l:Nat}(tm:Ba)(h:Ab)(G:EV)(A:EV){st:LoopState}{p:Option Code}(J:h.get l=some (.loop st p 113 27 tm [19,20] (Fk TT 113 0).2.2.1 (Fk TT 113 0).2.2.2 d0)):
 Ag TT disp K (d+1) true l [G,A] h=JI (Ag TT disp K d false) (Ag TT disp K d true) K l (tmp tm 2) (tmp tm 3) A h:=rr rfl rfl (rfl) J rfl (by kernel_rfl)
theorem Atm(hd:1<=d):S1 disp K d 129 A1i:=fun _=>ld rfl rfl H (V1 (R8 H) hd<|V1 (Anw H) hd<|V1 (Ap2 H) hd<|rfl) 2 (fun c r=>e1 (Ka c r K) 0)
theorem Anu(hd:2<=d):R1 disp K d 130 (Rz K):=fun _=>ll H hd (fun d hd=>V1 (Xk H) hd<|rfl) 103 (e3 (Ju K) 19 20 21)
theorem YQ(hd:2<=d):S1 disp K d 131 BM:=fun _=>rd rfl rfl H (V2 (Azl H) hd<|V1 (K_ H) hd<|rfl)
theorem YL(hd:2<=d){l:Nat}(tm:Ba)(h:Ab)(G:EV)(A:EV){st:LoopState}{p:Option Code}(J:h.get l=some (.loop st p 131 36 tm [29,30] (Fk TT 131 0).2.2.1 (Fk TT 131 0).2.2.2 d0)):
 Ag TT disp K (d+1) true l [G,A] h=BJ (Ag TT disp K d false) (Ag TT disp K d true) K l (tmp tm 1) (tmp tm 2) A h:=rr rfl rfl (rfl) J rfl (by kernel_rfl)
theorem Acx(hd:3<=d):S2 disp K d 134 Uz:=fun _ _=>rd rfl rfl H (V2 (F9 H) hd<|V2 (Et H) hd<|rfl)
theorem Aua(hd:2<=d):R3 disp K d 143 (xF K):=fun _ _ _=>ll H hd (fun d hd=>V3 (At2 H) hd<|rfl) 25 (e5 (Nm K) 0 1 9 10 11)
omit H in
theorem Aoa(c G r:Ah)(K:Nat)(m:Nat):kX false (Vp K c) G r K 146 103 [(2,fun A tm h ds=>Uu K (A 3) h)] m=(fun m A tm h ds=>Ih K m (A 0) (A 3) (A 24) (A 25) (A 26) h) m:=
 Qf (E:=fun m A tm h ds=>Ih K m (A 0) (A 3) (A 24) (A 25) (A 26) h) rfl (fun m=>kI fun A tm h ds=>by kernel_rfl) m
omit H in
theorem An5(c G r:Ah)(K:Nat)(m:Nat):kX false (Vp K c) G r K 146 51 [(0,fun A tm h ds=>Um K (A 0) (A 3) h)] m=(fun m A tm h ds=>Ia K m (A 0) (A 3) (A 9) (A 10) h) m:=
 Qf (E:=fun m A tm h ds=>Ia K m (A 0) (A 3) (A 9) (A 10) h) rfl (fun m=>kI fun A tm h ds=>by kernel_rfl) m
theorem Apk(hd:2<=d):R1 disp K d 146 (Tf K):=by
 obtain⟨d,rfl⟩:∃e,d=e+1:=⟨d-1,by omega⟩;have hd:=Nat.le_of_succ_le_succ hd;exact fun _=>rm (q:=false) (D:=Vp K (Ag TT disp K d false)) (by kernel_rfl) rfl rfl H (V1 (Kv H) hd<|V2 (T9 H) hd<|V1 (Ss H) hd<|rfl) (cut [true,true,true,false,true,false] (Aoa (Ag TT disp K d false) (Ag TT disp K d false) (Ag TT disp K d true) K K) (by kernel_rfl) (by kernel_rfl) (cut [true,true,false,true,false] (An5 (Ag TT disp K d false) (Ag TT disp K d false) (Ag TT disp K d true) K K) (by kernel_rfl) (by kernel_rfl) rfl))
theorem Anz(hd:4<=d):R2 disp K d 158 (Rq K):=fun _ _=>rl H hd fun d hd=>V2 (Et H) hd<|V1 (Hu H) hd<|V2 (KZ H) hd<|rfl
theorem Mm(hd:2<=d):R2 disp K d 165 (Hz K):=fun _ _=>rl H hd fun d hd=>V2 (Kr H) hd<|rfl
theorem N0(hd:2<=d):R2 disp K d 169 (E1 K):=fun _ _=>ll H hd (fun d hd=>V1 (IW H) hd<|V2 (Zz H) hd<|rfl) 103 (e4 (Ks K) 5 15 16 17)
theorem Yb(hd:2<=d):R2 disp K d 170 (Ma K):=fun _ _=>rl H hd fun d hd=>V2 (Zz H) hd<|rfl
theorem Q3(hd:2<=d):R1 disp K d 171 (J6 K):=fun _=>rl H hd fun d hd=>V3 (Axg H) hd<|rfl
theorem Atn(hd:4<=d):R1 disp K d 176 (X9 K):=fun _=>rl H hd fun d hd=>V1 (GK H) hd<|V2 (Zj H) hd<|V2 (KZ H) hd<|rfl
theorem Apf(hd:1<=d):S2 disp K d 180 KB:=fun _ _=>rd rfl rfl H (V2 (IY H) hd<|rfl)
theorem Apm(hd:2<=d):R3 disp K d 181 (O2 K):=fun _ _ _=>rl H hd fun d hd=>V2 (Kr H) hd<|V2 (Y9 H) hd<|rfl
theorem Zd(hd:2<=d):R2 disp K d 188 (J7 K):=fun _ _=>rl H hd fun d hd=>V2 (Kr H) hd<|V1 (H4 H) hd<|rfl
theorem Akm(hd:3<=d):S3 disp K d 193 KE:=fun _ _ _=>rd rfl rfl H (V2 (Et H) hd<|rfl)
theorem An8(hd:3<=d):R1 disp K d 199 (R6 K):=fun _=>rl H hd fun d hd=>V3 (IZ H) hd<|V1 (Al7 H) hd<|rfl
theorem N8(hd:2<=d):R3 disp K d 200 (Em K):=fun _ _ _=>ll H hd (fun d hd=>V1 (IW H) hd<|V1 (Azk H) hd<|rfl) 11 (e4 (I5 K) 0 2 18 19)
theorem Alv(hd:3<=d):R2 disp K d 215 (Py K):=fun _ _=>rl H hd fun d hd=>V2 (Mm H) hd<|V1 (Wx H) hd<|rfl
theorem A27(hd:3<=d):R1 disp K d 226 (tJ K):=fun _=>rl H hd fun d hd=>V1 (Fv H) hd<|V3 (N8 H) hd<|V1 (I2 H) hd<|rfl
theorem Auf(hd:3<=d):S2 disp K d 20 KM:=fun _ _=>ld rfl rfl H (V1 (Dc H) hd<|V1 (E7 H) hd<|V1 (Hu H) hd<|V1 (GK H) hd<|rfl) 51 (fun c r=>e4 (J9 c r K) 0 1 25 26)
theorem Li(hd:4<=d):R3 disp K d 137 (Mz K):=fun _ _ _=>rl H hd fun d hd=>V1 (Un H) hd<|V1 (E7 H) hd<|V3 (GJ H) hd<|rfl
theorem Aqa(hd:3<=d):R3 disp K d 139 (Ts K):=fun _ _ _=>rl H hd fun d hd=>V2 (Mm H) hd<|V2 (Y7 H) hd<|rfl
theorem Arx(hd:2<=d):S3 disp K d 159 KW:=fun _ _ _=>ld rfl rfl H (V1 (Wj H) hd<|V1 (Eb H) hd<|V1 (Mo H) hd<|V2 (Zd H) hd<|rfl) 207 (fun c r=>e5 (Mb c r K) 0 2 34 35 36)
theorem An3(hd:3<=d):R2 disp K d 160 (Re K):=fun _ _=>rl H hd fun d hd=>V2 (Mm H) hd<|V1 (Xx H) hd<|rfl
theorem Apn(hd:2<=d):S2 disp K d 186 KY:=fun _ _=>rd rfl rfl H (V1 (Eb H) hd<|V1 (Mo H) hd<|V2 (Zd H) hd<|rfl)
end
end
section
noncomputable section
section
variable (c r:Ah)(K l:Nat)(k0:A0)(k1:A1)(k2:A2)(k3:A3)(k4:A4)(k5:A5)(k6:A6)(k7:A7)(k8:A8)(k9:A9)(oM:mm)(oN:mq)(oO:ng)(m0:B0)(m1:B1)(m2:B2)(m3:B3)(m4:B4)(m5:B5)(m6:B6)(m7:B7)(m8:B8)(m9:B9)(oP:m_)(oQ:nf)(oR:nh)(base:Nat)(s:DX)(tm:Ba)(a b d e f g i j n o p q t u w x y z aa ab ad ae af ag ai aj an ao ap aq au aw ax ay az ba bb bd be bf bg bi bj bn bo bp bq bt bu bw bx bz da db dd de df dg di dj dn dp dq dt du dw dx dy dz ea eb ed ee ef eg ei ej en eo ep eq et eu ew ex ey ez fa fb fd fe ff fg fi fj fn fo fp fq ft fu fw fx fy fz ga gb gd ge gf gg gi gj gn go gp gq gt gu gw gx gy gz ia ib ie ig ii ij io ip iq it iu iw ix iy iz ja jb:EV)(h:Ab)(ds:List Nat)
def DY:Ru r R:=
 (fun(tm:Ba) (ds:List Nat)=>
 Sl 53 a h fun e h=>
 Hq b h fun f=>
 Am (X5 K f h) fun g h=>
 X6 c TT 144 31 0 g (((tm.put 3 (some e)).put 6 (some f)).put 7 (some g)) h ds (fun h ds=>
 Fz ds h fun h=>some (.tuple [],h)) (fun id h ds=>
 Bb (Nat.beq 0 id) (Fz ds h fun h=>some (.tuple [],h)) (none)) (fun h ds=>
 Fz ds h fun h=>some (.tuple [],h))) (((Tr.nil.put 0 (some a)).put 1 (some b)).put 2 (some d)) []
def Jd:Ru K (Ru r (Ru c R)):=
 hG a b fun d=>
 hQ d
 (Xh l false .done (some .ret) h)
 (Xh l true .ready none h)
def L5:R:=(.mk:Sg 0x12022102521020fe5220130de00e2a540be [a,b,d,e] h [Eh (fun g b=>T5 c r g [b]),Eh (Jd c r K l)]).F
def Lw:R:=(.mk:Sg 0x12043240025434006509ea4a [a,b,d,e,f] h [Tc (L5 c r K l)]).F
def Qb:R:=(.mk:Sg 0x12076435002a9765002324e30de52402e7d [a,b,d,e,f,g] h [cl5 (Lw c r K l)]).F
def DW:R:=(.mk:Sg 0x1202765460025a9876002324e50de71403e2a10224e504 [a,b,d,e] h [cl6 (Qb c r K l)]).F
def DV:R:=
 kD 6 [(.int .i64 0),(.int .i64 0),(.int .i64 0),(.int .i64 0),(.int .i64 0),(.int .i64 0)] 47 e h fun f h=>
 Fi l h fun h=>DW c r K l a b d f h
def Q7:R:=(.mk:Sg 0x123200e20ce2320f1e87732e5707b20de231e6b42115e273011e0ee [a,b,d] h [Eh (D9 K)]).F
def Mn(K:Nat)(base:Nat)(s:DX)(a:EV)(b:EV)(d:EV)(e:EV)(f:EV)(h:Ab):R:=
 hG e f fun g=>
 hQ g
 (some (.tuple [(.int .i64 0),(.int .i64 33)],h))
 (Q7 K a b d h)
def Zr:R:=
 Zy h fun base s=>
 jw 0 3 7 base a s h fun s e=>
 ir 1 e b fun f=>
 O6 6 63 base f s fun s=>Hq f h fun g=>
 Ld 7 127 s h (fun h=>(Eg K g h)) fun i h s=>
 nv i (.int .i64 0) fun j=>
 iQ j
 (Ld 11 2047 s h (fun h=>(P6 K a h)) fun n h s=>
 jw 2 15 29695 base a s h fun s o=>
 nu n o fun p=>
 Mn K base s a b d j p h)
 (Mn K base s a b d j tU h)
def Ps:R:=(.mk:Sg 0x1354310200200e5212e43201410e9 [a,b,d] h [Eh (Hz K),Kk (Zr K)]).F
def tI:R:=(.mk:Sg 0x1000e2c000e301c542c211a44210a301834230830162423063014142104301204321e9 [a,b] h [Kk (Em K),Eh (fun a q=>Em K a (.int .i64 6) q)]).F
def LA:Ru r R:=(.mk:Sg 0x12221113032101 [a] h [c 129,Dy (Rz K)]).F
def Oc:R:=(.mk:Sg 0x12201250e403e42201252e9 [a,b] h [Eh (fun d b=>xF K d (.int .u32 4294967295) b)] [] [] [(.int .u32 4294967295)]).F
def Arv:Ru K (Ru r R):=(.mk:Sg 0x16543100ee040200e60ee0215e701e62201203 [a,b,d,e] h [c 134,Kk k3]).F
def LB:R:=(.mk:Sg 0x17654410540200ea2162114e622319e41c06e0ee0215e701e0050200e422623fff4f00e17ea22319e81c2a2007e21f83f9010e622319e41c0ee1be00215e701e623301445 [a,b,d,e] h [c 159,Tc (Arv c r K k3)] [cu2 (fun e n=>Bo (Df [(0,1),(1,1)]) [.int .i64 0,.int .i64 0] [(0,e),(1,n)])]).F
def O1(c:Ah)(r:Ah)(K:Nat):Nat->A3
 | 0=>fun _ _ _ _=>none
 | m+1=>fun a b d h=>
  Am (Rq K a b h) fun e h=>
  cE iW .eql 3 e (.int .i64 (-1))
  (some (.tuple [(.bool false),(.int .i64 0)],h))
  (LB c r K (O1 c r K m) a b d e h)
def LC:R:=
 Sl 160 d h fun e h=>
 O1 c r K K a b e h
def LD:Ru K (Ru r (Ru c R)):=
 Jg e fun f=>
 k4 a b d f h
def LF:R:=(.mk:Sg 0x18765410000e22820fe26330153116e [a,b,d,e] h [Kk (fun a e f=>T5 c r a [e,f]),Tc (LD c r K k4)]).F
def J2(c:Ah)(r:Ah)(K:Nat):Nat->A4
 | 0=>fun _ _ _ _ _=>none
 | m+1=>fun a b d e h=>
  cE I8 .lss 3 e d
  (LF c r K (J2 c r K m) a b d e h)
  (some (.tuple [],h))
def LG:R:=(.mk:Sg 0x100235410213e210130de [a,b] h [Dy (Tf K),Tc (J2 c r K K)]).F
def Xt:Ru K (Ru r (Ru c R)):=(.mk:Sg 0x1002002164fdec62163fcec42162fbec [a,b,d] h).F
def Xr:R:=(.mk:Sg 0x13473100fe023212e421ae20ce21012f9e3 [a] h [Dy (X9 K),Kk (Xt c r K)]).F
def P0:R:=(.mk:Sg 0x14110222212e2101203 [a] h [c 98,Dy (Xr c r K)]).F
def Lj:R:=(.mk:Sg 0x13100002328430be [a,b,d] h [Dy (P0 c r K)]).F
def LH:R:=(.mk:Sg 0x120243002683002420e22451c4fde304e2a01225e2fbe3 [a] h [Kk (Lj c r K)] [] [] [(.int .i64 (-1))]).F
def LI:Ru r R:=(.mk:Sg 0x1000e000e21419039c023701e000ec0233331e67902e5210e973011e0ee08e6023701e000e60233331e67902e5210e973011e0ee08e3023701e000e2a221836e5a1023701e714321623ff3fa17e72c242170e772101618e336e5305b300e4211e0ee312e9 [a,b] h [Dy (fun f=>Bz (List.replicate 4 (.int .i64 0)++List.replicate 64 (.int .u8 0)) 32 68 1 [(0,f)]),Eh (Eo 32 68),c 180,Kk (O2 K),Dy (Rl K)]).F
def LJ:Ru K R:=(.mk:Sg 0x1002200e23211432007e001 [a,b] h [cl0 (Bz [.int .u8 0] 5 1 0 []),Eh (Eo 5 1)] [cu2 (fun a b=>iD 1 a none (some b) none)]).F
def LK:Ru K R:=
 Jg g fun i=>
 k6 a b d e f i h
def LL:R:=
 iK (bin TT .shr 94) d (.int .u64 8) fun i=>
 LK K k6 a b i e f g h
def LM:R:=(.mk:Sg 0x198765460001e0b0200e6235801e51007e75116e [a,b,d,e,f,g] h [cl6 (LL K k6)] [cu1 (fun d=>So .u8 d)]).F
def N9(K:Nat):Nat->A6
 | 0=>fun _ _ _ _ _ _ _=>none
 | m+1=>fun a b d e f g h=>
  cE I8 .lss 3 g f
  (LM K (N9 K m) a b d e f g h)
  (LJ K a b h)
def LN:R:=(.mk:Sg 0x10023497610213e752107e232001e47532007e3f2e5300b0ee [a,b,d] h [Eh (Oc K),cl6 (N9 K K)] [cu2 (fun a d=>iD 1 a none (some d) none),cu2 (fun a d=>iD 1 a (some d) none none)]).F
def W9:R:=(.mk:Sg 0x124630004e0b0200e60023301ec021ee413e252e9 [a,b] h [Kk (LN K)]).F
def LO:R:=(.mk:Sg 0x15097e09e1204e209e1ee609e1ee54224107e1107e20ce01e131200e22121007ed614e230b311b54230931194421073117342105311524232013140dbe05e [a,b,d] h [Eh (fun e f=>Em K e (.int .i64 6) f),Kk (Em K),Eh (Qp K),Dy (Oj K),builtin TT .copy #[173,173]] [cu1 (fun w=>Nq 32 1 w none none none),cu1 (fun d=>Nq 44 1 d none none none)] [[.Aq,.bool false]]).F
def O7:R:=(.mk:Sg 0x156731000e0097e71204e271ee651ee501e2820fe2101418e5097e05e097e05e275e9 [a] h [Dy (R6 K),Kk (LO K)] [] [List.replicate 44 (.int .u8 0)]).F
def Sy:Ru K (Ru r (Ru c R)):=
 some (.tuple [a,b],h)
def LP:R:=(.mk:Sg 0x12323056230232214b2007e93304e00215e701e20ce2733131e67432e5405b473011e0ee43201410e9 [a,b,d] h [c 138,Kk (Ps K),builtin TT .delete #[140,227],Eh (Sy c r K)] [cu2 (fun b n=>Bo (Df [(0,1),(1,1)]) [.int .i64 0,.int .i64 0] [(0,b),(1,n)])]).F
def LQ:Ru r R:=(.mk:Sg 0x1225221130332201 [a,b] h [c 138,Eh (Py K)]).F
def Xb:R:=(.mk:Sg 0x1222a221246843121307e21950e603e21207e11750e603e21107e01550e603e41007e72221011522012f2e5252e9 [a,b] h [Eh (Oc K),cl0 (Bz [.int .u8 0] 5 1 0 []),Eh (Eo 5 1),Tc (fun j o q u=>Bz [.int .u8 0] 5 1 4 [(0,j),(1,o),(2,q),(3,u)])] [cu1 (fun f=>So .u8 f),cu1 (fun n=>So .u8 n),cu1 (fun p=>So .u8 p),cu1 (fun t=>So .u8 t)] [] [(.int .u64 8),(.int .u64 16),(.int .u64 24)]).F
def BI:R:=(.mk:Sg 0x197e31104e231ee63101 [a,b] h [Dy (qZ K)]).F
def BH:Ru K R:=
 Jg f fun g=>
 k5 a b d e g h
def BG:R:=(.mk:Sg 0x102e01e00edc520200e211265321e0606e20ce25201921de2301fe1031ee334 [a,b,d,e,f] h [Eh (Lf K),Eh (tI K),cl5 (BH K k5)] [] [[.int .i64 0,.int .i64 0,.int .i64 0,.int .i64 0,.int .i64 0,.int .i64 0]]).F
def Xp(K:Nat):Nat->A5
 | 0=>fun _ _ _ _ _ _=>none
 | m+1=>fun a b d e f h=>
  cE I8 .lss 3 f (.int .i64 2)
  (BG K (Xp K m) a b d e f h)
  (BI K d e h)
def tK:R:=(.mk:Sg 0x100356851071023012dbe90007e097e05e292e9 [a,b] h [Kk (Em K),cl5 (Xp K K)] [cu0 (Bo (Df [(0,1),(1,1)]) [.Aq,.bool false] [])] [List.replicate 44 (.int .u8 0)]).F
def EX:R:=(.mk:Sg 0x1002200e265e9818e2573007e22221618e21102e57565504b22201318e322310e265200b0ee [a] h [Eh (Vl [.int .i64 0,.int .i64 0,.int .i64 0,.int .i64 0,.int .i64 0,.int .i64 0] 47),Dy (Dn K),Eh (Vl [.int .i64 0] 3)] [cu3 (fun b e i=>Bo (Df [(0,6),(6,1),(7,1)]) [.int .i64 0,.int .i64 0,.int .i64 0,.int .i64 0,.int .i64 0,.int .i64 0,.Aq,.Aq] [(0,b),(1,e),(2,i)])]).F
def pR:R:=(.mk:Sg 0x1511009e070200e62820fe2101265209e9 [a] h [Dy (M0 K),Dy (EX K)]).F
def AS:Ru K R:=(.mk:Sg 0x1402 [] h).F
def Ew(K:Nat)(base:Nat)(s:DX)(a:EV)(b:EV)(h:Ab):R:=
 hG a b fun d=>
 some (d,h)
def Fq:R:=
 hG b d fun e=>
 iQ e
 (h_ 5 42 4398046511103 base a s h fun s f=>
 kn f (.int .i64 4294967295) fun g=>
 Ew K base s e g h)
 (Ew K base s e tU h)
def Gh:R:=
 hG b d fun e=>
 iQ e
 (h_ 5 37 137438953471 base a s h fun s f=>
 nu f (.int .i64 0) fun g=>
 Fq K base s a e g h)
 (Fq K base s a e tU h)
def Ib:R:=
 hG b d fun e=>
 iQ e
 (h_ 4 32 4294967295 base a s h fun s f=>
 kn f (.int .i64 281474976710655) fun g=>
 Gh K base s a e g h)
 (Gh K base s a e tU h)
def Kl:R:=
 hG b d fun e=>
 iQ e
 (h_ 4 27 134217727 base a s h fun s f=>
 nu f (.int .i64 1) fun g=>
 Ib K base s a e g h)
 (Ib K base s a e tU h)
def Ku:R:=
 hG d e fun f=>
 iQ f
 (O6 15 32767 base b s fun s=>Pg 6 b h fun g=>
 h_ 1 17 98303 base a s h fun s i=>
 Ld 18 262143 s h (fun h=>(E4 K g i h)) fun j h s=>
 O6 19 32767 base b s fun s=>Pg 6 b h fun n=>
 h_ 2 21 1081343 base a s h fun s o=>
 Ld 22 4194303 s h (fun h=>(E4 K n o h)) fun p h s=>
 kF j p fun q=>
 Kl K base s a f q h)
 (Kl K base s a f tU h)
def Ko:R:=
 hQ e
 (Pg 6 a h fun f=>
 oE 0 a h fun g=>
 Bo (Df [(0,1),(1,1),(2,1),(3,1),(4,1),(5,1)]) [(.int .i64 0),(.int .i64 0),(.int .i64 0),(.int .i64 0),(.int .i64 0),(.int .i64 0)] [(0,g)] fun i=>
 J5 iW (bin TT .eql 47) f i fun j=>
 some (j,h))
 (cE iW .eql 3 d (.int .i64 1)
 (Zy h fun base s=>
 O6 0 0 base b s fun s=>Pg 6 b h fun n=>
 h_ 1 2 2 base a s h fun s o=>
 h_ 3 4 8 base a s h fun s p=>
 Ld 5 31 s h (fun h=>(Mz K n o p h)) fun q h s=>
 iQ q
 (O6 7 127 base b s fun s=>Pg 6 b h fun t=>
 h_ 2 9 383 base a s h fun s u=>
 h_ 3 11 1151 base a s h fun s w=>
 Ld 12 4095 s h (fun h=>(Mz K t u w h)) fun x h s=>
 Ku K base s a b q x h)
 (Ku K base s a b q tU h))
 (AS K h))
def Jl:R:=(.mk:Sg 0x1245640030324e234540072800224e304409e9221e9 [a,b] h [Tc (Ko K)]).F
def LR:Ru r R:=(.mk:Sg 0x12010e71204e3732e620ce76231140343201010e05e [a,b,d] h [c 138,Kk (Ts K)] [] [List.replicate 64 (.int .u8 0)]).F
def Uq:Ru K (Ru r (Ru c R)):=
 some (a,h)
def AZ:R:=(.mk:Sg 0x1213031300065321b00215e701e5221130332201 [a,b] h [c 138,Eh (Re K),Kk (Xl K),Dy (Uq c r K)]).F
def LS:Ru K R:=(.mk:Sg 0x100099e31204e2323e6323e5 [a,b] h).F
def Ve:R:=(.mk:Sg 0x14320000e0099e41204e2423e60007e01e285409e [a,b,d,e] h [Eh (LS K)] [cu0 (Bo (Df [(0,1),(1,1),(2,1),(3,1),(4,1),(5,44)]) (List.replicate 5 (.int .i64 0)++List.replicate 44 (.int .u8 0)) [])]).F
def Vg:R:=(.mk:Sg 0x120253410247541000215e802e410103e2d6509e [a,b,d,e,f] h [Dy (Rk K),Tc (Ve K)]).F
def LU:R:=(.mk:Sg 0x120202e05e06e5602505e08e09e56020fe215102e23e503e2d1000e25e232401e4713e002e2343721107eb514e0ee6216a414e62169314e62168214e62167114e9121c08211307211306211105211299e023e06e21007e1022113101 [a,b] h [Dy (oT K),Eh (E1 K),Dy (fun d=>E1 K d (.int .i64 6)),Eh (Ma K),builtin TT .copy #[173,173],Dy (J6 K),cl5 (Vg K)] [cu1 (fun e=>Bo (Df [(0,1),(1,1),(2,1),(3,1),(4,1),(5,44)]) (List.replicate 5 (.int .i64 0)++List.replicate 44 (.int .u8 0)) [(0,e)]),cu1 (fun x=>Nq 44 1 x none none none)] [List.replicate 5 (.int .i64 0)++List.replicate 44 (.int .u8 0)]).F
def uo:R:=(.mk:Sg 0x1372103099e81204e2823e60107e00e212e20ce232032741007e4f2e5400b0ee099e05e410e9252e9 [a,b] h [Eh (W9 K),Eh (LU K)] [cu1 (fun e=>Nq 64 1 e none none none),cu0 (Bo (Df [(0,1),(1,1),(2,1),(3,1),(4,1),(5,44)]) (List.replicate 5 (.int .i64 0)++List.replicate 44 (.int .u8 0)) [])] [List.replicate 5 (.int .i64 0)++List.replicate 44 (.int .u8 0)]).F
def LV:Ru K R:=(.mk:Sg 0x100075e31204e2318e6318e5 [a,b] h).F
def uq:R:=(.mk:Sg 0x14320000e0075e41204e2418e60007e01e285409e [a,b,d,e] h [Eh (LV K)] [cu0 (Bo (Df [(0,1),(1,1),(2,1),(3,1),(4,1),(5,1),(6,32)]) (List.replicate 6 (.int .i64 0)++List.replicate 32 (.int .u8 0)) [])]).F
def ur:R:=(.mk:Sg 0x1202c07e4602501e0ae4602397e802e09e1ee531ee504e2d00315e802e397e11ee06e20ce2151618e5232401e470ce0b2343721207e2614e0ee275e018e06e23456b6107e3062213052211042211032212111210131007e075e05e397e9 [a,b] h [Dy (oT K),Dy (fun g=>E1 K g (.int .i64 6)),Eh (E1 K),Eh (Ma K),builtin TT .copy #[173,173],Dy (O7 K),Tc (uq K)] [cu1 (fun d=>Nq 44 1 d none none none),cu6 (fun a i j n o p=>Bo (Df [(0,1),(1,1),(2,1),(3,1),(4,1),(5,1),(6,32)]) (List.replicate 6 (.int .i64 0)++List.replicate 32 (.int .u8 0)) [(0,a),(1,i),(2,j),(3,n),(4,o),(5,p)]),cu1 (fun u=>Nq 32 1 u none none none)] [List.replicate 6 (.int .i64 0)++List.replicate 32 (.int .u8 0),List.replicate 44 (.int .u8 0)]).F
def LW:Ru K R:=(.mk:Sg 0x100099e31204e2323e6323e5 [a,b] h).F
def Hd:R:=(.mk:Sg 0x14320000e0099e41204e2423e60007e01e285409e [a,b,d,e] h [Eh (LW K)] [cu0 (Bo (Df [(0,1),(1,1),(2,1),(3,1),(4,1),(5,44)]) (List.replicate 5 (.int .i64 0)++List.replicate 44 (.int .u8 0)) [])]).F
def Jx:R:=(.mk:Sg 0x12026540026a94002421e251ee52441405e2d7609e [a,b,d,e,f,g] h [Tc (Hd K)]).F
def Nt:R:=(.mk:Sg 0x120265436002487656004222e41401e2d7609e [a,b,d,e,f,g] h [cl6 (Jx K)]).F
def Kh:R:=(.mk:Sg 0x12023cd04e62025601e02e07e62020fe2111323e504e2d00715e802e299e023e06e201e00edc36007e31ee5804397e11ee06e20ce2101318e5099e05e275e9 [a,b,d,e,f] h [Dy (O7 K),Dy (J6 K),cl6 (Nt K)] [cu6 (fun t b d e f u=>Bo (Df [(0,1),(1,1),(2,1),(3,1),(4,1),(5,44)]) (List.replicate 5 (.int .i64 0)++List.replicate 44 (.int .u8 0)) [(0,t),(1,b),(2,d),(3,e),(4,f),(5,u)])] [List.replicate 5 (.int .i64 0)++List.replicate 44 (.int .u8 0),List.replicate 44 (.int .u8 0)]).F
def LX:R:=(.mk:Sg 0x100010e71204e2732e6232e5232e26e522012f2e5 [a,b,d] h [Eh (Xb K)]).F
def LY:R:=(.mk:Sg 0x1308e06e3403010e09e1204e209e32e60107e00e212e20ce02e131201e22121007e01e514e2c211d442c0a301b34230830192423063017141010430121033014040dbe05e [a,b,d] h [Kk (Em K),Eh (fun e u=>Em K e (.int .i64 6) u),Eh (Qp K),Dy (Oj K),Kk (LX K)] [cu1 (fun x=>Nq 44 1 x none none none),cu0 (Bo (Mt 1) (List.replicate 64 (.int .u8 0)) [])] [[.Aq,.bool false]]).F
def Ya:R:=(.mk:Sg 0x156731000e0010e61204e2632e60007e01e2820fe2101323e5010e05e499e9252e9 [a,b] h [Dy (J6 K),Kk (LY K)] [cu0 (Bo (Mt 1) (List.replicate 64 (.int .u8 0)) [])] [List.replicate 64 (.int .u8 0)]).F
def BR:Ru K (Ru r (Ru c R)):=(.mk:Sg 0x1002200e [a] h).F
def BQ:Ru K (Ru r (Ru c R)):=
 Jg e fun f=>
 k4 a b d f h
def BP:R:=(.mk:Sg 0x1d2ba4302b2212111823e5521ee67514e92166214e802165014e62201245 [a,b,d,e] h [Eh (tK K),Dy (fun o=>Bz (List.replicate 5 (.int .i64 0)++List.replicate 44 (.int .u8 0)) 167 49 1 [(0,o)]),Eh (Eo 167 49),Tc (BQ c r K k4)]).F
def Tb(c:Ah)(r:Ah)(K:Nat):Nat->A4
 | 0=>fun _ _ _ _ _=>none
 | m+1=>fun a b d e h=>
  oE 3 a h fun f=>
  Am (Ek K f h) fun g h=>
  Am (Il K g h) fun i h=>
  cE I8 .lss 3 e i
  (BP c r K (Tb c r K m) a b d e h)
  (BR c r K d h)
def BV:R:=(.mk:Sg 0x11024b4202111223e53223e621ff3f917e099e05e818e24564007e21012e67545505b484010e322110e0ee [a,b] h [Dy (tJ K),Dy (fun n=>Bz (List.replicate 5 (.int .i64 0)++List.replicate 44 (.int .u8 0)) 167 49 1 [(0,n)]),Tc (Tb c r K K)] [cu4 (fun a d e g=>Bo (Df [(0,1),(1,1),(2,1),(3,1),(4,1),(5,44)]) (List.replicate 5 (.int .i64 0)++List.replicate 44 (.int .u8 0)) [(0,.int .i64 4),(1,a),(3,d),(4,e),(5,g)])] [List.replicate 5 (.int .i64 0)++List.replicate 44 (.int .u8 0)]).F
def BU:R:=(.mk:Sg 0x14320000e0b0200e6285409e [a,b,d,e] h [Eh (BV c r K)]).F
def BT:R:=(.mk:Sg 0x120257430269b43020fe0092321211153409e2d20fe2101245292e9 [a,b] h [c 131,Dy (Ek K),Kk (Mz K),Tc (BU c r K)]).F
def K4(K:Nat)(base:Nat)(s:DX)(a:EV)(b:EV)(h:Ab):R:=
 hG a b fun d=>
 some (d,h)
def Kt:R:=
 Sl 47 b h fun d h=>
 Zy h fun base s=>
 h_ 0 1 1 base d s h fun s e=>
 nv e (.int .i64 1) fun f=>
 iQ f
 (O6 4 15 base d s fun s=>Pg 6 d h fun g=>
 oA 1 a fun i=>
 O6 8 239 base i s fun s=>Pg 6 i h fun j=>
 Ld 9 511 s h (fun h=>(Jl K g j h)) fun n h s=>
 K4 K base s f n h)
 (K4 K base s f tU h)
def AW:R:=(.mk:Sg 0x10023266271e717e93615e965905b673611e0ee102531166523201565 [a,b,d,e] h [Eh (fun a f=>St K a f (.int .i64 (-1))),Kk (St K)]).F
def Le:R:=(.mk:Sg 0x17bdc42000e0232820fe242111e57265200e4b80c665600b0ee322312e321e0606e20ce43201421e9 [a,b,d] h [Eh (Lf K),Eh (Jl K),Tc (AW K)] [] [[.int .i64 0,.int .i64 0,.int .i64 0,.int .i64 0,.int .i64 0,.int .i64 0]]).F
def LZ:Ru K R:=(.mk:Sg 0x100099e31204e2323e6323e5 [a,b] h).F
def uu:R:=(.mk:Sg 0x14320002e0099e41204e2423e60007e01e285409e [a,b,d,e] h [Eh (LZ K)] [cu0 (Bo (Df [(0,1),(1,1),(2,1),(3,1),(4,1),(5,44)]) (List.replicate 5 (.int .i64 0)++List.replicate 44 (.int .u8 0)) [])]).F
def L0:R:=(.mk:Sg 0x12027640024984006225e724d2d3225e514 [a,b,d,e] h [Tc (uu K)]).F
def se:R:=(.mk:Sg 0x12800ed4104099e91204e2923e60007e00e312e399e023e06e20ce23201432e54f2e5099e05e410e9252e9 [a,b,d,e] h [Eh (uo K),Tc (L0 K)] [cu0 (Bo (Df [(0,1),(1,1),(2,1),(3,1),(4,1),(5,44)]) (List.replicate 5 (.int .i64 0)++List.replicate 44 (.int .u8 0)) [])] [List.replicate 5 (.int .i64 0)++List.replicate 44 (.int .u8 0)]).F
def L2:Ru K R:=(.mk:Sg 0x100075e31204e2318e6318e5 [a,b] h).F
def L_:R:=(.mk:Sg 0x1cb2103075ec1204e2c18e60007e00e212e20ce23456501644534424314418e5 [a,b,d] h [cl5 (Kh K),Eh (L2 K)] [cu0 (Bo (Df [(0,1),(1,1),(2,1),(3,1),(4,1),(5,1),(6,32)]) (List.replicate 6 (.int .i64 0)++List.replicate 32 (.int .u8 0)) [])]).F
def uv:R:=(.mk:Sg 0x129a3104075ea1204e2a18e60007e00e312e375e018e06e20ce2420121ee54514e304075e05e299e9 [a] h [Eh (ur K),Kk (L_ K)] [cu0 (Bo (Df [(0,1),(1,1),(2,1),(3,1),(4,1),(5,1),(6,32)]) (List.replicate 6 (.int .i64 0)++List.replicate 32 (.int .u8 0)) [])] [List.replicate 6 (.int .i64 0)++List.replicate 32 (.int .u8 0)]).F
def Zf:Ru K (Ru r (Ru c R)):=(.mk:Sg 0x110e0023e31204e2312e60007e [a] h [] [cu0 (Bo (Mt 1) (List.replicate 32 (.int .u8 0)) [])]).F
def Mq:Ru K (Ru r (Ru c R)):=
 Jg f fun g=>
 k5 a b d e g h
def Q4:R:=(.mk:Sg 0x1985435008023e61204e2612e6612e500e28a909e [a,b,d,e,f,g,i,j,n] h [cl5 (Mq c r K k5)]).F
def Q8:R:=(.mk:Sg 0x120404e03e3202e01e00e9102505e04e4303e02e01e91000315e802e04e4d423e112e06e421ae20ce246940120de1051219e20de0031219e565226e0206e652007e [a,b,d,e,f] h [c 66,cl9 (Q4 c r K k5)] [cu2 (fun e f=>kj 2 2 true 2 e f)] [[.int .i64 0,.int .i64 0],List.replicate 32 (.int .u8 0)]).F
def Dl(c:Ah)(r:Ah)(K:Nat):Nat->A5
 | 0=>fun _ _ _ _ _ _=>none
 | m+1=>fun a b d e f h=>
  cE I8 .lss 3 f (.int .i64 2)
  (Q8 c r K (Dl c r K m) a b d e f h)
  (Zf c r K d h)
def Zq:R:=(.mk:Sg 0x1002ba9500252207e232107e714624232007e424314 [a,b,d] h [cl5 (Dl c r K K)] [cu2 (fun e f=>Bo (Mt 1) [.int .i64 0,.int .i64 0] [(0,e),(1,f)]),cu2 (fun i j=>Bo (Mt 1) [.int .i64 0,.int .i64 0] [(0,i),(1,j)]),cu2 (fun g n=>Bo (Mt 2) [.int .i64 0,.int .i64 0,.int .i64 0,.int .i64 0] [(0,g),(1,n)])]).F
def MB:R:=(.mk:Sg 0x156731000e0023e61204e2612e60007e01e2820fe25201365023e05e321e9 [a,b] h [Eh (Kt K),Kk (Zq c r K)] [cu0 (Bo (Mt 1) (List.replicate 32 (.int .u8 0)) [])] [List.replicate 32 (.int .u8 0)]).F
def Pm:Ru K (Ru r R):=(.mk:Sg 0x1765435100ee0021e81204e28660007e01e0ee0215e701e72201 [a,b,d,e,f,g] h [c 134,cl5 k5] [cu0 (Bo (Df [(0,1),(1,1),(2,1),(3,1),(4,1),(5,1)]) [.int .i64 0,.int .i64 0,.int .i64 0,.int .i64 0,.int .i64 0,.int .i64 0] [])]).F
def X4:R:=(.mk:Sg 0x1876543600ba987660032165fdec20ae3fde307e283701e2fce3 [a,b,d,e,f,g] h [cl6 (Pm c r K k5)]).F
def Xv:R:=(.mk:Sg 0x13a98766203021eb1204e2b660307e00e0ee0215e701e00021e0be1204e20be66565321605efdec20ae03efde3326627fffff6f09e17e021e05e08e18e203e89a5207e21107e24217e0005f05e721007e00e614e2f2e52e0004f02eb97c87003fbfde11e762e7fce11e673fbe11e0ee4ee00215e701e20ce5423401518e5 [a,b,d,e,f] h [c 148,Eh (Oc K),cl6 (X4 c r K k5)] [cu1 (fun w=>Nq 32 1 w none none none),cu1 (fun y=>So .i64 y),cu5 (fun o p q d z=>Bo (Df [(0,1),(1,1),(2,1),(3,1),(4,1),(5,1)]) [.int .i64 0,.int .i64 0,.int .i64 0,.int .i64 0,.int .i64 0,.int .i64 0] [(0,.int .i64 1),(1,o),(2,p),(3,q),(4,d),(5,z)]),cu0 (Bo (Df [(0,1),(1,1),(2,1),(3,1),(4,1),(5,1)]) [.int .i64 0,.int .i64 0,.int .i64 0,.int .i64 0,.int .i64 0,.int .i64 0] [])] [[.int .i64 0,.int .i64 0,.int .i64 0,.int .i64 0,.int .i64 0,.int .i64 0]]).F
def Gd(c:Ah)(r:Ah)(K:Nat):Nat->A5
 | 0=>fun _ _ _ _ _ _=>none
 | m+1=>fun a b d e f h=>
  Am (c 147 [a] h) fun g h=>
  nr g
  (Bo (Df [(0,1),(1,1),(2,1),(3,1),(4,1),(5,1)]) [(.int .i64 0),(.int .i64 0),(.int .i64 0),(.int .i64 0),(.int .i64 0),(.int .i64 0)] [] fun i=>
  f_ 6 f i h fun h=>
  Jk TT [.c f 47,.v g] h)
  (Xv c r K (Gd c r K m) a b d e f h)
def Xc:R:=
 Gd c r K K a b d e f h
def MC:R:=(.mk:Sg 0x178cb95104021e81204e28660007e00e312e399e123e06e20ce8700002501318e5021e05e375e9 [a,b,d,e] h [cl5 (Kh K),cl5 (Xc c r K)] [cu0 (Bo (Df [(0,1),(1,1),(2,1),(3,1),(4,1),(5,1)]) [.int .i64 0,.int .i64 0,.int .i64 0,.int .i64 0,.int .i64 0,.int .i64 0] [])] [[.int .i64 0,.int .i64 0,.int .i64 0,.int .i64 0,.int .i64 0,.int .i64 0],List.replicate 5 (.int .i64 0)++List.replicate 44 (.int .u8 0)]).F
def Ns:Ru K (Ru r (Ru c R)):=
 some (a,h)
def Np:R:=(.mk:Sg 0x131000ae02328430be [a,b,d] h [Dy (Ns c r K)]).F
def MD:R:=(.mk:Sg 0x120233102453102525e8fde3c2a00215e702e20ce2533031e67532e5505b273011e0ee [a,b,d] h [c 187,Kk (Np c r K)]).F
def ME:R:=(.mk:Sg 0x12a9310322312e4232e622ff3fa17e010e05e918e20ce232011e57623e5604b2f2e5273b27c0ee [a,b,d] h [Eh (Ya K),Kk (MD c r K)] [] [List.replicate 64 (.int .u8 0)]).F
def MF:R:=(.mk:Sg 0x12ca310322312e4223e6217ff4fd17e099e05ec18e20ceba28350f1e8750ee5fde11e318e5300b0ee72162514e375e9 [a,b,d,e,f,g] h [cl5 (Kh K),Kk (ME c r K)] [] [List.replicate 5 (.int .i64 0)++List.replicate 44 (.int .u8 0)]).F
def B_:Ru K (Ru r (Ru c R)):=(.mk:Sg 0x1002200e [a] h).F
def B':Ru K (Ru r (Ru c R)):=
 Jg f fun g=>
 k5 a b d e g h
def BZ:R:=
 Pg 64 d h fun i=>
 Am (Bz (List.replicate 64 (.int .u8 0)) 30 64 1 [(0,i)] h) fun j h=>
 Am (Eo 30 64 b j h) fun n h=>
 B' c r K k5 a n e f g h
def BW:R:=(.mk:Sg 0x101e00ed2cb6103b0200e5312e310e132e06e20ce23201323e55f2e5299e023e06e223e56423e15e [a,b,d,e,f] h [Eh (Ya K),cl6 (BZ c r K k5)] [] [List.replicate 5 (.int .i64 0)++List.replicate 44 (.int .u8 0),List.replicate 64 (.int .u8 0)]).F
def Qk(c:Ah)(r:Ah)(K:Nat):Nat->A5
 | 0=>fun _ _ _ _ _ _=>none
 | m+1=>fun a b d e f h=>
  cE I8 .lss 3 f e
  (BW c r K (Qk c r K m) a b d e f h)
  (B_ c r K b h)
def CB:R:=(.mk:Sg 0x10024b03500313e [a,b] h [cl5 (Qk c r K K)]).F
def CA:R:=(.mk:Sg 0x1372102b0200e5212e20ce72201245492e9252e9 [a,b,d] h [c 212,Eh (CB c r K)]).F
def La:Ru K (Ru r (Ru c R)):=(.mk:Sg 0x10005023e31304e2312e6312e5 [a,b,d] h).F
def Ys:R:=(.mk:Sg 0x143230010e0000023e31304e2312e60007e04e0053701e [a,b,d,e] h [Kk (La c r K)] [cu0 (Bo (Mt 1) (List.replicate 32 (.int .u8 0)) [])]).F
def Hw:Ru K (Ru r (Ru c R)):=
 Jg j fun n=>
 k8 a b d e f g i n h
def Xu:R:=(.mk:Sg 0x103e02e6cba9881004e03e72cba9810c0aed2820fe2620120de00a1219e80ae2612e6912e5 [a,b,d,e,f,g,i,j,n,o] h [Eh (D5 K),cl8 (Hw c r K k8)]).F
def Yv:R:=
 jj n fun q=>
 hQ q
 (Hw c r K k8 a b d e f g o p h)
 (Xu c r K k8 a b d e f g i j o p h)
def P9:R:=(.mk:Sg 0x107e06e42c05e04e03e02e01e00eb104000023e03e1304e203e12e60107e03e312e423e112e06e421ae20ce246940120de1051219e20de0031219e565226e0206e982007e [a,b,d,e,f,g,i,j] h [c 66,Btw (Yv c r K k8)] [cu2 (fun i j=>kj 2 2 true 2 i j),cu0 (Bo (Mt 1) (List.replicate 32 (.int .u8 0)) [])] [[.int .i64 0,.int .i64 0],List.replicate 32 (.int .u8 0)]).F
def Dd(c:Ah)(r:Ah)(K:Nat):Nat->A8
 | 0=>fun _ _ _ _ _ _ _ _ _=>none
 | m+1=>fun a b d e f g i j h=>
  cE I8 .lss 3 j (.int .i64 2)
  (P9 c r K (Dd c r K m) a b d e f g i j h)
  (Ys c r K d e f g h)
def Y3:R:=(.mk:Sg 0x100200009cba800252207e232107e814724232007e524414023e05e [a,b,d] h [cl8 (Dd c r K K)] [cu2 (fun f g=>Bo (Mt 1) [.int .i64 0,.int .i64 0] [(0,f),(1,g)]),cu2 (fun j n=>Bo (Mt 1) [.int .i64 0,.int .i64 0] [(0,j),(1,n)]),cu2 (fun i o=>Bo (Mt 2) [.int .i64 0,.int .i64 0,.int .i64 0,.int .i64 0] [(0,i),(1,o)])] [List.replicate 32 (.int .u8 0)]).F
def MG:R:=(.mk:Sg 0x156731000e0000023e61304e2612e60007e04e2820fe25201365023e05e321e9 [a,b] h [Eh (Kt K),Kk (Y3 c r K)] [cu0 (Bo (Mt 1) (List.replicate 32 (.int .u8 0)) [])] [List.replicate 32 (.int .u8 0)]).F
def MH:Ru K (Ru r (Ru c R)):=(.mk:Sg 0x1002 [] h).F
def MI:Ru K (Ru r (Ru c R)):=
 Jg e fun f=>
 k4 a b d f h
def MJ:R:=(.mk:Sg 0x187654102733010007e223 [a,b,d,e] h [Kk (Le K),Tc (MI c r K k4)] [cu0 (Bo (Df [(0,1),(1,1),(2,1),(3,1),(4,1),(5,1)]) [.int .i64 0,.int .i64 0,.int .i64 0,.int .i64 0,.int .i64 0,.int .i64 0] [])]).F
def N3(c:Ah)(r:Ah)(K:Nat):Nat->A4
 | 0=>fun _ _ _ _ _=>none
 | m+1=>fun a b d e h=>
  oC b d fun f=>
  cE I8 .lss 3 e f
  (MJ c r K (N3 c r K m) a b d e h)
  (MH c r K h)
def MK:R:=
 N3 c r K K a b d b h
def ML:R:=(.mk:Sg 0x1ba9310322312e321e0606e20ce252016523007e22423c [a,b,d] h [c 78,Kk (MK c r K)] [cu3 (fun f b d=>Bo (Df [(0,1),(1,1),(2,1),(3,1),(4,1),(5,1),(6,32)]) (List.replicate 6 (.int .i64 0)++List.replicate 32 (.int .u8 0)) [(0,.int .i64 2),(1,f),(2,.int .i64 1),(3,b),(4,d)])] [[.int .i64 0,.int .i64 0,.int .i64 0,.int .i64 0,.int .i64 0,.int .i64 0]]).F
def MM:R:=(.mk:Sg 0x1543310222212e2101 [a,b,d] h [c 77,Kk (ML c r K)]).F
def Nx:R:=(.mk:Sg 0x154330003e023286509e [a,b,d,e,f] h [Kk (MM c r K)]).F
def Rf:R:=(.mk:Sg 0x120254351027a985102922e721ee21007e21013030be2d6509e [a,b,d,e,f] h [Dy (Ce K),cl5 (Nx c r K)] [cu1 (fun j=>Vx 3 false 0 j)]).F
def MN:R:=(.mk:Sg 0x12026545102376551010620ec2d20fe32201 [a,b,d] h [Eh (Ux K),cl5 (Rf c r K)]).F
def Vw:Ru K (Ru r (Ru c R)):=(.mk:Sg 0x1002 [] h).F
def MO:Ru K (Ru r (Ru c R)):=
 Jg f fun g=>
 k5 a b d e g h
def MP:R:=(.mk:Sg 0x100edcba510245303ff3fa726521c03f9bb8615e302e5010e573211e0ee246e013e06e213e56413e15e [a,b,d,e,f] h [Kk (Le K),cl5 (MO c r K k5)] [] [[.int .i64 0]++List.replicate 32 (.int .u8 0)]).F
def I7(c:Ah)(r:Ah)(K:Nat):Nat->A5
 | 0=>fun _ _ _ _ _ _=>none
 | m+1=>fun a b d e f h=>
  cE I8 .lss 3 f e
  (MP c r K (I7 c r K m) a b d e f h)
  (Vw c r K h)
def Vs:R:=
 Hg b fun e=>
 I7 c r K K a d b e (.int .i64 0) h
def MQ:Ru K (Ru r (Ru c R)):=
 Jg i fun j=>
 k7 a b d e f g j h
def MR:R:=(.mk:Sg 0x1cba2765720272112101665 [a,b,d,e,f,g,i,j] h [Dy (fun n=>Bz [.int .i64 0,.int .i64 0,.int .i64 0,.int .i64 0,.int .i64 0,.int .i64 0] 47 6 1 [(0,n)]),Eh (Eo 47 6),cl7 (MQ c r K k7)]).F
def MS:R:=(.mk:Sg 0x106e05e04e203e02e01e00e810322312e321e1606e20ce2a201245b4007e212e54114e304613e246e013e06e213e58613e15e [a,b,d,e,f,g,i] h [c 78,cl8 (MR c r K k7)] [cu4 (fun d p q u=>Bo (Df [(0,1),(1,1),(2,1),(3,1),(4,1),(5,1),(6,32)]) (List.replicate 6 (.int .i64 0)++List.replicate 32 (.int .u8 0)) [(0,.int .i64 1),(1,d),(2,p),(3,q),(6,u)])] [[.int .i64 0]++List.replicate 32 (.int .u8 0),[.int .i64 0,.int .i64 0,.int .i64 0,.int .i64 0,.int .i64 0,.int .i64 0]]).F
def Ie(c:Ah)(r:Ah)(K:Nat):Nat->A7
 | 0=>fun _ _ _ _ _ _ _ _=>none
 | m+1=>fun a b d e f g i h=>
  cE I8 .lss 3 i g
  (MS c r K (Ie c r K m) a b d e f g i h)
  (Vs c r K a b e h)
def MT:R:=(.mk:Sg 0x10026b0365700513e22423c [a,b] h [cl7 (Ie c r K K)]).F
def MU:R:=(.mk:Sg 0x143210222212e2101 [a,b] h [c 77,Eh (MT c r K)]).F
def MV:R:=(.mk:Sg 0x15421003e0232820fe32201 [a,b] h [Eh (Xy K),Eh (MU c r K)]).F
abbrev Yd(K:Nat)(c:Ah):Ah:=(w2 85 (Xy K) (w3 79 (Le K) c))
def Zg:Ru K (Ru r (Ru c R)):=(.mk:Sg 0x100050023e41304e2412e6212e53614e [a,b] h).F
def Gp(c:Ah)(r:Ah)(K:Nat)(base:Nat)(s:DX)(a:EV)(b:EV)(d:EV)(e:EV)(h:Ab):R:=
 il d e fun f=>
 hQ f
 (Bo (Mt 1) (List.replicate 32 (.int .u8 0)) [] fun g=>
 f_ 32 a g h fun h=>
 Jk TT [.c a 49,.v (.bool false),.v (.int .i64 0)] h)
 (Zg c r K a b h)
def Iv:R:=
 il f g fun i=>
 hM i
 (oA 7 a fun j=>
 O6 12 4095 base j s fun s=>Pg 256 j h fun n=>
 iP 6 e fun o=>
 Nq 32 1 o none none none fun p=>
 Ld 15 32767 s h (fun h=>(Oc K n p h)) fun q h s=>
 So .i64 q fun t=>
 h_ 5 18 131583 base b s h fun s u=>
 kF t u fun w=>
 Gp c r K base s d e i w h)
 (Gp c r K base s d e i tU h)
def Za:R:=
 Pg 49 f h fun g=>
 Am (uv K g h) fun i h=>
 kS i fun j n=>
 kD 38 (List.replicate 6 (.int .i64 0)++List.replicate 32 (.int .u8 0)) 131 j h fun o h=>
 Zy h fun base s=>
 J5 iX (bin TT .neq 35) n (.int .i64 0) fun p=>
 hM p
 (h_ 5 4 15 base o s h fun s q=>
 kF q b fun t=>
 Iv c r K base s a d e o p t h)
 (Iv c r K base s a d e o p tU h)
def Iu:R:=(.mk:Sg 0x17654350000040023e71304e2712e60007e04e288709e [a,b,d,e,f,g,i] h [cl5 (Za c r K)] [cu0 (Bo (Mt 1) (List.replicate 32 (.int .u8 0)) [])]).F
def Iw:R:=(.mk:Sg 0x12027654370025a98767002325e64474405e2d8709e [a,b,d,e,f,g,i] h [cl7 (Iu c r K)]).F
def Zh:R:=(.mk:Sg 0x1202301e00edb71024503e02e01ed71030224e30403e2d00315e802e4223e6217ff4fd17e099e05ec18e20ce273440f1e87832e7310e932e5904b2f2e5273b27c0ee [a,b,d,e,f,g] h [Tc (se K),cl7 (Iw c r K)] [] [List.replicate 5 (.int .i64 0)++List.replicate 44 (.int .u8 0)]).F
def MW:R:=(.mk:Sg 0x100040023e91304e2912e60007e2040023ea1304e3a12e6db2210007e08e0ce0315e701e4040023e91304e2912e60007e03e0ee0315e701e289dca610900315e701e4232e62bff3fc17e110e05eb18e20ce2833071e77412e6310e473011e0ee023e05e321e9 [a,b,d,e] h [c 106,cl6 (Zh c r K),c 107] [cu0 (Bo (Mt 1) (List.replicate 32 (.int .u8 0)) [])] [List.replicate 32 (.int .u8 0),List.replicate 64 (.int .u8 0)]).F
def MX:Ru r (Ru c R):=(.mk:Sg 0x1222533031e67565505b273211e0ee [a,b,d] h [Kk (Le K)]).F
def MY:R:=(.mk:Sg 0x12ba310322312e426622fff4f00e17e021e05ed18e20ce26201ff3f972633007e612e5607b210e5210e23c0ee [a,b,d] h [c 78,Kk (MX c r K)] [cu3 (fun f b g=>Bo (Df [(0,1),(1,1),(2,1),(3,1),(4,1),(5,1),(6,32)]) (List.replicate 6 (.int .i64 0)++List.replicate 32 (.int .u8 0)) [(0,.int .i64 3),(1,f),(2,.int .i64 1),(3,b),(6,g)])] [[.int .i64 0,.int .i64 0,.int .i64 0,.int .i64 0,.int .i64 0,.int .i64 0]]).F
def Xe:R:=(.mk:Sg 0x132222b33210007e82300e10e0315e701e298310600315e701e4212e622ff3fa17e023e05e918e20ce232011e57565504b273011e0ee [a,b,d] h [c 112,Kk (MY c r K),Kk (Le K)] [cu0 (Bo (Df [(0,1),(1,1),(2,1),(3,1),(4,1),(5,1)]) [.int .i64 0,.int .i64 0,.int .i64 0,.int .i64 0,.int .i64 0,.int .i64 0] [(0,.int .i64 2)])] [List.replicate 32 (.int .u8 0)]).F
def MZ:R:=(.mk:Sg 0x139831000231023801e204321e0606e20ce42201223 [a,b] h [Eh (Lf K),Kk (Xe c r K)] [] [[.int .i64 0,.int .i64 0,.int .i64 0,.int .i64 0,.int .i64 0,.int .i64 0]]).F
end
variable{d:Nat}(H:Bv disp)
include H
theorem ς(hd:2<=d):S3 disp K d 144 DY:=fun _ _ _=>rd rfl rfl H (V1 (K_ H) hd<|rfl)
theorem ξ(hd:2<=d){l:Nat}(tm:Ba)(h:Ab)(A:EV)(G:EV){st:LoopState}{p:Option Code}(J:h.get l=some (.loop st p 144 31 tm [8,9] (Fk TT 144 0).2.2.1 (Fk TT 144 0).2.2.2 d0)):
 Ag TT disp K (d+1) true l [A,G] h=DV (Ag TT disp K d false) (Ag TT disp K d true) K l (tmp tm 2) (tmp tm 3) A G h:=rr rfl rfl (rfl) J rfl (by kernel_rfl)
theorem Amk(hd:3<=d):R3 disp K d 213 (Ps K):=fun _ _ _=>rl H hd fun d hd=>V2 (Mm H) hd<|V2 (Wv H) hd<|V1 (H4 H) hd<|V1 (Alx H) hd<|rfl
theorem A5p(hd:3<=d):R2 disp K d 236 (tI K):=fun _ _=>rl H hd fun d hd=>V3 (N8 H) hd<|rfl
theorem Aom(hd:2<=d):S1 disp K d 98 LA:=fun _=>rd rfl rfl H (V1 (Anu H) hd<|rfl)
theorem Rx(hd:3<=d):R2 disp K d 110 (Oc K):=fun _ _=>rl H hd fun d hd=>V3 (Aua H) hd<|rfl
theorem Ap9(hd:4<=d):S3 disp K d 132 LC:=fun _ _ _=>ld rfl rfl H (V2 (Anz H) hd<|rfl) 5 (fun c r=>e3 (O1 c r K) 0 1 5)
theorem Aoh(hd:2<=d):S2 disp K d 145 LG:=fun _ _=>ld rfl rfl H (V1 (Apk H) hd<|rfl) 5 (fun c r=>e4 (J2 c r K) 0 6 7 8)
theorem Akb(hd:4<=d):S1 disp K d 147 LH:=fun _=>rd rfl rfl H (V1 (Atn H) hd<|rfl)
theorem Aoc(hd:2<=d):S2 disp K d 155 LI:=fun _ _=>rd rfl rfl H (V3 (Apm H) hd<|V1 (An6 H) hd<|rfl)
theorem At5(hd:4<=d):R2 disp K d 167 (W9 K):=fun _ _=>ll H hd (fun d hd=>V2 (Rx H) hd<|rfl) 207 (e6 (N9 K) 1 6 7 22 23 24)
theorem M_(hd:4<=d):R1 disp K d 173 (O7 K):=fun _=>rl H hd fun d hd=>V1 (An8 H) hd<|V3 (N8 H) hd<|V2 (IX H) hd<|V1 (Y4 H) hd<|rfl
theorem Aoi(hd:3<=d):S3 disp K d 187 LP:=fun _ _ _=>rd rfl rfl H (V3 (Amk H) hd<|rfl)
theorem Ans(hd:3<=d):S2 disp K d 189 LQ:=fun _ _=>rd rfl rfl H (V2 (Alv H) hd<|rfl)
theorem Atr(hd:4<=d):R2 disp K d 220 (Xb K):=fun _ _=>rl H hd fun d hd=>V2 (Rx H) hd<|rfl
theorem A3d(hd:4<=d):R2 disp K d 227 (tK K):=fun _ _=>ll H hd (fun d hd=>V3 (N8 H) hd<|V1 (I2 H) hd<|V2 (Lq H) hd<|V2 (A5p H) hd<|rfl) 103 (e5 (Xp K) 1 2 4 5 14)
theorem NA(hd:4<=d):R1 disp K d 52 (pR K):=fun _=>rl H hd fun d hd=>V1 (Un H) hd<|V1 (E7 H) hd<|rfl
theorem NB(hd:5<=d):R2 disp K d 105 (Jl K):=fun _ _=>rl H hd fun d hd=>V2 (F9 H) hd<|V3 (Li H) hd<|rfl
theorem Aro(hd:3<=d):S3 disp K d 106 LR:=fun _ _ _=>rd rfl rfl H (V3 (Aqa H) hd<|rfl)
theorem X'(hd:3<=d):S2 disp K d 133 AZ:=fun _ _=>rd rfl rfl H (V2 (An3 H) hd<|V3 (Aod H) hd<|rfl)
theorem Ax0(hd:5<=d):R2 disp K d 140 (uo K):=fun _ _=>rl H hd fun d hd=>V2 (At5 H) hd<|V1 (An7 H) hd<|V1 (um H) hd<|V2 (N0 H) hd<|V2 (Yb H) hd<|V1 (Q3 H) hd<|rfl
theorem A6l(hd:5<=d):R2 disp K d 141 (ur K):=fun _ _=>rl H hd fun d hd=>V1 (um H) hd<|V2 (N0 H) hd<|V2 (Yb H) hd<|V1 (M_ H) hd<|rfl
theorem Q1(hd:5<=d):R5 disp K d 142 (Kh K):=fun _ _ _ _ _=>rl H hd fun d hd=>V1 (M_ H) hd<|V1 (Q3 H) hd<|rfl
theorem NC(hd:5<=d):R2 disp K d 203 (Ya K):=fun _ _=>rl H hd fun d hd=>V1 (Q3 H) hd<|V2 (Atr H) hd<|V3 (N8 H) hd<|V2 (IX H) hd<|V1 (Y4 H) hd<|rfl
theorem YU(hd:4<=d):S2 disp K d 212 BT:=fun _ _=>ld rfl rfl H (V1 (Fv H) hd<|V3 (Li H) hd<|V2 (A3d H) hd<|V1 (Uj H) hd<|V1 (A27 H) hd<|rfl) 207 (fun c r=>e4 (Tb c r K) 2 6 7 8)
theorem Wq(hd:6<=d):R2 disp K d 65 (Kt K):=fun _ _=>rl H hd fun d hd=>V2 (NB H) hd<|rfl
theorem Tm(hd:6<=d):R3 disp K d 79 (Le K):=fun _ _ _=>rl H hd fun d hd=>V2 (Lq H) hd<|V2 (NB H) hd<|V3 (Aun H) hd<|rfl
theorem ND(hd:6<=d):R4 disp K d 108 (se K):=fun _ _ _ _=>rl H hd fun d hd=>V2 (Ax0 H) hd<|rfl
theorem A2u(hd:6<=d):R1 disp K d 109 (uv K):=fun _=>rl H hd fun d hd=>V2 (A6l H) hd<|V5 (Q1 H) hd<|rfl
theorem Amv(hd:6<=d):S2 disp K d 112 MB:=fun _ _=>ld rfl rfl H (V2 (Wq H) hd<|rfl) 51 (fun c r=>e5 (Dl c r K) 0 3 4 26 27)
theorem Ak2(hd:5<=d):S4 disp K d 115 MC:=fun _ _ _ _=>ld rfl rfl H (V5 (Q1 H) hd<|V2 (Rx H) hd<|rfl) 11 (fun c r=>e5 (Gd c r K) 0 2 3 5 8)
theorem An1(hd:5<=d):S6 disp K d 177 MF:=fun _ _ _ _ _ _=>rd rfl rfl H (V5 (Q1 H) hd<|V2 (NC H) hd<|rfl)
theorem YY(hd:5<=d):S3 disp K d 184 CA:=fun _ _ _=>ld rfl rfl H (V2 (NC H) hd<|rfl) 207 (fun c r=>e5 (Qk c r K) 3 10 24 25 26)
theorem Akq(hd:6<=d):S2 disp K d 18 MG:=fun _ _=>ld rfl rfl H (V2 (Wq H) hd<|V2 (Et H) hd<|rfl) 207 (fun c r=>e8 (Dd c r K) 0 3 4 7 8 9 30 31)
theorem Aui(hd:6<=d):S3 disp K d 30 MN:=fun _ _ _=>ld rfl rfl H (V2 (HN H) hd<|V3 (Tm H) hd<|V1 (Dc H) hd<|rfl) 207 (fun c r=>e4 (N3 c r K) 0 1 2 10)
omit H in
theorem Aoj(c r:Ah)(K:Nat)(m:Nat):kX false (Yd K c) c r K 45 831 [(2,fun A tm h ds=>Vw c r K h)] m=(fun m A tm h ds=>I7 c r K m (A 0) (A 7) (A 55) (A 56) (A 57) h) m:=
 Qf (E:=fun m A tm h ds=>I7 c r K m (A 0) (A 7) (A 55) (A 56) (A 57) h) rfl (fun m=>kI fun A tm h ds=>by kernel_rfl) m
omit H in
theorem Aoe(c r:Ah)(K:Nat)(m:Nat):kX false (Yd K c) c r K 45 415 [(0,fun A tm h ds=>Vs c r K (A 0) (A 1) (A 7) h)] m=(fun m A tm h ds=>Ie c r K m (A 0) (A 1) (A 6) (A 7) (A 28) (A 29) (A 30) h) m:=
 Qf (E:=fun m A tm h ds=>Ie c r K m (A 0) (A 1) (A 6) (A 7) (A 28) (A 29) (A 30) h) rfl (fun m=>kI fun A tm h ds=>by kernel_rfl) m
theorem Arp(hd:6<=d):S2 disp K d 45 MV:=fun _ _=>rm (q:=false) (D:=Yd K (Ag TT disp K d false)) (by kernel_rfl) rfl rfl H (V2 (Atz H) hd<|V3 (Tm H) hd<|rfl) (cut [true,true,true,true,true,true,false,true,false] (Aoj (Ag TT disp K d false) (Ag TT disp K d true) K K) (by kernel_rfl) (by kernel_rfl) (cut [true,true,true,true,true,false,true,false] (Aoe (Ag TT disp K d false) (Ag TT disp K d true) K K) (by kernel_rfl) (by kernel_rfl) rfl))
theorem Al9(hd:6<=d):S4 disp K d 66 MW:=fun _ _ _ _=>rd rfl rfl H (V2 (Rx H) hd<|V1 (A2u H) hd<|V4 (ND H) hd<|rfl)
theorem Aur(hd:6<=d):S2 disp K d 74 MZ:=fun _ _=>rd rfl rfl H (V2 (Lq H) hd<|V3 (Tm H) hd<|rfl)
end
end
section
noncomputable section
section
variable (c r:Ah)(K l:Nat)(k0:A0)(k1:A1)(k2:A2)(k3:A3)(k4:A4)(k5:A5)(k6:A6)(k7:A7)(k8:A8)(k9:A9)(oM:mm)(oN:mq)(oO:ng)(m0:B0)(m1:B1)(m2:B2)(m3:B3)(m4:B4)(m5:B5)(m6:B6)(m7:B7)(m8:B8)(m9:B9)(oP:m_)(oQ:nf)(oR:nh)(base:Nat)(s:DX)(tm:Ba)(a b d e f g i j n o p q t u w x y z aa ab ad ae af ag ai aj an ao ap aq au aw ax ay az ba bb bd be bf bg bi bj bn bo bp bq bt bu bw bx bz da db dd de df dg di dj dn dp dq dt du dw dx dy dz ea eb ed ee ef eg ei ej en eo ep eq et eu ew ex ey ez fa fb fd fe ff fg fi fj fn fo fp fq ft fu fw fx fy fz ga gb gd ge gf gg gi gj gn go gp gq gt gu gw gx gy gz ia ib ie ig ii ij io ip iq it iu iw ix iy iz ja jb:EV)(h:Ab)(ds:List Nat)
def xG:Ru K R:=(.mk:Sg 0x122213 [a] h).F
def NF:Ru K R:=(.mk:Sg 0x125200e214722319e51c204422319e21c [a,b] h).F
def Tq:R:=(.mk:Sg 0x1542100101200e62820fe3101 [a,b] h [Dy (rB K),Eh (NF K)] [] [] [(.int .i64 (-1))]).F
def Hx:Ru K R:=(.mk:Sg 0x122213e203 [a] h).F
def NG:R:=(.mk:Sg 0x122210142116e203 [a,b] h [Dy (Hx K)]).F
def Qd:R:=(.mk:Sg 0x15421000232820fe32201 [a,b] h [Eh (Gy K),Eh (NG K)]).F
end
variable{d:Nat}(H:Bv disp)
include H
theorem Ary(hd:1<=d):R1 disp K d 204 (xG K):=fun _=>rl H hd
theorem Apz(hd:2<=d):R2 disp K d 205 (Tq K):=fun _ _=>rl H hd fun d hd=>V1 (HP H) hd<|rfl
theorem Z7(hd:1<=d):R1 disp K d 231 (Hx K):=fun _=>rl H hd
theorem Ar3(hd:2<=d):R2 disp K d 221 (Qd K):=fun _ _=>rl H hd fun d hd=>V2 (Kr H) hd<|V1 (Z7 H) hd<|rfl
end
end
section
noncomputable section
section
variable (c r:Ah)(K l:Nat)(k0:A0)(k1:A1)(k2:A2)(k3:A3)(k4:A4)(k5:A5)(k6:A6)(k7:A7)(k8:A8)(k9:A9)(oM:mm)(oN:mq)(oO:ng)(m0:B0)(m1:B1)(m2:B2)(m3:B3)(m4:B4)(m5:B5)(m6:B6)(m7:B7)(m8:B8)(m9:B9)(oP:m_)(oQ:nf)(oR:nh)(base:Nat)(s:DX)(tm:Ba)(a b d e f g i j n o p q t u w x y z aa ab ad ae af ag ai aj an ao ap aq au aw ax ay az ba bb bd be bf bg bi bj bn bo bp bq bt bu bw bx bz da db dd de df dg di dj dn dp dq dt du dw dx dy dz ea eb ed ee ef eg ei ej en eo ep eq et eu ew ex ey ez fa fb fd fe ff fg fi fj fn fo fp fq ft fu fw fx fy fz ga gb gd ge gf gg gi gj gn go gp gq gt gu gw gx gy gz ia ib ie ig ii ij io ip iq it iu iw ix iy iz ja jb:EV)(h:Ab)(ds:List Nat)
def sj:Ru K R:=(.mk:Sg 0x122279e921007e [a] h [] [cu1 (fun a=>Bo (Df [(0,1),(1,1),(2,1),(3,1),(4,1),(5,1),(6,2)]) [.Ch,.int .i64 0,.bool false,.int .i64 0,.int .i64 0,.int .i64 0,.int .i64 0,.int .i64 0] [(0,a)])]).F
def Pz:Ru K R:=(.mk:Sg 0x122213 [a] h).F
def P8:Ru K R:=(.mk:Sg 0x122223 [a] h).F
def Yj:Ru K R:=(.mk:Sg 0x122233 [a] h).F
def Arr:Ru K (Ru r R):=(.mk:Sg 0x1240200e32201 [a,b] h [c 179]).F
def NH:R:=
 il f g fun i=>
 hQ i
 (some (.tuple [d,e],h))
 (Arr c r K a b h)
def NI:R:=(.mk:Sg 0x1203236561024347661000215e802e01e3d20ce32201 [a,b] h [c 178,cl6 (NH c r K)]).F
def Aq3:Ru K (Ru r R):=(.mk:Sg 0x1240200e42201203 [a,b] h [c 59]).F
def NJ:R:=(.mk:Sg 0x1322000050200e63043701e [a,b,d] h [Eh (Aq3 c r K)]).F
def NK:R:=(.mk:Sg 0x14ba320340200e50ee0315e701e5212e629ff3fc17e023e05eb18e421ae20ce232131e67665605b21001e47273011e0ee [a,b,d] h [Dy (Ef K),c 18,Kk (NJ c r K)] [] [List.replicate 32 (.int .u8 0)]).F
def NL:R:=(.mk:Sg 0x13a93200050200e61023801e204321e0606e20ce522112101203 [a,b] h [Dy (Gr K),Eh (Lf K),Kk (NK c r K)] [] [[.int .i64 0,.int .i64 0,.int .i64 0,.int .i64 0,.int .i64 0,.int .i64 0]]).F
def Wk:Ru K (Ru r (Ru c R)):=(.mk:Sg 0x10040200e [] h).F
def NN:R:=(.mk:Sg 0x10a00a0242911e57236e5284b5314e2183275171170ee13e0123701e23200e20ce6161a8023701e240200e51519c023701e340200e323e012e06e20ce2624131406e6023701e240200e102633131401e3023701e240200e2b221ff3f972111818e252107e2102ae6721007e484210e322110e0ee1ee1023701e204240e9 [a,b,d] h [Dy (tV K),Dy (fun o=>Bz ([.int .i64 0]++List.replicate 32 (.int .u8 0)) 84 33 1 [(0,o)]),c 45,c 30,c 47,c 61,c 83,Dy (Ef K),Dy (Bu K),c 63,cl0 (Wk c r K)] [cu1 (fun i=>So .u8 i),cu2 (fun g n=>Bo (Df [(0,1),(1,32)]) ([.int .i64 0]++List.replicate 32 (.int .u8 0)) [(0,g),(1,n)])] [List.replicate 32 (.int .u8 0)] [(.int .i64 6)]).F
def Zo:Ru K R:=
 some (a,h)
def Zu:Ru K R:=
 Jg e fun f=>
 k4 a b d f h
def Zm:R:=(.mk:Sg 0x18765420982642060ae928722112101203 [a,b,d,e] h [Dy (Ef K),Eh (D5 K),Tc (Zu K k4)]).F
def Iy(K:Nat):Nat->A4
 | 0=>fun _ _ _ _ _=>none
 | m+1=>fun a b d e h=>
  cE I8 .lss 3 e d
  (Zm K (Iy K m) a b d e h)
  (Zo K b h)
def Lz:R:=(.mk:Sg 0x1002006430212121112101203 [a] h [Dy (Gr K),Dy (Ek K),Dy (Dn K),Tc (Iy K K)]).F
def NO:Ru K (Ru r R):=(.mk:Sg 0x123200e20ce23201213 [a] h [c 150]).F
def NP:R:=(.mk:Sg 0x1713023200e20ce29221421ee71303e323601e61321007e21112101203 [a] h [Dy (Gr K),Dy (Ek K),c 149,Dy (NO c r K)] [cu1 (fun e=>Vx 3 false 0 e)]).F
def Nv:R:=(.mk:Sg 0x1222724e6021de21007e2113e03fa72101e03f974d2e8011e20ae273111e0ee [a] h [Dy (Gr K),Dy (Ek K)] [cu1 (fun g=>Vx 3 false 0 g)]).F
def Pq(c:Ah)(r:Ah)(K:Nat)(base:Nat)(s:DX)(a:EV)(b:EV)(h:Ab):R:=
 hG a b fun d=>
 some (.tuple [d,(.int .i64 0)],h)
def Xd:R:=
 fE 0 a h fun e=>
 Am (Ef K e h) fun f h=>
 Am (Gj K f h) fun g h=>
 Am (c 207 [g,b,d] h) fun i h=>
 kS i fun j n=>
 kD 4 [(.int .i64 0),(.int .i64 0),(.int .i64 0),.Ch] 160 j h fun o h=>
 Zy h fun base s=>
 J5 iW (bin TT .eql 35) n (.int .i64 0) fun p=>
 iQ p
 (h_ 0 4 15 base o s h fun s q=>
 jw 0 8 231 base a s h fun s t=>
 Ld 9 487 s h (fun h=>(Rs K t h)) fun u h s=>
 Vx 0 false 0 u fun w=>
 nv q w fun x=>
 Pq c r K base s p x h)
 (Pq c r K base s p tU h)
def Yq:R:=(.mk:Sg 0x1543300640200e5287609e [a,b,d,e,f,g] h [Kk (Xd c r K)]).F
def X0:R:=(.mk:Sg 0x1202358761023469861040feb2d00215e802e421ae20ce32201 [a,b] h [c 206,cl6 (Yq c r K)]).F
def Yi:R:=(.mk:Sg 0x1432000040200e6285409e [a,b,d,e] h [Eh (X0 c r K)]).F
def NQ:R:=(.mk:Sg 0x120248440257b44062231212180305e2d01324e20ce522112101203 [a,b] h [Dy (xG K),Eh (Tq K),Dy (Ef K),Eh (D5 K),Tc (Yi c r K)] [] [] [(.int .i64 (-1))]).F
def uw:R:=(.mk:Sg 0x121e02e1104e202e66c654216b514e4216a414ec0d201c11152167314e52166214e52165114e108201307201306201221e0606e21007e103201021e05e [a] h [Eh (E1 K),Dy (fun a=>E1 K a (.int .i64 6))] [cu1 (fun d=>Bo (Df [(0,1),(1,1),(2,1),(3,1),(4,1),(5,1)]) [.int .i64 0,.int .i64 0,.int .i64 0,.int .i64 0,.int .i64 0,.int .i64 0] [(0,d)])] [[.int .i64 0,.int .i64 0,.int .i64 0,.int .i64 0,.int .i64 0,.int .i64 0]]).F
def NR:Ru K (Ru r (Ru c R)):=
 some (.tuple [a,b],h)
def Oy:R:=(.mk:Sg 0x105e04e22009e08e22032262fff3fc17e06e6c232107e04ed2e8311e03e00e4411e0ee12e04e808e21602e2c06e21601e5c04e21600e4c321621ffff5f03e17ed1c273103e6021de21007e2117c03fb72103c03fa771c03f9011e20ae500e4111e0ee321643c20ae233 [a,b,d,e,f,g] h [Dy (Gr K),Dy (Ek K),Eh (NR c r K)] [cu1 (fun u=>Vx 3 false 0 u),cu2 (fun ae af=>Bo (Mt 1) [.int .i64 0,.int .i64 0] [(0,ae),(1,af)])]).F
def Ue:R:=(.mk:Sg 0x18765436000ee040200e628980be [a,b,d,e,f,g,i,j] h [cl6 (Oy c r K)]).F
def Ui:R:=(.mk:Sg 0x120276542381025a9875681000215e802e21013030ae2a870be [a,b,d,e,f,g,i] h [c 60,cl8 (Ue c r K)]).F
def Up:R:=(.mk:Sg 0x120237654710234876571030fec2a31017609e [a,b,d,e,f,g] h [Dy (Nv K),cl7 (Ui c r K)]).F
def Ud:R:=(.mk:Sg 0x12065432600276543600870bec6d [a,b,d,e,f,g,i] h [cl6 (Up c r K)]).F
def Ul:R:=(.mk:Sg 0x12076543271029876547106225e210103e7a [a,b,d,e,f,g] h [Dy (Lz K),cl7 (Ud c r K)]).F
def NS:R:=(.mk:Sg 0x120265436102376546103101d2d7609e [a,b,d,e,f,g] h [Dy (Nv K),cl6 (Ul c r K)]).F
def T8:R:=(.mk:Sg 0x1207653260028764360040feb7d [a,b,d,e,f,g] h [cl6 (NS c r K)]).F
def NT:R:=(.mk:Sg 0x134597660040a2b9860020ae63301e0023701e513423353243 [a,b,d,e] h [cl6 (T8 c r K)]).F
def NU:R:=(.mk:Sg 0x13526420240200e50ee0215e701e20ce31112101 [a] h [Dy (Lz K),c 118,Tc (NT c r K)]).F
def NV:Ru K (Ru r (Ru c R)):=(.mk:Sg 0x100050020304e [a] h).F
def NW:Ru K (Ru r (Ru c R)):=
 Jg f fun g=>
 k5 a b d e g h
def NX:R:=
 Pg 64 e h fun i=>
 Am (Bz (List.replicate 64 (.int .u8 0)) 30 64 1 [(0,i)] h) fun j h=>
 Am (Eo 30 64 d j h) fun n h=>
 NW c r K k5 a b n f g h
def NY:R:=(.mk:Sg 0x1875432600000400b00304eb612e [a,b,d,e,f,g,i] h [cl6 (NX c r K k5)]).F
def NZ:R:=(.mk:Sg 0x198765437000ee00400b00304eb28a909e [a,b,d,e,f,g,i,j,n] h [cl7 (NY c r K k5)]).F
def N':R:=(.mk:Sg 0x120987654329002a9876543900ba0be01e9d [a,b,d,e,f,g,i,j,n,o] h [cl9 (NZ c r K k5)]).F
def N_:R:=(.mk:Sg 0x120a98765432a102cba987654a100ee0215e702e232010aeaa [a,b,d,e,f,g,i,j,n] h [c 134,Bsa (N' c r K k5)]).F
def OA:R:=(.mk:Sg 0x1202cb43a9892023dc54ba99200ce0415e702e04e2d0ee0315e702e310e032e06e20ce7323113101 [a,b,d,e,f] h [Dy (Bu K),c 106,cl9 (N_ c r K k5)] [] [List.replicate 64 (.int .u8 0)]).F
def Km(c:Ah)(r:Ah)(K:Nat):Nat->A5
 | 0=>fun _ _ _ _ _ _=>none
 | m+1=>fun a b d e f h=>
  cE I8 .lss 3 f e
  (OA c r K (Km c r K m) a b d e f h)
  (NV c r K d h)
def OB:R:=(.mk:Sg 0x1002b05854072231212121112101203 [a,b] h [Dy (Ef K),Dy (Bu K),Dy (D7 K),Eh (Qd K),cl5 (Km c r K K)]).F
def sk:R:=(.mk:Sg 0x14092e0de1204e20de4604e45421603e314e20ce213186552167514e52166414e52165314e1000e22110d22130c221209e1606e2343207e10922110822110722132462f1e817e092e05e718e2343107e41102e57743310e611410e0ee210121007e3514e092e05e299e9 [a] h [Dy (oT K),Dy (fun g=>E1 K g (.int .i64 6)),Eh (E1 K),Dy (pR K)] [cu1 (fun e=>Nq 44 1 e none none none),cu3 (fun i j n=>Bo (Df [(0,1),(1,1),(2,1),(3,1)]) [.int .i64 0,.int .i64 0,.int .i64 0,.Ch] [(0,i),(1,j),(2,n)]),cu3 (fun q t u=>Bo (Df [(0,1),(1,1),(2,1),(3,1),(4,1),(5,1)]) [.int .i64 0,.int .i64 0,.int .i64 0,.int .i64 0,.int .i64 0,.int .i64 0] [(0,q),(1,t),(2,u)])] [[.int .i64 0,.int .i64 0,.int .i64 0,.Ch],[.int .i64 0,.int .i64 0,.int .i64 0,.int .i64 0,.int .i64 0,.int .i64 0]]).F
def xH:Ru K (Ru r R):=(.mk:Sg 0x12092e51204e354620ce3101 [a,b] h [c 222]).F
def OC:Ru K (Ru r (Ru c R)):=
 Jg i fun j=>
 k7 a b d e f g j h
def OD:R:=
 Pg 49 f h fun n=>
 Am (Bz (List.replicate 5 (.int .i64 0)++List.replicate 44 (.int .u8 0)) 167 49 1 [(0,n)] h) fun o h=>
 Am (Eo 167 49 e o h) fun p h=>
 OC c r K k7 a b d p g i j h
def OE:R:=(.mk:Sg 0x103e02e01e200edcb82000ed2105312e399e123e06e20ced723401332e56f2e5210e032e06e232e58632e15e [a,b,d,e,f,g,i] h [Tc (se K),Eh (xH c r K),cl8 (OD c r K k7)] [] [List.replicate 64 (.int .u8 0),List.replicate 5 (.int .i64 0)++List.replicate 44 (.int .u8 0)]).F
def U1(c:Ah)(r:Ah)(K:Nat):Nat->A7
 | 0=>fun _ _ _ _ _ _ _ _=>none
 | m+1=>fun a b d e f g i h=>
  cE I8 .lss 3 i g
  (OE c r K (U1 c r K m) a b d e f g i h)
  (xH c r K d e h)
def OG:R:=(.mk:Sg 0x10027b0346700613e092e05e252e9 [a,b,d] h [cl7 (U1 c r K K)] [] [[.int .i64 0,.int .i64 0,.int .i64 0,.Ch]]).F
def uz:Ru K R:=(.mk:Sg 0x1002 [] h).F
def OH:Ru K R:=
 Jg e fun f=>
 k4 a b d f h
def OI:R:=(.mk:Sg 0x1a765410222212e283301665234 [a,b,d,e,f,g] h [Kk (Le K),Tc (OH K k4)]).F
def OJ:R:=(.mk:Sg 0x100e65dcb6300203263601e21007e211183472662f5e917e021e05e818e921de2301fe1021ee443210e4101170ee [a,b,d,e] h [Dy (uw K),Dy (Ek K),cl0 (uz K),cl6 (OI K k4)] [cu1 (fun q=>Vx 3 false 0 q)] [[.int .i64 0,.int .i64 0,.int .i64 0,.int .i64 0,.int .i64 0,.int .i64 0]]).F
def X2(K:Nat):Nat->A4
 | 0=>fun _ _ _ _ _=>none
 | m+1=>fun a b d e h=>
  cE I8 .lss 3 e (.int .i64 2)
  (OJ K (X2 K m) a b d e h)
  (uz K h)
def sr:R:=(.mk:Sg 0x100256410210121007e2514e499e9292e9 [a,b] h [Dy (oT K),Tc (X2 K K)] [cu1 (fun f=>Nq 44 1 f (some (.int .i64 1)) none none)]).F
def T6:Ru K (Ru r (Ru c R)):=
 some (a,h)
def Gf:R:=(.mk:Sg 0x131207023212e211124534010007e [a,b,d] h [Tc (rK K),c 61,Dy (T6 c r K)] [cu0 (Bo (Df [(0,1),(1,1),(2,1)]) [.int .i64 0,.int .i64 0,.int .i64 0] [(1,.int .i64 1),(2,.int .i64 1)])]).F
def Mx:Ru K (Ru r (Ru c R)):=
 Jg f fun g=>
 k5 a b d e g h
def T3:R:=(.mk:Sg 0x187654530a987653092221411103e2820fe64201 [a,b,d,e,f] h [c 55,Dy (Cs K),c 56,cl5 (Mx c r K k5)]).F
def Ed(c:Ah)(r:Ah)(K:Nat):Nat->A5
 | 0=>fun _ _ _ _ _ _=>none
 | m+1=>fun a b d e f h=>
  cE I8 .lss 3 f e
  (T3 c r K (Ed c r K m) a b d e f h)
  (Gf c r K a b d h)
def My:R:=(.mk:Sg 0x10027655102101265 [a,b,d,e] h [Dy (Dn K),cl5 (Ed c r K K)]).F
def T4:Ru K (Ru r (Ru c R)):=
 Jg f fun g=>
 k5 a b d e g h
def Ty:R:=(.mk:Sg 0x1cba9851025ba40120ae291fe414271fe214 [a,b,d,e,f] h [Tc (Sv K),cl5 (T4 c r K k5)]).F
def Dj(c:Ah)(r:Ah)(K:Nat):Nat->A5
 | 0=>fun _ _ _ _ _ _=>none
 | m+1=>fun a b d e f h=>
  cE I8 .lss 3 f (.int .i64 3)
  (Ty c r K (Dj c r K m) a b d e f h)
  (My c r K a b d e h)
def Mg:R:=
 Am (rJ K b h) fun e h=>
 Dj c r K K a b d e (.int .i64 0) h
def Sj:R:=(.mk:Sg 0x15433007023286509e [a,b,d,e,f] h [Kk (Mg c r K)]).F
def Sz:R:=(.mk:Sg 0x120248c5302359d53000315e802e00e2d00615e802e20ce212176520ce2353173700027265201b0ee [a,b] h [cl0 (xo K),Kk (sc K),Dy (pR K),cl5 (Sj c r K)]).F
def Sn:R:=(.mk:Sg 0x1392207023212e20ce2343131e67502e5510e443210e210117265200b0ee [a] h [Dy (Dn K),Kk (r9 K),Eh (Sz c r K)]).F
def H9:R:=(.mk:Sg 0x131007023284309e [a,b,d] h [Dy (Sn c r K)]).F
def W8:R:=(.mk:Sg 0x1202531026931015e0222e231fe61450405e2d20fe2101265209e9 [a] h [Dy (Hv K),Kk (H9 c r K)]).F
abbrev Oi(K:Nat)(c:Ah):Ah:=(w1 48 (Hv K) (w4 57 (rK K) (w1 22 (Cs K) (w1 24 (Dn K) (w4 54 (Sv K) (w1 53 (rJ K) (w0 51 (xo K) (w3 50 (sc K) (w1 52 (pR K) (w3 49 (r9 K) c))))))))))
def xI:Ru K (Ru r (Ru c R)):=(.mk:Sg 0x100092e31204e2346345 [a,b] h).F
def OK:Ru K (Ru r (Ru c R)):=
 Jg g fun i=>
 k6 a b d e f i h
def OL:R:=(.mk:Sg 0x1dcba9860000e0092ea1204e2a460007e01e2499e801e223e5b623e15e223e5299e023e06e223e57523e15e [a,b,d,e,f,g] h [cl6 (OK c r K k6)] [cu0 (Bo (Df [(0,1),(1,1),(2,1),(3,1)]) [.int .i64 0,.int .i64 0,.int .i64 0,.Ch] [])] [List.replicate 5 (.int .i64 0)++List.replicate 44 (.int .u8 0)]).F
def Tg(c:Ah)(r:Ah)(K:Nat):Nat->A6
 | 0=>fun _ _ _ _ _ _ _=>none
 | m+1=>fun a b d e f g h=>
  cE I8 .lss 3 g f
  (OL c r K (Tg c r K m) a b d e f g h)
  (xI c r K b d h)
def OM:R:=
 Hg e fun f=>
 Tg c r K K a b d e f (.int .i64 0) h
def uA:R:=(.mk:Sg 0x13a9841000e0092ea1204e2a460007e01e212e20ce242011e57200e4110e00323e15e445400b0ee [a,b,d] h [c 212,Tc (OM c r K)] [cu0 (Bo (Df [(0,1),(1,1),(2,1),(3,1)]) [.int .i64 0,.int .i64 0,.int .i64 0,.Ch] [])]).F
def ON:Ru K (Ru r (Ru c R)):=
 Jg g fun i=>
 k6 a b d e f i h
def OO:R:=(.mk:Sg 0x187654360000e0092e51204e25460007e01e289809e [a,b,d,e,f,g,i,j] h [cl6 (ON c r K k6)] [cu0 (Bo (Df [(0,1),(1,1),(2,1),(3,1)]) [.int .i64 0,.int .i64 0,.int .i64 0,.Ch] [])]).F
def OP:R:=(.mk:Sg 0x1202dcba988102603e02e01e00edc81000215e802e23201623e5a450ee2d2325eb0ae224299e023e06e223e57523e15e [a,b,d,e,f,g] h [Eh (sr K),cl8 (OO c r K k6)] [] [List.replicate 5 (.int .i64 0)++List.replicate 44 (.int .u8 0)]).F
def Qu(c:Ah)(r:Ah)(K:Nat):Nat->A6
 | 0=>fun _ _ _ _ _ _ _=>none
 | m+1=>fun a b d e f g h=>
  cE I8 .lss 3 g f
  (OP c r K (Qu c r K m) a b d e f g h)
  (uA c r K a b d h)
def OQ:R:=(.mk:Sg 0x10023987620213e252007e21112101434 [a,b,d] h [Dy (Ek K),Dy (Il K),cl6 (Qu c r K K)] [cu2 (fun a g=>iD 49 a (some (.int .i64 1)) (some g) none)]).F
def OR:R:=(.mk:Sg 0x154330000e0092e51204e25460007e01e286509e [a,b,d,e,f] h [Kk (OQ c r K)] [cu0 (Bo (Df [(0,1),(1,1),(2,1),(3,1)]) [.int .i64 0,.int .i64 0,.int .i64 0,.Ch] [])]).F
def OS:R:=(.mk:Sg 0x12023a953027801e00e5302322ec13e212121113340ae2d00315e802e392e0406e20ce2101223e500223e15e [a,b] h [Dy (sk K),Dy (Ek K),Dy (Il K),cl5 (OR c r K)] [] [[.int .i64 0,.int .i64 0,.int .i64 0,.Ch]]).F
def OT:R:=(.mk:Sg 0x13420000e0092e41204e24460007e01e0023701e313e092e05e [a] h [Eh (OS c r K)] [cu0 (Bo (Df [(0,1),(1,1),(2,1),(3,1)]) [.int .i64 0,.int .i64 0,.int .i64 0,.Ch] [])] [[.int .i64 0,.int .i64 0,.int .i64 0,.Ch]]).F
abbrev xJ(K:Nat)(c:Ah):Ah:=(w2 233 (sr K) (w1 120 (Ek K) (w1 126 (Il K) (w1 232 (sk K) c))))
end
variable{d:Nat}(H:Bv disp)
include H
theorem OU(hd:1<=d):R1 disp K d 41 (sj K):=fun _=>rl H hd
theorem Al1(hd:1<=d):R1 disp K d 43 (Pz K):=fun _=>rl H hd
theorem Alu(hd:1<=d):R1 disp K d 44 (P8 K):=fun _=>rl H hd
theorem An4(hd:1<=d):R1 disp K d 84 (Yj K):=fun _=>rl H hd
theorem Ao3(hd:0<=d):S2 disp K d 149 NI:=fun _ _=>rd rfl rfl H rfl
theorem Ant(hd:1<=d):S2 disp K d 150 NL:=fun _ _=>rd rfl rfl H (V1 (N5 H) hd<|V2 (Lq H) hd<|V1 (Jw H) hd<|rfl)
theorem Ajl(hd:1<=d):S3 disp K d 42 NN:=fun _ _ _=>rd rfl rfl H (V1 (A0f H) hd<|V1 (Jw H) hd<|V1 (Eb H) hd<|rfl)
theorem Amx(hd:4<=d):R1 disp K d 117 (Lz K):=fun _=>ll H hd (fun d hd=>V1 (N5 H) hd<|V1 (Fv H) hd<|V1 (E7 H) hd<|V1 (Jw H) hd<|V2 (Et H) hd<|rfl) 51 (e4 (Iy K) 0 3 11 12)
theorem Ap7(hd:1<=d):S1 disp K d 118 NP:=fun _=>rd rfl rfl H (V1 (N5 H) hd<|V1 (Fv H) hd<|rfl)
theorem An2(hd:2<=d):R1 disp K d 119 (Nv K):=fun _=>rl H hd fun d hd=>V1 (N5 H) hd<|V1 (Fv H) hd<|rfl
theorem Alk(hd:3<=d):S2 disp K d 178 NQ:=fun _ _=>rd rfl rfl H (V1 (Ary H) hd<|V2 (Apz H) hd<|V1 (Jw H) hd<|V2 (Et H) hd<|V1 (Wj H) hd<|V1 (Anv H) hd<|rfl)
theorem A3t(hd:3<=d):R1 disp K d 237 (uw K):=fun _=>rl H hd fun d hd=>V2 (N0 H) hd<|rfl
theorem Aq4(hd:4<=d):S1 disp K d 83 NU:=fun _=>rd rfl rfl H (V1 (Amx H) hd<|V1 (N5 H) hd<|V1 (Fv H) hd<|V1 (An2 H) hd<|rfl)
theorem Aoz(hd:2<=d):S2 disp K d 206 OB:=fun _ _=>ld rfl rfl H (V1 (Jw H) hd<|V1 (Eb H) hd<|V1 (Mo H) hd<|V2 (Ar3 H) hd<|rfl) 103 (fun c r=>e5 (Km c r K) 1 7 8 21 22)
theorem A0k(hd:5<=d):R1 disp K d 232 (sk K):=fun _=>rl H hd fun d hd=>V1 (um H) hd<|V2 (N0 H) hd<|V1 (NA H) hd<|rfl
theorem A0q(hd:6<=d):S3 disp K d 207 OG:=fun _ _ _=>ld rfl rfl H (V4 (ND H) hd<|rfl) 51 (fun c r=>e7 (U1 c r K) 1 3 6 8 13 14 15)
theorem A3s(hd:7<=d):R2 disp K d 233 (sr K):=fun _ _=>ll H hd (fun d hd=>V1 (um H) hd<|V3 (Tm H) hd<|V1 (A3t H) hd<|V1 (Fv H) hd<|rfl) 51 (e4 (X2 K) 2 3 5 13)
omit H in
theorem Aex(c r:Ah)(K:Nat)(m:Nat):kX false (Oi K c) c r K 40 6655 [(2,fun A tm h ds=>Gf c r K (A 5) (A 7) (A 9) h)] m=(fun m A tm h ds=>Ed c r K m (A 5) (A 7) (A 9) (A 73) (A 74) h) m:=
 Qf (E:=fun m A tm h ds=>Ed c r K m (A 5) (A 7) (A 9) (A 73) (A 74) h) rfl (fun m=>kI fun A tm h ds=>by kernel_rfl) m
omit H in
theorem Aco(c r:Ah)(K:Nat)(m:Nat):kX false (Oi K c) c r K 40 3327 [(0,fun A tm h ds=>My c r K (A 1) (A 5) (A 7) (A 9) h)] m=(fun m A tm h ds=>Dj c r K m (A 1) (A 5) (A 7) (A 9) (A 56) h) m:=
 Qf (E:=fun m A tm h ds=>Dj c r K m (A 1) (A 5) (A 7) (A 9) (A 56) h) rfl (fun m=>kI fun A tm h ds=>by kernel_rfl) m
theorem Af6(hd:5<=d):S1 disp K d 40 W8:=fun _=>rm (q:=false) (D:=Oi K (Ag TT disp K d false)) (by kernel_rfl) rfl rfl H (V1 (Ag7 H) hd<|V4 (A6b H) hd<|V1 (Hu H) hd<|V1 (E7 H) hd<|V4 (Auk H) hd<|V1 (A6x H) hd<|V0 (A9w H) hd<|V3 (A2f H) hd<|V1 (NA H) hd<|V3 (A64 H) hd<|rfl) (cut [true,true,true,true,true,true,true,true,true,false,true,false] (Aex (Ag TT disp K d false) (Ag TT disp K d true) K K) (by kernel_rfl) (by kernel_rfl) (cut [true,true,true,true,true,true,true,true,false,true,false] (Aco (Ag TT disp K d false) (Ag TT disp K d true) K K) (by kernel_rfl) (by kernel_rfl) rfl))
omit H in
theorem A2v(c r:Ah)(K:Nat)(m:Nat):kX false (xJ K c) c r K 222 3327 [(2,fun A tm h ds=>xI c r K (A 2) (A 4) h)] m=(fun m A tm h ds=>Tg c r K m (A 0) (A 2) (A 4) (A 73) (A 74) (A 75) h) m:=
 Qf (E:=fun m A tm h ds=>Tg c r K m (A 0) (A 2) (A 4) (A 73) (A 74) (A 75) h) rfl (fun m=>kI fun A tm h ds=>by kernel_rfl) m
omit H in
theorem Azr(c r:Ah)(K:Nat)(m:Nat):kX false (xJ K c) c r K 222 415 [(0,fun A tm h ds=>uA c r K (A 0) (A 2) (A 4) h)] m=(fun m A tm h ds=>Qu c r K m (A 0) (A 2) (A 4) (A 41) (A 42) (A 43) h) m:=
 Qf (E:=fun m A tm h ds=>Qu c r K m (A 0) (A 2) (A 4) (A 41) (A 42) (A 43) h) rfl (fun m=>kI fun A tm h ds=>by kernel_rfl) m
theorem A3n(hd:7<=d):S1 disp K d 222 OT:=fun _=>rm (q:=false) (D:=xJ K (Ag TT disp K d false)) (by kernel_rfl) rfl rfl H (V2 (A3s H) hd<|V1 (Fv H) hd<|V1 (Uj H) hd<|V1 (A0k H) hd<|rfl) (cut [true,true,true,true,true,true,true,true,false,true,false] (A2v (Ag TT disp K d false) (Ag TT disp K d true) K K) (by kernel_rfl) (by kernel_rfl) (cut [true,true,true,true,true,false,true,false] (Azr (Ag TT disp K d false) (Ag TT disp K d true) K K) (by kernel_rfl) (by kernel_rfl) rfl))
end
end
noncomputable section
section
variable (c r:Ah)(K l:Nat)(k0:A0)(k1:A1)(k2:A2)(k3:A3)(k4:A4)(k5:A5)(k6:A6)(k7:A7)(k8:A8)(k9:A9)(oM:mm)(oN:mq)(oO:ng)(m0:B0)(m1:B1)(m2:B2)(m3:B3)(m4:B4)(m5:B5)(m6:B6)(m7:B7)(m8:B8)(m9:B9)(oP:m_)(oQ:nf)(oR:nh)(base:Nat)(s:DX)(tm:Ba)(a b d e f g i j n o p q t u w x y z aa ab ad ae af ag ai aj an ao ap aq au aw ax ay az ba bb bd be bf bg bi bj bn bo bp bq bt bu bw bx bz da db dd de df dg di dj dn dp dq dt du dw dx dy dz ea eb ed ee ef eg ei ej en eo ep eq et eu ew ex ey ez fa fb fd fe ff fg fi fj fn fo fp fq ft fu fw fx fy fz ga gb gd ge gf gg gi gj gn go gp gq gt gu gw gx gy gz ia ib ie ig ii ij io ip iq it iu iw ix iy iz ja jb:EV)(h:Ab)(ds:List Nat)
def Rg:Ru K (Ru r (Ru c R)):=
 some ((.bool true),h)
def Hl:Ru K (Ru r (Ru c R)):=
 Jg f fun g=>
 k5 a b d e g h
def Ry:R:=(.mk:Sg 0x1765435004023288709e [a,b,d,e,f,g,i] h [cl5 (Hl c r K k5)]).F
def K3:R:=(.mk:Sg 0x1202765437102387654710410100e2d8709e [a,b,d,e,f,g,i] h [Dy (P8 K),cl7 (Ry c r K k5)]).F
def Lc:R:=(.mk:Sg 0x1207654327002876543700980bed7d [a,b,d,e,f,g,i,j] h [cl7 (K3 c r K k5)]).F
def K9:R:=(.mk:Sg 0x12098765328102cba9865810264802e00224e31010ae9a [a,b,d,e,f,g,i,j] h [Dy (Pz K),cl8 (Lc c r K k5)]).F
def Lb:R:=(.mk:Sg 0x120298764380024ba986580080224e50404e2da90be [a,b,d,e,f,g,i,j,n] h [cl8 (K9 c r K k5)]).F
def K8:R:=(.mk:Sg 0x120987654329002a9876543900ba09e01e9a [a,b,d,e,f,g,i,j,n,o] h [cl9 (Lb c r K k5)]).F
def Lg:R:=(.mk:Sg 0x120a98765432a002cba987654a0080224e40406ead [a,b,d,e,f,g,i,j,n] h [Bsa (K8 c r K k5)]).F
def Qi:R:=(.mk:Sg 0x1202cba498791023dcb5a9891003e0315e802e04e2a00215e802e20ce432301439e5 [a,b,d,e,f,g] h [c 42,cl9 (Lg c r K k5)]).F
def Qe:R:=(.mk:Sg 0x1a98376610a987650080123701e204240e039e06e239e56439e15e [a,b,d,e,f] h [cl5 (Hl c r K k5),cl6 (Qi c r K k5)] [] [List.replicate 7 (.int .i64 0)++List.replicate 64 (.int .u8 0)] [(.int .i64 6)]).F
def Cx(c:Ah)(r:Ah)(K:Nat):Nat->A5
 | 0=>fun _ _ _ _ _ _=>none
 | m+1=>fun a b d e f h=>
  cE I8 .lss 3 f e
  (Qe c r K (Cx c r K m) a b d e f h)
  (Rg c r K h)
def Qq:R:=(.mk:Sg 0x1002435510313e3101 [a,b] h [Dy (sj K),cl5 (Cx c r K K)]).F
def Gt:R:=(.mk:Sg 0x1432005023285409e [a,b,d,e] h [Eh (Qq c r K)]).F
def Qm:R:=(.mk:Sg 0x120235410245741001222e513ed2d7020ce702e2101365 [a,b] h [c 40,Tc (Gt c r K)] [] [] [(.int .i64 120)]).F
def Ol:R:=(.mk:Sg 0x14621040232820fe001209e9 [a,b] h [c 39,Eh (Qm c r K)]).F
def Ajp:Ru K (Ru r (Ru c R)):=
 hG a b fun d=>
 some (d,h)
def U4:R:=(.mk:Sg 0x120221024210c0224e3101d2a430be [a,b,d] h [Dy (Yj K),Eh (Ajp c r K)]).F
def U0:R:=(.mk:Sg 0x1203531024631000215e702ec3a20ce2101 [a] h [c 83,Kk (U4 c r K)]).F
def Uy:Ru K (Ru r (Ru c R)):=
 Jg b fun d=>
 k2 a d h
def U3:R:=(.mk:Sg 0x1432004023285409e [a,b,d,e] h [Eh (Uy c r K k2)]).F
def Uw:R:=(.mk:Sg 0x120365410247641000215e802ed3d20ce2101 [a,b] h [c 83,Tc (U3 c r K k2)]).F
def El(c:Ah)(r:Ah)(K:Nat):Nat->A2
 | 0=>fun _ _ _=>none
 | m+1=>fun a b h=>
  cE I8 .lss 3 b (.int .i64 3)
  (Uw c r K (El c r K m) a b h)
  (U0 c r K a h)
def U6:R:=
 Am (sj K a h) fun b h=>
 El c r K K b (.int .i64 0) h
def Z1:R:=(.mk:Sg 0x1211040237020ce701e21010007e [] h [c 40,Dy (U6 c r K)] [cu0 (Bo (Df [(0,1),(1,1),(2,1),(3,1),(4,1),(5,1)]) [.int .i64 0,.int .i64 0,.int .i64 0,.int .i64 0,.int .i64 0,.int .i64 0] [(0,.int .i64 3),(1,.int .i64 8),(2,.int .i64 8),(3,.int .i64 1),(5,.int .i64 4)])]).F
end
variable{d:Nat}(H:Bv disp)
include H
theorem Acw(hd:1<=d):S2 disp K d 10 Ol:=fun _ _=>ld rfl rfl H (V1 (Alu H) hd<|V1 (Al1 H) hd<|V1 (OU H) hd<|rfl) 415 (fun c r=>e5 (Cx c r K) 5 6 24 25 26)
theorem Ahe(hd:1<=d):S0 disp K d 39 Z1:=ld rfl rfl H (V1 (An4 H) hd<|V1 (OU H) hd<|rfl) 207 (fun c r=>e2 (El c r K) 2 13)
end
end Go.Ev
