import Derived.Test.YtllikommdogjcaaGreatProg
import Derived.Test.YtllikommdogjcaaGreatEvFive
set_option linter.all false
namespace Go.Ev
noncomputable section
open Go.Proofs
set_option maxRecDepth 100000
set_option maxHeartbeats 4000000
variable {disp:Nat->Option FT}{K d0 sz base:Nat}{v:EV}{h h' h0:Ab}{P Q:EV->Ab->Prop}{l' xs:List EV}{ps:List (Nat × EV)}{F:EV->EV->EV->EV->EV->Ab->R}{kh:EV->Ab->R}{α:Type}{ke:EV->Ab->DX->R}
def fn2:Tr Func:=Gi Tryz.prog.funcs.toList 0 .nil
def ty2:Tr TypeInfo:=Gi Tryz.prog.types.toList 0 .nil
def FO:List (Nat × List Nat):=[(217,List.replicate 2 0),(107,List.replicate 2 0),(23,List.replicate 6 0),(38,List.replicate 6 0),(51,List.replicate 32 0),(151,List.replicate 44 0),(153,List.replicate 49 0),(68,List.replicate 256 0),(81,List.replicate 3 0)]
def TT:Ir:=um fn2 ty2 FO [217,107]
abbrev TP:Program:=Tryz.prog
theorem Bkg:Tryz.prog.follows .mixedOrders=true:=by kernel_rfl
theorem Boa:(Tryz.prog.funcs.toList.all fun f=>!(f.name == "runtime.NumGoroutine"))=true:=by kernel_rfl
theorem Bpg:(FO.all fun x=>decide (flat Tryz.prog 6 x.1=some x.2)&&iJ Tryz.prog x.1&&!(Tryz.prog.eqGuardType Tryz.prog.depth x.1))=true:=by kernel_rfl
theorem Bsl:sk Tryz.prog 217=true:=by kernel_rfl
theorem Bqn:sr Tryz.prog 107=true:=by kernel_rfl
theorem FP:Qu TP TT:=Blq Bkg Boa (fun x G=>by
 have:=dS.1 Bpg x G;simp only[aV,aS,Bool.not_eq_true']at this;exact⟨this.1.1,this.1.2,this.2⟩) (fun t A=>by
 rcases bX.1 A with rfl|A
 ·exact .inl Bsl
 ·rw[aP]at A;subst A;exact .inr Bqn)
def Brm(g:Nat):Bool:=Bc (Nat.beq g 72) false (Bc (Nat.beq g 22) false true)
noncomputable section
abbrev Ru {α:Type}(_:α)(β:Type):Type:=β
abbrev A0:=Ab->R
abbrev B0:=Bb->Ab->List Nat->R
abbrev A1:=EV->Ab->R
abbrev B1:=Bb->EV->Ab->List Nat->R
abbrev A2:=EV->EV->Ab->R
abbrev B2:=Bb->EV->EV->Ab->List Nat->R
abbrev A3:=EV->EV->EV->Ab->R
abbrev B3:=Bb->EV->EV->EV->Ab->List Nat->R
abbrev A4:=EV->EV->EV->EV->Ab->R
abbrev B4:=Bb->EV->EV->EV->EV->Ab->List Nat->R
abbrev A5:=EV->EV->EV->EV->EV->Ab->R
abbrev B5:=Bb->EV->EV->EV->EV->EV->Ab->List Nat->R
abbrev A6:=EV->EV->EV->EV->EV->EV->Ab->R
abbrev B6:=Bb->EV->EV->EV->EV->EV->EV->Ab->List Nat->R
abbrev A7:=EV->EV->EV->EV->EV->EV->EV->Ab->R
abbrev B7:=Bb->EV->EV->EV->EV->EV->EV->EV->Ab->List Nat->R
abbrev A8:=EV->EV->EV->EV->EV->EV->EV->EV->Ab->R
abbrev B8:=Bb->EV->EV->EV->EV->EV->EV->EV->EV->Ab->List Nat->R
abbrev A9:=EV->EV->EV->EV->EV->EV->EV->EV->EV->Ab->R
abbrev B9:=Bb->EV->EV->EV->EV->EV->EV->EV->EV->EV->Ab->List Nat->R
abbrev lC:=EV->EV->EV->EV->EV->EV->EV->EV->EV->EV->Ab->R
abbrev mO:=Bb->EV->EV->EV->EV->EV->EV->EV->EV->EV->EV->Ab->List Nat->R
abbrev lG:=EV->EV->EV->EV->EV->EV->EV->EV->EV->EV->EV->Ab->R
abbrev mP:=Bb->EV->EV->EV->EV->EV->EV->EV->EV->EV->EV->EV->Ab->List Nat->R
abbrev mQ:=EV->EV->EV->EV->EV->EV->EV->EV->EV->EV->EV->EV->Ab->R
abbrev mR:=Bb->EV->EV->EV->EV->EV->EV->EV->EV->EV->EV->EV->EV->Ab->List Nat->R
abbrev tU:EV:=.tuple []
def oE(c:Nat)(v:EV)(h:Ab)(k:EV->R):R:=iX c v fun v=>Iy v h k
def fE(c:Nat)(v:EV)(h:Ab)(k:EV->R):R:=jS v fun v=>oE c v h k
def o6(c:Nat)(v:EV)(k:EV->R):R:=jS v fun v=>iX c v k
def ir(c:Nat)(i:Nat)(b:Nat)(base:Nat)(v:EV)(s:DX)(h:Ab)(kd:DX->EV->R):R:=iX c v fun v=>Pj i b base v s fun s=>Iy v h (kd s)
def jI(c:Nat)(i:Nat)(b:Nat)(base:Nat)(v:EV)(s:DX)(h:Ab)(kd:DX->EV->R):R:=jS v fun v=>ir c i b base v s h kd
def nM(n:Nat)(v:EV)(w:EV)(h:Ab)(k:EV->R):R:=iF n v w fun v=>Iy v h k
def kT(n:Nat)(l:List EV)(t:Nat)(x:EV)(h:Ab)(kh:EV->Ab->R):R:=j' (.cells l t) h fun v h=>hQ n v x h (kh v)
def mS(v:EV)(kk:EV->EV->R):R:=lI 0 v fun a=>lI 1 v (kk a)
def hU(x:EV)(y:EV)(k:EV->R):R:=kF x y (.bool false) k
def il(x:EV)(y:EV)(k:EV->R):R:=kF x (.bool true) y k
def iY(v:EV)(p:R)(q:R):R:=Bc (Eu v true) p q
def h_(v:EV)(p:R)(q:R):R:=Bc (Eu v false) p q
def uo(v:EV)(h:Ab)(ds:List Nat):R:=Gb ds h fun h=>some (v,h)
def cE(g:IG)(f:BinOp)(t:Nat)(x:EV)(y:EV)(p:R)(q:R):R:=K3 g (bin TT f t) x y fun v=>ic v p q
def ss(x:EV)(p:R)(q:R):R:=cE i_ .neq 35 x (.int .i64 0) p q
def Ju(x:EV)(k:EV->R):R:=K3 lJ (bin TT .add 3) x (.int .i64 1) k
def qk(x:EV)(y:EV)(k:EV->R):R:=K3 lJ (bin TT .add 3) x y k
def su(x:EV)(y:EV)(k:EV->R):R:=K3 o7 (bin TT .sub 3) x y k
def mU(x:EV)(y:EV)(k:EV->R):R:=K3 qm (bin TT .mul 3) x y k
def j_(x:EV)(y:EV)(k:EV->R):R:=K3 Jw (bin TT .lss 3) x y k
def kG(x:EV)(y:EV)(k:EV->R):R:=K3 o8 (bin TT .leq 3) x y k
def kg(x:EV)(y:EV)(k:EV->R):R:=K3 nN (bin TT .gtr 3) x y k
def nO(x:EV)(y:EV)(k:EV->R):R:=K3 o9 (bin TT .geq 3) x y k
def nQ(x:EV)(y:EV)(k:EV->R):R:=K3 iT (bin TT .eql 3) x y k
def kU(x:EV)(y:EV)(k:EV->R):R:=K3 i_ (bin TT .neq 3) x y k
abbrev Zi:Prop:=
 (∀(g:IG) (f:BinOp) (t:Nat) (x:EV) (y:EV) (p:R) (q:R),cE g f t x y p q=K3 g (bin TT f t) x y fun v=>ic v p q) /\
 (∀(x:EV) (p:R) (q:R),ss x p q=cE i_ .neq 35 x (.int .i64 0) p q) /\
 (∀(x:EV) (k:EV->R),Ju x k=K3 lJ (bin TT .add 3) x (.int .i64 1) k) /\
 (∀(x:EV) (y:EV) (k:EV->R),qk x y k=K3 lJ (bin TT .add 3) x y k) /\
 (∀(x:EV) (y:EV) (k:EV->R),su x y k=K3 o7 (bin TT .sub 3) x y k) /\
 (∀(x:EV) (y:EV) (k:EV->R),mU x y k=K3 qm (bin TT .mul 3) x y k) /\
 (∀(x:EV) (y:EV) (k:EV->R),j_ x y k=K3 Jw (bin TT .lss 3) x y k) /\
 (∀(x:EV) (y:EV) (k:EV->R),kG x y k=K3 o8 (bin TT .leq 3) x y k) /\
 (∀(x:EV) (y:EV) (k:EV->R),kg x y k=K3 nN (bin TT .gtr 3) x y k) /\
 (∀(x:EV) (y:EV) (k:EV->R),nO x y k=K3 o9 (bin TT .geq 3) x y k) /\
 (∀(x:EV) (y:EV) (k:EV->R),nQ x y k=K3 iT (bin TT .eql 3) x y k) /\
 (∀(x:EV) (y:EV) (k:EV->R),kU x y k=K3 i_ (bin TT .neq 3) x y k)
abbrev Zs:Prop:=
 (∀(c:Nat) (v:EV) (h:Ab) (k:EV->R),oE c v h k=iX c v fun v=>Iy v h k) /\
 (∀(c:Nat) (v:EV) (h:Ab) (k:EV->R),fE c v h k=jS v fun v=>oE c v h k) /\
 (∀(c:Nat) (v:EV) (k:EV->R),o6 c v k=jS v fun v=>iX c v k) /\
 (∀(c:Nat) (i:Nat) (b:Nat) (base:Nat) (v:EV) (s:DX) (h:Ab) (kd:DX->EV->R),ir c i b base v s h kd=iX c v fun v=>Pj i b base v s fun s=>Iy v h (kd s)) /\
 (∀(c:Nat) (i:Nat) (b:Nat) (base:Nat) (v:EV) (s:DX) (h:Ab) (kd:DX->EV->R),jI c i b base v s h kd=jS v fun v=>ir c i b base v s h kd) /\
 (∀(n:Nat) (v:EV) (w:EV) (h:Ab) (k:EV->R),nM n v w h k=iF n v w fun v=>Iy v h k) /\
 (∀(n:Nat) (l:List EV) (t:Nat) (x:EV) (h:Ab) (kh:EV->Ab->R),kT n l t x h kh=j' (.cells l t) h fun v h=>hQ n v x h (kh v)) /\
 (∀(v:EV) (kk:EV->EV->R),mS v kk=lI 0 v fun a=>lI 1 v (kk a)) /\
 (∀(x:EV) (y:EV) (k:EV->R),hU x y k=kF x y (.bool false) k) /\
 (∀(x:EV) (y:EV) (k:EV->R),il x y k=kF x (.bool true) y k) /\
 (∀(v:EV) (p:R) (q:R),iY v p q=Bc (Eu v true) p q) /\
 (∀(v:EV) (p:R) (q:R),h_ v p q=Bc (Eu v false) p q) /\
 (∀(v:EV) (h:Ab) (ds:List Nat),uo v h ds=Gb ds h fun h=>some (v,h))
theorem uq:Zi:=by refine⟨?_,?_,?_,?_,?_,?_,?_,?_,?_,?_,?_,?_⟩<;>intros<;>rfl
theorem dz:Zs:=by refine⟨?_,?_,?_,?_,?_,?_,?_,?_,?_,?_,?_,?_,?_⟩<;>intros<;>rfl
theorem dq:Zs/\Zi:=⟨dz,uq⟩
section
variable {c:Nat}{i:Nat}{b:Nat}{n:Nat}{t:Nat}{w:EV}{x:EV}{y:EV}{s:DX}{k:EV->R}{p:R}{q:R}{kd:DX->EV->R}{kk:EV->EV->R}{g:IG}{f:BinOp}{l:List EV}{ds:List Nat}{v' w' x' y':EV}
@[congr] theorem oE.cg(e0:v=v'):oE c v h k=oE c v' h k:=by rw[e0]
@[congr] theorem fE.cg(e0:v=v'):fE c v h k=fE c v' h k:=by rw[e0]
@[congr] theorem o6.cg(e0:v=v'):o6 c v k=o6 c v' k:=by rw[e0]
@[congr] theorem ir.cg(e0:v=v'):ir c i b base v s h kd=ir c i b base v' s h kd:=by rw[e0]
@[congr] theorem jI.cg(e0:v=v'):jI c i b base v s h kd=jI c i b base v' s h kd:=by rw[e0]
@[congr] theorem nM.cg(e0:v=v')(e1:w=w'):nM n v w h k=nM n v' w' h k:=by rw[e0,e1]
@[congr] theorem kT.cg(e0:x=x')(e1:l=l'):kT n l t x h kh=kT n l' t x' h kh:=by rw[e0,e1]
@[congr] theorem mS.cg(e0:v=v'):mS v kk=mS v' kk:=by rw[e0]
@[congr] theorem hU.cg(e0:x=x'):hU x y k=hU x' y k:=by rw[e0]
@[congr] theorem il.cg(e0:x=x'):il x y k=il x' y k:=by rw[e0]
@[congr] theorem iY.cg(e0:v=v'):iY v p q=iY v' p q:=by rw[e0]
@[congr] theorem h_.cg(e0:v=v'):h_ v p q=h_ v' p q:=by rw[e0]
@[congr] theorem cE.cg(e0:x=x')(e1:y=y'):cE g f t x y p q=cE g f t x' y' p q:=by rw[e0,e1]
@[congr] theorem ss.cg(e0:x=x'):ss x p q=ss x' p q:=by rw[e0]
@[congr] theorem Ju.cg(e0:x=x'):Ju x k=Ju x' k:=by rw[e0]
@[congr] theorem qk.cg(e0:x=x')(e1:y=y'):qk x y k=qk x' y' k:=by rw[e0,e1]
@[congr] theorem su.cg(e0:x=x')(e1:y=y'):su x y k=su x' y' k:=by rw[e0,e1]
@[congr] theorem mU.cg(e0:x=x')(e1:y=y'):mU x y k=mU x' y' k:=by rw[e0,e1]
@[congr] theorem j_.cg(e0:x=x')(e1:y=y'):j_ x y k=j_ x' y' k:=by rw[e0,e1]
@[congr] theorem kG.cg(e0:x=x')(e1:y=y'):kG x y k=kG x' y' k:=by rw[e0,e1]
@[congr] theorem kg.cg(e0:x=x')(e1:y=y'):kg x y k=kg x' y' k:=by rw[e0,e1]
@[congr] theorem nO.cg(e0:x=x')(e1:y=y'):nO x y k=nO x' y' k:=by rw[e0,e1]
@[congr] theorem nQ.cg(e0:x=x')(e1:y=y'):nQ x y k=nQ x' y' k:=by rw[e0,e1]
@[congr] theorem kU.cg(e0:x=x')(e1:y=y'):kU x y k=kU x' y' k:=by rw[e0,e1]
end
end
section
noncomputable section
abbrev NM:=List EV->Ab->R
abbrev UM:=List EV->(EV->R)->R
def cl0(F:Ab->R):NM:=fun x h=>match x with | []=>F h|_=>none
def Dx(F:EV->Ab->R):NM:=fun x h=>match x with | [a]=>F a h|_=>none
def Ej(F:EV->EV->Ab->R):NM:=fun x h=>match x with | [a,b]=>F a b h|_=>none
def K6(F:EV->EV->EV->Ab->R):NM:=fun x h=>match x with | [a,b,c]=>F a b c h|_=>none
def T3(F:EV->EV->EV->EV->Ab->R):NM:=fun x h=>match x with | [a,b,c,d]=>F a b c d h|_=>none
def cl5(F:EV->EV->EV->EV->EV->Ab->R):NM:=fun x h=>match x with | [a,b,c,d,e]=>F a b c d e h|_=>none
def cl6(F:EV->EV->EV->EV->EV->EV->Ab->R):NM:=fun x h=>match x with | [a,b,c,d,e,f]=>F a b c d e f h|_=>none
def cl7(F:EV->EV->EV->EV->EV->EV->EV->Ab->R):NM:=fun x h=>match x with | [a,b,c,d,e,f,i]=>F a b c d e f i h|_=>none
def cl8(F:EV->EV->EV->EV->EV->EV->EV->EV->Ab->R):NM:=fun x h=>match x with | [a,b,c,d,e,f,i,j]=>F a b c d e f i j h|_=>none
def cl9(F:EV->EV->EV->EV->EV->EV->EV->EV->EV->Ab->R):NM:=fun x h=>match x with | [a,b,c,d,e,f,i,j,k]=>F a b c d e f i j k h|_=>none
def Bt0(F:EV->EV->EV->EV->EV->EV->EV->EV->EV->EV->Ab->R):NM:=fun x h=>match x with | [a,b,c,d,e,f,i,j,k,l]=>F a b c d e f i j k l h|_=>none
def Bth(F:EV->EV->EV->EV->EV->EV->EV->EV->EV->EV->EV->Ab->R):NM:=fun x h=>match x with | [a,b,c,d,e,f,i,j,k,l,m]=>F a b c d e f i j k l m h|_=>none
def Bua(F:EV->EV->EV->EV->EV->EV->EV->EV->EV->EV->EV->EV->Ab->R):NM:=fun x h=>match x with | [a,b,c,d,e,f,i,j,k,l,m,n]=>F a b c d e f i j k l m n h|_=>none
def cu0(F:(EV->R)->R):UM:=fun x k=>match x with | []=>F k|_=>none
def cu1(F:EV->(EV->R)->R):UM:=fun x k=>match x with | [a]=>F a k|_=>none
def cu2(F:EV->EV->(EV->R)->R):UM:=fun x k=>match x with | [a,b]=>F a b k|_=>none
def cu3(F:EV->EV->EV->(EV->R)->R):UM:=fun x k=>match x with | [a,b,c]=>F a b c k|_=>none
def cu4(F:EV->EV->EV->EV->(EV->R)->R):UM:=fun x k=>match x with | [a,b,c,d]=>F a b c d k|_=>none
def cu5(F:EV->EV->EV->EV->EV->(EV->R)->R):UM:=fun x k=>match x with | [a,b,c,d,e]=>F a b c d e k|_=>none
def cu6(F:EV->EV->EV->EV->EV->EV->(EV->R)->R):UM:=fun x k=>match x with | [a,b,c,d,e,f]=>F a b c d e f k|_=>none
def nth(d:α):List α->Nat->α
 | [],_=>d
 | a::_,0=>a
 | _::r,n+1=>nth d r n
def kc:List EV:=[(.int .i64 0),(.int .i64 1),tU,(.int .i64 2),(.bool false),(.bool true),(.int .i64 3),.Cl,(.int .i64 5),(.int .i64 7),(.int .u8 0),.Aq,(.int .i64 4),(.int .i64 8),(.int .i64 10),(.int .i64 11),(.int .i64 12),(.int .i64 13),(.int .i64 14),(.int .i64 15),(.int .i64 16),(.int .i64 17),(.int .i64 18),(.int .i64 20),(.int .i64 30),(.int .i64 31),(.int .i64 32),(.int .i64 33),(.int .i64 34),(.int .i64 40),(.int .i64 41),(.int .i64 42),(.int .i64 43),(.int .i64 44),(.int .i64 48),(.int .i64 64)]
def tk:Nat->Nat->List Nat
 | 0,_=>[]
 | f+1,n=>if n=1 then[]else if n%16=14 then(n/16%256+14)::tk f (n/4096)else if n%16=15 then(n/256%16^(n/16%16))::tk f (n/256/16^(n/16%16))else n%16::tk f (n/16)
def rT:List Nat->(Nat->List Nat->R)->R
 | t::n,k=>k t n
 | [],_=>none
def rW(C e:List EV)(k:EV->List Nat->R):Nat->List Nat->R
 | 0,n=>rT n fun i n=>k (nth tU kc i) n
 | 1,n=>rT n fun i n=>k (nth tU C i) n
 | x+2,n=>k (nth tU e x) n
def rV(C e:List EV)(n:List Nat)(k:EV->List Nat->R):R:=rT n fun q n=>rW C e k q n
def rL(C e:List EV):Nat->List Nat->(List EV->List Nat->R)->R
 | 0,n,k=>k [] n
 | m+1,n,k=>rV C e n fun v n=>rL C e m n fun l n=>k (v::l) n
def rR(C e:List EV):Nat->List Nat->(List RV->R)->R
 | 0,_,k=>k []
 | m+1,n,k=>rT n fun q n=>rV C e n fun v n=>nth none [rR C e m n fun l=>k (.v v::l),rT n fun t n=>rR C e m n fun l=>k (.c v t::l)] q
def rC(N:List NM)(C e:List EV)(n:List Nat)(k:(Ab->R)->List Nat->R):R:=rT n fun j n=>rT n fun m n=>rL C e m n fun l n=>k (nth (fun _ _=>none) N j l) n
def gOf(n:Nat)(k:IG->BinOp->R):R:=nth none [k lJ .add,k o7 .sub,k qm .mul,k Jw .lss,k o8 .leq,k nN .gtr,k o9 .geq,k iT .eql,k i_ .neq] n
def bOf(n:Nat):BinOp:=nth .shr [.quo,.rem,.and,.or,.xor,.shl,.shr] n
def dk(N:List NM)(U:List UM)(Z:List (List EV))(C:List EV):Nat->List Nat->Nat->DX->List EV->Ab->R
 | f+1,q::n,base,s,e,h=>nth (fun _=>none) [
 fun n=>rC N C e n fun c _=>c h,
 fun n=>rC N C e n fun c n=>Am (c h) fun v h=>dk N U Z C f n base s (v::e) h,
 fun n=>rV C e n fun v _=>some (v,h),
 fun n=>rT n fun p0 n=>rV C e n fun p1 n=>fE p0 p1 h fun v=>dk N U Z C f n base s (v::e) h,
 fun n=>rT n fun p0 n=>rV C e n fun p1 n=>oE p0 p1 h fun v=>dk N U Z C f n base s (v::e) h,
 fun n=>rT n fun p0 n=>rV C e n fun p1 n=>Tt p0 p1 h fun v=>dk N U Z C f n base s (v::e) h,
 fun n=>rT n fun p0 n=>rV C e n fun p1 n=>rV C e n fun A n=>hQ p0 p1 A h fun h=>dk N U Z C f n base s e h,
 fun n=>rT n fun i n=>rT n fun b n=>rC N C e n fun c n=>Ly i b s h (fun h=>c h) fun v h s=>dk N U Z C f n base s (v::e) h,
 fun n=>rV C e n fun p0 n=>rT n fun L n=>ic p0 (dk N U Z C f n base s e h) (dk N U Z C f (n.drop L) base s e h),
 fun n=>rT n fun p0 n=>rV C e n fun p1 n=>Ta p0 p1 h fun v h=>dk N U Z C f n base s (v::e) h,
 fun n=>rV C e n fun p0 n=>rT n fun L n=>iY p0 (dk N U Z C f n base s e h) (dk N U Z C f (n.drop L) base s e h),
 fun n=>rT n fun p0 n=>rT n fun p1 n=>rV C e n fun A n=>Pj p0 p1 base A s fun s=>dk N U Z C f n base s e h,
 fun n=>rT n fun p0 n=>rV C e n fun p1 n=>o6 p0 p1 fun v=>dk N U Z C f n base s (v::e) h,
 fun n=>rV C e n fun p0 n=>rT n fun L n=>h_ p0 (dk N U Z C f n base s e h) (dk N U Z C f (n.drop L) base s e h),
 fun n=>rT n fun m n=>rL C e m n fun l _=>some (.tuple l,h),
 fun n=>rT n fun g n=>rT n fun t n=>rV C e n fun x n=>rV C e n fun y n=>rT n fun L n=>gOf g fun g o=>cE g o t x y (dk N U Z C f n base s e h) (dk N U Z C f (n.drop L) base s e h),
 fun n=>rT n fun g n=>rT n fun t n=>rV C e n fun x n=>rV C e n fun y n=>gOf g fun g o=>K3 g (bin TT o t) x y fun v=>dk N U Z C f n base s (v::e) h,
 fun n=>rT n fun g n=>rT n fun t n=>rV C e n fun x n=>rV C e n fun y n=>iQ (bin TT (bOf g) t) x y fun v=>dk N U Z C f n base s (v::e) h,
 fun n=>rT n fun m n=>rR C e m n fun l=>J5 TT l h,
 fun n=>rT n fun t n=>rT n fun z n=>j' (.cells (nth [] Z z) t) h fun v h=>dk N U Z C f n base s (v::e) h,
 fun n=>rT n fun m n=>rT n fun z n=>rT n fun t n=>rV C e n fun x n=>kT m (nth [] Z z) t x h fun v h=>dk N U Z C f n base s (v::e) h,
 fun n=>rT n fun j n=>rT n fun m n=>rL C e m n fun l n=>nth (fun _ _=>none) U j l fun v=>dk N U Z C f n base s (v::e) h,
 fun n=>none,
 fun n=>rV C e n fun p0 n=>rV C e n fun p1 n=>il p0 p1 fun v=>dk N U Z C f n base s (v::e) h,
 fun n=>rV C e n fun p0 n=>Ju p0 fun v=>dk N U Z C f n base s (v::e) h,
 fun n=>rV C e n fun p0 n=>rV C e n fun p1 n=>hU p0 p1 fun v=>dk N U Z C f n base s (v::e) h,
 fun n=>rV C e n fun p0 n=>mS p0 fun v w=>dk N U Z C f n base s (w::v::e) h,
 fun n=>rV C e n fun p0 n=>Iy p0 h fun v=>dk N U Z C f n base s (v::e) h,
 fun n=>Zj h fun base s=>dk N U Z C f n base s e h,
 fun n=>rV C e n fun p0 n=>jt p0 fun v=>dk N U Z C f n base s (v::e) h,
 fun n=>rT n fun p0 n=>rT n fun p1 n=>rT n fun A n=>rV C e n fun G n=>ir p0 p1 A base G s h fun s v=>dk N U Z C f n base s (v::e) h,
 fun n=>rT n fun p0 n=>rT n fun p1 n=>rT n fun A n=>rV C e n fun G n=>jI p0 p1 A base G s h fun s v=>dk N U Z C f n base s (v::e) h,
 fun n=>rV C e n fun p0 n=>rT n fun L n=>ss p0 (dk N U Z C f n base s e h) (dk N U Z C f (n.drop L) base s e h),
 fun n=>rV C e n fun p0 n=>Ip p0 fun v=>dk N U Z C f n base s (v::e) h,
 fun n=>rT n fun p0 n=>rV C e n fun p1 n=>iX p0 p1 fun v=>dk N U Z C f n base s (v::e) h,
 fun n=>rT n fun p0 n=>rV C e n fun p1 n=>rV C e n fun A n=>iF p0 p1 A fun v=>dk N U Z C f n base s (v::e) h,
 fun n=>rT n fun p0 n=>rV C e n fun p1 n=>rV C e n fun A n=>nM p0 p1 A h fun v=>dk N U Z C f n base s (v::e) h,
 fun n=>rT n fun p0 n=>rT n fun p1 n=>rV C e n fun A n=>qn p0 p1 A s fun s=>dk N U Z C f n base s e h,
 fun n=>rT n fun p0 n=>o_ p0 h s fun s=>dk N U Z C f n base s e h,
 fun n=>rT n fun p0 n=>rT n fun p1 n=>rV C e n fun A n=>rV C e n fun G n=>ki p0 p1 A G fun v=>dk N U Z C f n base s (v::e) h,
 fun n=>rT n fun p0 n=>rV C e n fun p1 n=>lI p0 p1 fun v=>dk N U Z C f n base s (v::e) h,
 fun n=>rV C e n fun p0 n=>jS p0 fun v=>dk N U Z C f n base s (v::e) h,
 fun n=>rV C e n fun p0 n=>pa p0 fun v=>dk N U Z C f n base s (v::e) h,
 fun n=>rV C e n fun p0 n=>rV C e n fun p1 n=>qk p0 p1 fun v=>dk N U Z C f n base s (v::e) h,
 fun n=>rV C e n fun p0 n=>rV C e n fun p1 n=>su p0 p1 fun v=>dk N U Z C f n base s (v::e) h,
 fun n=>rV C e n fun p0 n=>rV C e n fun p1 n=>mU p0 p1 fun v=>dk N U Z C f n base s (v::e) h,
 fun n=>rV C e n fun p0 n=>rV C e n fun p1 n=>j_ p0 p1 fun v=>dk N U Z C f n base s (v::e) h,
 fun n=>rV C e n fun p0 n=>rV C e n fun p1 n=>kG p0 p1 fun v=>dk N U Z C f n base s (v::e) h,
 fun n=>rV C e n fun p0 n=>rV C e n fun p1 n=>kg p0 p1 fun v=>dk N U Z C f n base s (v::e) h,
 fun n=>rV C e n fun p0 n=>rV C e n fun p1 n=>nO p0 p1 fun v=>dk N U Z C f n base s (v::e) h,
 fun n=>rV C e n fun p0 n=>rV C e n fun p1 n=>nQ p0 p1 fun v=>dk N U Z C f n base s (v::e) h,
 fun n=>rV C e n fun p0 n=>rV C e n fun p1 n=>kU p0 p1 fun v=>dk N U Z C f n base s (v::e) h,
 fun n=>rT n fun p0 n=>rV C e n fun p1 n=>pe p0 p1 fun v=>dk N U Z C f n base s (v::e) h] q n
 | _,_,_,_,_,_=>none
def s0:DX:=⟨0,[],[],[],[]⟩
inductive Nf:R->R->Prop where
 | mk (x:R):Nf x x
structure Dm(x y:R):Prop where
structure Sg(n:Nat)(e:List EV)(h:Ab)(N:List NM:=[])(U:List UM:=[])(Z:List (List EV):=[])(C:List EV:=[]) where mk ::
 {t:List Nat}
 {F:R}
 (p:tk 900 n=t:=by
  simp only[tk,↓reduceIte,Nat.reduceMod,Nat.reduceDiv,Nat.reduceEqDiff,Nat.reduceAdd,Nat.reducePow]
  first|done|rfl)
 (q:Dm (dk N U Z C 300 t 0 s0 e h) F:=by
  refine' (?f:∀x y,Nf x y->Dm x y) _ _ ?m
  case m=>
   dsimp only[dk,rT,rW,rV,rL,rR,rC,nth,kc,gOf,bOf,List.drop,cl0,Dx,Ej,K6,T3,cl5,cl6,cl7,cl8,cl9,Bt0,Bth,Bua,cu0,cu1,cu2,cu3,cu4,cu5,cu6];exact .mk _
  case f=>
   intros;exact⟨⟩)
theorem dr:Zs/\Zi:=⟨dz,uq⟩
end
end
noncomputable section
def mb(n:Nat):EV:=.int .u8 (.ofNat n)
def nS(x:Nat):Nat:=Bc (Nat.beq (Nat.land x 1) 1) (Nat.xor (Nat.div x 2) 2197175160) (Nat.div x 2)
def Buc:Nat->Nat->List EV:=@Nat.rec (fun _=>Nat->List EV) (fun _=>[]) fun _ A i=>.int .u32 (.ofNat (nS (nS (nS (nS (nS (nS (nS (nS i)))))))))::A (Nat.succ i)
def Bf:List EV:=Buc 256 0
def Us:EV:=.agg Bf
def A52:FT:=fun _ _ _ args h=>@List.rec EV (fun _=>R) (some (Us,h)) (fun _ _ _=>none) args
def xE(_:Nat)(h:Ab):R:=some (Us,h)
end
def Axq(g:Nat):Bool:=Brm g
structure Bu(disp:Nat->Option FT):Prop where
 plain:∀g,Axq g=true->disp g=none
 crc:disp 22=some A52
theorem A9b(H:Bu disp){d:Nat}(hd:1<=d)(h:Ab):Ag TT disp K d false 22 [] h=xE K h:=by
 obtain⟨d,rfl⟩:∃e,d=e+1:=⟨d-1,a_⟩;rw[Bn9 H.crc];rfl
section
def Ok(x:R)(Q:EV->Ab->Prop):Prop:=∃v h,x=some (v,h)/\Q v h
theorem Ok.ret(q:Q v h):Ok (some (v,h)) Q:=⟨v,h,rfl,q⟩
theorem Ok.mono {x:R}(a:Ok x P)(b:∀v h,P v h->Q v h):Ok x Q:=by
 obtain⟨v,h,e,p⟩:=a;exact⟨v,h,e,b v h p⟩
theorem Ok.Am {x:R}{k:EV->Ab->R}(a:Ok x P)(b:∀v h,P v h->Ok (k v h) Q):Ok (Am x k) Q:=by
 obtain⟨v,h,e,p⟩:=a;rw[e];exact b v h p
theorem Ok.eq {x y:R}(e:x=y)(a:Ok y Q):Ok x Q:=by rw[e];exact a
def HB(h:Ab):Prop:=∀q o,h.get q=some o->q<h.next
theorem HB.new(a:HB h)(o:D5):HB (h.new o):=fun q x e=>by
 rw[Ab.Lx]at e;split at e
 next A=>rw[Ab.D4];omega
 ·exact Nat.lt_succ_of_lt (a q x e)
theorem HB.put(a:HB h){i:Nat}(A:i<h.next)(o:D5):HB (h.put i o):=fun q x e=>by
 rw[Ab.get_put]at e;split at e
 next G=>subst G;exact A
 ·exact a q x e
theorem HB.del(a:HB h)(i:Nat):HB (h.del i):=fun q x e=>by
 rw[Ab.lK]at e;split at e
 ·cases e
 ·exact a q x e
structure Av(S:Nat->Prop)(h h':Ab):Prop where
 get:∀i,i<h.next->¬S i->h'.get i=h.get i
 next:h.next<=h'.next
 mw:∀w,w<=h.mw->w<=h.next->(∀i,S i->w<=i)->w<=h'.mw
 hb:HB h->HB h'
abbrev Ext:Ab->Ab->Prop:=Av fun _=>False
variable {S T:Nat->Prop}{h1 h2 h3:Ab}
theorem Av.refl(h:Ab):Av S h h:=⟨fun _ _ _=>rfl,aE _,fun _ a _ _=>a,id⟩
theorem Av.trans(a:Av S h1 h2)(b:Av S h2 h3):Av S h1 h3:=
 ⟨fun i A hs=>by rw[b.get i (aM A a.next) hs,a.get i A hs],bQ a.next b.next,
  fun w w1 w2 w3=>b.mw w (a.mw w w1 w2 w3) (bQ w2 a.next) w3,fun x=>b.hb (a.hb x)⟩
theorem Av.mono(a:Av S h h')(st:∀i,S i->T i):Av T h h':=⟨fun i A hs=>a.get i A fun x=>hs (st i x),a.next,fun w w1 w2 w3=>a.mw w w1 w2 fun i A=>w3 i (st i A),a.hb⟩
theorem Av.then(a:Av S h1 h2)(b:Av T h2 h3)(st:∀i,T i->i<h1.next->S i):Av S h1 h3:=by
 refine⟨fun i A hs=>by rw[b.get i (aM A a.next) fun x=>hs (st i x A),a.get i A hs],bQ a.next b.next,fun w w1 w2 w3=>?_,fun x=>b.hb (a.hb x)⟩;refine b.mw w (a.mw w w1 w2 w3) (bQ w2 a.next) fun i A=>?_
 by_cases G:i<h1.next
 ·exact w3 i (st i A G)
 ·omega
theorem Ext.to(a:Ext h h'):Av S h h':=a.mono fun _ x=>x.elim
theorem Av.new(h:Ab)(o:D5):Av S h (h.new o):=
 ⟨fun i A _=>Az o A,by rw[Ab.D4];omega,fun w w1 _ _=>by rw[Ab.Bry];exact w1,fun x=>x.new o⟩
theorem Av.put(h:Ab){i:Nat}(A:S i\/h.next<=i)(G:HB h->i<h.next)(o:D5):Av S h (h.put i o):=by
 refine⟨fun j hj hs=>Af o fun e=>?_,by rw[Ab.Qv];exact aE _,fun w w1 w2 w3=>?_,fun x=>x.put (G x) o⟩
 ·subst e;rcases A with A|A
  ·exact hs A
  ·omega
 ·rw[Ab.nU]
  rcases A with A|A
  ·have:=w3 i A;omega
  ·omega
theorem Av.del(h:Ab){i:Nat}(A:S i\/h.next<=i):Av S h (h.del i):=by
 refine⟨fun j hj hs=>Bcf fun e=>?_,by rw[Ab.xF];exact aE _,fun w w1 w2 w3=>?_,fun x=>x.del i⟩
 ·subst e;rcases A with A|A
  ·exact hs A
  ·omega
 ·rw[Ab.sv]
  rcases A with A|A
  ·have:=w3 i A;omega
  ·omega
theorem Av.Ar(x:Av S h0 h){i:Nat}(A:S i\/h0.next<=i)(G:i<h.next)(o:D5):Av S h0 (h.put i o):=
 x.then (T:=fun j=>j=i) (Av.put (S:=fun j=>j=i) h (.inl rfl) (fun _=>G) o) fun j hj J=>by
  have e:j=i:=hj;subst e;rcases A with A|A
  ·exact A
  ·omega
theorem Av.Db(x:Av S h0 h)(o:D5):Av S h0 (h.new o):=x.trans (Av.new _ _)
theorem Av.at(c:Av S h h')(hb:HB h){i:Nat}{o:D5}(g:h.get i=some o)(A:¬S i):h'.get i=some o:=by rw[c.get i (hb i o g) A];exact g
theorem Ext.at(c:Ext h h')(hb:HB h){i:Nat}{o:D5}(g:h.get i=some o):h'.get i=some o:=Av.at c hb g id
theorem Ba {i j:Nat}{o o':D5}(a:h.get i=some o)(b:h.get j=some o')(n:o≠o'):i≠j:=fun e=>n (by rw[e,b]at a;cases a;rfl)
def Ab.lift(h:Ab):Ab:=⟨h.t,h.next,h.next⟩
structure iW(h h':Ab):Prop where
 get:∀i,h'.get i=h.get i
 next:h'.next=h.next
theorem jq(h:Ab)(i:Nat):h.get i=h.t.get i:=by cases h;rfl
theorem Bx(h:Ab)(i:Nat):h.lift.get i=h.get i:=by rw[jq,jq];rfl
theorem sA(h:Ab):h.lift.next=h.next:=rfl
theorem C8(a:HB h):HB h.lift:=fun q o e=>a q o (by rw[<-Bx];exact e)
theorem iW.lift(h:Ab):iW h h.lift:=⟨Bx h,rfl⟩
theorem iW.hb(a:iW h h')(b:HB h):HB h':=fun q o e=>by rw[a.next];exact b q o (by rw[<-a.get];exact e)
section
variable {i b:Nat}{s:DX}{call:Ab->R}{k:EV->Ab->DX->R}
theorem Ok.Ly(hb:Abk b s=true)(A:loose b s.nw = [])(G:Ok (call h.lift) P)(he:∀v h1,P v h1->Ext h.lift h1)
 (J:∀v h1 h2,P v h1->iW h1 h2->Ext h h2->Ok (k v h2 (s.big i)) Q):Ok (Ly i b s h call k) Q:=by
 obtain⟨v,h1,e,p⟩:=G;have x:=he v h1 p;have hf:Ic b s h=h.lift:=by unfold Ic;rw[A];rfl
 have hm:h.next<=h1.mw:=x.mw h.next (aE _) (aE _) fun _ y=>y.elim
 have L:Ev.Ly i b s h call k=k v ⟨h1.t,h1.next,h.mw⟩ (s.big i):=by
  show Bc (Abk b s) (Ev.Am (call (Ic b s h)) fun v h'=>M0 i b s h h' fun s h=>k v h s) none=_;rw[hb,Al,hf,e];show M0 i b s h h1 (fun s h=>k v h s)=_;unfold M0;rw[aR hm,Al,A];rfl
 rw[L];refine J v h1 _ p ⟨fun i=>by rw[jq,jq],rfl⟩ ⟨fun i M O=>?_,x.next,fun w w1 _ _=>w1,fun y=>?_⟩
 ·rw[jq];show h1.t.get i=_;rw[<-jq,x.get i M O,Bx]
 ·exact iW.hb (h:=h1) ⟨fun i=>by rw[jq,jq],rfl⟩ (x.hb (C8 y))
theorem Ok.bE(A:Ok (call h.lift) P)(he:∀v h1,P v h1->Ext h.lift h1)(G:∀v h1 h2,P v h1->iW h1 h2->Ext h h2->Ok (k v h2 (s.big i)) Q)(hb:Abk b s=true:=by kernel_rfl)(J:loose b s.nw = []:=by kernel_rfl):Ok (Ev.Ly i b s h call k) Q:=Ok.Ly hb J A he G
theorem Ok.rP(hb:Abk b s=true)(A:loose b s.nw = [])(J:∀w,Tg b w s.Cy=true)(L:Ok (call h.lift) P)(he:∀v h1,P v h1->Av S h.lift h1)
 (G:∀v h1 h2 s',P v h1->iW h1 h2->Av S h h2->(s'=s.big i\/∃w,s'=s.iI i w/\w=h1.mw)->Ok (k v h2 s') Q):Ok (Ev.Ly i b s h call k) Q:=by
 obtain⟨v,h1,e,p⟩:=L;have x:=he v h1 p;have hf:Ic b s h=h.lift:=by unfold Ic;rw[A];rfl
 have M:Ev.Ly i b s h call k=M0 i b s h h1 fun s h=>k v h s:=by
  show Bc (Abk b s) (Ev.Am (call (Ic b s h)) fun v h'=>M0 i b s h h' fun s h=>k v h s) none=_;rw[hb,Al,hf,e];rfl
 rw[M];unfold M0;rw[A];have sm:∀w,iW h1 ⟨h1.t,h1.next,w⟩:=fun w=>⟨fun i=>by rw[jq,jq],rfl⟩
 have hg:∀w i,i<h.next->¬S i->(⟨h1.t,h1.next,w⟩:Ab).get i=h.get i:=fun w i O U=>by
  rw[(sm w).get,x.get i O U,Bx]
 cases hle:Nat.ble h.next h1.mw with
 | true=>
  rw[Al];exact G v h1 _ _ p (sm _) ⟨hg _,x.next,fun w w1 _ _=>w1,fun y=>(sm _).hb (x.hb (C8 y))⟩ (.inl rfl)
 | false=>
  rw[Bk,J,Al];refine G v h1 _ _ p (sm _) ⟨hg _,x.next,fun w w1 w2 w3=>?_,fun y=>(sm _).hb (x.hb (C8 y))⟩ (.inr ⟨_,rfl,rfl⟩);have:=x.mw w w2 w2 w3;show w<=Bc (Nat.ble h.mw h1.mw) h.mw h1.mw;rw[Br];split<;>assumption
theorem Ok.bC(A:Ok (call h.lift) P)(he:∀v h1,P v h1->Av S h.lift h1)
 (G:∀v h1 h2 s',P v h1->iW h1 h2->Av S h h2->(s'=s.big i\/∃w,s'=s.iI i w/\w=h1.mw)->Ok (k v h2 s') Q) (hb:Abk b s=true:=by kernel_rfl) (J:loose b s.nw = []:=by kernel_rfl) (L:∀w,Tg b w s.Cy=true:=by exact fun _=>by kernel_rfl):Ok (Ev.Ly i b s h call k) Q:=Ok.rP hb J L A he G
theorem Cq {i b q o:Nat}{s:DX}{k:DX->R}(A:q<base)(G:Bc (Fx b q s.st) (Yo b q s.lou) false=true):Pj i b base (.ptr q o) s k=k (s.ld i q):=by
 show Bc (ur b base q s) _ none=_;unfold ur;rw[aR (show Nat.succ q<=base from A),Al,G,Al]
theorem Hl {i b q o:Nat}{s:DX}{k:DX->R}(A:q<base)(G:Bc (Fx b q s.st) (Yo b q s.lou) false=true:=by kernel_rfl):Pj i b base (.ptr q o) s k=k (s.ld i q):=Cq A G
theorem Hg {i b q o:Nat}{s:DX}{k:DX->R}(A:qo b q s=true:=by kernel_rfl):qn i b (.ptr q o) s k=k (s.sto i q):=by
 show Bc (qo b q s) _ none=_;rw[A,Al]
end
section
variable {i o c n s j len:Nat}{l:List EV}{t:TypeId}{k:EV->R}
def rowOf:D5->Option (List EV)
 | .cells l _=>some l
 | .vec l _ _=>some l
 | _=>none
theorem Aj {x:D5}(hg:h.get i=some x)(A:rowOf x=some l)(G:l[o]? = some v):Iy (.ptr i o) h k=k v:=by
 show oB _ (mN (h.get i) o 1)=_;rw[hg];have J:Ou l o 1=some [v]:=by
  obtain⟨h1,h2⟩:=aY.1 G;rw[F9 a_,dH h1,h2];rfl
 cases x<;>first|(cases A;done)|(cases A;show oB _ (Ou l o 1)=_;rw[J];rfl)
theorem On {q off A rm:Nat}{op:Bool}{kd:IntKind}(hj:j<A):iF sz (.slice q off A rm op) (.int kd (j:Int)) k=k (.ptr q (off+j*sz)):=Bqd hj k kd
theorem Cp {x:D5}(hg:h.get i=some x)(A:rowOf x=some l)(G:Ou l o n=some l'):Tt n (.ptr i o) h k=k (.agg l'):=by
 show oB _ (mN (h.get i) o n)=_;rw[hg];cases x<;>first|(cases A;done)|(cases A;show oB _ (Ou l o n)=_;rw[G];rfl)
theorem nG {kk:Ab->R}(hg:h.get i=some (.cells l t))(hp:v.plain=true)(A:Gk v.cells=n)(G:Nb l o v.cells=some l'):hQ n (.ptr i o) v h kk=kk (h.put i (.cells l' t)):=by
 show Bc v.plain (Bc (Nat.beq (Gk v.cells) n) (nV h i (fun l=>Nb l o v.cells) kk) none) none=_;rw[hp,Al,A,cL,Al,A3i hg,G];rfl
theorem Bpb {kk:Ab->R}{z:Nat}(hg:h.get i=some (.vec l t z))(hp:v.plain=true)(A:Gk v.cells=n)(G:Nb l o v.cells=some l'):hQ n (.ptr i o) v h kk=kk (h.put i (.vec l' t z)):=by
 show Bc v.plain (Bc (Nat.beq (Gk v.cells) n) (nV h i (fun l=>Nb l o v.cells) kk) none) none=_;rw[hp,Al,A,cL,Al];unfold nV;rw[hg];simp only;rw[G];rfl
theorem Ok.st {kk:Ab->R}(l':List EV)(hg:h.get i=some (.cells l t))(hp:v.plain=true)(A:Gk v.cells=n)(G:Nb l o v.cells=some l')(J:Ok (kk (h.put i (.cells l' t))) Q):Ok (hQ n (.ptr i o) v h kk) Q:=by
 rw[nG hg hp A G];exact J
theorem nW(h:Ab)(o:D5):∃h',h.new o=h'/\Ext h h'/\h'.get h.next=some o/\h'.next=h.next+1:=⟨_,rfl,Av.new _ _,Ad _ _,rfl⟩
theorem nP(h:Ab)(z o:D5):∃h',(h.new z).put h.next o=h'/\Ext h h'/\h'.get h.next=some o/\h'.next=h.next+1:=⟨_,rfl,(Av.new h _:Ext _ _).Ar (.inr (aE _)) (aN _) _,Ae _ _ _,rfl⟩
theorem Ok.mk {z:List EV}{kk:Ab->R}(G:z.length=n)(A:xs.length=n)(J:∀h',Ext h h'->h'.get h.next=some (.cells xs t)->h'.next=h.next+1->Ok (kk h') Q):Ok (hQ n (.ptr h.next 0) (.agg xs) (h.new (.cells z t)) kk) Q:=by
 obtain⟨h',e,a,b,c⟩:=nP h (.cells z t) (.cells xs t);refine Ok.st xs (Ad _ _) rfl (by show Gk xs=n;rw[Bg,A]) (Bo (by show z.length=xs.length;rw[G,A])) ?_;rw[e];exact J h' a b c
theorem Ok.hM {kk:Ab->R}(hg:h.get i=some (.cells l t))(hp:v.plain=true)(A:v.cells = [v])(G:o<l.length)(J:Ok (kk (h.put i (.cells (l.set o v) t))) Q):Ok (hQ 1 (.ptr i o) v h kk) Q:=by
 rw[nG hg hp (by rw[A];rfl) (by rw[A];exact FQ v l o G)];exact J
theorem Β(hp:v.plain=true):Ta t v h kh=kh (.ptr h.next 0) (h.new (.cells v.cells t)):=by unfold Ta;rw[hp,Al]
theorem FR {a b:EV}{x:Bool}:kF (.bool x) a b k=Bc x (k a) (k b):=rfl
theorem Au:Am (some (v,h')) kh=kh v h':=rfl
theorem Vs {q off A:Nat}{kd:IntKind}(hj:j<A):ki A sz (.ptr q off) (.int kd (j:Int)) k=k (.ptr q (off+j*sz)):=by
 show Bc (Nat.ble (Nat.succ j) A) _ none=_;rw[aR hj,Al];rfl
theorem FU {kd A:IntKind}{x:Int}:Sz kd (.int A x) k=k (.int kd (Dl kd x)):=rfl
theorem Bmy {kd:IntKind}{x:Int}:pa (.int kd x) k=k (.int kd (Dl kd (0-x))):=rfl
theorem EW(A:l[o]? = some v):Y8 o false 0 (.agg l) k=k v:=by
 show oB k (kV l o)=_;rw[uu,A];rfl
theorem Ay {place:Nat->Option (Nat × Nat)}{z:List EV}(hf:jF place ps z=some l):Bp place z ps k=k (.agg l):=by
 unfold Bp;rw[hf];rfl
theorem Ak {l:List EV}{n:Nat}(A:l.length=n):Ou l 0 n=some l:=by
 subst A;rw[F9 a_,dE,bY]
theorem Ch {n:Int}(h1 : -9223372036854775808<=n:=by omega)(h2:n<=9223372036854775807:=by omega):Dl .i64 n=n:=FV h1 a_
end
theorem sB {b:Int}{T:Ir}{t:Nat}{a:Int}{k:EV->R}(hb:0<b)(h1:0<=a)(h2:a<9223372036854775808):iQ (bin T .quo t) (.int .i64 a) (.int .i64 b) k=k (.int .i64 (a/b)):=by
 obtain⟨n,rfl⟩:=av (Int.le_of_lt hb);show oB k (Bc (iV (.ofNat n) 0) none (some (.int .i64 (Dl .i64 (a.tdiv (.ofNat n))))))=_;have:iV (.ofNat n) 0=false:=by
  show Nat.beq n 0=false;cases n with
  | zero=>exact absurd hb c_
  | succ n=>rfl
 rw[this,Bk];have e:a.tdiv (.ofNat n)=a/n:=Int.tdiv_eq_ediv_of_nonneg h1;have h3:a/(n:Int)<=a:=Int.ediv_le_self _ h1;have h4:0<=a/(n:Int):=Int.ediv_nonneg h1 a_;rw[e,FV a_ a_];rfl
section
variable {v' w w' a a' b b' x':EV}{x y r r':R}{k:EV->R}{kk:Ab->R}{kd:DX->R}{kb:Nat->DX->R}
@[congr] theorem Ok.c {Q:EV->Ab->Prop}(e:r=r'):Ok r Q=Ok r' Q:=by rw[e]
@[congr] theorem Bc.c {α:Type}{p q:Bool}{x y:α}(e:p=q):Bc p x y=Bc q x y:=by rw[e]
@[congr] theorem oB.c {α β:Type}{k:α->Option β}{p q:Option α}(e:p=q):oB k p=oB k q:=by rw[e]
@[congr] theorem Am.c(e:r=r'):Am r kh=Am r' kh:=by rw[e]
@[congr] theorem Iy.c(e:v=v'):Iy v h k=Iy v' h k:=by rw[e]
@[congr] theorem Tt.c {n:Nat}(e:v=v'):Tt n v h k=Tt n v' h k:=by rw[e]
@[congr] theorem hQ.c {n:Nat}(e:a=a')(e':v=v'):hQ n a v h kk=hQ n a' v' h kk:=by rw[e,e']
@[congr] theorem j'.c {o o':D5}(e:o=o'):j' o h kh=j' o' h kh:=by rw[e]
@[congr] theorem Ta.c {t:Nat}(e:v=v'):Ta t v h kh=Ta t v' h kh:=by rw[e]
@[congr] theorem K3.c {g:IG}{f:EV->EV->Option EV}(e:v=v')(e':w=w'):K3 g f v w k=K3 g f v' w' k:=by rw[e,e']
@[congr] theorem iQ.c {f:EV->EV->Option EV}(e:v=v')(e':w=w'):iQ f v w k=iQ f v' w' k:=by rw[e,e']
@[congr] theorem kF.c(e:v=v'):kF v a b k=kF v' a b k:=by rw[e]
@[congr] theorem jt.c(e:v=v'):jt v k=jt v' k:=by rw[e]
@[congr] theorem pa.c(e:v=v'):pa v k=pa v' k:=by rw[e]
@[congr] theorem jS.c(e:v=v'):jS v k=jS v' k:=by rw[e]
@[congr] theorem iX.c {n:Nat}(e:v=v'):iX n v k=iX n v' k:=by rw[e]
@[congr] theorem ki.c {n m:Nat}(e:v=v')(e':w=w'):ki n m v w k=ki n m v' w' k:=by rw[e,e']
@[congr] theorem iF.c {n:Nat}(e:v=v')(e':w=w'):iF n v w k=iF n v' w' k:=by rw[e,e']
@[congr] theorem kD.c {n m q:Nat}{g:Bool}(e:v=v')(e':w=w'):kD n m g q v w k=kD n m g q v' w' k:=by rw[e,e']
@[congr] theorem Y8.c {n m:Nat}{g:Bool}(e:v=v'):Y8 n g m v k=Y8 n g m v' k:=by rw[e]
@[congr] theorem Sz.c {c:IntKind}(e:v=v'):Sz c v k=Sz c v' k:=by rw[e]
@[congr] theorem lI.c {n:Nat}(e:v=v'):lI n v k=lI n v' k:=by rw[e]
@[congr] theorem Ip.c(e:v=v'):Ip v k=Ip v' k:=by rw[e]
@[congr] theorem pe.c {n:Nat}(e:v=v'):pe n v k=pe n v' k:=by rw[e]
@[congr] theorem Bp.c {place:Nat->Option (Nat × Nat)}{z:List EV}{ps f_:List (Nat × EV)}(e:ps=f_):Bp place z ps k=Bp place z f_ k:=by rw[e]
@[congr] theorem iK.c {n:Nat}{L A M G O J:Option EV}(e:v=v')(e1:L=A)(e2:M=G)(e3:O=J):iK n v L M O k=iK n v' A G J k:=by rw[e,e1,e2,e3]
@[congr] theorem Ny.c {n m:Nat}{L A M G O J:Option EV}(e:v=v')(e1:L=A)(e2:M=G)(e3:O=J):Ny n m v L M O k=Ny n m v' A G J k:=by rw[e,e1,e2,e3]
@[congr] theorem ic.c(e:v=v'):ic v x y=ic v' x y:=by rw[e]
@[congr] theorem Zj.c(e:h=h'):Zj h kb=Zj h' kb:=by rw[e]
@[congr] theorem Pj.c {i b base:Nat}{s:DX}(e:v=v'):Pj i b base v s kd=Pj i b base v' s kd:=by rw[e]
@[congr] theorem qn.c {i b:Nat}{s:DX}(e:v=v'):qn i b v s kd=qn i b v' s kd:=by rw[e]
@[congr] theorem o_.c {i:Nat}{s s':DX}(e:s=s'):o_ i h s kd=o_ i h s' kd:=by rw[e]
@[congr] theorem Ly.c {i b:Nat}{s s':DX}{call:Ab->R}(e:s=s'):Ly i b s h call ke=Ly i b s' h call ke:=by rw[e]
@[congr] theorem Yq.c {c:Ah}{T:Ir}{g n i:Nat}{tm:Bb}{ds:List Nat}{k1:Ab->List Nat->R}{k2:Nat->Ab->List Nat->R}{k3:Ab->List Nat->R}(e:v=v'):Yq c T g n i v tm h ds k1 k2 k3=Yq c T g n i v' tm h ds k1 k2 k3:=by rw[e]
@[congr] theorem qe.c {c:Ah}{T:Ir}{g n i l0:Nat}{tm:Bb}{ds:List Nat}{k1:Ab->List Nat->R}{k2:Nat->Ab->List Nat->R}{k3:Ab->List Nat->R}(e:v=v'):qe c T g n i l0 v tm h ds k1 k2 k3=qe c T g n i l0 v' tm h ds k1 k2 k3:=by rw[e]
@[congr] theorem Fm.c {l:Nat}(e:h=h'):Fm l h kk=Fm l h' kk:=by rw[e]
end
theorem Cy{i:Nat}{x:D5}{l:List EV}(hg:h.get i=some x)(A:rowOf x=some l):∀(o:Nat) (k:EV->R),Iy (.ptr i o) h k=oB k l[o]?:=by
 intro o k;cases G:l[o]? with
 | some v=>exact Aj hg A G
 | none=>
  show oB _ (mN (h.get i) o 1)=_;rw[hg];have J:l.length<=o:=List.getElem?_eq_none_iff.1 G;have L:Ou l o 1=none:=by
   rw[nX,Td,List.drop_eq_nil_of_le J];rfl
  cases x<;>first|(cases A;done)|(cases A;show oB _ (Ou l o 1)=_;rw[L];rfl)
theorem Cz{i:Nat}{x:D5}{l:List EV}(hg:h.get i=some x)(A:rowOf x=some l):∀(n o:Nat) (k:EV->R),Tt n (.ptr i o) h k=oB (fun l=>k (.agg l)) (Ou l o n):=by
 intro n o k;show oB _ (mN (h.get i) o n)=_;rw[hg];cases x<;>first|(cases A;done)|(cases A;rfl)
theorem Aa:Zs/\Zi /\
 (∀(i o:Nat) (k:EV->R),jS (.ptr i o) k=k (.ptr i o))/\(∀(c i o:Nat) (k:EV->R),iX c (.ptr i o) k=k (.ptr i (o+c))) /\
 (∀(o:D5) (h:Ab) (k:EV->Ab->R),j' o h k=k (.ptr h.next 0) (h.new o)) /\
 (∀(t:Nat) (c:IntKind) (n:Int) (h:Ab) (k:EV->Ab->R),Ta t (.int c n) h k=k (.ptr h.next 0) (h.new (.cells [.int c n] t))) /\
 (∀(t:Nat) (l:List EV) (h:Ab) (k:EV->Ab->R),Ta t (.agg l) h k=k (.ptr h.next 0) (h.new (.cells l t))) /\
 (∀(t i o:Nat) (h:Ab) (k:EV->Ab->R),Ta t (.ptr i o) h k=k (.ptr h.next 0) (h.new (.cells [.ptr i o] t))) /\
 (∀(t i o n m:Nat) (p:Bool) (h:Ab) (k:EV->Ab->R),Ta t (.slice i o n m p) h k=k (.ptr h.next 0) (h.new (.cells [.slice i o n m p] t))) /\
 (∀(t:Nat) (h:Ab) (k:EV->Ab->R),Ta t .Aq h k=k (.ptr h.next 0) (h.new (.cells [.Aq] t))) /\
 (∀(x:Bool) (a b:EV) (k:EV->R),kF (.bool x) a b k=Bc x (k a) (k b)) /\
 (∀(x:Bool) (k:EV->R),jt (.bool x) k=Bc x (k (.bool false)) (k (.bool true))) /\
 (∀(x:Bool) (a b:R),ic (.bool x) a b=Bc x a b) /\
 (∀(k:EV->R),Ip .Aq k=k (.int .i64 0))/\(∀(q off A rm:Nat) (op:Bool) (k:EV->R),Ip (.slice q off A rm op) k=k (.int .i64 (A:Int))) /\
 (∀(o:Nat) (l:List EV) (k:EV->R),lI o (.tuple l) k=oB k l[o]?) /\
 (∀(h:Ab) (k:Nat->DX->R),Zj h k=k h.next ⟨0,[],[],[],[]⟩)/\(∀(i:Nat) (h:Ab) (s:DX) (k:DX->R),o_ i h s k=k (s.new i h.next)) /\
 (∀(v:EV) (h:Ab) (k:EV->Ab->R),Am (some (v,h)) k=k v h) /\
 (∀(o:Nat) (l:List EV) (k:EV->R),Y8 o false 0 (.agg l) k=oB k l[o]?) /\
 (∀(c G:IntKind) (n:Int) (k:EV->R),Sz c (.int G n) k=k (.int c (Dl c n))) /\
 (∀(x y:R),Bc true x y=x)/\(∀(x y:R),Bc false x y=y)/\(Bc true true false=true)/\(Bc false true false=false)/\(Bc true false true=false)/\(Bc false false true=true)/\ju true=false/\ju false=true /\
 (∀(k:EV->R) (v:EV),oB k (some v)=k v)/\(∀(h:Ab) (v:EV),J5 TT [.v v] h=some (v,h))/\(∀(h:Ab) (v w:EV),J5 TT [.v v,.v w] h=some (.tuple [v,w],h))/\(∀(h:Ab) (v w x:EV),J5 TT [.v v,.v w,.v x] h=some (.tuple [v,w,x],h)) /\
 (∀(h:Ab) (k:Ab->R),Gb [] h k=k h)/\(∀(p:EV) (r:List EV),(p::r)[0]? = some p)/\(∀(p:EV) (r:List EV) (n:Nat),(p::r)[n+1]? = r[n]?)/\(∀n:Nat,0+n=n)/\(∀(k:List EV->R) (l:List EV),oB k (some l)=k l):=
 ⟨dz,uq,fun _ _ _=>rfl,fun _ _ _ _=>rfl,fun _ _ _=>rfl,fun _ _ _ _ _=>rfl,fun _ _ _ _=>rfl,fun _ _ _ _ _=>rfl,fun _ _ _ _ _ _ _ _=>rfl,fun _ _ _=>rfl,fun _ _ _ _=>rfl,fun _ _=>rfl,fun _ _ _=>rfl,
  fun _=>rfl,fun _ _ _ _ _ _=>rfl,fun o l k=>by show oB k (kV l o)=_;rw[uu],fun _ _=>rfl,fun _ _ _ _=>rfl,fun _ _ _=>rfl,fun o l k=>by show oB k (kV l o)=_;rw[uu],fun _ _ _ _=>rfl,
  fun _ _=>rfl,fun _ _=>rfl,rfl,rfl,rfl,rfl,rfl,rfl,fun _ _=>rfl,fun _ _=>rfl,fun _ _ _=>rfl,fun _ _ _ _=>rfl,fun _ _=>rfl,fun _ _=>rfl,fun _ _ _=>rfl,bP,fun _ _=>rfl⟩
theorem As:
 (∀(s:DX) (i q:Nat),s.ld i q=⟨s.bg,s.nw,(Nat.shiftLeft 1 i,q)::s.Cy,s.lou,s.st⟩)/\(∀(s:DX) (i q:Nat),s.new i q=⟨s.bg,(Nat.shiftLeft 1 i,q)::s.nw,s.Cy,s.lou,s.st⟩) /\
 (∀(s:DX) (i:Nat),s.big i=⟨Nat.lor s.bg (Nat.shiftLeft 1 i),s.nw,s.Cy,s.lou,s.st⟩)/\(∀(b q:Nat),Fx b q []=true)/\(∀(b q:Nat),Yo b q []=true):=
 ⟨fun _ _ _=>rfl,fun _ _ _=>rfl,fun _ _=>rfl,fun _ _=>rfl,fun _ _=>rfl⟩
theorem Ac:Zs/\Zi /\
 (∀(g:IG) (f:EV->EV->Option EV) (x y:Int) (k:EV->R),K3 g f (.int .i64 x) (.int .i64 y) k=k (g .i64 x y)) /\
 (∀(c:IntKind) (a b:Int),Jw c a b=.bool (decide (a<b)))/\(∀(c:IntKind) (a b:Int),o8 c a b=.bool (decide (a<=b))) /\
 (∀(c:IntKind) (a b:Int),nN c a b=.bool (decide (b<a)))/\(∀(c:IntKind) (a b:Int),o9 c a b=.bool (decide (b<=a))) /\
 (∀(c:IntKind) (a b:Int),iT c a b=.bool (decide (a=b)))/\(∀(c:IntKind) (a b:Int),i_ c a b=.bool (decide (¬a=b))) /\
 (∀(c:IntKind) (a b:Int),lJ c a b=.int c (Dl c (a+b)))/\(∀(c:IntKind) (a b:Int),o7 c a b=.int c (Dl c (a-b)))/\(∀(c:IntKind) (a b:Int),qm c a b=.int c (Dl c (a*b))) /\
 (∀(b w:Bool),Eu (.bool b) w=Bc b w (ju w))/\(∀w,Eu (.tuple []) w=false):=
 ⟨dz,uq,fun _ _ _ _ _=>rfl,fun _ a b=>by rw[Boo,sC],fun _ a b=>by rw[Bp6,sC,uv];congr 1;exact eJ.2 a_,
  fun _ a b=>by rw[Bqc,sC],fun _ a b=>by rw[Bof,sC,uv];congr 1;exact eJ.2 a_,
  fun _ a b=>by rw[Bqj,rX],fun _ a b=>by rw[FW,rX,uv],
  fun _ a b=>by rw[Bot,Bgi],fun _ a b=>by unfold o7;rw[Bdh],fun _ a b=>rfl,fun _ _=>rfl,fun _=>rfl⟩
end
def Ce(h:Ab)(s:EV)(q:Nat)(e:TypeId)(sz len:Nat)(l:List EV):Prop:=
 (len=0/\l = []/\(s=.Aq\/∃b,s=.slice b 0 0 0 false))\/(0<len/\s=.slice q 0 len len true/\h.get q=some (.vec l e sz)/\l.length=len*sz)
theorem Ce.nil(h:Ab)(q:Nat)(e:TypeId)(sz:Nat):Ce h .Aq q e sz 0 []:=.inl ⟨rfl,rfl,.inl rfl⟩
theorem Ce.empty(h:Ab)(b q:Nat)(e:TypeId)(sz:Nat):Ce h (.slice b 0 0 0 false) q e sz 0 []:=.inl ⟨rfl,rfl,.inr ⟨_,rfl⟩⟩
theorem Ce.frame {s:EV}{q:Nat}{e:TypeId}{len:Nat}{l:List EV}(r:Ce h s q e sz len l)(g:0<len->h'.get q=h.get q):Ce h' s q e sz len l:=by
 rcases r with r|⟨a,b,c,d⟩
 ·exact .inl r
 ·exact .inr ⟨a,b,by rw[g a];exact c,d⟩
theorem Ce.len {s:EV}{q:Nat}{e:TypeId}{len:Nat}{l:List EV}(r:Ce h s q e sz len l):lenOf s=some len:=by
 rcases r with⟨rfl,_,rfl|⟨_,rfl⟩⟩|⟨_,rfl,_⟩<;>rfl
theorem Ce.Ip {s:EV}{q:Nat}{e:TypeId}{len:Nat}{l:List EV}(r:Ce h s q e sz len l)(k:EV->R):Ev.Ip s k=k (.int .i64 (len:Int)):=by
 unfold Ev.Ip;rw[r.len];rfl
theorem Ce.plain {s:EV}{q:Nat}{e:TypeId}{len:Nat}{l:List EV}(r:Ce h s q e sz len l):s.plain=true/\s.cells = [s]:=by
 rcases r with⟨rfl,_,rfl|⟨_,rfl⟩⟩|⟨_,rfl,_⟩<;>exact⟨rfl,rfl⟩
theorem Ce.size {s:EV}{q:Nat}{e:TypeId}{len:Nat}{l:List EV}(r:Ce h s q e sz len l):l.length=len*sz:=by
 rcases r with⟨rfl,rfl,_⟩|⟨_,_,_,d⟩
 ·rw[gX];rfl
 ·exact d
theorem Ce.ix {s:EV}{q:Nat}{e:TypeId}{len:Nat}{l:List EV}(r:Ce h s q e sz len l){j:Nat}(hj:j<len)(kd:IntKind)(k:EV->R):iF sz s (.int kd (j:Int)) k=k (.ptr q (j*sz)):=by
 rcases r with⟨rfl,_,_⟩|⟨_,rfl,_,_⟩
 ·omega
 ·rw[On hj,bP]
theorem Ce.block {s:EV}{q:Nat}{e:TypeId}{len:Nat}{l:List EV}(r:Ce h s q e sz len l)(A:0<len):h.get q=some (.vec l e sz):=by
 rcases r with⟨rfl,_,_⟩|⟨_,_,c,_⟩
 ·omega
 ·exact c
theorem Ce.slice {s:EV}{q:Nat}{e:TypeId}{len:Nat}{l:List EV}(r:Ce h s q e sz len l)(A:0<len):s=.slice q 0 len len true:=by
 rcases r with⟨rfl,_,_⟩|⟨_,c,_⟩
 ·omega
 ·exact c
theorem qp {s x:EV}{q:Nat}{e:TypeId}{len n:Nat}{l new:List EV}(r:Ce h s q e sz len l)(G:lenOf x=some n)(U:0<n)(A:n<=65536)(M:len<=1048576)(J:Pm h sz n x=some new)(hs:new.length=n*sz):
 ∃h',Et e sz s x h=some (.slice h.next 0 (len+n) (len+n) true,h')/\Ce h' (.slice h.next 0 (len+n) (len+n) true) h.next e sz (len+n) (l++new)/\h'.next=h.next+1/\Av (fun i=>0<len/\i=q) h h':=by
 have e0:Nat.beq n 0=false:=by cases n with|zero=>omega|succ n=>rfl
 rcases r with⟨rfl,rfl,rfl|⟨b,rfl⟩⟩|⟨hp,rfl,O,hlen⟩
 ·refine⟨h.new (.vec new e sz),?_,.inr ⟨a_,rfl,?_,by rw[cU,bP];exact hs⟩,rfl,Av.new _ _⟩
  ·unfold Et
   simp only[G,Hf,e0,Bk,J,aR A,Al,bP]
  ·rw[Ad];rfl
 ·have e2:Nat.ble (Nat.add 0 n) 0=false:=by cases n with|zero=>omega|succ n=>show Nat.ble (0+(n+1)) 0=false;rw[bP];rfl
  have e3:Pm h sz 0 (.slice b 0 0 0 false)=some []:=rfl;refine⟨h.new (.vec new e sz),?_,.inr ⟨a_,rfl,?_,by rw[cU,bP];exact hs⟩,rfl,Av.new _ _⟩
  ·unfold Et
   simp only[G,Hf,e0,Bk,J,e3,e2,aR A,aR M,Al];rfl
  ·rw[Ad];rfl
 ·have L:Pm h sz len (.slice q 0 len len true)=some l:=by
   show Bc (Nat.beq len 0) (some []) (Yy h q 0 (Nat.mul len sz))=_;have:Nat.beq len 0=false:=by cases len with|zero=>omega|succ n=>rfl
   rw[this,Bk];unfold Yy mV;rw[O];exact Ak hlen
  refine⟨(h.del q).new (.vec (l++new) e sz),?_,.inr ⟨a_,rfl,?_,by rw[aF,hlen,hs,gH]⟩,rfl,?_⟩
  ·unfold Et
   simp only[G,Hf,e0,Bk,J,L,O,aR A,aR M,Al];rw[show Nat.beq 0 0=true from rfl,Al,cL,Al,Bg,hlen,show Nat.beq (len*sz) (Nat.mul len sz)=true from cL _,Al,cL,Al,cL,Al,rI];rfl
  ·rw[show h.next=(h.del q).next from rfl,Ad]
  ·exact(Av.del h (.inl ⟨hp,rfl⟩)).trans (Av.new _ _)
theorem Xb {z:List EV}{e:TypeId}(hp:v.plain=true)(G:z.length=sz)(A:v.cells.length=sz)(hs:sz<=65536:=by omega):Ca z e sz 1 [(0,v)] h=some (.slice h.next 0 1 1 false,h.new (.cells v.cells e)):=by
 unfold Ca;rw[aR (show Nat.mul 1 sz<=65536 by show 1*sz<=65536;omega),Al];have hf:jF (L8 sz) [(0,v)] (rep z 1)=some v.cells:=by
  show oB (uw fun off size=>Bc v.plain (Bc (Nat.beq (Gk v.cells) size) (oB _ (Nb (rep z 1) off v.cells)) none) none) (L8 sz 0)=_;show Bc v.plain (Bc (Nat.beq (Gk v.cells) sz) (oB _ (Nb (rep z 1) (Nat.mul 0 sz) v.cells)) none) none=_;rw[hp,Al,Bg,A,cL,Al];have:rep z 1=z:=by show z++[]=z;rw[dP]
  rw[this,show Nat.mul 0 sz=0 from gX sz,Bo (by rw[G,A])];rfl
 rw[hf];rfl
theorem Y3 {b:Nat}{e:TypeId}{l:List EV}(hb:h.get b=some (.cells l e))(A:l.length=sz):Pm h sz 1 (.slice b 0 1 1 false)=some l:=by
 show Bc (Nat.beq 1 0) (some []) (Yy h b 0 (Nat.mul 1 sz))=_;rw[show Nat.beq 1 0=false from rfl,Bk];unfold Yy mV;rw[hb];exact Ak (by rw[A];show sz=1*sz;omega)
theorem Ml {s:EV}{q:Nat}{e:TypeId}{len:Nat}{l z:List EV}{k:EV->Ab->R}(r:Ce h s q e sz len l)(hb:HB h)(hp:v.plain=true)(J:z.length=sz)(A:v.cells.length=sz)(hs:sz<=65536)(G:len<=1048575)
 (L:∀h',Ce h' (.slice (h.next+1) 0 (len+1) (len+1) true) (h.next+1) e sz (len+1) (l++v.cells)->h'.next=h.next+2->Av (fun i=>0<len/\i=q) h h'->Ok (k (.slice (h.next+1) 0 (len+1) (len+1) true) h') Q) :
 Ok (Am (Ca z e sz 1 [(0,v)] h) fun w h=>Am (Et e sz s w h) k) Q:=by
 rw[Xb hp J A hs,Au];have M:Ce (h.new (.cells v.cells e)) s q e sz len l:=r.frame fun G=>Az _ (hb q _ (r.block G))
 obtain⟨h',e1,O,U,c2⟩:=qp (n:=1) (x:=.slice h.next 0 1 1 false) M rfl a_ a_ a_ (Y3 (Ad _ _) A) (by rw[A];omega);rw[e1,Au];exact L h' O U ((Av.new h _).trans c2)
section
noncomputable section
section
variable (fl:Bool)(T:Ir)(call b_ round:Ah)(fuel fn n:Nat)(Dy:Option Nat)(out:Nat->CD)(ret:CD)
abbrev uz(p:List Bool):Hk->Code->jd->CD->Code × jd × CD:=
 @List.rec Bool (fun _=>Hk->Code->jd->CD->Code × jd × CD) (fun _ c env k=>(c,env,k))
  (fun s _ A H c env k=>match c with
   | .seq x y=>Bc s (A H.r y env k) (A H.l x env (Q4 fl T call b_ round fuel fn n Dy out ret H.r y env k))
   | .cond _ x y=>Bc s (A H.r y env k) (A H.l x env k)
   | .block id x=>A H.l x ((id,k)::env) k
   | c=>(c,env,k)) p
end
def xG:Nat:=have _:=@Yq;have _:=@Ly;have _:=@Ta;have _:=@Et;have _:=@qs;have _:=@qu;have _:=@builtin;have _:=@K3;have _:=@Ny;have _:=@Gb;have _:=@Ca;have _:=@J5;0
def xH(c:Code):Bool:=match c with | .loop _=>true|_=>false
@[reducible] def cH(q:Bool)(C c r:Ah)(K g:Nat)(H:Hk):CD:=let _:=xG;Q4 q TT C c r K g (lN TT g) none nY (jT q TT g) H (Ov TT g) [] (jT q TT g)
@[reducible] def lH(q:Bool)(C c r:Ah)(K g p:Nat):Code × jd × CD:=uz q TT C c r K g (lN TT g) none nY (jT q TT g) (pathOf p) .no (Ov TT g) [] (jT q TT g)
@[reducible] def uA(q:Bool)(C c r:Ah)(K g p:Nat)(X:CD):CD:=let _:=xG;match lH q C c r K g p with
 | (.loop x,env,_)=>jv q TT C c r K g (lN TT g) none nY (jT q TT g) x env X
 | _=>X
@[reducible] def nZ(xs:List EV)(B:CD)(h:Ab):R:=let _:=xG;B (sD xs 0 u0) (setArgs xs 0 .nil) h []
@[reducible] def kH(q:Bool)(C c r:Ah)(K g p:Nat)(env:jd)(m:Nat):CD:=qv (fun A=>jv q TT C c r K g (lN TT g) none nY (jT q TT g) (Bt6 TT g (pathOf p)) env A) m
abbrev e0(X:Nat->A0):Nat->CD:=fun m _ _ h _=>X m h
abbrev e1(X:Nat->A1)(a:Nat):Nat->CD:=fun m A _ h _=>X m (A a) h
abbrev e2(X:Nat->A2)(a b:Nat):Nat->CD:=fun m A _ h _=>X m (A a) (A b) h
abbrev e3(X:Nat->A3)(a b c:Nat):Nat->CD:=fun m A _ h _=>X m (A a) (A b) (A c) h
abbrev e4(X:Nat->A4)(a b c d:Nat):Nat->CD:=fun m A _ h _=>X m (A a) (A b) (A c) (A d) h
abbrev e5(X:Nat->A5)(a b c d e:Nat):Nat->CD:=fun m A _ h _=>X m (A a) (A b) (A c) (A d) (A e) h
abbrev e6(X:Nat->A6)(a b c d e f:Nat):Nat->CD:=fun m A _ h _=>X m (A a) (A b) (A c) (A d) (A e) (A f) h
abbrev e7(X:Nat->A7)(a b c d e f i:Nat):Nat->CD:=fun m A _ h _=>X m (A a) (A b) (A c) (A d) (A e) (A f) (A i) h
abbrev e8(X:Nat->A8)(a b c d e f i j:Nat):Nat->CD:=fun m A _ h _=>X m (A a) (A b) (A c) (A d) (A e) (A f) (A i) (A j) h
abbrev e9(X:Nat->A9)(a b c d e f i j k:Nat):Nat->CD:=fun m A _ h _=>X m (A a) (A b) (A c) (A d) (A e) (A f) (A i) (A j) (A k) h
abbrev w7(X:Nat->lC)(a b c d e f i j k l:Nat):Nat->CD:=fun m A _ h _=>X m (A a) (A b) (A c) (A d) (A e) (A f) (A i) (A j) (A k) (A l) h
abbrev YM(X:Nat->lG)(a b c d e f i j k l n:Nat):Nat->CD:=fun m A _ h _=>X m (A a) (A b) (A c) (A d) (A e) (A f) (A i) (A j) (A k) (A l) (A n) h
end
section
variable {fl:Bool}{T:Ir}{call b_ round:Ah}{fuel fn n:Nat}{Dy:Option Nat}{out:Nat->CD}{ret:CD}
theorem xI:∀(p:List Bool) (H:Hk) (c:Code) (env:jd) (k:CD),pj fl T call b_ round fuel fn n Dy out ret p H c env k=jv fl T call b_ round fuel fn n Dy out ret (uz fl T call b_ round fuel fn n Dy out ret p H c env k).1 (uz fl T call b_ round fuel fn n Dy out ret p H c env k).2.1 (uz fl T call b_ round fuel fn n Dy out ret p H c env k).2.2
 | [],_,_,_,_=>rfl
 | s::p,H,c,env,k=>by
  cases c<;>first|rfl|exact xI p _ _ _ _|(cases s<;>exact xI p _ _ _ _)
end
section
variable{m d g p:Nat}{q:Bool}{C:Nat->Ah}{D c r:Ah}{E:Nat->CD}{Y:Ab->R}{B:CD}
theorem FX(A:xH (lH q D c r K g p).1=true)(h0:E 0=fun _ _ _ _=>none)(hs:∀m G tm h ds,uA q D c r K g p (E m) G tm h ds=E (m+1) G tm h ds)(hf:lO (pathOf p) .no (Ov TT g)=true):
 cH q D c r K g .no=cH q D c r K g (kW (pathOf p) (E K) .no):=by
 refine po _ (pathOf p) .no (Ov TT g) [] (jT q TT g) hf ?_;rw[xI];have hs:=fun m=>kj (hs m)
 show jv q TT D c r K g (lN TT g) none nY (jT q TT g) (lH q D c r K g p).1 (lH q D c r K g p).2.1 (lH q D c r K g p).2.2=E K;unfold uA at hs;generalize lH q D c r K g p=x at A hs⊢;obtain⟨J,env,k⟩:=x;cases J<;>first|exact N6 h0 hs K|cases A
abbrev R0(disp:Nat->Option FT)(K d g:Nat)(F:Ab->R):Prop:=∀h,Ag TT disp K d false g [] h=F h
abbrev S0(disp:Nat->Option FT)(K d g:Nat)(F:Ah->Ah->Nat->Ab->R):Prop:=∀h,Ag TT disp K (d+1) false g [] h=F (Ag TT disp K d false) (Ag TT disp K d true) K h
theorem V0 {F:Ab->R}{k:Nat}{x:Ah}(e:k<=d->R0 disp K d g F)(hd:m<=d)(y:Ag TT disp K d false=x)(A:Nat.ble k m=true:=by rfl):Ag TT disp K d false=w0 g F x:=W0 (e (lq hd A)) y
abbrev R1(disp:Nat->Option FT)(K d g:Nat)(F:EV->Ab->R):Prop:=∀a h,Ag TT disp K d false g [a] h=F a h
abbrev S1(disp:Nat->Option FT)(K d g:Nat)(F:Ah->Ah->Nat->EV->Ab->R):Prop:=∀a h,Ag TT disp K (d+1) false g [a] h=F (Ag TT disp K d false) (Ag TT disp K d true) K a h
theorem V1 {F:EV->Ab->R}{k:Nat}{x:Ah}(e:k<=d->R1 disp K d g F)(hd:m<=d)(y:Ag TT disp K d false=x)(A:Nat.ble k m=true:=by rfl):Ag TT disp K d false=w1 g F x:=W1 (e (lq hd A)) y
abbrev R2(disp:Nat->Option FT)(K d g:Nat)(F:EV->EV->Ab->R):Prop:=∀a b h,Ag TT disp K d false g [a,b] h=F a b h
abbrev S2(disp:Nat->Option FT)(K d g:Nat)(F:Ah->Ah->Nat->EV->EV->Ab->R):Prop:=∀a b h,Ag TT disp K (d+1) false g [a,b] h=F (Ag TT disp K d false) (Ag TT disp K d true) K a b h
theorem V2 {F:EV->EV->Ab->R}{k:Nat}{x:Ah}(e:k<=d->R2 disp K d g F)(hd:m<=d)(y:Ag TT disp K d false=x)(A:Nat.ble k m=true:=by rfl):Ag TT disp K d false=w2 g F x:=W2 (e (lq hd A)) y
abbrev R3(disp:Nat->Option FT)(K d g:Nat)(F:EV->EV->EV->Ab->R):Prop:=∀a b e h,Ag TT disp K d false g [a,b,e] h=F a b e h
abbrev S3(disp:Nat->Option FT)(K d g:Nat)(F:Ah->Ah->Nat->EV->EV->EV->Ab->R):Prop:=∀a b e h,Ag TT disp K (d+1) false g [a,b,e] h=F (Ag TT disp K d false) (Ag TT disp K d true) K a b e h
theorem V3 {F:EV->EV->EV->Ab->R}{k:Nat}{x:Ah}(e:k<=d->R3 disp K d g F)(hd:m<=d)(y:Ag TT disp K d false=x)(A:Nat.ble k m=true:=by rfl):Ag TT disp K d false=w3 g F x:=W3 (e (lq hd A)) y
abbrev R4(disp:Nat->Option FT)(K d g:Nat)(F:EV->EV->EV->EV->Ab->R):Prop:=∀a b e f h,Ag TT disp K d false g [a,b,e,f] h=F a b e f h
abbrev S4(disp:Nat->Option FT)(K d g:Nat)(F:Ah->Ah->Nat->EV->EV->EV->EV->Ab->R):Prop:=∀a b e f h,Ag TT disp K (d+1) false g [a,b,e,f] h=F (Ag TT disp K d false) (Ag TT disp K d true) K a b e f h
theorem V4 {F:EV->EV->EV->EV->Ab->R}{k:Nat}{x:Ah}(e:k<=d->R4 disp K d g F)(hd:m<=d)(y:Ag TT disp K d false=x)(A:Nat.ble k m=true:=by rfl):Ag TT disp K d false=w4 g F x:=W4 (e (lq hd A)) y
abbrev R5(disp:Nat->Option FT)(K d g:Nat)(F:EV->EV->EV->EV->EV->Ab->R):Prop:=∀a b e f i h,Ag TT disp K d false g [a,b,e,f,i] h=F a b e f i h
abbrev S5(disp:Nat->Option FT)(K d g:Nat)(F:Ah->Ah->Nat->EV->EV->EV->EV->EV->Ab->R):Prop:=∀a b e f i h,Ag TT disp K (d+1) false g [a,b,e,f,i] h=F (Ag TT disp K d false) (Ag TT disp K d true) K a b e f i h
theorem V5{k:Nat}{x:Ah}(e:k<=d->R5 disp K d g F)(hd:m<=d)(y:Ag TT disp K d false=x)(A:Nat.ble k m=true:=by rfl):Ag TT disp K d false=w5 g F x:=W5 (e (lq hd A)) y
abbrev S6(disp:Nat->Option FT)(K d g:Nat)(F:Ah->Ah->Nat->EV->EV->EV->EV->EV->EV->Ab->R):Prop:=∀a b e f i j h,Ag TT disp K (d+1) false g [a,b,e,f,i,j] h=F (Ag TT disp K d false) (Ag TT disp K d true) K a b e f i j h
theorem rf(A:jZ (Ov TT g)=q)(M:Ag TT disp K d false=c)(O:Ag TT disp K d true=r)(e:c=D)(G:cH q D c r K g .no=B)(J:n' TT g (Gk xs)=true:=by kernel_rfl)(L:∀h,nZ xs B h=Y h:=by intros;kernel_rfl)(h:Ab):lP TT c r K g xs h=Y h:=by
 rw[Bjo J,A];exact(congrArg (fun C=>nZ xs (cH q C c r K g .no) h) e).trans ((congrArg (fun B=>nZ xs B h) G).trans (L h))
theorem rm(A:jZ (Ov TT g)=q)(G:Ag TT disp K d false=c)(J:Ag TT disp K d true=r)(H:Bu disp)(e:c=D)(L:Q4 q TT D c r K g (lN TT g) none nY (jT q TT g) .no (Ov TT g) [] (jT q TT g)=B)(M:Axq g=true:=by kernel_rfl)(O:n' TT g (Gk xs)=true:=by kernel_rfl)(U:∀h,nZ xs B h=Y h:=by intros;kernel_rfl)(h:Ab):Ag TT disp K (d+1) false g xs h=Y h:=by
 subst G J;have e0:Ag TT disp K (d+1) false g xs h = @Option.rec FT (fun _=>qw) (lP TT (Ag TT disp K d false) (Ag TT disp K d true) K g) (fun F=>F (Ag TT disp K d false) (Ag TT disp K d true) K) (disp g) xs h:=rfl;rw[e0,H.plain g M];exact rf A rfl rfl e L O U h
theorem rd(A:Ag TT disp K d false=c)(G:Ag TT disp K d true=r)(H:Bu disp)(e:c=D)(J:Axq g=true:=by kernel_rfl)(L:n' TT g (Gk xs)=true:=by kernel_rfl)(M:∀h,nZ xs (cH (jZ (Ov TT g)) D c r K g .no) h=Y h:=by intros;kernel_rfl)(h:Ab):Ag TT disp K (d+1) false g xs h=Y h:=rm rfl A G H e rfl J L M h
theorem ld(G:Ag TT disp K d false=c)(J:Ag TT disp K d true=r)(H:Bu disp)(e:c=D)(p:Nat)(E:Ah->Ah->Nat->CD)(h0:E c r 0=fun _ _ _ _=>none:=by rfl)(L:Axq g=true:=by kernel_rfl)(M:n' TT g (Gk xs)=true:=by kernel_rfl)(hf:lO (pathOf p) .no (Ov TT g)=true:=by kernel_rfl)
 (O:xH (lH (jZ (Ov TT g)) D c r K g p).1=true:=by kernel_rfl) (hs:∀m A tm h ds,uA (jZ (Ov TT g)) D c r K g p (E c r m) A tm h ds=E c r (m+1) A tm h ds:=by intros;kernel_rfl)
 (U:∀h,nZ xs (cH (jZ (Ov TT g)) D c r K g (kW (pathOf p) (E c r K) .no)) h=Y h:=by intros;kernel_rfl) (h:Ab):Ag TT disp K (d+1) false g xs h=Y h:=rm rfl G J H e (FX O h0 hs hf) L M U h
theorem rl(H:Bu disp)(hd:m+1<=d)(e:∀d,m<=d->Ag TT disp K d false=C d:=by exact fun _ _=>rfl)(A:Axq g=true:=by kernel_rfl)(G:n' TT g (Gk xs)=true:=by kernel_rfl)(J:jZ (Ov TT g)=false:=by kernel_rfl)(L:∀d c r h,nZ xs (cH false (C d) c r K g .no) h=Y h:=by intros;kernel_rfl)(h:Ab):Ag TT disp K d false g xs h=Y h:=by
 obtain⟨d,rfl⟩:∃e,d=e+1:=⟨d-1,a_⟩;exact rm J rfl rfl H (e d (Nat.le_of_succ_le_succ hd)) rfl A G (L d _ _) h
theorem ll(H:Bu disp)(hd:m+1<=d)(e:∀d,m<=d->Ag TT disp K d false=C d)(p:Nat)(E:Nat->CD)(h0:E 0=fun _ _ _ _=>none:=by rfl)(G:Axq g=true:=by kernel_rfl)(J:n' TT g (Gk xs)=true:=by kernel_rfl)(L:jZ (Ov TT g)=false:=by kernel_rfl)(hf:lO (pathOf p) .no (Ov TT g)=true:=by kernel_rfl)
 (M:∀d c r,xH (lH false (C d) c r K g p).1=true:=by intros;kernel_rfl) (hs:∀d c r m A tm h ds,uA false (C d) c r K g p (E m) A tm h ds=E (m+1) A tm h ds:=by intros;kernel_rfl)
 (O:∀d c r h,nZ xs (cH false (C d) c r K g (kW (pathOf p) (E K) .no)) h=Y h:=by intros;kernel_rfl) (h:Ab):Ag TT disp K d false g xs h=Y h:=by
 obtain⟨d,rfl⟩:∃e,d=e+1:=⟨d-1,a_⟩;exact rm L rfl rfl H (e d (Nat.le_of_succ_le_succ hd)) (FX (M d _ _) h0 (hs d _ _) hf) G J (O d _ _) h
theorem rr {l n:Nat}{st:LoopState}{j:Option Code}{tm A:Bb}{ps:List Tmp}{a b:Code}{X:R}(G:Ag TT disp K d false=c)(J:Ag TT disp K d true=r)(e:c=D)(hg:h.get l=some (.loop st j g n tm ps a b d0))(hs:Ww ps xs n tm=some A)
 (L:xJ TT D c r K l g n a b (sE n ps xs (tmp tm)) A h []=X):Ag TT disp K (d+1) true l xs h=X:=by
 subst G J;rw[A9o];unfold qy;rw[hg];simp only;rw[hs];simp only;exact(congrArg (fun C=>xJ TT C (Ag TT disp K d false) (Ag TT disp K d true) K l g n a b (sE n ps xs (tmp tm)) A h []) e).trans L
end
end
section
noncomputable section
section
variable (c r:Ah)(K l:Nat)(k0:A0)(k1:A1)(k2:A2)(k3:A3)(k4:A4)(k5:A5)(k6:A6)(k7:A7)(k8:A8)(k9:A9)(n_:lC)(oc:lG)(oe:mQ)(m0:B0)(m1:B1)(m2:B2)(m3:B3)(m4:B4)(m5:B5)(m6:B6)(m7:B7)(m8:B8)(m9:B9)(oh:mO)(oi:mP)(oo:mR)(base:Nat)(s:DX)(tm:Bb)(a b d e f g i j n o p q t u w x y z aa ab ad ae af ag ai aj an ao ap aq au aw ax ay az ba bb bd be bf bg bi bj bn bo bp bq bt bu bw bx bz da db dd de df dg di dj dn dp dq dt du dw dx dy dz ea eb ed ee ef eg ei ej en eo ep eq et eu ew ex ey ez fa fb fd fe ff fg fi fj fn fo fp fq ft fu fw fx fy fz ga gb gd ge gf gg gi gj gn go gp gq gt gu gw gx gy gz ia ib ie ig ii ij io ip iq it iu iw ix iy iz ja jb:EV)(h:Ab)(ds:List Nat)
def Ef:Ru K R:=(.mk:Sg 0x122223 [a] h).F
def Cv:Ru K R:=(.mk:Sg 0x122203 [a] h).F
def Cw:Ru K R:=(.mk:Sg 0x122203 [a] h).F
def Ds:Ru K R:=(.mk:Sg 0x122231fe314204209e9 [a] h).F
def Cs:Ru K R:=(.mk:Sg 0x1222f9e3 [a] h).F
def Uf:Ru K R:=
 some (a,h)
def Ub:Ru K R:=
 qk d (.int .i64 2) fun e=>
 k3 a b e h
def Uk:R:=
 Ju b fun e=>
 Ub K k3 a e d h
def Gt(K:Nat):Nat->A3
 | 0=>fun _ _ _ _=>none
 | m+1=>fun a b d h=>
  oE 3 a h fun e=>
  cE Jw .lss 3 d e
  (Uk K (Gt K m) a b d h)
  (Uf K b h)
def Lq:R:=(.mk:Sg 0x10010230022fe9 [a] h [K6 (Gt K K)]).F
def Oc:Ru K R:=(.mk:Sg 0x122213e203 [a] h).F
def Pf:Ru K R:=(.mk:Sg 0x122213 [a] h).F
def FY:Ru K R:=(.mk:Sg 0x122233003e314 [a,b] h).F
def U4:R:=
 il d e fun f=>
 ic f
 (some ((.int .i64 (-1)),h))
 (FY K a b h)
def E5:R:=(.mk:Sg 0x12023541025684102723e210136503e2d00420e209e9 [a,b] h [Dx (Ds K),T3 (U4 K)]).F
def Y5:Ru K R:=(.mk:Sg 0x1223023003e [a] h).F
def Pb:R:=(.mk:Sg 0x121002221ce3023003e2101ee00e0023301e [a] h [Dx (Y5 K)]).F
def xK:Ru K R:=
 hU a b fun d=>
 some (d,h)
def sF:R:=(.mk:Sg 0x1202200232004321e82a10223e [a,b] h [Ej (xK K)]).F
def U9:Ru K R:=(.mk:Sg 0x1002200e284e921007e [a] h [] [cu1 (fun a=>Bp (Dn [(0,1),(1,1),(2,1),(3,1),(4,1)]) [.Aq,.int .i64 0,.int .i64 0,.int .i64 0,.bool false] [(1,a)])]).F
def Va:R:=(.mk:Sg 0x1310003e070200e6284309e [a,b,d] h [Dx (U9 K)]).F
def Na:R:=(.mk:Sg 0x1202330023430015e0322ea2d10220e [a] h [K6 (Va K)]).F
def FZ:Ru K R:=(.mk:Sg 0x1002200e29be921007e2101 [a] h [Dx uB] [cu1 (fun b=>Bp (Dn [(0,1)]) [.Afh] [(0,b)])]).F
def F_:R:=(.mk:Sg 0x1310003e070200e6284309e [a,b,d] h [Dx (FZ K)]).F
def uC:R:=(.mk:Sg 0x1202330023430001322ea2d10220e [a] h [K6 (F_ K)] [] [] [(.int .i64 4096)]).F
def I5:Ru K R:=(.mk:Sg 0x1222101de3023003e1021ee3021de234209e9 [a] h).F
def N4:Ru K R:=(.mk:Sg 0x122c021de231fe344204209e9 [a] h).F
def GA:Ru K R:=
 hU a b fun d=>
 some (d,h)
def L6:R:=(.mk:Sg 0x1202200232005321e82a3223e [a,b,d] h [Ej (GA K)]).F
def R6:Ru K R:=(.mk:Sg 0x122233 [a] h).F
def Rv:Ru K R:=(.mk:Sg 0x143e41104e243623533c043e05e [a] h [] [] [[.int .i64 0,.int .i64 0,.int .i64 0]]).F
def Fo:Ru K R:=(.mk:Sg 0x1222101203 [a] h [Dx uD]).F
def GB:R:=(.mk:Sg 0x122210142116e263 [a,b] h [Dx (Fo K)]).F
def V8:R:=(.mk:Sg 0x1432000023285409e [a,b,d,e] h [Ej (GB K)]).F
def Vp:R:=(.mk:Sg 0x12024340025764002623e213e36301e2d00320e [a,b] h [T3 (V8 K)]).F
def GC:Ru K R:=
 some (a,h)
def Of:Ru K R:=
 Ju g fun i=>
 k6 a b d e f i h
def Hx(K:Nat)(k6:A6)(base:Nat)(s:DX)(a:EV)(b:EV)(d:EV)(e:EV)(f:EV)(g:EV)(i:EV)(j:EV)(n:EV)(h:Ab):R:=
 hU j n fun o=>
 ic o
 (Of K k6 a b e f g i h)
 (Of K k6 a b d f g i h)
def Hr:R:=
 iY j
 (il n o fun p=>
 Hx K k6 base s a b d e f g i j p h)
 (Hx K k6 base s a b d e f g i j tU h)
def Nq:R:=
 h_ o
 (Ly 8 255 s h (fun h=>(Fo K f h)) fun p h s=>
 jI 6 12 3711 base a s h fun s q=>
 iF 1 q d fun t=>
 Pj 15 32383 base t s fun s=>Iy t h fun u=>
 Ly 16 65535 s h (fun h=>(Fo K u h)) fun w h s=>
 kg p w fun x=>
 Hr K k6 base s a b d e g i j n o x h)
 (Hr K k6 base s a b d e g i j n o tU h)
def GD:R:=
 nM 1 e g h fun i=>
 Zj h fun base s=>
 kU g b fun j=>
 iY j
 (j_ d (.int .i64 0) fun n=>
 Nq K k6 base s a b d g i e f g j n h)
 (Nq K k6 base s a b d g i e f g j tU h)
def Hw(K:Nat):Nat->A6
 | 0=>fun _ _ _ _ _ _ _=>none
 | m+1=>fun a b d e f g h=>
  cE Jw .lss 3 g f
  (GD K (Hw K m) a b d e f g h)
  (GC K d h)
def Kw:R:=
 fE 6 a h fun d=>
 Ip d fun e=>
 Hw K K a b (.int .i64 (-1)) d e (.int .i64 0) h
def Su:Ru K R:=
 hU a b fun d=>
 some (d,h)
def D9:R:=(.mk:Sg 0x12022102521010224e82116e6fae302e2a00223e5220126521c [a,b] h [Ej (E5 K),Ej (Su K)]).F
def K1:R:=(.mk:Sg 0x122251ee231fe512e6410e484010e1021ee3101170ee [a,b] h [Dx (Pb K)]).F
def I7:R:=(.mk:Sg 0x1706e200206e2005723301e20ae231ee9301fec21fe01e0420ae521ee821fe1021eea04c021de231fe7446043021ee231ee34421422fe9 [a] h [Ej (K1 K)]).F
def GF:Ru K R:=(.mk:Sg 0x1002200e [a] h).F
def GG:Ru K R:=
 Ju e fun f=>
 k4 a b d f h
def GH:R:=(.mk:Sg 0x1a976420321660c232115101303 [a,b,d,e,f] h [Dx (fun d=>Ca [.Cl] 101 1 1 [(0,d)]),Ej (Et 101 1),T3 (GG K k4)]).F
def GI:R:=(.mk:Sg 0x187365510270200e500214e801e20ce2101 [a,b,d,e] h [Dx (Na K),cl5 (GH K k4)]).F
def sG(K:Nat):Nat->A4
 | 0=>fun _ _ _ _ _=>none
 | m+1=>fun a b d e h=>
  cE Jw .lss 3 e d
  (GI K (sG K m) a b d e h)
  (GF K b h)
def GJ:R:=
 Bp (Dn [(0,1),(1,1),(2,1),(3,1),(4,1)]) [.Aq,(.int .i64 0),(.int .i64 0),(.int .i64 0),(.bool false)] [(1,b),(2,d)] fun e=>
 Ta 104 e h fun f h=>
 sG K K b f a (.int .i64 0) h
def GK:R:=(.mk:Sg 0x154330003e070200e6286509e [a,b,d,e,f] h [K6 (GJ K)]).F
def uE:R:=(.mk:Sg 0x12026545202487652020fe15e0621102e2d20fe2101 [a,b,d] h [Dx (fun a=>sF K a (.int .i64 512)),Ej (sF K),cl5 (GK K)]).F
def Hq:Ru K R:=
 hU a b fun d=>
 some (d,h)
def Hn:R:=(.mk:Sg 0x12022102421015e0c0230135402e2a430be [a,b,d] h [K6 (L6 K),Ej (Hq K)]).F
def Hm:R:=(.mk:Sg 0x12023310245310c000230134403e2a430be [a,b,d] h [K6 (L6 K),K6 (Hn K)]).F
def Ho:R:=(.mk:Sg 0x120233102453102101334d2a430be [a,b,d] h [Dx (fun f=>L6 K f (.int .i64 1) (.int .i64 256)),K6 (Hm K)]).F
def Hp:R:=(.mk:Sg 0x1202331024531015e0c0230132403e2a430be [a,b,d] h [K6 (L6 K),K6 (Ho K)]).F
def Vt:R:=(.mk:Sg 0x1202431024631015e010230141403e2ad0602301204209e9 [a] h [K6 (L6 K),K6 (Hp K)]).F
def Qg:R:=(.mk:Sg 0x122251ee231fe08e4407e041021ee0123603e2721120ae231ee9301fea21fed0420ae521ee621fe1021ee80421032e77665606b3021ee231ee343410e211110e0ee209e9 [a] h [Dx (N4 K),builtin TT .min #[3,3]] [] [] [(.int .u64 1)]).F
def GL:R:=(.mk:Sg 0x12225221261ee2421131013033003e [a,b] h [Dx (fun a=>Kw K a (.int .i64 (-1))),Ej (Vp K),builtin TT .min #[3,3]]).F
def GM:Ru K R:=
 Ju f fun g=>
 k5 a b d e g h
def GN:R:=(.mk:Sg 0x198725510251de210164116e [a,b,d,e,f] h [Dx (Fo K),cl5 (GM K k5)]).F
def Ma(K:Nat):Nat->A5
 | 0=>fun _ _ _ _ _ _=>none
 | m+1=>fun a b d e f h=>
  cE Jw .lss 3 f e
  (GN K (Ma K m) a b d e f h)
  (GL K a b h)
def Iz:R:=(.mk:Sg 0x10023004500213e263 [a] h [cl5 (Ma K K)]).F
def Ja(K:Nat)(base:Nat)(s:DX)(a:EV)(b:EV)(h:Ab):R:=
 hU a b fun d=>
 some (d,h)
def Uj:R:=
 Zj h fun base s=>
 Pj 0 0 base a s fun s=>Tt 6 a h fun b=>
 Ly 1 1 s h (fun h=>(Lq K b h)) fun d h s=>
 ir 2 3 4 base a s h fun s e=>
 kG d e fun f=>
 iY f
 (ir 3 7 127 base a s h fun s g=>
 mU (.int .i64 2) g fun i=>
 ir 2 10 575 base a s h fun s j=>
 Pj 11 63 base a s fun s=>Tt 6 a h fun n=>
 Ly 12 2111 s h (fun h=>(I7 K n h)) fun o h s=>
 mU j o fun p=>
 kG i p fun q=>
 Ja K base s f q h)
 (Ja K base s f tU h)
def Bv:R:=
 il b d fun e=>
 ic e
 (some ((.bool false),h))
 (Uj K a h)
def By:R:=
 il b d fun e=>
 h_ e
 (oE 5 a h fun f=>
 kg f (.int .i64 64) fun g=>
 Bv K a e g h)
 (Bv K a e tU h)
def Cd:R:=
 il b d fun e=>
 h_ e
 (oE 5 a h fun f=>
 j_ f (.int .i64 4) fun g=>
 By K a e g h)
 (By K a e tU h)
def Cm:R:=
 il b d fun e=>
 h_ e
 (oE 4 a h fun f=>
 kg f (.int .i64 4) fun g=>
 Cd K a e g h)
 (Cd K a e tU h)
def Cu:R:=
 il b d fun e=>
 h_ e
 (oE 4 a h fun f=>
 j_ f (.int .i64 0) fun g=>
 Cm K a e g h)
 (Cm K a e tU h)
def C0:R:=
 il b d fun e=>
 h_ e
 (oE 3 a h fun f=>
 kg f (.int .i64 256) fun g=>
 Cu K a e g h)
 (Cu K a e tU h)
def Dw:R:=
 il b d fun e=>
 h_ e
 (oE 3 a h fun f=>
 j_ f (.int .i64 1) fun g=>
 C0 K a e g h)
 (C0 K a e tU h)
def Eg:R:=
 il b d fun e=>
 h_ e
 (oE 2 a h fun f=>
 kg f (.int .i64 64) fun g=>
 Dw K a e g h)
 (Dw K a e tU h)
def E3:R:=
 il b d fun e=>
 h_ e
 (oE 2 a h fun f=>
 j_ f (.int .i64 4) fun g=>
 Eg K a e g h)
 (Eg K a e tU h)
def Ge:R:=
 il b d fun e=>
 h_ e
 (oE 1 a h fun f=>
 kg f (.int .i64 64) fun g=>
 E3 K a e g h)
 (E3 K a e tU h)
def Ij:R:=
 il b d fun e=>
 h_ e
 (oE 1 a h fun f=>
 j_ f (.int .i64 1) fun g=>
 Ge K a e g h)
 (Ge K a e tU h)
def Il:R:=
 Ta 61 a h fun b h=>
 oE 0 b h fun d=>
 j_ d (.int .i64 3) fun e=>
 h_ e
 (oE 0 b h fun f=>
 kg f (.int .i64 8) fun g=>
 Ij K b e g h)
 (Ij K b e tU h)
def GO:Ru K R:=(.mk:Sg 0x1002200e256e9232007e001 [a] h [cl0 uF] [cu2 (fun a b=>Bp (Dn [(0,1),(1,1),(2,1),(3,1)]) [.Cl,.Aq,.Aq,.Am2] [(0,a),(3,b)])]).F
def sH:R:=(.mk:Sg 0x13110270200e500214e801e20ce432301 [a,b,d] h [K6 (uE K),Dx (GO K)]).F
def Mr(K:Nat)(base:Nat)(s:DX)(a:EV)(b:EV)(h:Ab):R:=
 hU a b fun d=>
 some (d,h)
def Qd:R:=
 hU b d fun e=>
 iY e
 (ir 3 11 2047 base a s h fun s f=>
 mU (.int .i64 2) f fun g=>
 ir 2 14 9215 base a s h fun s i=>
 Pj 15 1023 base a s fun s=>Tt 6 a h fun j=>
 Ly 16 33791 s h (fun h=>(Qg K j h)) fun n h s=>
 mU i n fun o=>
 kG g o fun p=>
 Mr K base s e p h)
 (Mr K base s e tU h)
def Nl:R:=
 Ta 23 a h fun b h=>
 Zj h fun base s=>
 Pj 0 0 base b s fun s=>Tt 6 b h fun d=>
 Ly 1 1 s h (fun h=>(Vt K d h)) fun e h s=>
 iY e
 (Pj 3 7 base b s fun s=>Tt 6 b h fun f=>
 Ly 4 15 s h (fun h=>(I5 K f h)) fun g h s=>
 ir 2 6 39 base b s h fun s i=>
 kG g i fun j=>
 Qd K base s b e j h)
 (Qd K base s b e tU h)
def GP:Ru K R:=(.mk:Sg 0x1002200e [a] h).F
def GQ:Ru K R:=
 Ju e fun f=>
 k4 a b d f h
def GR:R:=(.mk:Sg 0x1a976420321666c232115101363 [a,b,d,e,f] h [Dx (fun d=>Ca [.Cl] 133 1 1 [(0,d)]),Ej (Et 133 1),T3 (GQ K k4)]).F
def GS:R:=(.mk:Sg 0x198376510270200e500214e801e20ce2101214 [a,b,d,e] h [Dx (uC K),cl5 (GR K k4)]).F
def sI(K:Nat):Nat->A4
 | 0=>fun _ _ _ _ _=>none
 | m+1=>fun a b d e h=>
  cE Jw .lss 3 e d
  (GS K (sI K m) a b d e h)
  (GP K b h)
def GU:R:=(.mk:Sg 0x100236400504275e921007e265 [a] h [T3 (sI K K)] [cu1 (fun b=>Bp (Dn [(0,6),(6,1)]) [.int .i64 0,.int .i64 0,.int .i64 0,.int .i64 0,.int .i64 0,.int .i64 0,.Aq] [(0,b)])]).F
def qz:R:=(.mk:Sg 0x1511009e070200e62820fe2101265209e9 [a] h [Dx (Nl K),Dx (GU K)]).F
def GV:R:=(.mk:Sg 0x1002200e252e9818e2a5675007e22211618e21002e57565504b5f2e5502b365301b0ee [a,b,d,e] h [Dx (Ds K),Ej (Wa [.int .i64 0] 3)] [cu5 (fun a f g e n=>Bp (Dn [(0,1),(1,6),(7,256),(263,1),(264,1),(265,1),(266,1),(267,1)]) ([.Cl]++List.replicate 6 (.int .i64 0)++List.replicate 256 (.int .u32 0)++[.Cl]++[.Aq]++List.replicate 3 (.int .i64 0)) [(0,a),(1,f),(2,g),(3,e),(4,n),(5,.int .i64 (-1)),(6,.int .i64 (-1))])]).F
def Q8(K:Nat)(base:Nat)(s:DX)(a:EV)(b:EV)(d:EV)(e:EV)(f:EV)(g:EV)(h:Ab):R:=
 il f g fun i=>
 ic i
 (some (.tuple [.Cl,(.int .i64 20)],h))
 (GV K a b d e h)
def uG:R:=
 il f g fun i=>
 h_ i
 (Ly 12 4095 s h (fun h=>(Cw K a h)) fun j h s=>
 Ly 13 8191 s h (fun h=>(Pf K j h)) fun n h s=>
 ir 2 15 18431 base b s h fun s o=>
 kU n o fun p=>
 Q8 K base s a b d e i p h)
 (Q8 K base s a b d e i tU h)
def sJ:R:=
 Ta 23 b h fun e h=>
 Ta 68 d h fun f h=>
 Tt 6 e h fun g=>
 Am (qz K g h) fun i h=>
 mS i fun j n=>
 Zj h fun base s=>
 K3 i_ (bin TT .neq 34) n (.int .i64 0) fun o=>
 h_ o
 (Ly 4 15 s h (fun h=>(Cw K a h)) fun p h s=>
 Ly 5 31 s h (fun h=>(Oc K p h)) fun q h s=>
 Pj 6 7 base e s fun s=>Tt 6 e h fun t=>
 Ly 7 127 s h (fun h=>(Ds K t h)) fun u h s=>
 kU q u fun w=>
 uG K base s a e f j o w h)
 (uG K base s a e f j o tU h)
end
variable{d:Nat}(H:Bu disp)
include H
theorem Ks(hd:1<=d):R1 disp K d 7 (Ef K):=fun _=>rl H hd
theorem Ht(hd:1<=d):R1 disp K d 9 (Cv K):=fun _=>rl H hd
theorem Jf(hd:1<=d):R1 disp K d 11 (Cw K):=fun _=>rl H hd
theorem E9(hd:1<=d):R1 disp K d 20 (Ds K):=fun _=>rl H hd
theorem Ik(hd:1<=d):R1 disp K d 27 (Cs K):=fun _=>rl H hd
theorem Ahd(hd:1<=d):R1 disp K d 48 (Lq K):=fun _=>ll H hd (fun _ _=>rfl) 51 (e3 (Gt K) 1 3 4)
theorem GW(hd:1<=d):R1 disp K d 52 (Oc K):=fun _=>rl H hd
theorem GX(hd:1<=d):R1 disp K d 53 (Pf K):=fun _=>rl H hd
theorem Gh(hd:2<=d):R2 disp K d 58 (E5 K):=fun _ _=>rl H hd fun d hd=>V1 (E9 H) hd<|rfl
theorem Akl(hd:1<=d):R1 disp K d 82 (Pb K):=fun _=>rl H hd
theorem Azx(hd:1<=d):R2 disp K d 83 (sF K):=fun _ _=>rl H hd
theorem Ahs(hd:1<=d):R1 disp K d 84 (Na K):=fun _=>rl H hd
theorem A3h(hd:1<=d):R1 disp K d 85 (uC K):=fun _=>rl H hd
theorem Um(hd:1<=d):R1 disp K d 87 (I5 K):=fun _=>rl H hd
theorem Zk(hd:1<=d):R1 disp K d 100 (N4 K):=fun _=>rl H hd
theorem GY(hd:1<=d):R3 disp K d 115 (L6 K):=fun _ _ _=>rl H hd
theorem Aon(hd:1<=d):R1 disp K d 119 (R6 K):=fun _=>rl H hd
theorem Aoo(hd:1<=d):R1 disp K d 142 (Rv K):=fun _=>rl H hd
theorem Lf(hd:1<=d):R1 disp K d 171 (Fo K):=fun _=>rl H hd
theorem Asa(hd:2<=d):R2 disp K d 172 (Vp K):=fun _ _=>rl H hd fun d hd=>V1 (Lf H) hd<|rfl
theorem GZ(hd:2<=d):R2 disp K d 173 (Kw K):=fun _ _=>ll H hd (fun d hd=>V1 (Lf H) hd<|rfl) 51 (e6 (Hw K) 0 1 5 11 12 13)
theorem Ey(hd:3<=d):R2 disp K d 47 (D9 K):=fun _ _=>rl H hd fun d hd=>V2 (Gh H) hd<|rfl
theorem Aco(hd:2<=d):R1 disp K d 49 (I7 K):=fun _=>rl H hd fun d hd=>V1 (Akl H) hd<|rfl
theorem A5q(hd:2<=d):R3 disp K d 50 (uE K):=fun _ _ _=>ll H hd (fun d hd=>V2 (Azx H) hd<|V1 (Ahs H) hd<|rfl) 103 (e4 (sG K) 1 8 23 24)
theorem Arv(hd:2<=d):R1 disp K d 86 (Vt K):=fun _=>rl H hd fun d hd=>V3 (GY H) hd<|rfl
theorem Al0(hd:2<=d):R1 disp K d 88 (Qg K):=fun _=>rl H hd fun d hd=>V1 (Zk H) hd<|rfl
theorem G'(hd:3<=d):R1 disp K d 132 (Iz K):=fun _=>ll H hd (fun d hd=>V2 (GZ H) hd<|V2 (Asa H) hd<|V1 (Lf H) hd<|rfl) 51 (e5 (Ma K) 0 3 9 10 11)
theorem Ag9(hd:3<=d):R1 disp K d 18 (Il K):=fun _=>rl H hd fun d hd=>V1 (Ahd H) hd<|V1 (Aco H) hd<|rfl
theorem A5r(hd:3<=d):R3 disp K d 19 (sH K):=fun _ _ _=>rl H hd fun d hd=>V3 (A5q H) hd<|rfl
theorem U2(hd:3<=d):R1 disp K d 54 (Nl K):=fun _=>rl H hd fun d hd=>V1 (Arv H) hd<|V1 (Um H) hd<|V1 (Al0 H) hd<|rfl
theorem A6c(hd:4<=d):R1 disp K d 51 (qz K):=fun _=>ll H hd (fun d hd=>V1 (U2 H) hd<|V1 (A3h H) hd<|rfl) 103 (e4 (sI K) 1 4 14 15)
theorem A1g(hd:5<=d):R3 disp K d 21 (sJ K):=fun _ _ _=>rl H hd fun d hd=>V1 (A6c H) hd<|V1 (Jf H) hd<|V1 (GW H) hd<|V1 (E9 H) hd<|V1 (GX H) hd<|rfl
end
end
section
noncomputable section
section
variable (c r:Ah)(K l:Nat)(k0:A0)(k1:A1)(k2:A2)(k3:A3)(k4:A4)(k5:A5)(k6:A6)(k7:A7)(k8:A8)(k9:A9)(n_:lC)(oc:lG)(oe:mQ)(m0:B0)(m1:B1)(m2:B2)(m3:B3)(m4:B4)(m5:B5)(m6:B6)(m7:B7)(m8:B8)(m9:B9)(oh:mO)(oi:mP)(oo:mR)(base:Nat)(s:DX)(tm:Bb)(a b d e f g i j n o p q t u w x y z aa ab ad ae af ag ai aj an ao ap aq au aw ax ay az ba bb bd be bf bg bi bj bn bo bp bq bt bu bw bx bz da db dd de df dg di dj dn dp dq dt du dw dx dy dz ea eb ed ee ef eg ei ej en eo ep eq et eu ew ex ey ez fa fb fd fe ff fg fi fj fn fo fp fq ft fu fw fx fy fz ga gb gd ge gf gg gi gj gn go gp gq gt gu gw gx gy gz ia ib ie ig ii ij io ip iq it iu iw ix iy iz ja jb:EV)(h:Ab)(ds:List Nat)
def BA:Ru K R:=(.mk:Sg 0x100018e71204e276626542615e263 [a,b,d] h).F
def wG:R:=(.mk:Sg 0x154330003e0018e61204e26660007e01e286509e [a,b,d,e,f] h [K6 (BA K)] [cu0 (Bp (Dn [(0,1),(1,1),(2,1),(3,1),(4,1),(5,1)]) [.int .i64 0,.int .i64 0,.int .i64 0,.int .i64 0,.int .i64 0,.int .i64 0] [])]).F
def Gp:R:=(.mk:Sg 0x1202354500256875002723e213e46302e2d00420e018e05e [a,b] h [cl5 (wG K)] [] [[.int .i64 0,.int .i64 0,.int .i64 0,.int .i64 0,.int .i64 0,.int .i64 0]]).F
def Bn:Ru K R:=(.mk:Sg 0x122203 [a] h).F
def Au0:Ru K (Ru r (Ru c R)):=(.mk:Sg 0x100025e31204e2312e6312e5 [a,b] h).F
def Ava:R:=(.mk:Sg 0x1432000ee0025e41204e2412e60007e01e28540be [a,b,d,e] h [Ej (Au0 c r K)] [cu0 (Bp (L8 1) (List.replicate 32 (.int .u8 0)) [])]).F
def Avh:R:=(.mk:Sg 0x12026541024874100ee0214e702e4320104e2a30620e [a,b,d,e,f] h [c 39,T3 (Ava c r K)]).F
def Aw3:R:=(.mk:Sg 0x142ba95104025ec1204e2c12e60007e00e00314e801e5212e624ff3fb17e025e05ea18e421ae20ce232011e57665604b273011e0ee [a,b,d,e] h [c 17,cl5 (Avh c r K)] [cu0 (Bp (L8 1) (List.replicate 32 (.int .u8 0)) [])] [List.replicate 32 (.int .u8 0)]).F
def G_:R:=(.mk:Sg 0x1765440010e0025e71204e2712e60007e01e3023701e6048025e61204e2612e60007e00e288709e [a,b,d,e,f,g,i] h [T3 (Aw3 c r K)] [cu0 (Bp (L8 1) (List.replicate 32 (.int .u8 0)) [])]).F
def HA:R:=(.mk:Sg 0x1202438a97102465acb71000224e30403e2d00314e802e318e1606e20ce52201323025e05e [a,b] h [Ej (Gp K),cl7 (G_ c r K)] [] [List.replicate 32 (.int .u8 0),[.int .i64 0,.int .i64 0,.int .i64 0,.int .i64 0,.int .i64 0,.int .i64 0]]).F
def FF:Ru K R:=
 some (a,h)
def FE:Ru K R:=
 Ju b fun d=>
 k2 a d h
def FD:R:=(.mk:Sg 0x1652004226522319e31c0007e [a,b] h [Ej (FE K k2)] [cu0 (Bp (Dn [(0,1),(1,1)]) [.int .i64 0,.int .i64 0] [(0,.int .i64 (-1)),(1,.int .i64 (-1))])]).F
def St(K:Nat):Nat->A2
 | 0=>fun _ _ _=>none
 | m+1=>fun a b h=>
  cE Jw .lss 3 b (.int .i64 3)
  (FD K (St K m) a b h)
  (FF K a h)
def se:R:=(.mk:Sg 0x100220026ee921007e [a] h [Ej (St K K)] [cu1 (fun a=>Bp (Dn [(0,1),(1,6)]) [.Cl,.int .i64 0,.int .i64 0,.int .i64 0,.int .i64 0,.int .i64 0,.int .i64 0] [(0,a)])]).F
def sj:Ru K R:=(.mk:Sg 0x12224de926544007e235543e9 [a,b,d,e] h [] [cu4 (fun a b d g=>Bp (Dn [(0,1),(1,1),(2,1),(3,3),(6,1)]) [.Cl,.Cl,.Cl,.int .i64 0,.int .i64 0,.int .i64 0,.bool false] [(0,a),(1,b),(2,d),(3,g)])]).F
def FN:Ru K R:=(.mk:Sg 0x125e31104e2312e6312e5 [a,b] h).F
def FM:Ru K R:=
 Ju e fun f=>
 k4 a b d f h
def FL:R:=
 ki 32 1 d e fun f=>
 hQ 1 f a h fun h=>
 FM K k4 a b d e h
def Vb(K:Nat):Nat->A4
 | 0=>fun _ _ _ _ _=>none
 | m+1=>fun a b d e h=>
  cE Jw .lss 3 e (.int .i64 32)
  (FL K (Vb K m) a b d e h)
  (FN K b d h)
def uk:R:=(.mk:Sg 0x100234400025e05e025e05e [a] h [T3 (Vb K K)] [] [List.replicate 32 (.int .u8 0)]).F
def HC:Ru K (Ru r R):=(.mk:Sg 0x12232201 [a,b] h [c 73]).F
def HD:R:=(.mk:Sg 0x14321022200214e801e2101 [a,b] h [c 67,Ej (HC c r K)]).F
def Sf:R:=
 il e f fun g=>
 ic g
 (some (d,h))
 (HD c r K a b h)
def HE:R:=(.mk:Sg 0x1202498510246ba51010225e30401e2d00314e802e318e0606e20ce42201223 [a,b] h [Ej (Gp K),cl5 (Sf c r K)] [] [[.int .i64 0,.int .i64 0,.int .i64 0,.int .i64 0,.int .i64 0,.int .i64 0]]).F
def HF:Ru r R:=(.mk:Sg 0x12221112101203 [a] h [Dx (Bn K),c 61]).F
def Er:Ru K R:=(.mk:Sg 0x109e41104e246626530c009e05e [a] h [] [] [[.int .i64 0,.int .i64 0,.int .i64 0,.int .i64 0,.int .i64 0,.int .i64 0]]).F
def DL:Ru K R:=
 hU a b fun d=>
 some (d,h)
def rY:R:=(.mk:Sg 0x12022002320060320e92a00223e [a] h [Ej (DL K)]).F
def xv:Ru K R:=
 Ta 72 a h fun b h=>
 some ((.func 89 [] [b]),h)
def Hb:Ru K R:=(.mk:Sg 0x107e0200230023701e201ae42201203 [a,b] h [Ej pr]).F
def Cn:Ru K R:=(.mk:Sg 0x109e41104e246626531c009e05e [a] h [] [] [[.int .i64 0,.int .i64 0,.int .i64 0,.int .i64 0,.int .i64 0,.int .i64 0]]).F
def Apl:Ru K (Ru r (Ru c R)):=(.mk:Sg 0x1002 [] h).F
def Aqx:R:=(.mk:Sg 0x10100ee0230ee0214e701e42201203 [a,b] h [c 98,cl0 (Apl c r K)]).F
def HG:R:=(.mk:Sg 0x1652402220ee0214e701e2282231212150300e00214e701e522112101203 [a,b] h [Dx (Bn K),c 97,Dx (Cs K),c 28,Ej (Aqx c r K)]).F
def Pp:Ru K (Ru r (Ru c R)):=(.mk:Sg 0x15018e31204e2366365 [a,b,d] h).F
def T6:R:=(.mk:Sg 0x13200e3109806e3105021603e6c42162214e01e3c20ae224c3c12e0fe0314e701e8705e31042162214e01e3c20ae224c3c0ae00314e701e42662bffff5f06e17e018e05e05e18e20ce2467407fff4f01e723c004f00e210e63c21e03f9110e43c418e5404b273011e0ee [a,b,d] h [c 101,K6 (Pp c r K)] [] [[.int .i64 0,.int .i64 0,.int .i64 0,.int .i64 0,.int .i64 0,.int .i64 0]]).F
def Axm:R:=(.mk:Sg 0x15433004021626c [a,b,d] h [K6 (T6 c r K)]).F
def xL:R:=(.mk:Sg 0x13453204563100fe0018e51204e25660007e01e00214e801e3018e51204e25660007e00e0ee0214e701e510127e28463018e05e37fe9 [a,b] h [c 30,K6 (Axm c r K),K6 (T6 c r K)] [cu0 (Bp (Dn [(0,1),(1,1),(2,1),(3,1),(4,1),(5,1)]) [.int .i64 0,.int .i64 0,.int .i64 0,.int .i64 0,.int .i64 0,.int .i64 0] [])] [[.int .i64 0,.int .i64 0,.int .i64 0,.int .i64 0,.int .i64 0,.int .i64 0]]).F
def xB:Ru K R:=
 hU a b fun d=>
 some (d,h)
def ui:R:=(.mk:Sg 0x1202210262102720e21007e210130305e2a00323e [a,b] h [Dx (Cn K),Ej (xB K)] [cu1 (fun f=>Y8 3 false 0 f)]).F
def K5:Ru K (Ru r (Ru c R)):=
 Ju d fun e=>
 k3 a b e h
def Ur(c:Ah)(r:Ah)(K:Nat)(k3:A3)(k5:A5)(a:EV)(b:EV)(d:EV)(e:EV)(f:EV)(h:Ab):R:=
 Ju f fun g=>
 k5 a b d e g h
def Iu:R:=
 hU g i fun j=>
 ic j
 (some (.tuple [],h))
 (Ur c r K k3 k5 a b d e f h)
def DZ:R:=(.mk:Sg 0x12028765471024a987671020fe3420103e2a01225e652007e [a,b,d,e,f] h [Ej (fun a g=>Ue c r a [g]),cl7 (Iu c r K k3 k5)] [cu2 (fun e f=>kD 2 1 false 1 e f)] [] [(.int .i64 (-1))]).F
def E0(c:Ah)(r:Ah)(K:Nat)(k3:A3):Nat->A5
 | 0=>fun _ _ _ _ _ _=>none
 | m+1=>fun a b d e f h=>
  cE Jw .lss 3 f (.int .i64 2)
  (DZ c r K k3 (E0 c r K k3 m) a b d e f h)
  (K5 c r K k3 a b d h)
def D_:R:=(.mk:Sg 0x1002987500232107e31420426be0206e432007e [a,b,d] h [cl5 (E0 c r K k3 K)] [cu2 (fun b d=>kD 3 2 true 2 b d),cu2 (fun g i=>Bp (L8 1) [.int .i64 0,.int .i64 0] [(0,g),(1,i)])] [[.int .i64 0,.int .i64 0]]).F
def Gw(c:Ah)(r:Ah)(K:Nat):Nat->A3
 | 0=>fun _ _ _ _=>none
 | m+1=>fun a b d h=>
  cE Jw .lss 3 d (.int .i64 3)
  (D_ c r K (Gw c r K m) a b d h)
  (some (.tuple [],h))
def EC:R:=(.mk:Sg 0x1002530026521c30de [a,b] h [K6 (Gw c r K K)]).F
abbrev Wl(K:Nat)(c:Ah):Ah:=c
def xM:Ru K R:=
 Ta 76 a h fun b h=>
 some ((.func 116 [] [b]),h)
def BB:Ru K R:=(.mk:Sg 0x12242116e273 [a,b] h).F
def wJ:R:=(.mk:Sg 0x1432000023285409e [a,b,d,e] h [Ej (BB K)]).F
def Re:R:=(.mk:Sg 0x12024340025764002623e213e37301e2d00320e [a,b] h [T3 (wJ K)]).F
def To:Ru K R:=(.mk:Sg 0x1000e000e321627ff3fb17e56115e02e21de20de271e7b23115ea02e5210ea73711e0ee321627ff3fb17e56115ea21de20de271e7b23115e402e5110e473711e0ee3ce1023701e204318e9 [a,b,d] h).F
def xN:Ru K R:=
 Ta 133 a h fun b h=>
 some ((.func 155 [] [b]),h)
def Mp:Ru K R:=(.mk:Sg 0x1203040304e4fde33fce32fbe3 [a] h).F
def HH:Ru K (Ru r R):=(.mk:Sg 0x1250200e32201 [a,b] h [c 144]).F
def HI:R:=(.mk:Sg 0x1232100040200e60123701e2101 [a] h [c 175,Ej (HH c r K)] [] [] [(.int .i64 (-1))]).F
def HJ:R:=(.mk:Sg 0x13120250200e31119282101 [a] h [c 174,c 30,Dx (HI c r K)]).F
def Gz:Ru K R:=(.mk:Sg 0x136e41104e24f2e62f2e537c036e05e [a] h [] [] [List.replicate 256 (.int .u32 0)]).F
def HK:Ru K (Ru r R):=(.mk:Sg 0x1222101 [a] h [c 30]).F
def HL:Ru K (Ru r (Ru c R)):=
 Ju e fun f=>
 k4 a b d f h
def HM:R:=(.mk:Sg 0x1765441022200214e801e2320153116e [a,b,d,e] h [c 73,T3 (HL c r K k4)]).F
def Mo(c:Ah)(r:Ah)(K:Nat):Nat->A4
 | 0=>fun _ _ _ _ _=>none
 | m+1=>fun a b d e h=>
  cE Jw .lss 3 e d
  (HM c r K (Mo c r K m) a b d e h)
  (HK c r K a h)
def HN:R:=(.mk:Sg 0x100234410213e32201 [a,b] h [c 182,T3 (Mo c r K K)]).F
def HO:R:=(.mk:Sg 0x15421003e0232820fe32201 [a,b] h [c 95,Ej (HN c r K)]).F
def Sc:Ru K R:=(.mk:Sg 0x1000e5021624c [a] h).F
def Fv:Ru K R:=
 Ta 92 a h fun b h=>
 some ((.func 192 [] [b]),h)
def HP:Ru K (Ru r (Ru c R)):=(.mk:Sg 0x1402 [] h).F
def HQ:Ru K (Ru r (Ru c R)):=
 Ju d fun e=>
 k3 a b e h
def HR:R:=(.mk:Sg 0x154331050232842201 [a,b,d] h [c 64,K6 (HQ c r K k3)]).F
def N9(c:Ah)(r:Ah)(K:Nat):Nat->A3
 | 0=>fun _ _ _ _=>none
 | m+1=>fun a b d h=>
  cE Jw .lss 3 d b
  (HR c r K (N9 c r K m) a b d h)
  (HP c r K h)
def HS:R:=(.mk:Sg 0x1002532021112101203 [a] h [Dx (Cn K),Dx (Ds K),K6 (N9 c r K K)]).F
def Gg:Ru K (Ru r (Ru c R)):=
 Ju e fun f=>
 k4 a b d f h
def Gd:R:=(.mk:Sg 0x1ba98410000e22820fe296301265218e0606e26553615e [a,b,d,e] h [K6 (fun a e j=>Ue c r a [e,j]),T3 (Gg c r K k4)] [] [[.int .i64 0,.int .i64 0,.int .i64 0,.int .i64 0,.int .i64 0,.int .i64 0]]).F
def Cf(c:Ah)(r:Ah)(K:Nat):Nat->A4
 | 0=>fun _ _ _ _ _=>none
 | m+1=>fun a b d e h=>
  cE Jw .lss 3 e d
  (Gd c r K (Cf c r K m) a b d e h)
  (some (.tuple [],h))
def G9:R:=(.mk:Sg 0x100234400213e30de [a,b] h [T3 (Cf c r K K)]).F
def Ei:Ru K R:=(.mk:Sg 0x122233 [a] h).F
def r_:Ru K R:=
 Ta 40 a h fun d h=>
 Ta 3 b h fun e h=>
 some ((.func 215 [] [d,e]),h)
def Zx:Ru K R:=
 some (a,h)
def Rj:Ru K R:=
 Ju e fun f=>
 k4 a b d f h
def Z0:R:=(.mk:Sg 0x17654410876241040ae91023701e210153116e [a,b,d,e] h [Dx (Ei K),T3 (Rj K k4)]).F
def Ji(K:Nat):Nat->A4
 | 0=>fun _ _ _ _ _=>none
 | m+1=>fun a b d e h=>
  cE Jw .lss 3 e d
  (Z0 K (Ji K m) a b d e h)
  (Zx K a h)
def Qf:R:=(.mk:Sg 0x1002300400213e203 [a] h [T3 (Ji K K)]).F
def V7:Ru K R:=
 il a b fun d=>
 some (d,h)
def Q1:R:=(.mk:Sg 0x1202220262207224e72211210130306e2d01424e [a,b,d] h [Dx (Cn K),Ej (E5 K),Ej (V7 K)] [] [] [(.int .i64 (-1))]).F
def HT:Ru K (Ru r (Ru c R)):=(.mk:Sg 0x1002200e [a] h).F
def HU:R:=(.mk:Sg 0x121000fe02200e53023301e [a] h [Dx (HT c r K)]).F
def HV:R:=(.mk:Sg 0x16120200200e500214e801e21112101203 [a,b] h [Dx (Bn K),c 61,Dx (HU c r K)]).F
def HW:Ru K (Ru r (Ru c R)):=
 Ju e fun f=>
 k4 a b d f h
def HX:R:=(.mk:Sg 0x16432400724340040ae958 [a,b,d,e,f] h [T3 (HW c r K k4)]).F
def HY:R:=(.mk:Sg 0x193876510200200e500214e801e20ce263301345 [a,b,d,e] h [c 94,cl5 (HX c r K k4)]).F
def Lg(c:Ah)(r:Ah)(K:Nat):Nat->A4
 | 0=>fun _ _ _ _ _=>none
 | m+1=>fun a b d e h=>
  cE Jw .lss 3 e (.int .i64 3)
  (HY c r K (Lg c r K m) a b d e h)
  (HV c r K a d h)
def HZ:R:=
 Lg c r K K a b (.int .i64 0) (.int .i64 0) h
def U0(c:Ah)(r:Ah)(K:Nat)(base:Nat)(s:DX)(a:EV)(b:EV)(d:EV)(e:EV)(h:Ab):R:=
 il d e fun f=>
 ic f
 (some (.tuple [(.int .i64 0),(.int .i64 10)],h))
 (HZ c r K a b h)
def H':R:=
 Ta 137 b h fun d h=>
 Zj h fun base s=>
 Pj 0 0 base d s fun s=>Tt 4 d h fun e=>
 Ly 1 1 s h (fun h=>(c 93 [e] h)) fun f h s=>
 jt f fun g=>
 h_ g
 (ir 3 5 31 base d s h fun s i=>
 Ly 6 63 s h (fun h=>(Er K i h)) fun j h s=>
 jI 0 10 911 base a s h fun s n=>
 Ly 11 2047 s h (fun h=>(Cn K n h)) fun o h s=>
 K3 i_ (bin TT .neq 23) j o fun p=>
 U0 c r K base s a d g p h)
 (U0 c r K base s a d g tU h)
def X4:Ru K (Ru r (Ru c R)):=
 hU a b fun d=>
 some (d,h)
def EH:R:=(.mk:Sg 0x12022202522000224e5221132303e2a32201 [a,b] h [c 95,Ej (Re K),Ej (X4 c r K)]).F
def Ul(c:Ah)(r:Ah)(K:Nat)(tm:Bb)(a:EV)(h:Ab)(ds:List Nat):R:=
 Iy a h fun b=>
 uo b h ds
def ER:R:=
 (fun(tm:Bb) (ds:List Nat)=>
 j' (.cells [.Aq] 24) h fun d h=>
 jS a fun e=>
 iX 2 e fun f=>
 Iy f h fun g=>
 Am (r_ K g b h) fun i h=>
 Yq c TT 182 19 0 i ((((((((tm.put 4 (some .Aq)).put 5 (some d)).put 7 (some a)).put 8 (some e)).put 9 (some f)).put 10 (some g)).put 11 (some b)).put 12 (some i)) h ds (fun h ds=>
 Ul c r K ((((((((tm.put 4 (some .Aq)).put 5 (some d)).put 7 (some a)).put 8 (some e)).put 9 (some f)).put 10 (some g)).put 11 (some b)).put 12 (some i)) d h ds) (fun id h ds=>
 Bc (Nat.beq 0 id) (Ul c r K ((((((((tm.put 4 (some .Aq)).put 5 (some d)).put 7 (some a)).put 8 (some e)).put 9 (some f)).put 10 (some g)).put 11 (some b)).put 12 (some i)) d h ds) (none)) (fun h ds=>
 Gb ds h fun h=>some (.Aq,h))) ((Tr.nil.put 0 (some a)).put 1 (some b)) []
def Wn:Ru K (Ru r (Ru c R)):=(.mk:Sg 0x1020251623211410120de [a,b] h [Dx (fun b=>Ca [.int .i64 0] 3 1 1 [(0,b)]),Ej (Et 3 1),cl0 (Xo l true .ready none)]).F
def EP:R:=
 Fm l h fun h=>Wn c r K l a b h
end
variable{d:Nat}(H:Bu disp)
include H
theorem Hy(hd:1<=d):R2 disp K d 8 (Gp K):=fun _ _=>rl H hd
theorem Dp(hd:1<=d):R1 disp K d 10 (Bn K):=fun _=>rl H hd
theorem Auk(hd:1<=d):S2 disp K d 13 HA:=fun _ _=>rd rfl rfl H (V2 (Hy H) hd<|rfl)
theorem A7w(hd:1<=d):R1 disp K d 24 (se K):=fun _=>ll H hd (fun _ _=>rfl) 51 (e2 (St K) 3 8)
theorem A7p(hd:1<=d):R4 disp K d 29 (sj K):=fun _ _ _ _=>rl H hd
theorem A2h(hd:1<=d):R1 disp K d 32 (uk K):=fun _=>ll H hd (fun _ _=>rfl) 51 (e4 (Vb K) 0 2 3 5)
theorem Att(hd:1<=d):S2 disp K d 39 HE:=fun _ _=>rd rfl rfl H (V2 (Hy H) hd<|rfl)
theorem Ar8(hd:1<=d):S1 disp K d 43 HF:=fun _=>rd rfl rfl H (V1 (Dp H) hd<|rfl)
theorem F4(hd:1<=d):R1 disp K d 44 (Er K):=fun _=>rl H hd
theorem H_(hd:1<=d):R1 disp K d 55 (rY K):=fun _=>rl H hd
theorem Atn(hd:1<=d):R1 disp K d 57 (xv K):=fun _=>rl H hd
theorem U1(hd:1<=d):R2 disp K d 60 (Hb K):=fun _ _=>rl H hd
theorem Dz(hd:1<=d):R1 disp K d 63 (Cn K):=fun _=>rl H hd
theorem Aop(hd:1<=d):S2 disp K d 65 HG:=fun _ _=>rd rfl rfl H (V1 (Dp H) hd<|V1 (Ik H) hd<|rfl)
theorem IA(hd:0<=d:=by omega):S2 disp K d 68 xL:=fun _ _=>rd rfl rfl H rfl
theorem Awb(hd:2<=d):R2 disp K d 70 (ui K):=fun _ _=>rl H hd fun d hd=>V1 (Dz H) hd<|rfl
omit H in
theorem Aog(c r:Ah)(K:Nat)(G:EV->EV->EV->Ab->R)(m:Nat):kH false (Wl K c) c r K 89 1637 [(2,fun A tm h ds=>K5 c r K G (A 0) (A 10) (A 11) h),(1,fun A tm h ds=>K5 c r K G (A 0) (A 10) (A 11) h),(0,jT false TT 89)] m=(fun m A tm h ds=>E0 c r K G m (A 0) (A 10) (A 11) (A 18) (A 19) h) m:=
 N6 (E:=fun m A tm h ds=>E0 c r K G m (A 0) (A 10) (A 11) (A 18) (A 19) h) rfl (fun m=>kj fun A tm h ds=>by kernel_rfl) m
omit H in
theorem An3(c r:Ah)(K:Nat)(m:Nat):kH false (Wl K c) c r K 89 5 [(0,jT false TT 89)] m=(fun m A tm h ds=>Gw c r K m (A 0) (A 10) (A 11) h) m:=
 Btm (E:=fun m A tm h ds=>Gw c r K m (A 0) (A 10) (A 11) h) rfl (fun m=>(cut [true,true,false,false,true,true,false] (Aog c r K (Gw c r K m) K) (by kernel_rfl) (by kernel_rfl) rfl)) (fun m=>kj fun A tm h ds=>by kernel_rfl) m
theorem ν(hd:0<=d):S2 disp K d 89 EC:=fun _ _=>rm (q:=false) (D:=Wl K (Ag TT disp K d false)) (by kernel_rfl) rfl rfl H (rfl) (cut [true,false] (An3 (Ag TT disp K d false) (Ag TT disp K d true) K K) (by kernel_rfl) (by kernel_rfl) rfl)
theorem Avp(hd:1<=d):R1 disp K d 90 (xM K):=fun _=>rl H hd
theorem IB(hd:1<=d):R2 disp K d 96 (Re K):=fun _ _=>rl H hd
theorem Aua(hd:1<=d):R3 disp K d 102 (To K):=fun _ _ _=>rl H hd
theorem Arz(hd:1<=d):R1 disp K d 117 (xN K):=fun _=>rl H hd
theorem Amf(hd:1<=d):R1 disp K d 127 (Mp K):=fun _=>rl H hd
theorem Aul(hd:0<=d):S1 disp K d 133 HJ:=fun _=>rd rfl rfl H rfl
theorem W7(hd:1<=d):R1 disp K d 141 (Gz K):=fun _=>rl H hd
theorem Ar9(hd:0<=d):S2 disp K d 144 HO:=fun _ _=>ld rfl rfl H rfl 51 (fun c r=>e4 (Mo c r K) 0 14 15 16)
theorem An1(hd:1<=d):R1 disp K d 159 (Sc K):=fun _=>rl H hd
theorem T4(hd:1<=d):R1 disp K d 160 (Fv K):=fun _=>rl H hd
theorem Aty(hd:1<=d):S1 disp K d 174 HS:=fun _=>ld rfl rfl H (V1 (Dz H) hd<|V1 (E9 H) hd<|rfl) 25 (fun c r=>e3 (N9 c r K) 0 9 10)
theorem J0(hd:0<=d):S2 disp K d 192 G9:=fun _ _=>ld rfl rfl H rfl 5 (fun c r=>e4 (Cf c r K) 0 5 6 7)
theorem Ih(hd:1<=d):R1 disp K d 196 (Ei K):=fun _=>rl H hd
theorem IC(hd:1<=d):R2 disp K d 204 (r_ K):=fun _ _=>rl H hd
theorem Am3(hd:2<=d):R1 disp K d 211 (Qf K):=fun _=>ll H hd (fun d hd=>V1 (Ih H) hd<|rfl) 51 (e4 (Ji K) 3 9 10 11)
theorem Ar6(hd:3<=d):R3 disp K d 56 (Q1 K):=fun _ _ _=>rl H hd fun d hd=>V1 (Dz H) hd<|V2 (Gh H) hd<|rfl
theorem Apw(hd:1<=d):S2 disp K d 62 H':=fun _ _=>ld rfl rfl H (V1 (F4 H) hd<|V1 (Dz H) hd<|V1 (Dp H) hd<|rfl) 103 (fun c r=>e4 (Lg c r K) 0 3 6 25)
theorem τ(hd:1<=d):S2 disp K d 64 EH:=fun _ _=>rd rfl rfl H (V2 (IB H) hd<|rfl)
theorem Ρ(hd:1<=d):S2 disp K d 182 ER:=fun _ _=>rd rfl rfl H (V2 (IC H) hd<|rfl)
theorem Ξ(hd:1<=d){l:Nat}(tm:Bb)(h:Ab)(A:EV){st:LoopState}{p:Option Code}(hg:h.get l=some (.loop st p 182 19 tm [13] (Fw TT 182 0).2.2.1 (Fw TT 182 0).2.2.2 d0)):
 Ag TT disp K (d+1) true l [A] h=EP (Ag TT disp K d false) (Ag TT disp K d true) K l (tmp tm 5) A h:=rr rfl rfl (rfl) hg rfl (by kernel_rfl)
end
end
section
noncomputable section
section
variable (c r:Ah)(K l:Nat)(k0:A0)(k1:A1)(k2:A2)(k3:A3)(k4:A4)(k5:A5)(k6:A6)(k7:A7)(k8:A8)(k9:A9)(n_:lC)(oc:lG)(oe:mQ)(m0:B0)(m1:B1)(m2:B2)(m3:B3)(m4:B4)(m5:B5)(m6:B6)(m7:B7)(m8:B8)(m9:B9)(oh:mO)(oi:mP)(oo:mR)(base:Nat)(s:DX)(tm:Bb)(a b d e f g i j n o p q t u w x y z aa ab ad ae af ag ai aj an ao ap aq au aw ax ay az ba bb bd be bf bg bi bj bn bo bp bq bt bu bw bx bz da db dd de df dg di dj dn dp dq dt du dw dx dy dz ea eb ed ee ef eg ei ej en eo ep eq et eu ew ex ey ez fa fb fd fe ff fg fi fj fn fo fp fq ft fu fw fx fy fz ga gb gd ge gf gg gi gj gn go gp gq gt gu gw gx gy gz ia ib ie ig ii ij io ip iq it iu iw ix iy iz ja jb:EV)(h:Ab)(ds:List Nat)
def Wb:Ru K R:=
 hU a b fun d=>
 some (d,h)
def Hc:R:=(.mk:Sg 0x1202200252002620e213e303d2a00323e [a,b] h [Ej (Wb K)]).F
def Nm:Ru K R:=(.mk:Sg 0x10023232e627fff4f01e17e8632e15e28201fe04fd7232e52fc03fcb5232e15e31c03f9011e273011e0ee [a,b,d] h [Ej (fun d i=>Ue c r d [i])]).F
def F6:R:=(.mk:Sg 0x15433000be023286509e [a,b,d,e,f] h [K6 (Nm c r K)]).F
def Kl:R:=(.mk:Sg 0x1202543500258765002623e213e30302e2d00320e [a,b,d] h [cl5 (F6 c r K)]).F
def ID:Ru K R:=(.mk:Sg 0x10fe41104e2432e6232e5 [a,b] h).F
def IE:Ru K R:=
 Ju e fun f=>
 k4 a b d f h
def IF:R:=(.mk:Sg 0x1ba9840032162f1e817ea7132e19e245403e20de20ae5b75132e19e20de232b52132e19e0ee [a,b,d,e] h [T3 (IE K k4)]).F
def Lb(K:Nat):Nat->A4
 | 0=>fun _ _ _ _ _=>none
 | m+1=>fun a b d e h=>
  cE Jw .lss 3 e (.int .i64 64)
  (IF K (Lb K m) a b d e h)
  (ID K a d h)
def Pe:R:=(.mk:Sg 0x10023440000fe05e40fe920fe9 [a,b] h [T3 (Lb K K)] [] [List.replicate 64 (.int .u8 0)]).F
def Z2:Ru K (Ru r (Ru c R)):=(.mk:Sg 0x1002 [] h).F
def IH:R:=(.mk:Sg 0x10100ee0230ee0214e701e32201 [a,b] h [c 98,cl0 (Z2 c r K)]).F
def Tp:Ru K R:=(.mk:Sg 0x122243 [a] h).F
def Gf:Ru K R:=(.mk:Sg 0x12232211001 [a] h [cl0 (Ca (List.replicate 4 (.int .i64 0)++List.replicate 64 (.int .u8 0)) 31 68 0 []),Ej (Et 31 68)]).F
def D6:R:=(.mk:Sg 0x12100b023b0253e701e [a] h [Dx (Gf K)]).F
def Ha:Ru K R:=(.mk:Sg 0x1000e321642c213e203 [a] h).F
def BZ:Ru K R:=
 hU a b fun d=>
 some (d,h)
def Tn:R:=(.mk:Sg 0x1202200232004321e82a10223e [a,b] h [Ej (BZ K)]).F
def II:Ru K R:=
 Ju d fun e=>
 k3 a b e h
def IJ:R:=
 fE 3 a h fun e=>
 Bp (Dn [(0,1),(1,1)]) [(.int .i64 0),(.int .i64 0)] [(0,b),(1,d)] fun f=>
 Am (builtin TT .delete #[98,217] [e,f] h) fun _ h=>
 II K k3 a b d h
def J7(K:Nat):Nat->A3
 | 0=>fun _ _ _ _=>none
 | m+1=>fun a b d h=>
  fE 0 a h fun e=>
  Am (Pf K e h) fun f h=>
  cE Jw .lss 3 d f
  (IJ K (J7 K m) a b d h)
  (some (.tuple [],h))
def Xw:R:=
 J7 K K a b d h
def IK:Ru K (Ru r (Ru c R)):=(.mk:Sg 0x1002 [] h).F
def Rz:R:=(.mk:Sg 0x100005e023283209e [a,b] h [cl0 (IK c r K)]).F
def IL:R:=(.mk:Sg 0x12022202622000224e9221142116e86307e2d00220e232011e5740de404b265273b30c0ee339 [a,b] h [Ej (E5 K),Ej (fun o d=>c 168 [o,.func 169 [] [d]]),Ej (Rz c r K)]).F
def Qc:Ru K (Ru r (Ru c R)):=
 some (a,h)
def IM:R:=(.mk:Sg 0x131102110400314e701e679301578301002167fdec012166fcec012165fbec4fde33fce32fbe3 [a] h [c 170,Dx (Qc c r K)] [] [] [(.int .i64 (-1))]).F
def Z7:Ru K (Ru r R):=(.mk:Sg 0x129200e547823601518e5 [a,b,d,e,f,g] h [c 177]).F
def IP:R:=(.mk:Sg 0x1456a9761025200e400214e801e983426601418e54fce33fbe337fe9 [a,b,d,e] h [c 177,cl6 (Z7 c r K)]).F
def Pn:Ru K R:=(.mk:Sg 0x10000fe71204e2732e6232e54232e15e203 [a,b,d] h).F
def Jx:R:=(.mk:Sg 0x15433000be000fe61204e2632e6632e501e287609e [a,b,d,e,f,g] h [K6 (Pn K)]).F
def H2:R:=(.mk:Sg 0x120245766002578a96002923e213e60303e2d00620e0ce000fe51204e2532e6332e501ec023701e43300fe05e00fe05e [a,b] h [cl6 (Jx K)] [] [List.replicate 64 (.int .u8 0)]).F
def pw:Ru K R:=(.mk:Sg 0x1222d6e921007e32211001 [a] h [cl0 (Ca [.int .u8 0] 5 1 0 []),Ej (Et 5 1)] [cu1 (fun d=>Bp (Dn [(0,1),(1,1)]) [.Aq,.bool false] [(0,d)])]).F
def Apx:Ru K R:=(.mk:Sg 0x1002 [] h).F
def Ap3:R:=(.mk:Sg 0x100004e023283209e [a,b] h [cl0 (Apx K)]).F
def Rw:R:=(.mk:Sg 0x12022002520000222e213e30300e2d213 [a] h [Ej (Ap3 K)]).F
def Yg:Ru K R:=(.mk:Sg 0x1222634e403e20de251f2e19e725403e51007e01434e603e236e9 [a,b,d] h [] [cu1 (fun b=>Sz .u8 b)] [] [(.int .u64 8)]).F
def IQ:Ru K R:=(.mk:Sg 0x1222325e30de [a,b] h).F
def xO:Ru K R:=
 hU a b fun d=>
 some (d,h)
def X8:R:=(.mk:Sg 0x12022002320090321e92a10223e [a] h [Ej (xO K)]).F
def IU:Ru K R:=(.mk:Sg 0x152321660c622107e403422007e203 [a,b] h [] [cu2 (fun d b=>iK 1 d none (some b) (some b)),cu2 (fun f b=>iK 1 f (some b) none none)]).F
def IV:R:=(.mk:Sg 0x143200b025021641cb021630c05e285409e [a,b,d,e] h [Ej (IU K)]).F
def IW:R:=(.mk:Sg 0x12024340025764002622e213e30301e2d5409e [a,b,d,e] h [T3 (IV K)]).F
def Ku:R:=(.mk:Sg 0x120243400235440000420eb2d213 [a,b] h [T3 (IW K)]).F
def xP:Ru K R:=
 hU a b fun d=>
 some (d,h)
def N5:R:=(.mk:Sg 0x1202200232005321e82a3223e [a,b,d] h [Ej (xP K)]).F
def Qs:Ru K R:=(.mk:Sg 0x1000e321640c42201203 [a,b] h [Ej (Et 5 1)]).F
def IX:Ru K R:=(.mk:Sg 0x1002200e23211303001 [a] h [cl0 (Ca [.int .u8 0] 5 1 0 []),Ej (Et 5 1)]).F
def Oq:R:=(.mk:Sg 0x1310003e0b0200e628213 [a] h [Dx (IX K)]).F
def Gn:Ru K R:=(.mk:Sg 0x105e000200e002200e321ae80023701e201ae200201203 [a] h [Ej px]).F
def E4:Ru K R:=(.mk:Sg 0x1000e000e521633c9285409e [a,b,d,e] h).F
def E2:R:=(.mk:Sg 0x1204324002543400650bea4d [a,b,d,e,f] h [T3 (E4 K)]).F
def Gs:R:=(.mk:Sg 0x120543250027654500c0225e23301e5a [a,b,d,e] h [cl5 (E2 K)]).F
def H0:R:=(.mk:Sg 0x120243400235440060424eb2dc0324e [a,b] h [T3 (Gs K)]).F
def Nz:Ru K R:=(.mk:Sg 0x1002 [] h).F
def Ee:R:=(.mk:Sg 0x10000ae0236023701e0ce023c023701e233 [a] h [cl0 (Nz K)]).F
def xQ:Ru K R:=
 hU a b fun d=>
 some (d,h)
def Qn:R:=(.mk:Sg 0x1202200232005321e82a3223e [a,b,d] h [Ej (xQ K)]).F
def Zf:Ru K R:=(.mk:Sg 0x1402 [] h).F
def Ro:Ru K R:=
 hU a b fun d=>
 some (d,h)
def Mx:Ru K R:=
 hU a b fun d=>
 some (d,h)
def Rp:R:=(.mk:Sg 0x1202200262002325e702e0007e212e53614e05e2a430be [a,b,d] h [Ej (Mx K)] [cu0 (Bp (L8 1) (List.replicate 32 (.int .u8 0)) [])]).F
def Rq:Ru K R:=
 hU a b fun d=>
 some (d,h)
def Ql:R:=(.mk:Sg 0x10402022302423000224e544c2a10224e3240ee6023701e202532026932021043012011ee63454409e2a10224e3241ae3023701e2022102421000224e544c2ac010230132412e1023701e20427fe9 [a] h [K6 (Qn K),Ej (Ro K),K6 (Rp K),Ej (Rq K),cl0 (Zf K)] [] [] [(.int .i64 256)]).F
def IY:Ru K R:=
 some (a,h)
def X3:R:=(.mk:Sg 0x13100d023284309e [a,b,d] h [Dx (IY K)]).F
def X2:R:=(.mk:Sg 0x1202430023530090422ea2d00220e [a,b] h [K6 (X3 K)]).F
def IZ:Ru K R:=(.mk:Sg 0x12320040ae0123603e [a,b] h [Ej k2] [] [] [(.int .u64 8)]).F
def Mm(K:Nat):Nat->A2
 | 0=>fun _ _ _=>none
 | m+1=>fun a b h=>
  iQ (bin TT .shr 3) a (.int .u64 8) fun d=>
  cE nN .gtr 3 d (.int .i64 0)
  (IZ K (Mm K m) a b h)
  (X2 K a b h)
def W8:R:=
 Mm K K a (.int .i64 1) h
def N2:Ru K R:=(.mk:Sg 0x10025021634c3021623c [a] h).F
def G2:R:=(.mk:Sg 0x1311022200214e801e2101 [a] h [Dx (Ee K),Dx (N2 K)]).F
def rE:R:=(.mk:Sg 0x189e91104e291ee671ee54221151007e20ce4101089e05e089e05e [a] h [Dx (Oq K),builtin TT .copy #[159,159]] [cu1 (fun d=>Ny 44 1 d none none none)] [List.replicate 44 (.int .u8 0)]).F
def I2:Ru K (Ru r R):=(.mk:Sg 0x12276230142116e203 [a,b,d,e] h [K6 (fun g d e=>c 36 [g,d,.func 37 [] [e]])]).F
def I4:R:=(.mk:Sg 0x1476541003e0232820fe4320150fe9 [a,b,d,e] h [Ej (Hc K),T3 (I2 c r K)]).F
def Ym(c:Ah)(r:Ah)(K:Nat)(tm:Bb)(a:EV)(h:Ab)(ds:List Nat):R:=
 hQ 1 a (.bool false) h fun h=>
 Gb ds h fun h=>J5 TT [.c a 4] h
def EB:R:=
 (fun(tm:Bb) (ds:List Nat)=>
 Ta 3 b h fun d h=>
 j' (.cells [(.bool false)] 4) h fun e h=>
 Am (xv K a h) fun f h=>
 Yq c TT 26 12 0 f ((((tm.put 3 (some d)).put 4 (some e)).put 6 (some a)).put 7 (some f)) h ds (fun h ds=>
 Ym c r K ((((tm.put 3 (some d)).put 4 (some e)).put 6 (some a)).put 7 (some f)) e h ds) (fun id h ds=>
 Bc (Nat.beq 0 id) (Ym c r K ((((tm.put 3 (some d)).put 4 (some e)).put 6 (some a)).put 7 (some f)) e h ds) (none)) (fun h ds=>
 Gb ds h fun h=>J5 TT [.c e 4] h)) ((Tr.nil.put 0 (some a)).put 1 (some b)) []
def Z9:Ru K (Ru r (Ru c R)):=(.mk:Sg 0x1010000504168253701e20de [a,b,d] h [cl0 (Xo l false .done (some .ret)),cl0 (Xo l true .ready none)]).F
def DY:R:=
 Fm l h fun h=>Z9 c r K l a b d h
def I':R:=(.mk:Sg 0x10fe51104e2532e623201632e5332e500fe05e20fe9 [a,b] h [Ej (Pe K)] [] [List.replicate 64 (.int .u8 0)]).F
def xR(c:Ah)(r:Ah)(K:Nat)(tm:Bb)(a:EV)(h:Ab)(ds:List Nat):R:=
 hQ 1 a (.bool false) h fun h=>
 Gb ds h fun h=>J5 TT [.c a 4] h
def I_:R:=
 (fun(tm:Bb) (ds:List Nat)=>
 Ta 3 b h fun d h=>
 j' (.cells [(.bool false)] 4) h fun e h=>
 Am (xM K a h) fun f h=>
 Yq c TT 59 14 0 f ((((tm.put 3 (some d)).put 4 (some e)).put 7 (some a)).put 8 (some f)) h ds (fun h ds=>
 xR c r K ((((tm.put 3 (some d)).put 4 (some e)).put 7 (some a)).put 8 (some f)) e h ds) (fun id h ds=>
 Bc (Nat.beq 0 id) (xR c r K ((((tm.put 3 (some d)).put 4 (some e)).put 7 (some a)).put 8 (some f)) e h ds) (none)) (fun h ds=>
 Gb ds h fun h=>J5 TT [.c e 4] h)) ((Tr.nil.put 0 (some a)).put 1 (some b)) []
def JA:Ru K (Ru r (Ru c R)):=(.mk:Sg 0x1010000504168253701e20de [a,b,d] h [cl0 (Xo l false .done (some .ret)),cl0 (Xo l true .ready none)]).F
def JB:R:=
 Fm l h fun h=>JA c r K l a b d h
def Fz:Ru K (Ru r (Ru c R)):=
 hU a b fun d=>
 some (d,h)
def Gx:R:=(.mk:Sg 0x12022202622020fe62211210130305e2a540be [a,b,d,e] h [Dx (Cs K),c 59,Ej (Fz c r K)]).F
def Is:R:=(.mk:Sg 0x120243410257641020fe5220131303e2a540be [a,b,d,e] h [c 26,T3 (Gx c r K)]).F
def Oz:R:=(.mk:Sg 0x120243410257641020fe5220130303e2a540be [a,b,d,e] h [Ej (D9 K),T3 (Is c r K)]).F
def Uy:R:=(.mk:Sg 0x12024340023544005425ea2a650be [a,b,d,e,f] h [T3 (Oz c r K)]).F
def EF:R:=(.mk:Sg 0x12027cb530238dc5308c25eb2a00223ea22212111703421ae20ce2101203 [a,b] h [Dx (Mp K),Dx (Cn K),Ej (E5 K),cl5 (Uy c r K)]).F
def Ow:Ru K R:=(.mk:Sg 0x10024021654c0021643c0021632cb021620c [a] h).F
def He:R:=(.mk:Sg 0x1311022200214e801e2101 [a] h [Dx (Ee K),Dx (Ow K)]).F
def Uv:Ru K (Ru r (Ru c R)):=
 some (a,h)
def O1:Ru K (Ru r (Ru c R)):=
 Ju f fun g=>
 k5 a b d e g h
def JC:R:=
 Am (Hb K a e h) fun i h=>
 O1 c r K k5 a b d f g h
def JD:R:=
 Am (Ue c r b [e] h) fun i h=>
 jt i fun j=>
 ic j
 (Ju d fun n=>
 O1 c r K k5 a b n f g h)
 (JC c r K k5 a b d e f g h)
def JE:R:=(.mk:Sg 0x19837656207110400214e801e20ce2101 [a,b,d,e,f] h [Dx (Gn K),Dx (Uv c r K),cl6 (JD c r K k5)]).F
def Lc(c:Ah)(r:Ah)(K:Nat):Nat->A5
 | 0=>fun _ _ _ _ _ _=>none
 | m+1=>fun a b d e f h=>
  cE Jw .lss 3 f e
  (JE c r K (Lc c r K m) a b d e f h)
  (Uv c r K d h)
def JF:R:=(.mk:Sg 0x100200435102101 [a,b] h [Dx (Fo K),cl5 (Lc c r K K)]).F
end
variable{d:Nat}(H:Bu disp)
include H
theorem Ll(hd:1<=d):R2 disp K d 35 (Hc K):=fun _ _=>rl H hd
theorem Xc(hd:0<=d):S3 disp K d 36 Kl:=fun _ _ _=>rd rfl rfl H rfl
theorem JG(hd:1<=d):R2 disp K d 38 (Pe K):=fun _ _=>ll H hd (fun _ _=>rfl) 25 (e4 (Lb K) 2 3 4 6)
theorem Ama(hd:0<=d):S2 disp K d 78 IH:=fun _ _=>rd rfl rfl H rfl
theorem Ap8(hd:1<=d):R1 disp K d 118 (Tp K):=fun _=>rl H hd
theorem Sp(hd:1<=d):R1 disp K d 120 (D6 K):=fun _=>rl H hd
theorem Yn(hd:1<=d):R1 disp K d 122 (Ha K):=fun _=>rl H hd
theorem Az6(hd:1<=d):R2 disp K d 123 (Tn K):=fun _ _=>rl H hd
theorem Aom(hd:2<=d):R3 disp K d 129 (Xw K):=fun _ _ _=>ll H hd (fun d hd=>V1 (GX H) hd<|rfl) 5 (e3 (J7 K) 0 1 6)
theorem Ath(hd:2<=d):S2 disp K d 130 IL:=fun _ _=>rd rfl rfl H (V2 (Gh H) hd<|rfl)
theorem Als(hd:0<=d):S1 disp K d 131 IM:=fun _=>rd rfl rfl H rfl
theorem Amg(hd:0<=d):S4 disp K d 135 IP:=fun _ _ _ _=>rd rfl rfl H rfl
theorem Ze(hd:1<=d):R2 disp K d 146 (H2 K):=fun _ _=>rl H hd
theorem uH(hd:1<=d):R1 disp K d 148 (pw K):=fun _=>rl H hd
theorem An9(hd:1<=d):R1 disp K d 152 (Rw K):=fun _=>rl H hd
theorem Auo(hd:1<=d):R3 disp K d 154 (Yg K):=fun _ _ _=>rl H hd
theorem Aql(hd:1<=d):R2 disp K d 169 (IQ K):=fun _ _=>rl H hd
theorem JH(hd:1<=d):R1 disp K d 183 (X8 K):=fun _=>rl H hd
theorem Zr(hd:1<=d):R2 disp K d 184 (Ku K):=fun _ _=>rl H hd
theorem Axj(hd:1<=d):R3 disp K d 185 (N5 K):=fun _ _ _=>rl H hd
theorem JI(hd:1<=d):R2 disp K d 188 (Qs K):=fun _ _=>rl H hd
theorem Za(hd:1<=d):R1 disp K d 189 (Oq K):=fun _=>rl H hd
theorem Sy(hd:1<=d):R1 disp K d 190 (Gn K):=fun _=>rl H hd
theorem Zc(hd:1<=d):R2 disp K d 191 (H0 K):=fun _ _=>rl H hd
theorem H4(hd:1<=d):R1 disp K d 198 (Ee K):=fun _=>rl H hd
theorem JJ(hd:1<=d):R3 disp K d 205 (Qn K):=fun _ _ _=>rl H hd
theorem Al7(hd:2<=d):R1 disp K d 206 (Ql K):=fun _=>rl H hd fun d hd=>V3 (JJ H) hd<|rfl
theorem Azu(hd:1<=d):R1 disp K d 207 (W8 K):=fun _=>ll H hd (fun _ _=>rfl) 27 (e2 (Mm K) 0 3)
theorem Xf(hd:2<=d):R1 disp K d 213 (G2 K):=fun _=>rl H hd fun d hd=>V1 (H4 H) hd<|rfl
theorem JK(hd:2<=d):R1 disp K d 216 (rE K):=fun _=>rl H hd fun d hd=>V1 (Za H) hd<|rfl
theorem Aoe(hd:1<=d):S4 disp K d 12 I4:=fun _ _ _ _=>rd rfl rfl H (V2 (Ll H) hd<|rfl)
theorem μ(hd:1<=d):S2 disp K d 26 EB:=fun _ _=>rd rfl rfl H (V1 (Atn H) hd<|rfl)
theorem θ(hd:1<=d){l:Nat}(tm:Bb)(h:Ab)(A:EV){st:LoopState}{p:Option Code}(hg:h.get l=some (.loop st p 26 12 tm [8] (Fw TT 26 0).2.2.1 (Fw TT 26 0).2.2.2 d0)):
 Ag TT disp K (d+1) true l [A] h=DY (Ag TT disp K d false) (Ag TT disp K d true) K l (tmp tm 3) (tmp tm 4) A h:=rr rfl rfl (rfl) hg rfl (by kernel_rfl)
theorem Ali(hd:2<=d):R2 disp K d 37 (I' K):=fun _ _=>rl H hd fun d hd=>V2 (JG H) hd<|rfl
theorem Aw1(hd:1<=d):S2 disp K d 59 I_:=fun _ _=>rd rfl rfl H (V1 (Avp H) hd<|rfl)
theorem Aow(hd:1<=d){l:Nat}(tm:Bb)(h:Ab)(G:EV)(A:EV){st:LoopState}{p:Option Code}(hg:h.get l=some (.loop st p 59 14 tm [9,10] (Fw TT 59 0).2.2.1 (Fw TT 59 0).2.2.2 d0)):
 Ag TT disp K (d+1) true l [G,A] h=JB (Ag TT disp K d false) (Ag TT disp K d true) K l (tmp tm 3) (tmp tm 4) A h:=rr rfl rfl (rfl) hg rfl (by kernel_rfl)
theorem π(hd:3<=d):S2 disp K d 95 EF:=fun _ _=>rd rfl rfl H (V1 (Amf H) hd<|V1 (Dz H) hd<|V2 (Gh H) hd<|V1 (Ik H) hd<|V2 (Ey H) hd<|rfl)
theorem Y4(hd:2<=d):R1 disp K d 167 (He K):=fun _=>rl H hd fun d hd=>V1 (H4 H) hd<|rfl
theorem Aq3(hd:1<=d):S2 disp K d 168 JF:=fun _ _=>ld rfl rfl H (V1 (Lf H) hd<|V2 (U1 H) hd<|V1 (Sy H) hd<|rfl) 51 (fun c r=>e5 (Lc c r K) 0 1 5 9 10)
end
end
section
noncomputable section
section
variable (c r:Ah)(K l:Nat)(k0:A0)(k1:A1)(k2:A2)(k3:A3)(k4:A4)(k5:A5)(k6:A6)(k7:A7)(k8:A8)(k9:A9)(n_:lC)(oc:lG)(oe:mQ)(m0:B0)(m1:B1)(m2:B2)(m3:B3)(m4:B4)(m5:B5)(m6:B6)(m7:B7)(m8:B8)(m9:B9)(oh:mO)(oi:mP)(oo:mR)(base:Nat)(s:DX)(tm:Bb)(a b d e f g i j n o p q t u w x y z aa ab ad ae af ag ai aj an ao ap aq au aw ax ay az ba bb bd be bf bg bi bj bn bo bp bq bt bu bw bx bz da db dd de df dg di dj dn dp dq dt du dw dx dy dz ea eb ed ee ef eg ei ej en eo ep eq et eu ew ex ey ez fa fb fd fe ff fg fi fj fn fo fp fq ft fu fw fx fy fz ga gb gd ge gf gg gi gj gn go gp gq gt gu gw gx gy gz ia ib ie ig ii ij io ip iq it iu iw ix iy iz ja jb:EV)(h:Ab)(ds:List Nat)
def Uo:Ru K (Ru r R):=(.mk:Sg 0x1000e000e3101628430be [a,b,d] h [c 91]).F
def JL:R:=(.mk:Sg 0x120233102563102620e210130302e2a00323e [a,b] h [Dx (Oc K),K6 (Uo c r K)]).F
def JM:Ru K R:=(.mk:Sg 0x1002321643c20ae233 [a] h).F
def H9:R:=(.mk:Sg 0x1511003e0232820fe432010ee02328243 [a,b] h [Ej (Hc K),Dx (JM K)]).F
def JN:Ru r (Ru c R):=(.mk:Sg 0x1000e2ab323fff4f00e7242107e20ae94003fb32e10e24211e03f97232e5272e8b01e414e232e5212e6b4014e725704ba73311e0ee3233e6271e717e1dde05e618e232011e57325304b673311e0ee2cbe0206e232007e434324 [a,b] h [Ej (qs TT 217 235 false),Ej (Pe K),K6 (qu TT 217)] [cu2 (fun d e=>Bp (Dn [(0,1),(1,1)]) [.int .i64 0,.int .i64 0] [(0,d),(1,e)]),cu2 (fun y aa=>Bp (Dn [(0,64),(64,1)]) (List.replicate 64 (.int .u8 0)++[.int .i64 0]) [(0,y),(1,aa)])] [[.int .i64 0,.int .i64 0],List.replicate 64 (.int .u8 0)++[.int .i64 0]]).F
def JO:R:=(.mk:Sg 0x189210000e200214e801e2456403ff3fa7232e52f2e9b5414e432e7310e302e5210e373011e0ee311e9 [a,b] h [c 12,Ej (JN c r K)]).F
def EY:Ru K (Ru r (Ru c R)):=
 some (a,h)
def Pa:Ru K (Ru r (Ru c R)):=
 Ju e fun f=>
 k4 a b d f h
def Uz:R:=(.mk:Sg 0x1764340076534007288709e [a,b,d,e,f,g,i] h [T3 (Pa c r K k4)]).F
def EX:R:=(.mk:Sg 0x12028754371025ba8767102820e5220132307e2d01324e [a,b,d,e,f,g] h [Ej (Re K),cl7 (Uz c r K k4)] [] [] [(.int .i64 (-1))]).F
def Lm:R:=
 il i j fun n=>
 ic n
 (Pa c r K k4 a b f g h)
 (EX c r K k4 a b d e f g h)
def O7:R:=(.mk:Sg 0x120287654381024a9876581020fe5320104e2d9809e [a,b,d,e,f,g,i,j] h [c 199,cl8 (Lm c r K k4)]).F
def EU:R:=(.mk:Sg 0x12029849768302700ed900ecb8302522e21007e21217034301fe0fe2d20fe7421162201223 [a,b,d,e] h [Ej (Re K),c 95,Dx (Cn K),cl8 (O7 c r K k4)] [cu1 (fun p=>Y8 2 false 0 p)]).F
def Ix(c:Ah)(r:Ah)(K:Nat):Nat->A4
 | 0=>fun _ _ _ _ _=>none
 | m+1=>fun a b d e h=>
  cE Jw .lss 3 e d
  (EU c r K (Ix c r K m) a b d e h)
  (EY c r K b h)
def EZ:R:=
 fE 0 a h fun b=>
 Am (Cn K b h) fun d h=>
 Am (Ds K d h) fun e h=>
 Ix c r K K a (.int .i64 (-1)) e (.int .i64 0) h
def Im:Ru K R:=(.mk:Sg 0x1002200e1021ee213e203 [a] h).F
def Oe:R:=(.mk:Sg 0x1b120c12030216b3cc233701ea13213e8031021673c321623ff3fa17e60c242170e772101618e432e5405b200e4011e0ee [a,b] h [Dx (fun e=>Ca (List.replicate 64 (.int .u8 0)) 29 64 1 [(0,e)]),Ej (Et 29 64),Dx (Im K)]).F
def Ib:R:=(.mk:Sg 0x14320007e000200e63023701e233 [a,b] h [Ej (Oe K)]).F
def Ed:R:=(.mk:Sg 0x134210200200e500214e801e310130fe9 [a,b] h [Dx (Ee K),Ej (Ib K)]).F
def JP:Ru r (Ru c R):=(.mk:Sg 0x1225220152116e263 [a,b,d] h [Ej (Hb K)]).F
def JQ:R:=(.mk:Sg 0x137632006e023286521103e0230023301e5220126520c [a,b] h [Ej (E5 K),c 59,K6 (JP c r K)]).F
def Wz:Ru K (Ru r (Ru c R)):=(.mk:Sg 0x1002 [] h).F
def Kx:Ru K (Ru r (Ru c R)):=
 Ju d fun e=>
 k3 a b e h
def W9:R:=(.mk:Sg 0x165331022200214e801e32201 [a,b,d,e] h [c 65,K6 (Kx c r K k3)]).F
def Wq:R:=(.mk:Sg 0x1656442065431062820fe42201 [a,b,d] h [c 64,K6 (Kx c r K k3),T3 (W9 c r K k3)]).F
def Ga(c:Ah)(r:Ah)(K:Nat):Nat->A3
 | 0=>fun _ _ _ _=>none
 | m+1=>fun a b d h=>
  cE Jw .lss 3 d b
  (Wq c r K (Ga c r K m) a b d h)
  (Wz c r K h)
def W6:R:=(.mk:Sg 0x1002532021112101203 [a] h [Dx (Cn K),Dx (Ds K),K6 (Ga c r K K)]).F
def Wm:R:=(.mk:Sg 0x105e11022200214e801e20ce2a20ffffff6f0ae723574007e00e3800006f08e211e23c0005f04e210ec3c21e004fd110ea3c2e2e8010e83c773111e0ee42162014e53c20ae20423c [a] h [c 62,Dx (W6 c r K)] [cu4 (fun n p t u=>Bp (Dn [(0,1),(1,1),(2,1),(3,1)]) [.int .i64 0,.int .i64 0,.int .i64 0,.Cl] [(0,n),(1,p),(2,t),(3,u)])]).F
def JR:R:=(.mk:Sg 0x1512022200214e801e21112101203 [a] h [Dx (Bn K),c 61,Dx (Wm c r K)]).F
def Yr:Ru K R:=
 hU a b fun d=>
 some (d,h)
def JS:R:=(.mk:Sg 0x120220024200c0221e413eb2a10223e213e [a] h [Ej (Yr K)]).F
def JT:Ru K R:=
 Ju f fun g=>
 k5 a b d e g h
def JU:R:=(.mk:Sg 0x1cba9851040232820fe26201204248e013e06e213e56413e15e [a,b,d,e,f] h [Ej (ui K),cl5 (JT K k5)] [] [[.int .i64 0]++List.replicate 32 (.int .u8 0)]).F
def Nu(K:Nat):Nat->A5
 | 0=>fun _ _ _ _ _ _=>none
 | m+1=>fun a b d e f h=>
  cE Jw .lss 3 f e
  (JU K (Nu K m) a b d e f h)
  (JS K b h)
def Xr:R:=
 Ip b fun d=>
 Nu K K a b b d (.int .i64 0) h
def JV:Ru r R:=(.mk:Sg 0x1222522121112101203 [a] h [Dx (Cn K),Dx (N4 K),c 99]).F
def JW:Ru r R:=(.mk:Sg 0x1c1202b211636e5321691c210121007e613211e036e06e236e500236e15e213 [a] h [Dx (D6 K),c 121,Dx k1] [cu1 (fun g=>iK 68 g (some (.int .i64 1)) none none)] [List.replicate 4 (.int .i64 0)++List.replicate 64 (.int .u8 0)]).F
def Kq(c:Ah)(r:Ah)(K:Nat)(k1:A1)(base:Nat)(s:DX)(a:EV)(b:EV)(d:EV)(h:Ab):R:=
 hU b d fun e=>
 ic e
 (JW c r K k1 a h)
 (some (.tuple [],h))
def N7:R:=
 hU b d fun e=>
 iY e
 (jI 1 18 262143 base a s h fun s f=>
 iF 68 f (.int .i64 0) fun g=>
 ir 0 21 2097151 base g s h fun s i=>
 jI 0 25 29392895 base a s h fun s j=>
 Ly 26 62947327 s h (fun h=>(R6 K j h)) fun n h s=>
 kG i n fun o=>
 Kq c r K k1 base s a e o h)
 (Kq c r K k1 base s a e tU h)
def Kv(c:Ah)(r:Ah)(K:Nat):Nat->A1
 | 0=>fun _ _=>none
 | m+1=>fun a h=>
  Zj h fun base s=>
  jI 0 3 7 base a s h fun s b=>
  Ly 4 15 s h (fun h=>(Tp K b h)) fun d h s=>
  jt d fun e=>
  iY e
  (jI 1 10 1023 base a s h fun s f=>
  Ip f fun g=>
  kg g (.int .i64 0) fun i=>
  N7 c r K (Kv c r K m) base s a e i h)
  (N7 c r K (Kv c r K m) base s a e tU h)
def A2d:R:=
 Kv c r K K a h
def JX:Ru K R:=(.mk:Sg 0x1002 [] h).F
def JY:Ru K R:=
 Ju d fun e=>
 k3 a b e h
def JZ:R:=
 nM 1 a d h fun e=>
 Am (Ha K e h) fun f h=>
 JY K k3 a b d h
def Kh(K:Nat):Nat->A3
 | 0=>fun _ _ _ _=>none
 | m+1=>fun a b d h=>
  cE Jw .lss 3 d b
  (JZ K (Kh K m) a b d h)
  (JX K h)
def J':R:=(.mk:Sg 0x10023300213e503321643c20ae233 [a] h [K6 (Kh K K)]).F
def Sh:R:=(.mk:Sg 0x131000ee02328243 [a] h [Dx (J' K)]).F
def Rx:Ru K (Ru r (Ru c R)):=(.mk:Sg 0x1002 [] h).F
def Lu:R:=(.mk:Sg 0x10100ee0230ee0214e701e2101 [a] h [c 131,cl0 (Rx c r K)]).F
def Lr:R:=(.mk:Sg 0x13100002328430be [a,b,d] h [Dx (Lu c r K)]).F
def Sn:R:=(.mk:Sg 0x1202831024a3102a25e8fce3c2a2825e6fbe3622014f9e31021642115e2fae3 [a,b] h [c 130,K6 (Lr c r K)]).F
def Vj:R:=(.mk:Sg 0x17622006e023286521103e0230023301e5220126521c [a,b] h [Ej (E5 K),Ej (D9 K),Ej (Sn c r K)]).F
def J_:R:=(.mk:Sg 0x1200fea1204e3a32e620ce6220142116e203 [a,b,d,e] h [Ej (H2 K)]).F
def T7:R:=(.mk:Sg 0x13654410300fe41204e2432e60007e00e00214e801e4320100fe05e [a,b,d] h [Ej (H9 K),T3 (J_ K)] [cu0 (Bp (L8 1) (List.replicate 64 (.int .u8 0)) [])] [List.replicate 64 (.int .u8 0)]).F
def KA:Ru K R:=
 some (a,h)
def KB:Ru K R:=
 Ju f fun g=>
 k5 a b d e g h
def KC:R:=(.mk:Sg 0x1a98265104623012f2e531be64116e [a,b,d,e,f] h [K6 (Yg K),cl5 (KB K k5)]).F
def Nt(K:Nat):Nat->A5
 | 0=>fun _ _ _ _ _ _=>none
 | m+1=>fun a b d e f h=>
  cE Jw .lss 3 f e
  (KC K (Nt K m) a b d e f h)
  (KA K b h)
def xS:R:=
 Ip d fun e=>
 Nt K K a b d e (.int .i64 0) h
def Qb:Ru K (Ru r (Ru c R)):=
 Ju d fun e=>
 m3 ((tm.put 26 (some e)).put 12 (some e)) a b e h ds
def KD:R:=
 iF 1 a d fun e=>
 Iy e h fun f=>
 kT 1 [(.int .i64 0)] 3 d h fun g h=>
 Am (xN K f h) fun i h=>
 Yq c TT 116 27 0 i (((((((tm.put 14 (some d)).put 15 (some e)).put 16 (some f)).put 3 (some g)).put 4 (some f)).put 17 (some f)).put 18 (some i)) h ds (fun h ds=>
 Qb c r K m3 (((((((tm.put 14 (some d)).put 15 (some e)).put 16 (some f)).put 3 (some g)).put 4 (some f)).put 17 (some f)).put 18 (some i)) a b d h ds) (fun id h ds=>
 Bc (Nat.beq 2 id) (Qb c r K m3 (((((((tm.put 14 (some d)).put 15 (some e)).put 16 (some f)).put 3 (some g)).put 4 (some f)).put 17 (some f)).put 18 (some i)) a b d h ds) (Bc (Nat.beq 1 id) (Qb c r K m3 (((((((tm.put 14 (some d)).put 15 (some e)).put 16 (some f)).put 3 (some g)).put 4 (some f)).put 17 (some f)).put 18 (some i)) a b d h ds) (Bc (Nat.beq 0 id) (Gb ds h fun h=>some (.tuple [],h)) (none)))) (fun h ds=>
 uo tU h ds)
def Mt(c:Ah)(r:Ah)(K:Nat):Nat->B3
 | 0=>fun _ _ _ _ _ _=>none
 | m+1=>fun tm a b d h ds=>
  j_ d b fun e=>
  ic e
  (KD c r K (Mt c r K m) (tm.put 13 (some e)) a b d h ds)
  (uo tU h ds)
def KE:R:=
 (fun(tm:Bb) (ds:List Nat)=>
 Ta 125 a h fun d h=>
 Iy b h fun e=>
 jS e fun f=>
 iX 6 f fun g=>
 Iy g h fun i=>
 Ip i fun j=>
 Mt c r K K (((((((tm.put 2 (some d)).put 7 (some e)).put 8 (some f)).put 9 (some g)).put 10 (some i)).put 11 (some j)).put 12 (some (.int .i64 0))) i j (.int .i64 0) h ds) ((Tr.nil.put 0 (some a)).put 1 (some b)) []
def Xj:Ru K R:=(.mk:Sg 0x102001032820fe62330140de20de [a,b,d] h [K6 (fun e f d=>Ue c r e [f,d]),cl0 (Xo l false .done (some .ret)),cl0 (Xo l true .ready none)]).F
def KF:R:=
 Fm l h fun h=>Xj c r K l a b d h
def Xt:R:=(.mk:Sg 0x1222101263 [a] h [Dx (Fv K)]).F
def KG:Ru K R:=
 some (a,h)
def KH:Ru K R:=
 Ju e fun f=>
 k4 a b d f h
def KI:R:=(.mk:Sg 0x1ba92400273303e243503e21107e7d01fe21007e53116e [a,b,d,e] h [T3 (KH K k4)] [cu1 (fun f=>Sz .i64 f),cu1 (fun i=>Sz .u64 i)]).F
def Lk(K:Nat):Nat->A4
 | 0=>fun _ _ _ _ _=>none
 | m+1=>fun a b d e h=>
  cE Jw .lss 3 e d
  (KI K (Lk K m) a b d e h)
  (KG K a h)
def KJ:R:=(.mk:Sg 0x1002300410213e32201 [a,b] h [Ej (Ku K),T3 (Lk K K)]).F
def E6:R:=(.mk:Sg 0x154220002411172820fe3101 [a,b] h [Dx (X8 K),Dx (fun a=>Ku K a (.int .i64 (-1))),Ej (KJ K)]).F
def Mg:R:=
 Am (Ku K a b h) fun d h=>
 some (d,h)
def Hs:Ru K R:=
 hU a b fun d=>
 some (d,h)
def Kk:R:=(.mk:Sg 0x1202210242102101344c2a430be [a,b,d] h [Dx (fun f=>N5 K f (.int .i64 0) (.int .i64 281474976710655)),Ej (Hs K)]).F
def N1:R:=(.mk:Sg 0x120233102453102101334d2a430be [a,b,d] h [Dx (fun f=>N5 K f (.int .i64 1) (.int .i64 4294967295)),K6 (Kk K)]).F
def Tm:R:=(.mk:Sg 0x120233102453102101324d2a430be [a,b,d] h [Dx (fun f=>N5 K f (.int .i64 0) (.int .i64 65535)),K6 (N1 K)]).F
def Ky:R:=(.mk:Sg 0x120243202463202111414d2a8010230120428be9 [a] h [K6 (N5 K),Dx (fun f=>N5 K f (.int .i64 0) (.int .i64 65535)),K6 (Tm K)]).F
def Uq:Ru K R:=
 some (a,h)
def KK:Ru K R:=
 Ju f fun g=>
 k5 a b d e g h
def KL:R:=
 nM 1 d f h fun g=>
 Am (Hb K a g h) fun i h=>
 KK K k5 a b d e f h
def Iq(K:Nat):Nat->A5
 | 0=>fun _ _ _ _ _ _=>none
 | m+1=>fun a b d e f h=>
  cE Jw .lss 3 f e
  (KL K (Iq K m) a b d e f h)
  (Uq K b h)
def Ux:R:=
 Ip b fun d=>
 Iq K K a b b d (.int .i64 0) h
def KM:Ru K R:=
 Ju e fun f=>
 k4 a b d f h
def KN:R:=(.mk:Sg 0x18765430a92743027221311102e00214e701e20ce2101 [a,b,d,e] h [Dx (Gn K),Dx (fun g=>Ca [.int .i64 0] 3 1 1 [(0,g)]),Ej (Et 3 1),T3 (KM K k4)]).F
def It(K:Nat):Nat->A4
 | 0=>fun _ _ _ _ _=>none
 | m+1=>fun a b d e h=>
  cE Jw .lss 3 e d
  (KN K (It K m) a b d e h)
  (Ux K a b h)
def Ty:R:=(.mk:Sg 0x1002b034102101 [a] h [Dx (Fo K),T3 (It K K)]).F
abbrev Wc(K:Nat)(c:Ah):Ah:=(w1 171 (Fo K) (w2 60 (Hb K) (w1 190 (Gn K) c)))
def KO:R:=(.mk:Sg 0x10026220142116e203 [a,b,d] h [Ej (H0 K)]).F
def Pd:R:=(.mk:Sg 0x165431003e0232820fe32201 [a,b,d] h [Ej (Hc K),K6 (KO K)]).F
def KP:R:=(.mk:Sg 0x123200e20ce210142116e263 [a,b] h [Dx (Gn K)]).F
def Xz:R:=(.mk:Sg 0x14320003e000200e6285409e [a,b,d,e] h [Ej (KP K)]).F
def Pg:R:=(.mk:Sg 0x12024340025764002623e213e36301e2d00320e [a,b] h [T3 (Xz K)]).F
def KQ:R:=(.mk:Sg 0x122210142116e203 [a,b] h [Dx (Ei K)]).F
def Kr:R:=(.mk:Sg 0x154210c0232820fe32201 [a,b] h [Ej (Hc K),Ej (KQ K)]).F
def Xu:Ru K (Ru r R):=(.mk:Sg 0x12242201203 [a,b] h [c 166]).F
def H7:R:=(.mk:Sg 0x14321022522013f9e3a0053701e0023286509e [a,b,d,e,f] h [c 28,Ej (Xu c r K)]).F
def Lv:R:=(.mk:Sg 0x1202543500258765002724e22431c03e2d6509e [a,b,d,e,f] h [cl5 (H7 c r K)]).F
def KR:R:=(.mk:Sg 0x12025435102365451043201d2d01324e [a,b,d] h [Ej (D9 K),cl5 (Lv c r K)] [] [] [(.int .i64 (-1))]).F
def KS:Ru K R:=
 J5 TT [.v a,.v b,.v d] h
def KT:R:=(.mk:Sg 0x123633050000000304ea00514e801e20ce5722120ce34221232112101 [a] h [Dx (fun a=>Kw K a (.int .i64 (-1))),Ej (Kw K),Ej (Pg K),K6 (KS K)]).F
def Yl:R:=(.mk:Sg 0x1311005e00000000304eb0023701e2101 [a] h [Dx (Iz K),Dx (KT K)]).F
def Km:Ru K R:=
 hU a b fun d=>
 some (d,h)
def Ns:R:=(.mk:Sg 0x1202210242102101318e5c2a430be [a,b,d] h [Dx (Ql K),Ej (Km K)]).F
def Ss:R:=(.mk:Sg 0x120233102453102101354d2a430be [a,b,d] h [Dx (fun f=>Qn K f (.int .i64 0) (.int .i64 65535)),K6 (Ns K)]).F
def Ry:R:=(.mk:Sg 0x120243202463202111434d2a210121427fe9 [a] h [Dx (fun d=>Qn K d (.int .i64 0) (.int .i64 281474976710655)),Dx (fun f=>Qn K f (.int .i64 0) (.int .i64 255)),K6 (Ss K)]).F
def wQ:Ru K R:=
 Ju e fun f=>
 k4 a b d f h
def wP:R:=(.mk:Sg 0x1ba284200183603e321660c24211210141007e203 [a,b,d,e] h [Dx (fun g=>Ca [.int .u8 0] 5 1 1 [(0,g)]),Ej (Et 5 1),T3 (wQ K k4)] [cu1 (fun b=>Sz .u8 b)] [] [(.int .u64 8)]).F
def Js(K:Nat):Nat->A4
 | 0=>fun _ _ _ _ _=>none
 | m+1=>fun a b d e h=>
  cE Jw .lss 3 e d
  (wP K (Js K m) a b d e h)
  (some (.tuple [],h))
def wV:R:=
 Js K K a d b (.int .i64 0) h
def Pk:R:=(.mk:Sg 0x1543300000e5021631ca286509e [a,b,d,e,f] h [K6 (wV K)]).F
def Ep:R:=(.mk:Sg 0x1202654520248765206222e611101e2d20fe3101 [a,b,d] h [Dx (X8 K),Dx (W8 K),cl5 (Pk K)]).F
def Z1:R:=(.mk:Sg 0x122210142116e203 [a,b] h [Dx (G2 K)]).F
def P6:R:=(.mk:Sg 0x14321022200214e801e32201 [a,b] h [Ej (H9 K),Ej (Z1 K)]).F
def Wk(c:Ah)(r:Ah)(K:Nat)(tm:Bb)(a:EV)(h:Ab)(ds:List Nat):R:=
 hQ 1 a (.bool true) h fun h=>
 Gb ds h fun h=>J5 TT [.c a 4] h
def EN:R:=
 (fun(tm:Bb) (ds:List Nat)=>
 Ta 26 a h fun d h=>
 j' (.cells [(.bool false)] 4) h fun e h=>
 Iy d h fun f=>
 jS f fun g=>
 iX 2 g fun i=>
 Iy i h fun j=>
 Am (r_ K j b h) fun n h=>
 Yq c TT 199 40 0 n ((((((((tm.put 2 (some d)).put 4 (some e)).put 8 (some f)).put 9 (some g)).put 10 (some i)).put 11 (some j)).put 12 (some b)).put 13 (some n)) h ds (fun h ds=>
 Wk c r K ((((((((tm.put 2 (some d)).put 4 (some e)).put 8 (some f)).put 9 (some g)).put 10 (some i)).put 11 (some j)).put 12 (some b)).put 13 (some n)) e h ds) (fun id h ds=>
 Bc (Nat.beq 0 id) (Wk c r K ((((((((tm.put 2 (some d)).put 4 (some e)).put 8 (some f)).put 9 (some g)).put 10 (some i)).put 11 (some j)).put 12 (some b)).put 13 (some n)) e h ds) (none)) (fun h ds=>
 Gb ds h fun h=>J5 TT [.c e 4] h)) ((Tr.nil.put 0 (some a)).put 1 (some b)) []
def Di(c:Ah)(r:Ah)(K:Nat)(l:Nat)(base:Nat)(s:DX)(a:EV)(b:EV)(d:EV)(h:Ab):R:=
 il b d fun e=>
 ic e
 (hQ 1 a (.bool false) h fun h=>
 Xo l false .done (some .ret) h)
 (Xo l true .ready none h)
def Ys:R:=
 Iy a h fun e=>
 fE 2 e h fun f=>
 Am (Gp K f d h) fun g h=>
 mS g fun i j=>
 kT 6 [(.int .i64 0),(.int .i64 0),(.int .i64 0),(.int .i64 0),(.int .i64 0),(.int .i64 0)] 38 i h fun n h=>
 Zj h fun base s=>
 Pj 0 0 base a s fun s=>Iy a h fun o=>
 jI 0 3 7 base o s h fun s p=>
 ir 1 5 16 base n s h fun s q=>
 Ly 6 63 s h (fun h=>(D9 K p q h)) fun t h s=>
 h_ t
 (Pj 8 255 base a s fun s=>Iy a h fun u=>
 jI 0 11 2047 base u s h fun s w=>
 ir 2 13 4351 base n s h fun s x=>
 Ly 14 16383 s h (fun h=>(D9 K w x h)) fun y h s=>
 Di c r K l base s b t y h)
 (Di c r K l base s b t tU h)
def EM:R:=
 Fm l h fun h=>Ys c r K l a b d h
def t_:R:=(.mk:Sg 0x189e08e1104e208e1ee602e13121001e32102e54210d32100e44230b321c342109321a2421073218142105321604232118242d8e90007e209e1606e2101334089e05e27be9 [a] h [Dx (Er K),Ej (fun j n=>Ep K j (.int .i64 6) n),K6 (Ep K),Dx (rE K)] [cu0 (Bp (Dn [(0,1),(1,1)]) [.Aq,.bool false] [])] [List.replicate 44 (.int .u8 0),[.int .i64 0,.int .i64 0,.int .i64 0,.int .i64 0,.int .i64 0,.int .i64 0]]).F
def DS:Ru K R:=(.mk:Sg 0x10024226522319e31c542007e [a,b,d,e] h [] [cu2 (fun d e=>Bp (Dn [(0,1),(1,1)]) [.int .i64 0,.int .i64 0] [(0,d),(1,e)])]).F
def DR:R:=(.mk:Sg 0x1654340003e023287609e [a,b,d,e,f,g] h [T3 (DS K)]).F
def DQ:R:=(.mk:Sg 0x12065432600276543600870bec6d [a,b,d,e,f,g,i] h [cl6 (DR K)]).F
def DP:R:=(.mk:Sg 0x120765432700287654370001425e00e7a [a,b,d,e,f,g] h [cl7 (DQ K)] [] [] [(.int .i64 (-1))]).F
def DO:R:=(.mk:Sg 0x120265436002376546006524ec2d7609e [a,b,d,e,f,g] h [cl6 (DP K)]).F
def DN:R:=(.mk:Sg 0x1202654361024876561020fe64330103e2d7609e [a,b,d,e,f,g] h [K6 (Q1 K),cl6 (DO K)]).F
def Tl:R:=(.mk:Sg 0x1202765462024987662020fe65431103e2d20fe3101 [a,b,d,e] h [Dx (rY K),K6 (Q1 K),cl6 (DN K)]).F
def Vv(c:Ah)(r:Ah)(K:Nat)(tm:Bb)(a:EV)(h:Ab)(ds:List Nat):R:=
 hQ 1 a (.bool true) h fun h=>
 Gb ds h fun h=>J5 TT [.c a 4] h
def V9:R:=
 iX 3 a fun d=>
 Iy d h fun e=>
 Am (Xt K e h) fun f h=>
 Yq c TT 93 36 0 f (((tm.put 26 (some d)).put 27 (some e)).put 28 (some f)) h ds (fun h ds=>
 Vv c r K (((tm.put 26 (some d)).put 27 (some e)).put 28 (some f)) b h ds) (fun id h ds=>
 Bc (Nat.beq 0 id) (Vv c r K (((tm.put 26 (some d)).put 27 (some e)).put 28 (some f)) b h ds) (none)) (fun h ds=>
 Gb ds h fun h=>J5 TT [.c b 4] h)
def Jr:R:=
 il d e fun f=>
 ic f
 (hQ 1 b (.bool false) h fun h=>
 Gb ds h fun h=>J5 TT [.c b 4] h)
 (V9 c r K (tm.put 25 (some f)) a b h ds)
def Ms:R:=
 il d e fun f=>
 h_ f
 (iX 2 a fun g=>
 Iy g h fun i=>
 Am (Tn K i (.int .i64 281474976710655) h) fun j h=>
 jt j fun n=>
 Jr c r K ((((((tm.put 19 (some f)).put 20 (some f)).put 21 (some g)).put 22 (some i)).put 23 (some j)).put 24 (some n)) a b f n h ds)
 (Jr c r K ((((((tm.put 19 (some f)).put 20 (some f)).put 21 (some tU)).put 22 (some tU)).put 23 (some tU)).put 24 (some tU)) a b f tU h ds)
def Qk:R:=
 il d e fun f=>
 h_ f
 (iX 1 a fun g=>
 Iy g h fun i=>
 Am (Tn K i (.int .i64 4294967295) h) fun j h=>
 jt j fun n=>
 Ms c r K ((((((tm.put 13 (some f)).put 14 (some f)).put 15 (some g)).put 16 (some i)).put 17 (some j)).put 18 (some n)) a b f n h ds)
 (Ms c r K ((((((tm.put 13 (some f)).put 14 (some f)).put 15 (some tU)).put 16 (some tU)).put 17 (some tU)).put 18 (some tU)) a b f tU h ds)
def B_:R:=
 (fun(tm:Bb) (ds:List Nat)=>
 Ta 137 a h fun b h=>
 j' (.cells [(.bool false)] 4) h fun d h=>
 iX 3 b fun e=>
 Iy e h fun f=>
 K3 iT (bin TT .eql 40) f .Cl fun g=>
 h_ g
 (iX 0 b fun i=>
 Iy i h fun j=>
 Am (Tn K j (.int .i64 281474976710655) h) fun n h=>
 jt n fun o=>
 Qk c r K ((((((((((tm.put 1 (some b)).put 2 (some d)).put 5 (some e)).put 6 (some f)).put 7 (some g)).put 8 (some g)).put 9 (some i)).put 10 (some j)).put 11 (some n)).put 12 (some o)) b d g o h ds)
 (Qk c r K ((((((((((tm.put 1 (some b)).put 2 (some d)).put 5 (some e)).put 6 (some f)).put 7 (some g)).put 8 (some g)).put 9 (some tU)).put 10 (some tU)).put 11 (some tU)).put 12 (some tU)) b d g tU h ds)) (Tr.nil.put 0 (some a)) []
def Ye:Ru K (Ru r (Ru c R)):=(.mk:Sg 0x1010000405168233601e324444 [a,b,d] h [cl0 (Xo l false .done (some .ret)),cl0 (Xo l true .ready none)]).F
def BX:R:=
 kT 6 [(.int .i64 0),(.int .i64 0),(.int .i64 0),(.int .i64 0),(.int .i64 0),(.int .i64 0)] 38 d h fun e h=>
 Fm l h fun h=>Ye c r K l a b e h
def KU:Ru K (Ru r (Ru c R)):=(.mk:Sg 0x1002 [] h).F
def KV:R:=(.mk:Sg 0x10000fe02328320be [a,b] h [cl0 (KU c r K)]).F
def Nx:R:=(.mk:Sg 0x12022202322000722e92a00224e21112101203 [a,b] h [Dx (Cs K),Dx (Iz K),Ej (KV c r K)]).F
def KW:Ru K (Ru r (Ru c R)):=
 Ju e fun f=>
 k4 a b d f h
def Xk:R:=
 il f g fun i=>
 ic i
 (Nx c r K a b h)
 (KW c r K k4 a b d e h)
def KX:R:=(.mk:Sg 0x1202874360023985460000614e802e01e2d40fe [a,b,d,e,f,g] h [cl6 (Xk c r K k4)]).F
def KY:R:=(.mk:Sg 0x18723656102220ee0214e701e20ce2101 [a,b,d,e] h [c 133,cl6 (KX c r K k4)]).F
def Y9:R:=(.mk:Sg 0x187654200023623601e21112101203 [a,b,d,e] h [Dx (Cs K),Dx (Iz K),T3 (KY c r K k4)]).F
def Ko(c:Ah)(r:Ah)(K:Nat):Nat->A4
 | 0=>fun _ _ _ _ _=>none
 | m+1=>fun a b d e h=>
  cE Jw .lss 3 e d
  (Y9 c r K (Ko c r K m) a b d e h)
  (Nx c r K a b h)
def KZ:R:=(.mk:Sg 0x1002764202301fe21112101203 [a,b] h [Dx (Cn K),Dx (Ds K),T3 (Ko c r K K)]).F
def K_:R:=(.mk:Sg 0x14320003e023285409e [a,b,d,e] h [Ej (KZ c r K)]).F
def Li:R:=(.mk:Sg 0x12024342026874202722e2111210130307e2d00320e [a,b] h [Dx (Cn K),Dx (Ds K),T3 (K_ c r K)]).F
def Qo:Ru K R:=
 hU a b fun d=>
 some (d,h)
def P7:R:=(.mk:Sg 0x12022102521020053011021ee42405e2a540be [a,b,d,e] h [K6 (L6 K),Ej (Qo K)]).F
def Nj:R:=(.mk:Sg 0x120247430268b43020093211021ee21114650be2a2101265209e9 [a,b,d] h [Dx (Nl K),Dx (Ds K),K6 (L6 K),T3 (P7 K)]).F
def C_:Ru K R:=
 some (a,h)
def Ti:R:=(.mk:Sg 0x13120012300214e801e20ce522112101203 [a,b] h [Dx (Cs K),Ej (Pg K),Dx (C_ K)] [] [] [(.int .i64 (-1))]).F
def Og:R:=
 hU e f fun g=>
 ic g
 (some (d,h))
 (Ti K a b h)
def Sj:R:=(.mk:Sg 0x12026a9510259dc51020fe7220190304e2a01525e012162114e722319e51c214422319e21c [a,b] h [Ej (D9 K),cl5 (Og K)] [] [] [(.int .i64 (-1))]).F
def LA:Ru r R:=(.mk:Sg 0x122522112101203 [a,b] h [Dx (Bn K),c 166]).F
def LB:R:=(.mk:Sg 0x17623000233023701e6222121112101203 [a,b] h [Dx (Bn K),Dx (Cw K),Ej (Kr K),Ej (LA c r K)]).F
def LC:Ru K (Ru r (Ru c R)):=
 Ju f fun g=>
 k5 a b d e g h
def LD:R:=
 cE i_ .neq 34 d (.int .i64 0)
 (some (d,h))
 (LC c r K k5 a b e f g h)
def LF:R:=(.mk:Sg 0x18765436008760ae043600a28980be [a,b,d,e,f,g,i,j] h [cl6 (LD c r K k5)]).F
def LG:R:=(.mk:Sg 0x120202e01e00e3dc8202303e02e01e400ed82002e425e00e2a00214e702e20ce2933171e77432e5406b21001e47573011e0ee20fe032e06e232e56432e15e [a,b,d,e,f] h [Dx (Bn K),c 164,cl8 (LF c r K k5)] [] [List.replicate 64 (.int .u8 0)]).F
def Mq(c:Ah)(r:Ah)(K:Nat):Nat->A5
 | 0=>fun _ _ _ _ _ _=>none
 | m+1=>fun a b d e f h=>
  cE Jw .lss 3 f e
  (LG c r K (Mq c r K m) a b d e f h)
  (LB c r K a b h)
def LH:R:=
 Ip d fun e=>
 Mq c r K K a b d e (.int .i64 0) h
def LI:R:=(.mk:Sg 0x154331022200214e801e32201 [a,b,d] h [c 163,K6 (LH c r K)]).F
def LJ:R:=(.mk:Sg 0x13b932022200214e801e20ce8233171e77445405b21001e47373011e0ee37be9 [a,b,d] h [Dx (Gz K),c 162,K6 (LI c r K)]).F
def BJ:R:=(.mk:Sg 0x122210142116e203 [a,b] h [Dx (He K)]).F
def R8:R:=(.mk:Sg 0x14321022200214e801e32201 [a,b] h [Ej (H9 K),Ej (BJ K)]).F
def LK:Ru r R:=(.mk:Sg 0x122522112101203 [a,b] h [Dx (Bn K),c 97]).F
def LL:R:=(.mk:Sg 0x17623000230023701e6222121112101203 [a,b] h [Dx (Bn K),Dx (Cw K),Ej (Kr K),Ej (LK c r K)]).F
end
variable{d:Nat}(H:Bu disp)
include H
theorem Apr(hd:1<=d):S2 disp K d 109 JL:=fun _ _=>rd rfl rfl H (V1 (GW H) hd<|rfl)
theorem Mv(hd:2<=d):R2 disp K d 145 (H9 K):=fun _ _=>rl H hd fun d hd=>V2 (Ll H) hd<|rfl
theorem Aqt(hd:1<=d):S2 disp K d 157 JO:=fun _ _=>rd rfl rfl H (V2 (JG H) hd<|rfl)
theorem Φ(hd:1<=d):S1 disp K d 175 EZ:=fun _=>ld rfl rfl H (V1 (Dz H) hd<|V1 (E9 H) hd<|V2 (IB H) hd<|rfl) 51 (fun c r=>e4 (Ix c r K) 0 3 11 12)
theorem Xd(hd:2<=d):R2 disp K d 212 (Ed K):=fun _ _=>rl H hd fun d hd=>V1 (H4 H) hd<|rfl
theorem Atm(hd:2<=d):S2 disp K d 28 JQ:=fun _ _=>rd rfl rfl H (V2 (Gh H) hd<|V2 (U1 H) hd<|rfl)
theorem Aj4(hd:1<=d):S1 disp K d 30 JR:=fun _=>ld rfl rfl H (V1 (Dp H) hd<|V1 (Dz H) hd<|V1 (E9 H) hd<|rfl) 207 (fun c r=>e3 (Ga c r K) 0 62 63)
theorem Atu(hd:3<=d):R2 disp K d 66 (Xr K):=fun _ _=>ll H hd (fun d hd=>V2 (Awb H) hd<|rfl) 25 (e5 (Nu K) 0 1 7 8 9)
theorem Aok(hd:1<=d):S1 disp K d 67 JV:=fun _=>rd rfl rfl H (V1 (Dz H) hd<|V1 (Zk H) hd<|rfl)
theorem At8(hd:1<=d):S1 disp K d 91 A2d:=fun _=>ld rfl rfl H (V1 (Sp H) hd<|V1 (Aon H) hd<|V1 (Ap8 H) hd<|rfl) 2 (fun c r=>e1 (Kv c r K) 0)
theorem An5(hd:2<=d):R1 disp K d 92 (Sh K):=fun _=>ll H hd (fun d hd=>V1 (Yn H) hd<|rfl) 103 (e3 (Kh K) 19 20 21)
theorem Ac6(hd:3<=d):S2 disp K d 98 Vj:=fun _ _=>rd rfl rfl H (V2 (Gh H) hd<|V2 (Ey H) hd<|rfl)
theorem Aqq(hd:3<=d):R3 disp K d 110 (T7 K):=fun _ _ _=>rl H hd fun d hd=>V2 (Mv H) hd<|V2 (Ze H) hd<|rfl
theorem At3(hd:2<=d):R3 disp K d 114 (xS K):=fun _ _ _=>ll H hd (fun d hd=>V3 (Auo H) hd<|rfl) 25 (e5 (Nt K) 0 1 9 10 11)
theorem Ary(hd:1<=d):S2 disp K d 116 KE:=fun _ _=>ld rfl rfl H (V1 (Arz H) hd<|rfl) 11 (fun c r m A tm h ds=>Mt c r K m tm (A 10) (A 11) (A 12) h ds)
theorem Amh(hd:1<=d){l:Nat}(tm:Bb)(h:Ab)(G:EV)(A:EV){st:LoopState}{p:Option Code}(hg:h.get l=some (.loop st p 116 27 tm [19,20] (Fw TT 116 0).2.2.1 (Fw TT 116 0).2.2.2 d0)):
 Ag TT disp K (d+1) true l [G,A] h=KF (Ag TT disp K d false) (Ag TT disp K d true) K l (tmp tm 2) (tmp tm 3) A h:=rr rfl rfl (rfl) hg rfl (by kernel_rfl)
theorem LM(hd:2<=d):R1 disp K d 124 (Xt K):=fun _=>rl H hd fun d hd=>V1 (T4 H) hd<|rfl
theorem Ob(hd:2<=d):R2 disp K d 149 (E6 K):=fun _ _=>ll H hd (fun d hd=>V1 (JH H) hd<|V2 (Zr H) hd<|rfl) 103 (e4 (Lk K) 5 15 16 17)
theorem Xv(hd:2<=d):R2 disp K d 150 (Mg K):=fun _ _=>rl H hd fun d hd=>V2 (Zr H) hd<|rfl
theorem Rk(hd:2<=d):R1 disp K d 151 (Ky K):=fun _=>rl H hd fun d hd=>V3 (Axj H) hd<|rfl
omit H in
theorem Aoi(c G r:Ah)(K:Nat)(m:Nat):kH false (Wc K c) G r K 156 103 [(2,fun A tm h ds=>Uq K (A 3) h)] m=(fun m A tm h ds=>Iq K m (A 0) (A 3) (A 24) (A 25) (A 26) h) m:=
 N6 (E:=fun m A tm h ds=>Iq K m (A 0) (A 3) (A 24) (A 25) (A 26) h) rfl (fun m=>kj fun A tm h ds=>by kernel_rfl) m
omit H in
theorem Aol(c G r:Ah)(K:Nat)(m:Nat):kH false (Wc K c) G r K 156 51 [(0,fun A tm h ds=>Ux K (A 0) (A 3) h)] m=(fun m A tm h ds=>It K m (A 0) (A 3) (A 9) (A 10) h) m:=
 N6 (E:=fun m A tm h ds=>It K m (A 0) (A 3) (A 9) (A 10) h) rfl (fun m=>kj fun A tm h ds=>by kernel_rfl) m
theorem Aqu(hd:2<=d):R1 disp K d 156 (Ty K):=by
 obtain⟨d,rfl⟩:∃e,d=e+1:=⟨d-1,a_⟩;have hd:=Nat.le_of_succ_le_succ hd;exact fun _=>rm (q:=false) (D:=Wc K (Ag TT disp K d false)) (by kernel_rfl) rfl rfl H (V1 (Lf H) hd<|V2 (U1 H) hd<|V1 (Sy H) hd<|rfl) (cut [true,true,true,false,true,false] (Aoi (Ag TT disp K d false) (Ag TT disp K d false) (Ag TT disp K d true) K K) (by kernel_rfl) (by kernel_rfl) (cut [true,true,false,true,false] (Aol (Ag TT disp K d false) (Ag TT disp K d false) (Ag TT disp K d true) K K) (by kernel_rfl) (by kernel_rfl) rfl))
theorem Apt(hd:2<=d):R3 disp K d 158 (Pd K):=fun _ _ _=>rl H hd fun d hd=>V2 (Ll H) hd<|V2 (Zc H) hd<|rfl
theorem LN(hd:2<=d):R2 disp K d 161 (Pg K):=fun _ _=>rl H hd fun d hd=>V1 (Sy H) hd<|rfl
theorem Zv(hd:2<=d):R2 disp K d 165 (Kr K):=fun _ _=>rl H hd fun d hd=>V2 (Ll H) hd<|V1 (Ih H) hd<|rfl
theorem Ale(hd:3<=d):S3 disp K d 170 KR:=fun _ _ _=>rd rfl rfl H (V2 (Ey H) hd<|rfl)
theorem Auj(hd:4<=d):R1 disp K d 176 (Yl K):=fun _=>rl H hd fun d hd=>V1 (G' H) hd<|V2 (GZ H) hd<|V2 (LN H) hd<|rfl
theorem An2(hd:3<=d):R1 disp K d 186 (Ry K):=fun _=>rl H hd fun d hd=>V3 (JJ H) hd<|V1 (Al7 H) hd<|rfl
theorem Nv(hd:2<=d):R3 disp K d 187 (Ep K):=fun _ _ _=>ll H hd (fun d hd=>V1 (JH H) hd<|V1 (Azu H) hd<|rfl) 11 (e4 (Js K) 0 2 18 19)
theorem Al4(hd:3<=d):R2 disp K d 197 (P6 K):=fun _ _=>rl H hd fun d hd=>V2 (Mv H) hd<|V1 (Xf H) hd<|rfl
theorem Ι(hd:3<=d):S2 disp K d 199 EN:=fun _ _=>rd rfl rfl H (V2 (IC H) hd<|rfl)
theorem Η(hd:3<=d){l:Nat}(tm:Bb)(h:Ab)(A:EV){st:LoopState}{p:Option Code}(hg:h.get l=some (.loop st p 199 40 tm [14] (Fw TT 199 0).2.2.1 (Fw TT 199 0).2.2.2 d0)):
 Ag TT disp K (d+1) true l [A] h=EM (Ag TT disp K d false) (Ag TT disp K d true) K l (tmp tm 2) (tmp tm 4) A h:=rr rfl rfl (V2 (Hy H) hd<|V2 (Ey H) hd<|rfl) hg rfl (by kernel_rfl)
theorem A34(hd:3<=d):R1 disp K d 208 (t_ K):=fun _=>rl H hd fun d hd=>V1 (F4 H) hd<|V3 (Nv H) hd<|V1 (JK H) hd<|rfl
theorem Atk(hd:4<=d):R4 disp K d 25 (Tl K):=fun _ _ _ _=>rl H hd fun d hd=>V1 (H_ H) hd<|V3 (Ar6 H) hd<|rfl
theorem YW(hd:2<=d):S1 disp K d 93 B_:=fun _=>rd rfl rfl H (V2 (Az6 H) hd<|V1 (LM H) hd<|rfl)
theorem YR(hd:2<=d){l:Nat}(tm:Bb)(h:Ab)(G:EV)(A:EV){st:LoopState}{p:Option Code}(hg:h.get l=some (.loop st p 93 36 tm [29,30] (Fw TT 93 0).2.2.1 (Fw TT 93 0).2.2.2 d0)):
 Ag TT disp K (d+1) true l [G,A] h=BX (Ag TT disp K d false) (Ag TT disp K d true) K l (tmp tm 1) (tmp tm 2) A h:=rr rfl rfl (rfl) hg rfl (by kernel_rfl)
theorem Auq(hd:3<=d):S2 disp K d 99 Li:=fun _ _=>ld rfl rfl H (V1 (Dz H) hd<|V1 (E9 H) hd<|V1 (Ik H) hd<|V1 (G' H) hd<|rfl) 51 (fun c r=>e4 (Ko c r K) 0 1 25 26)
theorem LO(hd:4<=d):R3 disp K d 108 (Nj K):=fun _ _ _=>rl H hd fun d hd=>V1 (U2 H) hd<|V1 (E9 H) hd<|V3 (GY H) hd<|rfl
theorem An8(hd:4<=d):R2 disp K d 125 (Sj K):=fun _ _=>rl H hd fun d hd=>V2 (Ey H) hd<|V1 (Ik H) hd<|V2 (LN H) hd<|rfl
theorem Arx(hd:2<=d):S3 disp K d 126 LJ:=fun _ _ _=>ld rfl rfl H (V1 (W7 H) hd<|V1 (Dp H) hd<|V1 (Jf H) hd<|V2 (Zv H) hd<|rfl) 207 (fun c r=>e5 (Mq c r K) 0 2 34 35 36)
theorem Aod(hd:3<=d):R2 disp K d 128 (R8 K):=fun _ _=>rl H hd fun d hd=>V2 (Mv H) hd<|V1 (Y4 H) hd<|rfl
theorem Aqe(hd:2<=d):S2 disp K d 163 LL:=fun _ _=>rd rfl rfl H (V1 (Dp H) hd<|V1 (Jf H) hd<|V2 (Zv H) hd<|rfl)
end
end
section
noncomputable section
section
variable (c r:Ah)(K l:Nat)(k0:A0)(k1:A1)(k2:A2)(k3:A3)(k4:A4)(k5:A5)(k6:A6)(k7:A7)(k8:A8)(k9:A9)(n_:lC)(oc:lG)(oe:mQ)(m0:B0)(m1:B1)(m2:B2)(m3:B3)(m4:B4)(m5:B5)(m6:B6)(m7:B7)(m8:B8)(m9:B9)(oh:mO)(oi:mP)(oo:mR)(base:Nat)(s:DX)(tm:Bb)(a b d e f g i j n o p q t u w x y z aa ab ad ae af ag ai aj an ao ap aq au aw ax ay az ba bb bd be bf bg bi bj bn bo bp bq bt bu bw bx bz da db dd de df dg di dj dn dp dq dt du dw dx dy dz ea eb ed ee ef eg ei ej en eo ep eq et eu ew ex ey ez fa fb fd fe ff fg fi fj fn fo fp fq ft fu fw fx fy fz ga gb gd ge gf gg gi gj gn go gp gq gt gu gw gx gy gz ia ib ie ig ii ij io ip iq it iu iw ix iy iz ja jb:EV)(h:Ab)(ds:List Nat)
def Rt:R:=(.mk:Sg 0x123200e20ce2320f1e87732e5707b20de231e6b42115e273011e0ee [a,b,d] h [Ej (Ed K)]).F
def Mw(K:Nat)(base:Nat)(s:DX)(a:EV)(b:EV)(d:EV)(e:EV)(f:EV)(h:Ab):R:=
 hU e f fun g=>
 ic g
 (some (.tuple [(.int .i64 0),(.int .i64 33)],h))
 (Rt K a b d h)
def Zl:R:=
 Zj h fun base s=>
 jI 0 3 7 base a s h fun s e=>
 iF 1 e b fun f=>
 Pj 6 63 base f s fun s=>Iy f h fun g=>
 Ly 7 127 s h (fun h=>(Ei K g h)) fun i h s=>
 nQ i (.int .i64 0) fun j=>
 iY j
 (Ly 11 2047 s h (fun h=>(Qf K a h)) fun n h s=>
 jI 2 15 29695 base a s h fun s o=>
 nO n o fun p=>
 Mw K base s a b d j p h)
 (Mw K base s a b d j tU h)
def Qi:R:=(.mk:Sg 0x1354310200200e500214e801e4320140fe9 [a,b,d] h [Ej (H9 K),K6 (Zl K)]).F
def EK:Ru r R:=
 (fun(tm:Bb) (ds:List Nat)=>
 Ta 75 a h fun e h=>
 Iy b h fun f=>
 Am (Xt K f h) fun g h=>
 Yq c TT 215 31 0 g (((tm.put 3 (some e)).put 6 (some f)).put 7 (some g)) h ds (fun h ds=>
 Gb ds h fun h=>some (.tuple [],h)) (fun id h ds=>
 Bc (Nat.beq 0 id) (Gb ds h fun h=>some (.tuple [],h)) (none)) (fun h ds=>
 Gb ds h fun h=>some (.tuple [],h))) (((Tr.nil.put 0 (some a)).put 1 (some b)).put 2 (some d)) []
def Jz:Ru K (Ru r (Ru c R)):=
 hU a b fun d=>
 ic d
 (Xo l false .done (some .ret) h)
 (Xo l true .ready none h)
def Mc:R:=(.mk:Sg 0x12022102521020fe5220130de00e2a540be [a,b,d,e] h [Ej (fun g b=>Ue c r g [b]),Ej (Jz c r K l)]).F
def Mj:R:=(.mk:Sg 0x12043240025434006509ea4a [a,b,d,e,f] h [T3 (Mc c r K l)]).F
def P8:R:=(.mk:Sg 0x12076435002a9765002324e30de52402e7d [a,b,d,e,f,g] h [cl5 (Mj c r K l)]).F
def EJ:R:=(.mk:Sg 0x1202765460025a9876002324e50de71403e2a10224e504 [a,b,d,e] h [cl6 (P8 c r K l)]).F
def EI:R:=
 kT 6 [(.int .i64 0),(.int .i64 0),(.int .i64 0),(.int .i64 0),(.int .i64 0),(.int .i64 0)] 38 e h fun f h=>
 Fm l h fun h=>EJ c r K l a b d f h
def t':R:=(.mk:Sg 0x1000e2c000e301c542c211a44210a301834230830162423063014142104301204318e9 [a,b] h [K6 (Ep K),Ej (fun a q=>Ep K a (.int .i64 6) q)]).F
def LP:Ru r R:=(.mk:Sg 0x12221113032101 [a] h [c 91,Dx (Sh K)]).F
def LQ:Ru r R:=(.mk:Sg 0x1200fe71204e3732e620ce7623114034320100fe05e [a,b,d] h [c 109,K6 (T7 K)] [] [List.replicate 64 (.int .u8 0)]).F
def Oi:R:=(.mk:Sg 0x12201234e403e42201236e9 [a,b] h [Ej (fun d b=>xS K d (.int .u32 4294967295) b)] [] [] [(.int .u32 4294967295)]).F
def LR:Ru r R:=(.mk:Sg 0x1000e000e21419039c023701e000ec0233331e67902e5210e973011e0ee08e6023701e000e60233331e67902e5210e973011e0ee08e3023701e000e2a221836e5a1023701e714321623ff3fa17e72c242170e772101618e336e5305b300e4211e0ee311e9 [a,b] h [Dx (fun f=>Ca (List.replicate 4 (.int .i64 0)++List.replicate 64 (.int .u8 0)) 31 68 1 [(0,f)]),Ej (Et 31 68),c 157,K6 (Pd K),Dx (Sc K)]).F
def X7:Ru K (Ru r (Ru c R)):=(.mk:Sg 0x1002002164fdec62163fcec42162fbec [a,b,d] h).F
def Xg:R:=(.mk:Sg 0x13473100fe02300214e801e421ae20ce21012f9e3 [a] h [Dx (Yl K),K6 (X7 c r K)]).F
def P9:R:=(.mk:Sg 0x1411022200214e801e2101203 [a] h [c 61,Dx (Xg c r K)]).F
def Lo:R:=(.mk:Sg 0x13100002328430be [a,b,d] h [Dx (P9 c r K)]).F
def LS:R:=(.mk:Sg 0x120243002683002420e22451c4fde304e2a01225e2fbe3 [a] h [K6 (Lo c r K)] [] [] [(.int .i64 (-1))]).F
def LU:Ru K R:=(.mk:Sg 0x1002200e23211432007e001 [a,b] h [cl0 (Ca [.int .u8 0] 5 1 0 []),Ej (Et 5 1)] [cu2 (fun a b=>iK 1 a none (some b) none)]).F
def LV:Ru K R:=
 Ju g fun i=>
 k6 a b d e f i h
def LW:R:=
 iQ (bin TT .shr 66) d (.int .u64 8) fun i=>
 LV K k6 a b i e f g h
def LX:R:=(.mk:Sg 0x198765460001e0b0200e6235801e51007e75116e [a,b,d,e,f,g] h [cl6 (LW K k6)] [cu1 (fun d=>Sz .u8 d)]).F
def N0(K:Nat):Nat->A6
 | 0=>fun _ _ _ _ _ _ _=>none
 | m+1=>fun a b d e f g h=>
  cE Jw .lss 3 g f
  (LX K (N0 K m) a b d e f g h)
  (LU K a b h)
def LY:R:=(.mk:Sg 0x10023497610213e752107e232001e47532007e3f2e5300b0ee [a,b,d] h [Ej (Oi K),cl6 (N0 K K)] [cu2 (fun a d=>iK 1 a none (some d) none),cu2 (fun a d=>iK 1 a (some d) none none)]).F
def Yk:R:=(.mk:Sg 0x124630004e0b0200e60023301ec021ee413e236e9 [a,b] h [K6 (LY K)]).F
def LZ:R:=(.mk:Sg 0x15089e09e1204e209e1ee609e1ee54224107e1107e20ce01e131200e22121007ed614e230b311b54230931194421073117342105311524232013140d8e05e [a,b,d] h [Ej (fun e f=>Ep K e (.int .i64 6) f),K6 (Ep K),Ej (Qs K),Dx (Oq K),builtin TT .copy #[159,159]] [cu1 (fun w=>Ny 32 1 w none none none),cu1 (fun d=>Ny 44 1 d none none none)] [[.Aq,.bool false]]).F
def Po:R:=(.mk:Sg 0x156731000e0089e71204e271ee651ee501e2820fe2101418e5089e05e089e05e27fe9 [a] h [Dx (Ry K),K6 (LZ K)] [] [List.replicate 44 (.int .u8 0)]).F
def L0:Ru K (Ru r (Ru c R)):=
 Ju e fun f=>
 k4 a b d f h
def L2:R:=(.mk:Sg 0x18765410000e22820fe26330153116e [a,b,d,e] h [K6 (fun a e f=>Ue c r a [e,f]),T3 (L0 c r K k4)]).F
def Ki(c:Ah)(r:Ah)(K:Nat):Nat->A4
 | 0=>fun _ _ _ _ _=>none
 | m+1=>fun a b d e h=>
  cE Jw .lss 3 e d
  (L2 c r K (Ki c r K m) a b d e h)
  (some (.tuple [],h))
def L_:R:=(.mk:Sg 0x100235410213e210130de [a,b] h [Dx (Ty K),T3 (Ki c r K K)]).F
def S7:Ru K (Ru r (Ru c R)):=
 some (.tuple [a,b],h)
def MB:R:=(.mk:Sg 0x12323056230232214b2007e93304e00214e701e20ce2733131e67432e5405b473011e0ee4320140fe9 [a,b,d] h [c 109,K6 (Qi K),builtin TT .delete #[98,217],Ej (S7 c r K)] [cu2 (fun b n=>Bp (Dn [(0,1),(1,1)]) [.int .i64 0,.int .i64 0] [(0,b),(1,n)])]).F
def MC:Ru r R:=(.mk:Sg 0x1225221130332201 [a,b] h [c 109,Ej (P6 K)]).F
def BW:R:=(.mk:Sg 0x189e31104e231ee63101 [a,b] h [Dx (rE K)]).F
def BV:Ru K R:=
 Ju f fun g=>
 k5 a b d e g h
def BU:R:=(.mk:Sg 0x102e01e00edc520200e211265318e0606e20ce25201921de2301fe1031ee334 [a,b,d,e,f] h [Ej (Gp K),Ej (t' K),cl5 (BV K k5)] [] [[.int .i64 0,.int .i64 0,.int .i64 0,.int .i64 0,.int .i64 0,.int .i64 0]]).F
def Yf(K:Nat):Nat->A5
 | 0=>fun _ _ _ _ _ _=>none
 | m+1=>fun a b d e f h=>
  cE Jw .lss 3 f (.int .i64 2)
  (BU K (Yf K m) a b d e f h)
  (BW K d e h)
def ua:R:=(.mk:Sg 0x100356851071023012d8e90007e089e05e27be9 [a,b] h [K6 (Ep K),cl5 (Yf K K)] [cu0 (Bp (Dn [(0,1),(1,1)]) [.Aq,.bool false] [])] [List.replicate 44 (.int .u8 0)]).F
def Yj:R:=(.mk:Sg 0x1222a221246843121307e21934e603e21207e11734e603e21107e01534e603e41007e72221011522012f2e5236e9 [a,b] h [Ej (Oi K),cl0 (Ca [.int .u8 0] 5 1 0 []),Ej (Et 5 1),T3 (fun j o q u=>Ca [.int .u8 0] 5 1 4 [(0,j),(1,o),(2,q),(3,u)])] [cu1 (fun f=>Sz .u8 f),cu1 (fun n=>Sz .u8 n),cu1 (fun p=>Sz .u8 p),cu1 (fun t=>Sz .u8 t)] [] [(.int .u64 8),(.int .u64 16),(.int .u64 24)]).F
def FK:R:=(.mk:Sg 0x1002200e250e9818e2573007e22221618e21102e57565504b22201318e322310e265200b0ee [a] h [Ej (Wa [.int .i64 0,.int .i64 0,.int .i64 0,.int .i64 0,.int .i64 0,.int .i64 0] 38),Dx (Ds K),Ej (Wa [.int .i64 0] 3)] [cu3 (fun b e i=>Bp (Dn [(0,6),(6,1),(7,1)]) [.int .i64 0,.int .i64 0,.int .i64 0,.int .i64 0,.int .i64 0,.int .i64 0,.Aq,.Aq] [(0,b),(1,e),(2,i)])]).F
def qi:R:=(.mk:Sg 0x1511009e070200e62820fe2101265209e9 [a] h [Dx (Nl K),Dx (FK K)]).F
def BE:Ru K R:=(.mk:Sg 0x1402 [] h).F
def Ez(K:Nat)(base:Nat)(s:DX)(a:EV)(b:EV)(h:Ab):R:=
 hU a b fun d=>
 some (d,h)
def Fy:R:=
 hU b d fun e=>
 iY e
 (ir 5 42 4398046511103 base a s h fun s f=>
 kG f (.int .i64 4294967295) fun g=>
 Ez K base s e g h)
 (Ez K base s e tU h)
def Gy:R:=
 hU b d fun e=>
 iY e
 (ir 5 37 137438953471 base a s h fun s f=>
 nO f (.int .i64 0) fun g=>
 Fy K base s a e g h)
 (Fy K base s a e tU h)
def Iw:R:=
 hU b d fun e=>
 iY e
 (ir 4 32 4294967295 base a s h fun s f=>
 kG f (.int .i64 281474976710655) fun g=>
 Gy K base s a e g h)
 (Gy K base s a e tU h)
def Ld:R:=
 hU b d fun e=>
 iY e
 (ir 4 27 134217727 base a s h fun s f=>
 nO f (.int .i64 1) fun g=>
 Iw K base s a e g h)
 (Iw K base s a e tU h)
def K7:R:=
 hU d e fun f=>
 iY f
 (Pj 15 32767 base b s fun s=>Tt 6 b h fun g=>
 ir 1 17 98303 base a s h fun s i=>
 Ly 18 262143 s h (fun h=>(E5 K g i h)) fun j h s=>
 Pj 19 32767 base b s fun s=>Tt 6 b h fun n=>
 ir 2 21 1081343 base a s h fun s o=>
 Ly 22 4194303 s h (fun h=>(E5 K n o h)) fun p h s=>
 kU j p fun q=>
 Ld K base s a f q h)
 (Ld K base s a f tU h)
def La:R:=
 ic e
 (Tt 6 a h fun f=>
 oE 0 a h fun g=>
 Bp (Dn [(0,1),(1,1),(2,1),(3,1),(4,1),(5,1)]) [(.int .i64 0),(.int .i64 0),(.int .i64 0),(.int .i64 0),(.int .i64 0),(.int .i64 0)] [(0,g)] fun i=>
 K3 iT (bin TT .eql 38) f i fun j=>
 some (j,h))
 (cE iT .eql 3 d (.int .i64 1)
 (Zj h fun base s=>
 Pj 0 0 base b s fun s=>Tt 6 b h fun n=>
 ir 1 2 2 base a s h fun s o=>
 ir 3 4 8 base a s h fun s p=>
 Ly 5 31 s h (fun h=>(Nj K n o p h)) fun q h s=>
 iY q
 (Pj 7 127 base b s fun s=>Tt 6 b h fun t=>
 ir 2 9 383 base a s h fun s u=>
 ir 3 11 1151 base a s h fun s w=>
 Ly 12 4095 s h (fun h=>(Nj K t u w h)) fun x h s=>
 K7 K base s a b q x h)
 (K7 K base s a b q tU h))
 (BE K h))
def Jy:R:=(.mk:Sg 0x1245640030324e234540072800224e304409e9218e9 [a,b] h [T3 (La K)]).F
def Ar5:Ru K (Ru r R):=(.mk:Sg 0x16543100ee040200e60ee0214e701e62201203 [a,b,d,e] h [c 98,K6 k3]).F
def MD:R:=(.mk:Sg 0x17654410540200ea2162114e622319e41c06e0ee0214e701e0050200e422623fff4f00e17ea22319e81c2a2007e21f83f9010e622319e41c0ee1be00214e701e623301445 [a,b,d,e] h [c 126,T3 (Ar5 c r K k3)] [cu2 (fun e n=>Bp (Dn [(0,1),(1,1)]) [.int .i64 0,.int .i64 0] [(0,e),(1,n)])]).F
def O4(c:Ah)(r:Ah)(K:Nat):Nat->A3
 | 0=>fun _ _ _ _=>none
 | m+1=>fun a b d h=>
  Am (Sj K a b h) fun e h=>
  cE iT .eql 3 e (.int .i64 (-1))
  (some (.tuple [(.bool false),(.int .i64 0)],h))
  (MD c r K (O4 c r K m) a b d e h)
def ME:R:=
 Ta 137 d h fun e h=>
 O4 c r K K a b e h
def Un:Ru K (Ru r (Ru c R)):=
 some (a,h)
def BK:R:=(.mk:Sg 0x1213031300065321b00214e701e5221130332201 [a,b] h [c 109,Ej (R8 K),K6 (Xw K),Dx (Un c r K)]).F
def MF:Ru K R:=(.mk:Sg 0x10008be31204e2323e6323e5 [a,b] h).F
def Vo:R:=(.mk:Sg 0x14320000e008be41204e2423e60007e01e285409e [a,b,d,e] h [Ej (MF K)] [cu0 (Bp (Dn [(0,1),(1,1),(2,1),(3,1),(4,1),(5,44)]) (List.replicate 5 (.int .i64 0)++List.replicate 44 (.int .u8 0)) [])]).F
def Vr:R:=(.mk:Sg 0x120253410247541000214e802e410103e2d6509e [a,b,d,e,f] h [Dx (Rw K),T3 (Vo K)]).F
def MG:R:=(.mk:Sg 0x120202e05e06e5602505e08e09e56020fe215102e23e503e2d1000e25e232401e4713e002e2343721107eb514e0ee6216a414e62169314e62168214e62167114e9121c0821130721130621110521128be023e06e21007e1022113101 [a,b] h [Dx (pw K),Ej (E6 K),Dx (fun d=>E6 K d (.int .i64 6)),Ej (Mg K),builtin TT .copy #[159,159],Dx (Ky K),cl5 (Vr K)] [cu1 (fun e=>Bp (Dn [(0,1),(1,1),(2,1),(3,1),(4,1),(5,44)]) (List.replicate 5 (.int .i64 0)++List.replicate 44 (.int .u8 0)) [(0,e)]),cu1 (fun x=>Ny 44 1 x none none none)] [List.replicate 5 (.int .i64 0)++List.replicate 44 (.int .u8 0)]).F
def uI:R:=(.mk:Sg 0x137210308be81204e2823e60107e00e00214e801e20ce232032741007e4f2e5400b0ee08be05e40fe9236e9 [a,b] h [Ej (Yk K),Ej (MG K)] [cu1 (fun e=>Ny 64 1 e none none none),cu0 (Bp (Dn [(0,1),(1,1),(2,1),(3,1),(4,1),(5,44)]) (List.replicate 5 (.int .i64 0)++List.replicate 44 (.int .u8 0)) [])] [List.replicate 5 (.int .i64 0)++List.replicate 44 (.int .u8 0)]).F
def MH:Ru K R:=(.mk:Sg 0x10007fe31204e2318e6318e5 [a,b] h).F
def uJ:R:=(.mk:Sg 0x14320000e007fe41204e2418e60007e01e285409e [a,b,d,e] h [Ej (MH K)] [cu0 (Bp (Dn [(0,1),(1,1),(2,1),(3,1),(4,1),(5,1),(6,32)]) (List.replicate 6 (.int .i64 0)++List.replicate 32 (.int .u8 0)) [])]).F
def uK:R:=(.mk:Sg 0x1202c07e4602501e0ae4602389e802e09e1ee531ee504e2d00314e802e389e11ee06e20ce2151618e5232401e470ce0b2343721207e2614e0ee27fe018e06e23456b6107e3062213052211042211032212111210131007e07fe05e389e9 [a,b] h [Dx (pw K),Dx (fun g=>E6 K g (.int .i64 6)),Ej (E6 K),Ej (Mg K),builtin TT .copy #[159,159],Dx (Po K),T3 (uJ K)] [cu1 (fun d=>Ny 44 1 d none none none),cu6 (fun a i j n o p=>Bp (Dn [(0,1),(1,1),(2,1),(3,1),(4,1),(5,1),(6,32)]) (List.replicate 6 (.int .i64 0)++List.replicate 32 (.int .u8 0)) [(0,a),(1,i),(2,j),(3,n),(4,o),(5,p)]),cu1 (fun u=>Ny 32 1 u none none none)] [List.replicate 6 (.int .i64 0)++List.replicate 32 (.int .u8 0),List.replicate 44 (.int .u8 0)]).F
def MI:Ru K R:=(.mk:Sg 0x10008be31204e2323e6323e5 [a,b] h).F
def Hv:R:=(.mk:Sg 0x14320000e008be41204e2423e60007e01e285409e [a,b,d,e] h [Ej (MI K)] [cu0 (Bp (Dn [(0,1),(1,1),(2,1),(3,1),(4,1),(5,44)]) (List.replicate 5 (.int .i64 0)++List.replicate 44 (.int .u8 0)) [])]).F
def J9:R:=(.mk:Sg 0x12026540026a94002421e251ee52441405e2d7609e [a,b,d,e,f,g] h [T3 (Hv K)]).F
def N3:R:=(.mk:Sg 0x120265436002487656004222e41401e2d7609e [a,b,d,e,f,g] h [cl6 (J9 K)]).F
def Kn:R:=(.mk:Sg 0x12023cd04e62025601e02e07e62020fe2111323e504e2d00714e802e28be023e06e201e00edc36007e31ee5804389e11ee06e20ce2101318e508be05e27fe9 [a,b,d,e,f] h [Dx (Po K),Dx (Ky K),cl6 (N3 K)] [cu6 (fun t b d e f u=>Bp (Dn [(0,1),(1,1),(2,1),(3,1),(4,1),(5,44)]) (List.replicate 5 (.int .i64 0)++List.replicate 44 (.int .u8 0)) [(0,t),(1,b),(2,d),(3,e),(4,f),(5,u)])] [List.replicate 5 (.int .i64 0)++List.replicate 44 (.int .u8 0),List.replicate 44 (.int .u8 0)]).F
def CF:Ru K (Ru r (Ru c R)):=(.mk:Sg 0x1002200e [a] h).F
def CE:Ru K (Ru r (Ru c R)):=
 Ju e fun f=>
 k4 a b d f h
def CC:R:=(.mk:Sg 0x1d2ba4302b2212111823e5521ee67514e92166214e802165014e62201245 [a,b,d,e] h [Ej (ua K),Dx (fun o=>Ca (List.replicate 5 (.int .i64 0)++List.replicate 44 (.int .u8 0)) 153 49 1 [(0,o)]),Ej (Et 153 49),T3 (CE c r K k4)]).F
def Th(c:Ah)(r:Ah)(K:Nat):Nat->A4
 | 0=>fun _ _ _ _ _=>none
 | m+1=>fun a b d e h=>
  oE 3 a h fun f=>
  Am (Er K f h) fun g h=>
  Am (I5 K g h) fun i h=>
  cE Jw .lss 3 e i
  (CC c r K (Th c r K m) a b d e h)
  (CF c r K d h)
def CJ:R:=(.mk:Sg 0x11024b4202111223e53223e621ff3f917e08be05e818e24564007e21012e67545505b484010e322110e0ee [a,b] h [Dx (t_ K),Dx (fun n=>Ca (List.replicate 5 (.int .i64 0)++List.replicate 44 (.int .u8 0)) 153 49 1 [(0,n)]),T3 (Th c r K K)] [cu4 (fun a d e g=>Bp (Dn [(0,1),(1,1),(2,1),(3,1),(4,1),(5,44)]) (List.replicate 5 (.int .i64 0)++List.replicate 44 (.int .u8 0)) [(0,.int .i64 4),(1,a),(3,d),(4,e),(5,g)])] [List.replicate 5 (.int .i64 0)++List.replicate 44 (.int .u8 0)]).F
def CI:R:=(.mk:Sg 0x14320000e0b0200e6285409e [a,b,d,e] h [Ej (CJ c r K)]).F
def CH:R:=(.mk:Sg 0x120257430269b43020fe0092321211153409e2d20fe210124527be9 [a,b] h [c 93,Dx (Er K),K6 (Nj K),T3 (CI c r K)]).F
def MJ:R:=(.mk:Sg 0x10000fe71204e2732e6232e5232e26e522012f2e5 [a,b,d] h [Ej (Yj K)]).F
def MK:R:=(.mk:Sg 0x1308e06e340300fe09e1204e209e32e60107e00e00214e801e20ce02e131201e22121007e01e514e2c211d442c0a301b34230830192423063017141010430121033014040d8e05e [a,b,d] h [K6 (Ep K),Ej (fun e u=>Ep K e (.int .i64 6) u),Ej (Qs K),Dx (Oq K),K6 (MJ K)] [cu1 (fun x=>Ny 44 1 x none none none),cu0 (Bp (L8 1) (List.replicate 64 (.int .u8 0)) [])] [[.Aq,.bool false]]).F
def Xl:R:=(.mk:Sg 0x156731000e000fe61204e2632e60007e01e2820fe2101323e500fe05e48be9236e9 [a,b] h [Dx (Ky K),K6 (MK K)] [cu0 (Bp (L8 1) (List.replicate 64 (.int .u8 0)) [])] [List.replicate 64 (.int .u8 0)]).F
def Lz(K:Nat)(base:Nat)(s:DX)(a:EV)(b:EV)(h:Ab):R:=
 hU a b fun d=>
 some (d,h)
def Lj:R:=
 Ta 38 b h fun d h=>
 Zj h fun base s=>
 ir 0 1 1 base d s h fun s e=>
 nQ e (.int .i64 1) fun f=>
 iY f
 (Pj 4 15 base d s fun s=>Tt 6 d h fun g=>
 o6 1 a fun i=>
 Pj 8 239 base i s fun s=>Tt 6 i h fun j=>
 Ly 9 511 s h (fun h=>(Jy K g j h)) fun n h s=>
 Lz K base s f n h)
 (Lz K base s f tU h)
def BH:R:=(.mk:Sg 0x10023266271e717e93615e965905b673611e0ee102531166523201565 [a,b,d,e] h [Ej (fun a f=>To K a f (.int .i64 (-1))),K6 (To K)]).F
def No:R:=(.mk:Sg 0x17bdc42000e0232820fe242111e57265200e4b80c665600b0ee32200314e801e318e0606e20ce43201418e9 [a,b,d] h [Ej (Gp K),Ej (Jy K),T3 (BH K)] [] [[.int .i64 0,.int .i64 0,.int .i64 0,.int .i64 0,.int .i64 0,.int .i64 0]]).F
def ML:Ru r (Ru c R):=(.mk:Sg 0x1222533031e67565505b273211e0ee [a,b,d] h [K6 (No K)]).F
def MM:R:=(.mk:Sg 0x12ba31032200314e801e426622fff4f00e17e018e05ed18e20ce26201ff3f972633007e612e5607b210e5210e23c0ee [a,b,d] h [c 68,K6 (ML c r K)] [cu3 (fun f b g=>Bp (Dn [(0,1),(1,1),(2,1),(3,1),(4,1),(5,1),(6,32)]) (List.replicate 6 (.int .i64 0)++List.replicate 32 (.int .u8 0)) [(0,.int .i64 3),(1,f),(2,.int .i64 1),(3,b),(6,g)])] [[.int .i64 0,.int .i64 0,.int .i64 0,.int .i64 0,.int .i64 0,.int .i64 0]]).F
def Yw:R:=(.mk:Sg 0x132222b33210007e82300e10e0314e701e298310600314e701e4212e622ff3fa17e025e05e918e20ce232011e57565504b273011e0ee [a,b,d] h [c 105,K6 (MM c r K),K6 (No K)] [cu0 (Bp (Dn [(0,1),(1,1),(2,1),(3,1),(4,1),(5,1)]) [.int .i64 0,.int .i64 0,.int .i64 0,.int .i64 0,.int .i64 0,.int .i64 0] [(0,.int .i64 2)])] [List.replicate 32 (.int .u8 0)]).F
def xT:R:=(.mk:Sg 0x139831000231023801e204318e0606e20ce42201223 [a,b] h [Ej (Gp K),K6 (Yw c r K)] [] [[.int .i64 0,.int .i64 0,.int .i64 0,.int .i64 0,.int .i64 0,.int .i64 0]]).F
def MN:Ru K R:=(.mk:Sg 0x10008be31204e2323e6323e5 [a,b] h).F
def uL:R:=(.mk:Sg 0x14320002e008be41204e2423e60007e01e285409e [a,b,d,e] h [Ej (MN K)] [cu0 (Bp (Dn [(0,1),(1,1),(2,1),(3,1),(4,1),(5,44)]) (List.replicate 5 (.int .i64 0)++List.replicate 44 (.int .u8 0)) [])]).F
def MO:R:=(.mk:Sg 0x12027640024984006225e724d2d3225e514 [a,b,d,e] h [T3 (uL K)]).F
def sK:R:=(.mk:Sg 0x12800ed410408be91204e2923e60007e00e00314e801e38be023e06e20ce23201432e54f2e508be05e40fe9236e9 [a,b,d,e] h [Ej (uI K),T3 (MO K)] [cu0 (Bp (Dn [(0,1),(1,1),(2,1),(3,1),(4,1),(5,44)]) (List.replicate 5 (.int .i64 0)++List.replicate 44 (.int .u8 0)) [])] [List.replicate 5 (.int .i64 0)++List.replicate 44 (.int .u8 0)]).F
def MP:Ru K R:=(.mk:Sg 0x10007fe31204e2318e6318e5 [a,b] h).F
def MQ:R:=(.mk:Sg 0x1cb210307fec1204e2c18e60007e00e00214e801e20ce23456501644534424314418e5 [a,b,d] h [cl5 (Kn K),Ej (MP K)] [cu0 (Bp (Dn [(0,1),(1,1),(2,1),(3,1),(4,1),(5,1),(6,32)]) (List.replicate 6 (.int .i64 0)++List.replicate 32 (.int .u8 0)) [])]).F
def uM:R:=(.mk:Sg 0x129a310407fea1204e2a18e60007e00e00314e801e37fe018e06e20ce2420121ee54514e30407fe05e28be9 [a] h [Ej (uK K),K6 (MQ K)] [cu0 (Bp (Dn [(0,1),(1,1),(2,1),(3,1),(4,1),(5,1),(6,32)]) (List.replicate 6 (.int .i64 0)++List.replicate 32 (.int .u8 0)) [])] [List.replicate 6 (.int .i64 0)++List.replicate 32 (.int .u8 0)]).F
def Qj:Ru K (Ru r R):=(.mk:Sg 0x1765435100ee0018e81204e28660007e01e0ee0214e701e72201 [a,b,d,e,f,g] h [c 98,cl5 k5] [cu0 (Bp (Dn [(0,1),(1,1),(2,1),(3,1),(4,1),(5,1)]) [.int .i64 0,.int .i64 0,.int .i64 0,.int .i64 0,.int .i64 0,.int .i64 0] [])]).F
def Xx:R:=(.mk:Sg 0x1876543600ba987660032165fdec20ae3fde307e283701e2fce3 [a,b,d,e,f,g] h [cl6 (Qj c r K k5)]).F
def Xi:R:=(.mk:Sg 0x13a98766203018eb1204e2b660307e00e0ee0214e701e00018e0be1204e20be66565321605efdec20ae03efde3326627fffff6f09e17e018e05e08e18e203e89a5207e21107e24217e0005f05e721007e00e614e2f2e52e0004f02eb97c87003fbfde11e762e7fce11e673fbe11e0ee4ee00214e701e20ce5423401518e5 [a,b,d,e,f] h [c 135,Ej (Oi K),cl6 (Xx c r K k5)] [cu1 (fun w=>Ny 32 1 w none none none),cu1 (fun y=>Sz .i64 y),cu5 (fun o p q d z=>Bp (Dn [(0,1),(1,1),(2,1),(3,1),(4,1),(5,1)]) [.int .i64 0,.int .i64 0,.int .i64 0,.int .i64 0,.int .i64 0,.int .i64 0] [(0,.int .i64 1),(1,o),(2,p),(3,q),(4,d),(5,z)]),cu0 (Bp (Dn [(0,1),(1,1),(2,1),(3,1),(4,1),(5,1)]) [.int .i64 0,.int .i64 0,.int .i64 0,.int .i64 0,.int .i64 0,.int .i64 0] [])] [[.int .i64 0,.int .i64 0,.int .i64 0,.int .i64 0,.int .i64 0,.int .i64 0]]).F
def Gr(c:Ah)(r:Ah)(K:Nat):Nat->A5
 | 0=>fun _ _ _ _ _ _=>none
 | m+1=>fun a b d e f h=>
  Am (c 134 [a] h) fun g h=>
  cE i_ .neq 34 g (.int .i64 0)
  (Bp (Dn [(0,1),(1,1),(2,1),(3,1),(4,1),(5,1)]) [(.int .i64 0),(.int .i64 0),(.int .i64 0),(.int .i64 0),(.int .i64 0),(.int .i64 0)] [] fun i=>
  hQ 6 f i h fun h=>
  J5 TT [.c f 38,.v g] h)
  (Xi c r K (Gr c r K m) a b d e f h)
def Xq:R:=
 Gr c r K K a b d e f h
def MR:R:=(.mk:Sg 0x178cb95104018e81204e28660007e00e00314e801e38be123e06e20ce8700002501318e5018e05e37fe9 [a,b,d,e] h [cl5 (Kn K),cl5 (Xq c r K)] [cu0 (Bp (Dn [(0,1),(1,1),(2,1),(3,1),(4,1),(5,1)]) [.int .i64 0,.int .i64 0,.int .i64 0,.int .i64 0,.int .i64 0,.int .i64 0] [])] [[.int .i64 0,.int .i64 0,.int .i64 0,.int .i64 0,.int .i64 0,.int .i64 0],List.replicate 5 (.int .i64 0)++List.replicate 44 (.int .u8 0)]).F
def Zo:Ru K (Ru r (Ru c R)):=(.mk:Sg 0x110e0025e31204e2312e60007e [a] h [] [cu0 (Bp (L8 1) (List.replicate 32 (.int .u8 0)) [])]).F
def Mz:Ru K (Ru r (Ru c R)):=
 Ju f fun g=>
 k5 a b d e g h
def Rs:R:=(.mk:Sg 0x1985435008025e61204e2612e6612e500e28a909e [a,b,d,e,f,g,i,j,n] h [cl5 (Mz c r K k5)]).F
def Ri:R:=(.mk:Sg 0x120404e03e3202e01e00e9102505e04e4303e02e01e91000314e802e04e4d425e112e06e421ae20ce246940120de1051219e20de0031219e56525de0206e652007e [a,b,d,e,f] h [c 46,cl9 (Rs c r K k5)] [cu2 (fun e f=>kD 2 2 true 2 e f)] [[.int .i64 0,.int .i64 0],List.replicate 32 (.int .u8 0)]).F
def Dr(c:Ah)(r:Ah)(K:Nat):Nat->A5
 | 0=>fun _ _ _ _ _ _=>none
 | m+1=>fun a b d e f h=>
  cE Jw .lss 3 f (.int .i64 2)
  (Ri c r K (Dr c r K m) a b d e f h)
  (Zo c r K d h)
def Zq:R:=(.mk:Sg 0x1002ba9500252207e232107e714624232007e424314 [a,b,d] h [cl5 (Dr c r K K)] [cu2 (fun e f=>Bp (L8 1) [.int .i64 0,.int .i64 0] [(0,e),(1,f)]),cu2 (fun i j=>Bp (L8 1) [.int .i64 0,.int .i64 0] [(0,i),(1,j)]),cu2 (fun g n=>Bp (L8 2) [.int .i64 0,.int .i64 0,.int .i64 0,.int .i64 0] [(0,g),(1,n)])]).F
def MS:R:=(.mk:Sg 0x156731000e0025e61204e2612e60007e01e2820fe25201365025e05e318e9 [a,b] h [Ej (Lj K),K6 (Zq c r K)] [cu0 (Bp (L8 1) (List.replicate 32 (.int .u8 0)) [])] [List.replicate 32 (.int .u8 0)]).F
def CP:Ru K (Ru r (Ru c R)):=(.mk:Sg 0x1002200e [a] h).F
def CO:Ru K (Ru r (Ru c R)):=
 Ju f fun g=>
 k5 a b d e g h
def CN:R:=
 Tt 64 d h fun i=>
 Am (Ca (List.replicate 64 (.int .u8 0)) 29 64 1 [(0,i)] h) fun j h=>
 Am (Et 29 64 b j h) fun n h=>
 CO c r K k5 a n e f g h
def CK:R:=(.mk:Sg 0x101e00ed2cb6103b0200e500314e801e30fe132e06e20ce23201323e55f2e528be023e06e223e56423e15e [a,b,d,e,f] h [Ej (Xl K),cl6 (CN c r K k5)] [] [List.replicate 5 (.int .i64 0)++List.replicate 44 (.int .u8 0),List.replicate 64 (.int .u8 0)]).F
def Qr(c:Ah)(r:Ah)(K:Nat):Nat->A5
 | 0=>fun _ _ _ _ _ _=>none
 | m+1=>fun a b d e f h=>
  cE Jw .lss 3 f e
  (CK c r K (Qr c r K m) a b d e f h)
  (CP c r K b h)
def CR:R:=(.mk:Sg 0x10024b03500313e [a,b] h [cl5 (Qr c r K K)]).F
def CQ:R:=(.mk:Sg 0x1372102b0200e500214e801e20ce7220124547be9236e9 [a,b,d] h [c 193,Ej (CR c r K)]).F
def Np:Ru K (Ru r (Ru c R)):=
 some (a,h)
def Od:R:=(.mk:Sg 0x131000ae02328430be [a,b,d] h [Dx (Np c r K)]).F
def MT:R:=(.mk:Sg 0x120233102453102525e8fde3c2a00214e702e20ce2533031e67532e5505b273011e0ee [a,b,d] h [c 164,K6 (Od c r K)]).F
def MU:R:=(.mk:Sg 0x12a931032200314e801e4232e622ff3fa17e00fe05e918e20ce232011e57623e5604b2f2e5273b27c0ee [a,b,d] h [Ej (Xl K),K6 (MT c r K)] [] [List.replicate 64 (.int .u8 0)]).F
def MV:R:=(.mk:Sg 0x12ca31032200314e801e4223e6217ff4fd17e08be05ec18e20ceba28350f1e8750ee5fde11e318e5300b0ee72162514e37fe9 [a,b,d,e,f,g] h [cl5 (Kn K),K6 (MU c r K)] [] [List.replicate 5 (.int .i64 0)++List.replicate 44 (.int .u8 0)]).F
def Lt:Ru K (Ru r (Ru c R)):=(.mk:Sg 0x10005025e31304e2312e6312e5 [a,b,d] h).F
def Yx:R:=(.mk:Sg 0x143230010e0000025e31304e2312e60007e04e0053701e [a,b,d,e] h [K6 (Lt c r K)] [cu0 (Bp (L8 1) (List.replicate 32 (.int .u8 0)) [])]).F
def Ii:Ru K (Ru r (Ru c R)):=
 Ju j fun n=>
 k8 a b d e f g i n h
def Yb:R:=(.mk:Sg 0x103e02e6cba9881004e03e72cba9810c0aed2820fe2620120de00a1219e80ae2612e6912e5 [a,b,d,e,f,g,i,j,n,o] h [Ej (D9 K),cl8 (Ii c r K k8)]).F
def Yp:R:=
 jt n fun q=>
 ic q
 (Ii c r K k8 a b d e f g o p h)
 (Yb c r K k8 a b d e f g i j o p h)
def Qh:R:=(.mk:Sg 0x107e06e42c05e04e03e02e01e00eb104000025e03e1304e203e12e60107e03e00314e801e425e112e06e421ae20ce246940120de1051219e20de0031219e56525de0206e982007e [a,b,d,e,f,g,i,j] h [c 46,Bth (Yp c r K k8)] [cu2 (fun i j=>kD 2 2 true 2 i j),cu0 (Bp (L8 1) (List.replicate 32 (.int .u8 0)) [])] [[.int .i64 0,.int .i64 0],List.replicate 32 (.int .u8 0)]).F
def Dd(c:Ah)(r:Ah)(K:Nat):Nat->A8
 | 0=>fun _ _ _ _ _ _ _ _ _=>none
 | m+1=>fun a b d e f g i j h=>
  cE Jw .lss 3 j (.int .i64 2)
  (Qh c r K (Dd c r K m) a b d e f g i j h)
  (Yx c r K d e f g h)
def Yh:R:=(.mk:Sg 0x100200009cba800252207e232107e814724232007e524414025e05e [a,b,d] h [cl8 (Dd c r K K)] [cu2 (fun f g=>Bp (L8 1) [.int .i64 0,.int .i64 0] [(0,f),(1,g)]),cu2 (fun j n=>Bp (L8 1) [.int .i64 0,.int .i64 0] [(0,j),(1,n)]),cu2 (fun i o=>Bp (L8 2) [.int .i64 0,.int .i64 0,.int .i64 0,.int .i64 0] [(0,i),(1,o)])] [List.replicate 32 (.int .u8 0)]).F
def MW:R:=(.mk:Sg 0x156731000e0000025e61304e2612e60007e04e2820fe25201365025e05e318e9 [a,b] h [Ej (Lj K),K6 (Yh c r K)] [cu0 (Bp (L8 1) (List.replicate 32 (.int .u8 0)) [])] [List.replicate 32 (.int .u8 0)]).F
def Wh:Ru K (Ru r (Ru c R)):=(.mk:Sg 0x1002 [] h).F
def MX:Ru K (Ru r (Ru c R)):=
 Ju f fun g=>
 k5 a b d e g h
def MY:R:=(.mk:Sg 0x100edcba510245303ff3fa726521c03f9bb8615e302e5010e573211e0ee248e013e06e213e56413e15e [a,b,d,e,f] h [K6 (No K),cl5 (MX c r K k5)] [] [[.int .i64 0]++List.replicate 32 (.int .u8 0)]).F
def Jt(c:Ah)(r:Ah)(K:Nat):Nat->A5
 | 0=>fun _ _ _ _ _ _=>none
 | m+1=>fun a b d e f h=>
  cE Jw .lss 3 f e
  (MY c r K (Jt c r K m) a b d e f h)
  (Wh c r K h)
def Wj:R:=
 Ip b fun e=>
 Jt c r K K a d b e (.int .i64 0) h
def MZ:Ru K (Ru r (Ru c R)):=
 Ju i fun j=>
 k7 a b d e f g j h
def M_:R:=(.mk:Sg 0x1cba2765720272112101665 [a,b,d,e,f,g,i,j] h [Dx (fun n=>Ca [.int .i64 0,.int .i64 0,.int .i64 0,.int .i64 0,.int .i64 0,.int .i64 0] 38 6 1 [(0,n)]),Ej (Et 38 6),cl7 (MZ c r K k7)]).F
def NA:R:=(.mk:Sg 0x106e05e04e203e02e01e00e81032200314e801e318e1606e20ce2a201245b4007e212e54114e304613e248e013e06e213e58613e15e [a,b,d,e,f,g,i] h [c 68,cl8 (M_ c r K k7)] [cu4 (fun d p q u=>Bp (Dn [(0,1),(1,1),(2,1),(3,1),(4,1),(5,1),(6,32)]) (List.replicate 6 (.int .i64 0)++List.replicate 32 (.int .u8 0)) [(0,.int .i64 1),(1,d),(2,p),(3,q),(6,u)])] [[.int .i64 0]++List.replicate 32 (.int .u8 0),[.int .i64 0,.int .i64 0,.int .i64 0,.int .i64 0,.int .i64 0,.int .i64 0]]).F
def Iv(c:Ah)(r:Ah)(K:Nat):Nat->A7
 | 0=>fun _ _ _ _ _ _ _ _=>none
 | m+1=>fun a b d e f g i h=>
  cE Jw .lss 3 i g
  (NA c r K (Iv c r K m) a b d e f g i h)
  (Wj c r K a b e h)
def NB:R:=(.mk:Sg 0x10026b0365700513e22423c [a,b] h [cl7 (Iv c r K K)]).F
def NC:R:=(.mk:Sg 0x14321022200214e801e2101 [a,b] h [c 67,Ej (NB c r K)]).F
def ND:R:=(.mk:Sg 0x15421003e0232820fe32201 [a,b] h [Ej (Xr K),Ej (NC c r K)]).F
abbrev Ya(K:Nat)(c:Ah):Ah:=(w2 66 (Xr K) (w3 69 (No K) c))
def Zt:Ru K (Ru r (Ru c R)):=(.mk:Sg 0x100050025e41304e2412e6212e53614e [a,b] h).F
def G4(c:Ah)(r:Ah)(K:Nat)(base:Nat)(s:DX)(a:EV)(b:EV)(d:EV)(e:EV)(h:Ab):R:=
 il d e fun f=>
 ic f
 (Bp (L8 1) (List.replicate 32 (.int .u8 0)) [] fun g=>
 hQ 32 a g h fun h=>
 J5 TT [.c a 51,.v (.bool false),.v (.int .i64 0)] h)
 (Zt c r K a b h)
def Je:R:=
 il f g fun i=>
 h_ i
 (o6 7 a fun j=>
 Pj 12 4095 base j s fun s=>Tt 256 j h fun n=>
 iX 6 e fun o=>
 Ny 32 1 o none none none fun p=>
 Ly 15 32767 s h (fun h=>(Oi K n p h)) fun q h s=>
 Sz .i64 q fun t=>
 ir 5 18 131583 base b s h fun s u=>
 kU t u fun w=>
 G4 c r K base s d e i w h)
 (G4 c r K base s d e i tU h)
def Zz:R:=
 Tt 49 f h fun g=>
 Am (uM K g h) fun i h=>
 mS i fun j n=>
 kT 38 (List.replicate 6 (.int .i64 0)++List.replicate 32 (.int .u8 0)) 141 j h fun o h=>
 Zj h fun base s=>
 K3 i_ (bin TT .neq 34) n (.int .i64 0) fun p=>
 h_ p
 (ir 5 4 15 base o s h fun s q=>
 kU q b fun t=>
 Je c r K base s a d e o p t h)
 (Je c r K base s a d e o p tU h)
def Jd:R:=(.mk:Sg 0x17654350000040025e71304e2712e60007e04e288709e [a,b,d,e,f,g,i] h [cl5 (Zz c r K)] [cu0 (Bp (L8 1) (List.replicate 32 (.int .u8 0)) [])]).F
def Jl:R:=(.mk:Sg 0x12027654370025a98767002325e64474405e2d8709e [a,b,d,e,f,g,i] h [cl7 (Jd c r K)]).F
def Zw:R:=(.mk:Sg 0x1202301e00edb71024503e02e01ed71030224e30403e2d00314e802e4223e6217ff4fd17e08be05ec18e20ce273440f1e87832e7310e932e5904b2f2e5273b27c0ee [a,b,d,e,f,g] h [T3 (sK K),cl7 (Jl c r K)] [] [List.replicate 5 (.int .i64 0)++List.replicate 44 (.int .u8 0)]).F
def NF:R:=(.mk:Sg 0x100040025e91304e2912e60007e2040025ea1304e3a12e6db2210007e08e0ce0314e701e4040025e91304e2912e60007e03e0ee0314e701e289dca610900314e701e4232e62bff3fc17e10fe05eb18e20ce2833071e77412e6310e473011e0ee025e05e318e9 [a,b,d,e] h [c 77,cl6 (Zw c r K),c 78] [cu0 (Bp (L8 1) (List.replicate 32 (.int .u8 0)) [])] [List.replicate 32 (.int .u8 0),List.replicate 64 (.int .u8 0)]).F
end
variable{d:Nat}(H:Bu disp)
include H
theorem Am0(hd:3<=d):R3 disp K d 195 (Qi K):=fun _ _ _=>rl H hd fun d hd=>V2 (Mv H) hd<|V2 (Xd H) hd<|V1 (Ih H) hd<|V1 (Am3 H) hd<|rfl
theorem Α(hd:2<=d):S3 disp K d 215 EK:=fun _ _ _=>rd rfl rfl H (V1 (LM H) hd<|rfl)
theorem χ(hd:2<=d){l:Nat}(tm:Bb)(h:Ab)(A:EV)(G:EV){st:LoopState}{p:Option Code}(hg:h.get l=some (.loop st p 215 31 tm [8,9] (Fw TT 215 0).2.2.1 (Fw TT 215 0).2.2.2 d0)):
 Ag TT disp K (d+1) true l [A,G] h=EI (Ag TT disp K d false) (Ag TT disp K d true) K l (tmp tm 2) (tmp tm 3) A G h:=rr rfl rfl (rfl) hg rfl (by kernel_rfl)
theorem A6y(hd:3<=d):R2 disp K d 217 (t' K):=fun _ _=>rl H hd fun d hd=>V3 (Nv H) hd<|rfl
theorem Aoq(hd:2<=d):S1 disp K d 61 LP:=fun _=>rd rfl rfl H (V1 (An5 H) hd<|rfl)
theorem Asb(hd:3<=d):S3 disp K d 77 LQ:=fun _ _ _=>rd rfl rfl H (V3 (Aqq H) hd<|rfl)
theorem Se(hd:3<=d):R2 disp K d 81 (Oi K):=fun _ _=>rl H hd fun d hd=>V3 (At3 H) hd<|rfl
theorem Aof(hd:2<=d):S2 disp K d 121 LR:=fun _ _=>rd rfl rfl H (V3 (Apt H) hd<|V1 (An1 H) hd<|rfl)
theorem Akf(hd:4<=d):S1 disp K d 134 LS:=fun _=>rd rfl rfl H (V1 (Auj H) hd<|rfl)
theorem Atj(hd:4<=d):R2 disp K d 147 (Yk K):=fun _ _=>ll H hd (fun d hd=>V2 (Se H) hd<|rfl) 207 (e6 (N0 K) 1 6 7 22 23 24)
theorem NG(hd:4<=d):R1 disp K d 153 (Po K):=fun _=>rl H hd fun d hd=>V1 (An2 H) hd<|V3 (Nv H) hd<|V2 (JI H) hd<|V1 (Za H) hd<|rfl
theorem Anz(hd:2<=d):S2 disp K d 155 L_:=fun _ _=>ld rfl rfl H (V1 (Aqu H) hd<|rfl) 5 (fun c r=>e4 (Ki c r K) 0 6 7 8)
theorem An6(hd:3<=d):S3 disp K d 164 MB:=fun _ _ _=>rd rfl rfl H (V3 (Am0 H) hd<|rfl)
theorem Aob(hd:3<=d):S2 disp K d 166 MC:=fun _ _=>rd rfl rfl H (V2 (Al4 H) hd<|rfl)
theorem A3f(hd:4<=d):R2 disp K d 209 (ua K):=fun _ _=>ll H hd (fun d hd=>V3 (Nv H) hd<|V1 (JK H) hd<|V2 (Hy H) hd<|V2 (A6y H) hd<|rfl) 103 (e5 (Yf K) 1 2 4 5 14)
theorem Atx(hd:4<=d):R2 disp K d 210 (Yj K):=fun _ _=>rl H hd fun d hd=>V2 (Se H) hd<|rfl
theorem NH(hd:4<=d):R1 disp K d 23 (qi K):=fun _=>rl H hd fun d hd=>V1 (U2 H) hd<|V1 (E9 H) hd<|rfl
theorem NI(hd:5<=d):R2 disp K d 76 (Jy K):=fun _ _=>rl H hd fun d hd=>V2 (Gh H) hd<|V3 (LO H) hd<|rfl
theorem Ap9(hd:4<=d):S3 disp K d 94 ME:=fun _ _ _=>ld rfl rfl H (V2 (An8 H) hd<|rfl) 5 (fun c r=>e3 (O4 c r K) 0 1 5)
theorem YE(hd:3<=d):S2 disp K d 97 BK:=fun _ _=>rd rfl rfl H (V2 (Aod H) hd<|V3 (Aom H) hd<|rfl)
theorem Axp(hd:5<=d):R2 disp K d 111 (uI K):=fun _ _=>rl H hd fun d hd=>V2 (Atj H) hd<|V1 (An9 H) hd<|V1 (uH H) hd<|V2 (Ob H) hd<|V2 (Xv H) hd<|V1 (Rk H) hd<|rfl
theorem A69(hd:5<=d):R2 disp K d 112 (uK K):=fun _ _=>rl H hd fun d hd=>V1 (uH H) hd<|V2 (Ob H) hd<|V2 (Xv H) hd<|V1 (NG H) hd<|rfl
theorem Rn(hd:5<=d):R5 disp K d 113 (Kn K):=fun _ _ _ _ _=>rl H hd fun d hd=>V1 (NG H) hd<|V1 (Rk H) hd<|rfl
theorem Y0(hd:4<=d):S2 disp K d 193 CH:=fun _ _=>ld rfl rfl H (V1 (F4 H) hd<|V3 (LO H) hd<|V2 (A3f H) hd<|V1 (Um H) hd<|V1 (A34 H) hd<|rfl) 207 (fun c r=>e4 (Th c r K) 2 6 7 8)
theorem NJ(hd:5<=d):R2 disp K d 194 (Xl K):=fun _ _=>rl H hd fun d hd=>V1 (Rk H) hd<|V2 (Atx H) hd<|V3 (Nv H) hd<|V2 (JI H) hd<|V1 (Za H) hd<|rfl
theorem Wy(hd:6<=d):R2 disp K d 45 (Lj K):=fun _ _=>rl H hd fun d hd=>V2 (NI H) hd<|rfl
theorem xU(hd:6<=d):R3 disp K d 69 (No K):=fun _ _ _=>rl H hd fun d hd=>V2 (Hy H) hd<|V2 (NI H) hd<|V3 (Aua H) hd<|rfl
theorem NK(hd:6<=d:=by omega):S2 disp K d 73 xT:=fun _ _=>rd rfl rfl H (V2 (Hy H) hd<|V3 (xU H) hd<|rfl)
theorem NL(hd:6<=d):R4 disp K d 79 (sK K):=fun _ _ _ _=>rl H hd fun d hd=>V2 (Axp H) hd<|rfl
theorem A2o(hd:6<=d):R1 disp K d 80 (uM K):=fun _=>rl H hd fun d hd=>V2 (A69 H) hd<|V5 (Rn H) hd<|rfl
theorem Ak1(hd:5<=d):S4 disp K d 101 MR:=fun _ _ _ _=>ld rfl rfl H (V5 (Rn H) hd<|V2 (Se H) hd<|rfl) 11 (fun c r=>e5 (Gr c r K) 0 2 3 5 8)
theorem Alz(hd:6<=d):S2 disp K d 105 MS:=fun _ _=>ld rfl rfl H (V2 (Wy H) hd<|rfl) 51 (fun c r=>e5 (Dr c r K) 0 3 4 26 27)
theorem Y_(hd:5<=d):S3 disp K d 162 CQ:=fun _ _ _=>ld rfl rfl H (V2 (NJ H) hd<|rfl) 207 (fun c r=>e5 (Qr c r K) 3 10 24 25 26)
theorem An4(hd:5<=d):S6 disp K d 177 MV:=fun _ _ _ _ _ _=>rd rfl rfl H (V5 (Rn H) hd<|V2 (NJ H) hd<|rfl)
theorem Akk(hd:6<=d):S2 disp K d 17 MW:=fun _ _=>ld rfl rfl H (V2 (Wy H) hd<|V2 (Ey H) hd<|rfl) 207 (fun c r=>e8 (Dd c r K) 0 3 4 7 8 9 30 31)
omit H in
theorem Apq(c r:Ah)(K:Nat)(m:Nat):kH false (Ya K c) c r K 31 831 [(2,fun A tm h ds=>Wh c r K h)] m=(fun m A tm h ds=>Jt c r K m (A 0) (A 7) (A 55) (A 56) (A 57) h) m:=
 N6 (E:=fun m A tm h ds=>Jt c r K m (A 0) (A 7) (A 55) (A 56) (A 57) h) rfl (fun m=>kj fun A tm h ds=>by kernel_rfl) m
omit H in
theorem Aoc(c r:Ah)(K:Nat)(m:Nat):kH false (Ya K c) c r K 31 415 [(0,fun A tm h ds=>Wj c r K (A 0) (A 1) (A 7) h)] m=(fun m A tm h ds=>Iv c r K m (A 0) (A 1) (A 6) (A 7) (A 28) (A 29) (A 30) h) m:=
 N6 (E:=fun m A tm h ds=>Iv c r K m (A 0) (A 1) (A 6) (A 7) (A 28) (A 29) (A 30) h) rfl (fun m=>kj fun A tm h ds=>by kernel_rfl) m
theorem Art(hd:6<=d):S2 disp K d 31 ND:=fun _ _=>rm (q:=false) (D:=Ya K (Ag TT disp K d false)) (by kernel_rfl) rfl rfl H (V2 (Atu H) hd<|V3 (xU H) hd<|rfl) (cut [true,true,true,true,true,true,false,true,false] (Apq (Ag TT disp K d false) (Ag TT disp K d true) K K) (by kernel_rfl) (by kernel_rfl) (cut [true,true,true,true,true,false,true,false] (Aoc (Ag TT disp K d false) (Ag TT disp K d true) K K) (by kernel_rfl) (by kernel_rfl) rfl))
theorem Amo(hd:6<=d):S4 disp K d 46 NF:=fun _ _ _ _=>rd rfl rfl H (V2 (Se H) hd<|V1 (A2o H) hd<|V4 (NL H) hd<|rfl)
end
end
section
noncomputable section
section
variable (c r:Ah)(K l:Nat)(k0:A0)(k1:A1)(k2:A2)(k3:A3)(k4:A4)(k5:A5)(k6:A6)(k7:A7)(k8:A8)(k9:A9)(n_:lC)(oc:lG)(oe:mQ)(m0:B0)(m1:B1)(m2:B2)(m3:B3)(m4:B4)(m5:B5)(m6:B6)(m7:B7)(m8:B8)(m9:B9)(oh:mO)(oi:mP)(oo:mR)(base:Nat)(s:DX)(tm:Bb)(a b d e f g i j n o p q t u w x y z aa ab ad ae af ag ai aj an ao ap aq au aw ax ay az ba bb bd be bf bg bi bj bn bo bp bq bt bu bw bx bz da db dd de df dg di dj dn dp dq dt du dw dx dy dz ea eb ed ee ef eg ei ej en eo ep eq et eu ew ex ey ez fa fb fd fe ff fg fi fj fn fo fp fq ft fu fw fx fy fz ga gb gd ge gf gg gi gj gn go gp gq gt gu gw gx gy gz ia ib ie ig ii ij io ip iq it iu iw ix iy iz ja jb:EV)(h:Ab)(ds:List Nat)
def xV:Ru K R:=(.mk:Sg 0x122213 [a] h).F
def NN:Ru K R:=(.mk:Sg 0x125200e214722319e51c204422319e21c [a,b] h).F
def Ts:R:=(.mk:Sg 0x1542100101200e62820fe3101 [a,b] h [Dx (rY K),Ej (NN K)] [] [] [(.int .i64 (-1))]).F
def Ig:Ru K R:=(.mk:Sg 0x122213e203 [a] h).F
def NO:R:=(.mk:Sg 0x122210142116e203 [a,b] h [Dx (Ig K)]).F
def Qy:R:=(.mk:Sg 0x15421000232820fe32201 [a,b] h [Ej (Hc K),Ej (NO K)]).F
end
variable{d:Nat}(H:Bu disp)
include H
theorem Ar7(hd:1<=d):R1 disp K d 137 (xV K):=fun _=>rl H hd
theorem Ao6(hd:2<=d):R2 disp K d 138 (Ts K):=fun _ _=>rl H hd fun d hd=>V1 (H_ H) hd<|rfl
theorem Aav(hd:1<=d):R1 disp K d 200 (Ig K):=fun _=>rl H hd
theorem Asc(hd:2<=d):R2 disp K d 179 (Qy K):=fun _ _=>rl H hd fun d hd=>V2 (Ll H) hd<|V1 (Aav H) hd<|rfl
end
end
section
noncomputable section
section
variable (c r:Ah)(K l:Nat)(k0:A0)(k1:A1)(k2:A2)(k3:A3)(k4:A4)(k5:A5)(k6:A6)(k7:A7)(k8:A8)(k9:A9)(n_:lC)(oc:lG)(oe:mQ)(m0:B0)(m1:B1)(m2:B2)(m3:B3)(m4:B4)(m5:B5)(m6:B6)(m7:B7)(m8:B8)(m9:B9)(oh:mO)(oi:mP)(oo:mR)(base:Nat)(s:DX)(tm:Bb)(a b d e f g i j n o p q t u w x y z aa ab ad ae af ag ai aj an ao ap aq au aw ax ay az ba bb bd be bf bg bi bj bn bo bp bq bt bu bw bx bz da db dd de df dg di dj dn dp dq dt du dw dx dy dz ea eb ed ee ef eg ei ej en eo ep eq et eu ew ex ey ez fa fb fd fe ff fg fi fj fn fo fp fq ft fu fw fx fy fz ga gb gd ge gf gg gi gj gn go gp gq gt gu gw gx gy gz ia ib ie ig ii ij io ip iq it iu iw ix iy iz ja jb:EV)(h:Ab)(ds:List Nat)
def qA:Ru K R:=(.mk:Sg 0x12225fe921007e [a] h [] [cu1 (fun a=>Bp (Dn [(0,1),(1,1),(2,1),(3,1),(4,1),(5,1),(6,2)]) [.Cl,.int .i64 0,.bool false,.int .i64 0,.int .i64 0,.int .i64 0,.int .i64 0,.int .i64 0] [(0,a)])]).F
def Kz:Ru K R:=(.mk:Sg 0x122233 [a] h).F
def Ar1:Ru K (Ru r R):=(.mk:Sg 0x1240200e32201 [a,b] h [c 107]).F
def NP:R:=
 il f g fun i=>
 ic i
 (some (.tuple [d,e],h))
 (Ar1 c r K a b h)
def NQ:R:=(.mk:Sg 0x1203236561024347661000214e802e01e3d20ce32201 [a,b] h [c 106,cl6 (NP c r K)]).F
def NR:Ru K (Ru r R):=(.mk:Sg 0x1240200e42201203 [a,b] h [c 39]).F
def NS:R:=(.mk:Sg 0x1322000050200e63043701e [a,b,d] h [Ej (NR c r K)]).F
def NT:R:=(.mk:Sg 0x14ba320340200e50ee0314e701e5212e629ff3fc17e025e05eb18e421ae20ce232131e67665605b21001e47273011e0ee [a,b,d] h [Dx (Cv K),c 17,K6 (NS c r K)] [] [List.replicate 32 (.int .u8 0)]).F
def NU:R:=(.mk:Sg 0x13a93200050200e61023801e204318e0606e20ce522112101203 [a,b] h [Dx (Ef K),Ej (Gp K),K6 (NT c r K)] [] [[.int .i64 0,.int .i64 0,.int .i64 0,.int .i64 0,.int .i64 0,.int .i64 0]]).F
def Alm:Ru K (Ru r (Ru c R)):=(.mk:Sg 0x10040200e [] h).F
def NV:R:=(.mk:Sg 0x10a00a0242911e57236e5284b5314e2183275171170ee13e0123701e23200e20ce6161a8023701e240200e51519c023701e340200e325e012e06e20ce2624131406e6023701e240200e102633131401e3023701e240200e2b221ff3f972111818e252107e2102ae6721007e484210e322110e0ee1ee1023701e204213e9 [a,b,d] h [Dx (uk K),Dx (fun o=>Ca ([.int .i64 0]++List.replicate 32 (.int .u8 0)) 86 33 1 [(0,o)]),c 31,c 33,c 13,c 30,c 15,Dx (Cv K),Dx (Bn K),c 34,cl0 (Alm c r K)] [cu1 (fun i=>Sz .u8 i),cu2 (fun g n=>Bp (Dn [(0,1),(1,32)]) ([.int .i64 0]++List.replicate 32 (.int .u8 0)) [(0,g),(1,n)])] [List.replicate 32 (.int .u8 0)] [(.int .i64 6)]).F
def NW:Ru K (Ru r R):=(.mk:Sg 0x123200e20ce23201213 [a] h [c 75]).F
def NX:R:=(.mk:Sg 0x1713023200e20ce29221421ee71303e323601e61321007e21112101203 [a] h [Dx (Ef K),Dx (Er K),c 74,Dx (NW c r K)] [cu1 (fun e=>Y8 3 false 0 e)]).F
def Oa:R:=(.mk:Sg 0x1222724e6021de21007e2113e03fa72101e03f974d2e8011e20ae273111e0ee [a] h [Dx (Ef K),Dx (Er K)] [cu1 (fun g=>Y8 3 false 0 g)]).F
def P0(c:Ah)(r:Ah)(K:Nat)(base:Nat)(s:DX)(a:EV)(b:EV)(h:Ab):R:=
 hU a b fun d=>
 some (.tuple [d,(.int .i64 0)],h)
def Xh:R:=
 fE 0 a h fun e=>
 Am (Cv K e h) fun f h=>
 Am (Gz K f h) fun g h=>
 Am (c 140 [g,b,d] h) fun i h=>
 mS i fun j n=>
 kT 4 [(.int .i64 0),(.int .i64 0),(.int .i64 0),.Cl] 137 j h fun o h=>
 Zj h fun base s=>
 K3 iT (bin TT .eql 34) n (.int .i64 0) fun p=>
 iY p
 (ir 0 4 15 base o s h fun s q=>
 jI 0 8 231 base a s h fun s t=>
 Ly 9 487 s h (fun h=>(Rv K t h)) fun u h s=>
 Y8 0 false 0 u fun w=>
 nQ q w fun x=>
 P0 c r K base s p x h)
 (P0 c r K base s p tU h)
def X5:R:=(.mk:Sg 0x1543300640200e5287609e [a,b,d,e,f,g] h [K6 (Xh c r K)]).F
def X0:R:=(.mk:Sg 0x1202358761023469861040feb2d00214e802e421ae20ce32201 [a,b] h [c 139,cl6 (X5 c r K)]).F
def Y7:R:=(.mk:Sg 0x1432000040200e6285409e [a,b,d,e] h [Ej (X0 c r K)]).F
def NY:R:=(.mk:Sg 0x120248440257b44062231212180305e2d01324e20ce522112101203 [a,b] h [Dx (xV K),Ej (Ts K),Dx (Cv K),Ej (D9 K),T3 (Y7 c r K)] [] [] [(.int .i64 (-1))]).F
def uN:R:=(.mk:Sg 0x118e02e1104e202e66c654216b514e4216a414ec0d201c11152167314e52166214e52165114e108201307201306201218e0606e21007e103201018e05e [a] h [Ej (E6 K),Dx (fun a=>E6 K a (.int .i64 6))] [cu1 (fun d=>Bp (Dn [(0,1),(1,1),(2,1),(3,1),(4,1),(5,1)]) [.int .i64 0,.int .i64 0,.int .i64 0,.int .i64 0,.int .i64 0,.int .i64 0] [(0,d)])] [[.int .i64 0,.int .i64 0,.int .i64 0,.int .i64 0,.int .i64 0,.int .i64 0]]).F
def Zh:Ru K R:=
 some (a,h)
def Zu:Ru K R:=
 Ju e fun f=>
 k4 a b d f h
def Zp:R:=(.mk:Sg 0x18765420982642060ae928722112101203 [a,b,d,e] h [Dx (Cv K),Ej (D9 K),T3 (Zu K k4)]).F
def Jj(K:Nat):Nat->A4
 | 0=>fun _ _ _ _ _=>none
 | m+1=>fun a b d e h=>
  cE Jw .lss 3 e d
  (Zp K (Jj K m) a b d e h)
  (Zh K b h)
def Md:R:=(.mk:Sg 0x1002006430212121112101203 [a] h [Dx (Ef K),Dx (Er K),Dx (Ds K),T3 (Jj K K)]).F
def NZ:Ru K (Ru r (Ru c R)):=(.mk:Sg 0x100050020304e [a] h).F
def N':Ru K (Ru r (Ru c R)):=
 Ju f fun g=>
 k5 a b d e g h
def N_:R:=
 Tt 64 e h fun i=>
 Am (Ca (List.replicate 64 (.int .u8 0)) 29 64 1 [(0,i)] h) fun j h=>
 Am (Et 29 64 d j h) fun n h=>
 N' c r K k5 a b n f g h
def OA:R:=(.mk:Sg 0x1875432600000400b00304eb00614e801e [a,b,d,e,f,g,i] h [cl6 (N_ c r K k5)]).F
def OB:R:=(.mk:Sg 0x198765437000ee00400b00304eb28a909e [a,b,d,e,f,g,i,j,n] h [cl7 (OA c r K k5)]).F
def OC:R:=(.mk:Sg 0x120987654329002a9876543900ba0be01e9d [a,b,d,e,f,g,i,j,n,o] h [cl9 (OB c r K k5)]).F
def OD:R:=(.mk:Sg 0x120a98765432a102cba987654a100ee0214e702e232010aeaa [a,b,d,e,f,g,i,j,n] h [c 98,Bt0 (OC c r K k5)]).F
def OE:R:=(.mk:Sg 0x1202cb43a9892023dc54ba99200ce0414e702e04e2d0ee0314e702e30fe032e06e20ce7323113101 [a,b,d,e,f] h [Dx (Bn K),c 77,cl9 (OD c r K k5)] [] [List.replicate 64 (.int .u8 0)]).F
def K9(c:Ah)(r:Ah)(K:Nat):Nat->A5
 | 0=>fun _ _ _ _ _ _=>none
 | m+1=>fun a b d e f h=>
  cE Jw .lss 3 f e
  (OE c r K (K9 c r K m) a b d e f h)
  (NZ c r K d h)
def OG:R:=(.mk:Sg 0x1002b05854072231212121112101203 [a,b] h [Dx (Cv K),Dx (Bn K),Dx (Cw K),Ej (Qy K),cl5 (K9 c r K K)]).F
def OH:Ru K (Ru r (Ru c R)):=
 some (.tuple [a,b],h)
def O3:R:=(.mk:Sg 0x105e04e22009e08e22032262fff3fc17e06e6c232107e04ed2e8311e03e00e4411e0ee12e04e808e21602e2c06e21601e5c04e21600e4c321621ffff5f03e17ed1c273103e6021de21007e2117c03fb72103c03fa771c03f9011e20ae500e4111e0ee321643c20ae233 [a,b,d,e,f,g] h [Dx (Ef K),Dx (Er K),Ej (OH c r K)] [cu1 (fun u=>Y8 3 false 0 u),cu2 (fun ae af=>Bp (L8 1) [.int .i64 0,.int .i64 0] [(0,ae),(1,af)])]).F
def O0:R:=(.mk:Sg 0x18765436000ee040200e628980be [a,b,d,e,f,g,i,j] h [cl6 (O3 c r K)]).F
def O8:R:=(.mk:Sg 0x120276542381025a9875681000214e802e21013030ae2a870be [a,b,d,e,f,g,i] h [c 43,cl8 (O0 c r K)]).F
def U5:R:=(.mk:Sg 0x120237654710234876571030fec2a31017609e [a,b,d,e,f,g] h [Dx (Oa K),cl7 (O8 c r K)]).F
def O6:R:=(.mk:Sg 0x12065432600276543600870bec6d [a,b,d,e,f,g,i] h [cl6 (U5 c r K)]).F
def O9:R:=(.mk:Sg 0x12076543271029876547106225e210103e7a [a,b,d,e,f,g] h [Dx (Md K),cl7 (O6 c r K)]).F
def Up:R:=(.mk:Sg 0x120265436102376546103101d2d7609e [a,b,d,e,f,g] h [Dx (Oa K),cl6 (O9 c r K)]).F
def U3:R:=(.mk:Sg 0x1207653260028764360040feb7d [a,b,d,e,f,g] h [cl6 (Up c r K)]).F
def OI:R:=(.mk:Sg 0x134597660040a2b9860020ae63301e0023701e513423353243 [a,b,d,e] h [cl6 (U3 c r K)]).F
def OJ:R:=(.mk:Sg 0x13526420240200e50ee0214e701e20ce31112101 [a] h [Dx (Md K),c 41,T3 (OI c r K)]).F
def sL:R:=(.mk:Sg 0x1407be0de1204e20de4604e45421603e314e20ce213186552167514e52166414e52165314e1000e22110d22130c221209e1606e2343207e10922110822110722132462f1e817e07be05e718e2343107e41102e57743310e611410e0ee210121007e3514e07be05e28be9 [a] h [Dx (pw K),Dx (fun g=>E6 K g (.int .i64 6)),Ej (E6 K),Dx (qi K)] [cu1 (fun e=>Ny 44 1 e none none none),cu3 (fun i j n=>Bp (Dn [(0,1),(1,1),(2,1),(3,1)]) [.int .i64 0,.int .i64 0,.int .i64 0,.Cl] [(0,i),(1,j),(2,n)]),cu3 (fun q t u=>Bp (Dn [(0,1),(1,1),(2,1),(3,1),(4,1),(5,1)]) [.int .i64 0,.int .i64 0,.int .i64 0,.int .i64 0,.int .i64 0,.int .i64 0] [(0,q),(1,t),(2,u)])] [[.int .i64 0,.int .i64 0,.int .i64 0,.Cl],[.int .i64 0,.int .i64 0,.int .i64 0,.int .i64 0,.int .i64 0,.int .i64 0]]).F
def xW:Ru K (Ru r R):=(.mk:Sg 0x1207be51204e354620ce3101 [a,b] h [c 180]).F
def OK:Ru K (Ru r (Ru c R)):=
 Ju i fun j=>
 k7 a b d e f g j h
def OL:R:=
 Tt 49 f h fun n=>
 Am (Ca (List.replicate 5 (.int .i64 0)++List.replicate 44 (.int .u8 0)) 153 49 1 [(0,n)] h) fun o h=>
 Am (Et 153 49 e o h) fun p h=>
 OK c r K k7 a b d p g i j h
def OM:R:=(.mk:Sg 0x103e02e01e200edcb82000ed210500314e801e38be123e06e20ced723401332e56f2e520fe032e06e232e58632e15e [a,b,d,e,f,g,i] h [T3 (sK K),Ej (xW c r K),cl8 (OL c r K k7)] [] [List.replicate 64 (.int .u8 0),List.replicate 5 (.int .i64 0)++List.replicate 44 (.int .u8 0)]).F
def Vi(c:Ah)(r:Ah)(K:Nat):Nat->A7
 | 0=>fun _ _ _ _ _ _ _ _=>none
 | m+1=>fun a b d e f g i h=>
  cE Jw .lss 3 i g
  (OM c r K (Vi c r K m) a b d e f g i h)
  (xW c r K d e h)
def ON:R:=(.mk:Sg 0x10027b0346700613e07be05e236e9 [a,b,d] h [cl7 (Vi c r K K)] [] [[.int .i64 0,.int .i64 0,.int .i64 0,.Cl]]).F
def uO:Ru K R:=(.mk:Sg 0x1002 [] h).F
def OO:Ru K R:=
 Ju e fun f=>
 k4 a b d f h
def OP:R:=(.mk:Sg 0x1a76541022200214e801e283301665234 [a,b,d,e,f,g] h [K6 (No K),T3 (OO K k4)]).F
def OQ:R:=(.mk:Sg 0x100e65dcb6300203263601e21007e211183472662f5e917e018e05e818e921de2301fe1021ee443210e4101170ee [a,b,d,e] h [Dx (uN K),Dx (Er K),cl0 (uO K),cl6 (OP K k4)] [cu1 (fun q=>Y8 3 false 0 q)] [[.int .i64 0,.int .i64 0,.int .i64 0,.int .i64 0,.int .i64 0,.int .i64 0]]).F
def Yz(K:Nat):Nat->A4
 | 0=>fun _ _ _ _ _=>none
 | m+1=>fun a b d e h=>
  cE Jw .lss 3 e (.int .i64 2)
  (OQ K (Yz K m) a b d e h)
  (uO K h)
def sM:R:=(.mk:Sg 0x100256410210121007e2514e48be927be9 [a,b] h [Dx (pw K),T3 (Yz K K)] [cu1 (fun f=>Ny 44 1 f (some (.int .i64 1)) none none)]).F
def Ui:Ru K (Ru r (Ru c R)):=
 some (a,h)
def Gu:R:=(.mk:Sg 0x13120702300214e801e211124534010007e [a,b,d] h [T3 (sj K),c 30,Dx (Ui c r K)] [cu0 (Bp (Dn [(0,1),(1,1),(2,1)]) [.int .i64 0,.int .i64 0,.int .i64 0] [(1,.int .i64 1),(2,.int .i64 1)])]).F
def Ng:Ru K (Ru r (Ru c R)):=
 Ju f fun g=>
 k5 a b d e g h
def Ua:R:=(.mk:Sg 0x187654530a987653092221411103e2820fe64201 [a,b,d,e,f] h [c 26,Dx (Cs K),c 28,cl5 (Ng c r K k5)]).F
def Eh(c:Ah)(r:Ah)(K:Nat):Nat->A5
 | 0=>fun _ _ _ _ _ _=>none
 | m+1=>fun a b d e f h=>
  cE Jw .lss 3 f e
  (Ua c r K (Eh c r K m) a b d e f h)
  (Gu c r K a b d h)
def Nd:R:=(.mk:Sg 0x10027655102101265 [a,b,d,e] h [Dx (Ds K),cl5 (Eh c r K K)]).F
def Uh:Ru K (Ru r (Ru c R)):=
 Ju f fun g=>
 k5 a b d e g h
def T9:R:=(.mk:Sg 0x1cba9851025ba40120ae291fe414271fe214 [a,b,d,e,f] h [T3 (Tl K),cl5 (Uh c r K k5)]).F
def Dj(c:Ah)(r:Ah)(K:Nat):Nat->A5
 | 0=>fun _ _ _ _ _ _=>none
 | m+1=>fun a b d e f h=>
  cE Jw .lss 3 f (.int .i64 3)
  (T9 c r K (Dj c r K m) a b d e f h)
  (Nd c r K a b d e h)
def Mh:R:=
 Am (se K b h) fun e h=>
 Dj c r K K a b d e (.int .i64 0) h
def S8:R:=(.mk:Sg 0x15433007023286509e [a,b,d,e,f] h [K6 (Mh c r K)]).F
def S9:R:=(.mk:Sg 0x120248c5302359d53000314e802e00e2d00614e802e20ce212176520ce2353173700027265201b0ee [a,b] h [cl0 (xE K),K6 (sJ K),Dx (qi K),cl5 (S8 c r K)]).F
def Tf:R:=(.mk:Sg 0x139220702300214e801e20ce2343131e67502e5510e443210e210117265200b0ee [a] h [Dx (Ds K),K6 (sH K),Ej (S9 c r K)]).F
def H8:R:=(.mk:Sg 0x131007023284309e [a,b,d] h [Dx (Tf c r K)]).F
def Xm:R:=(.mk:Sg 0x1202531026931015e0222e231fe61450405e2d20fe2101265209e9 [a] h [Dx (Il K),K6 (H8 c r K)]).F
abbrev Ol(K:Nat)(c:Ah):Ah:=(w1 18 (Il K) (w4 29 (sj K) (w1 27 (Cs K) (w1 20 (Ds K) (w4 25 (Tl K) (w1 24 (se K) (w0 22 (xE K) (w3 21 (sJ K) (w1 23 (qi K) (w3 19 (sH K) c))))))))))
def xX:Ru K (Ru r (Ru c R)):=(.mk:Sg 0x10007be31204e2346345 [a,b] h).F
def OR:Ru K (Ru r (Ru c R)):=
 Ju g fun i=>
 k6 a b d e f i h
def OS:R:=(.mk:Sg 0x1dcba9860000e007bea1204e2a460007e01e248be801e223e5b623e15e223e528be023e06e223e57523e15e [a,b,d,e,f,g] h [cl6 (OR c r K k6)] [cu0 (Bp (Dn [(0,1),(1,1),(2,1),(3,1)]) [.int .i64 0,.int .i64 0,.int .i64 0,.Cl] [])] [List.replicate 5 (.int .i64 0)++List.replicate 44 (.int .u8 0)]).F
def T1(c:Ah)(r:Ah)(K:Nat):Nat->A6
 | 0=>fun _ _ _ _ _ _ _=>none
 | m+1=>fun a b d e f g h=>
  cE Jw .lss 3 g f
  (OS c r K (T1 c r K m) a b d e f g h)
  (xX c r K b d h)
def OT:R:=
 Ip e fun f=>
 T1 c r K K a b d e f (.int .i64 0) h
def uP:R:=(.mk:Sg 0x13a9841000e007bea1204e2a460007e01e00214e801e20ce242011e57200e4110e00323e15e445400b0ee [a,b,d] h [c 193,T3 (OT c r K)] [cu0 (Bp (Dn [(0,1),(1,1),(2,1),(3,1)]) [.int .i64 0,.int .i64 0,.int .i64 0,.Cl] [])]).F
def OU:Ru K (Ru r (Ru c R)):=
 Ju g fun i=>
 k6 a b d e f i h
def OV:R:=(.mk:Sg 0x187654360000e007be51204e25460007e01e289809e [a,b,d,e,f,g,i,j] h [cl6 (OU c r K k6)] [cu0 (Bp (Dn [(0,1),(1,1),(2,1),(3,1)]) [.int .i64 0,.int .i64 0,.int .i64 0,.Cl] [])]).F
def OW:R:=(.mk:Sg 0x1202dcba988102603e02e01e00edc81000214e802e23201623e5a450ee2d2325eb0ae22428be023e06e223e57523e15e [a,b,d,e,f,g] h [Ej (sM K),cl8 (OV c r K k6)] [] [List.replicate 5 (.int .i64 0)++List.replicate 44 (.int .u8 0)]).F
def Ra(c:Ah)(r:Ah)(K:Nat):Nat->A6
 | 0=>fun _ _ _ _ _ _ _=>none
 | m+1=>fun a b d e f g h=>
  cE Jw .lss 3 g f
  (OW c r K (Ra c r K m) a b d e f g h)
  (uP c r K a b d h)
def OX:R:=(.mk:Sg 0x10023987620213e252007e21112101434 [a,b,d] h [Dx (Er K),Dx (I5 K),cl6 (Ra c r K K)] [cu2 (fun a g=>iK 49 a (some (.int .i64 1)) (some g) none)]).F
def OY:R:=(.mk:Sg 0x154330000e007be51204e25460007e01e286509e [a,b,d,e,f] h [K6 (OX c r K)] [cu0 (Bp (Dn [(0,1),(1,1),(2,1),(3,1)]) [.int .i64 0,.int .i64 0,.int .i64 0,.Cl] [])]).F
def OZ:R:=(.mk:Sg 0x12023a953027801e00e5302322ec13e212121113340ae2d00314e802e37be0406e20ce2101223e500223e15e [a,b] h [Dx (sL K),Dx (Er K),Dx (I5 K),cl5 (OY c r K)] [] [[.int .i64 0,.int .i64 0,.int .i64 0,.Cl]]).F
def O':R:=(.mk:Sg 0x13420000e007be41204e24460007e01e0023701e313e07be05e [a] h [Ej (OZ c r K)] [cu0 (Bp (Dn [(0,1),(1,1),(2,1),(3,1)]) [.int .i64 0,.int .i64 0,.int .i64 0,.Cl] [])] [[.int .i64 0,.int .i64 0,.int .i64 0,.Cl]]).F
abbrev xY(K:Nat)(c:Ah):Ah:=(w2 202 (sM K) (w1 44 (Er K) (w1 87 (I5 K) (w1 201 (sL K) c))))
end
variable{d:Nat}(H:Bu disp)
include H
theorem O_(hd:1<=d):R1 disp K d 14 (qA K):=fun _=>rl H hd
theorem Zy(hd:1<=d):R1 disp K d 16 (Kz K):=fun _=>rl H hd
theorem Aq6(hd:0<=d):S2 disp K d 74 NQ:=fun _ _=>rd rfl rfl H rfl
theorem An0(hd:1<=d):S2 disp K d 75 NU:=fun _ _=>rd rfl rfl H (V1 (Ks H) hd<|V2 (Hy H) hd<|V1 (Ht H) hd<|rfl)
theorem Ajr(hd:1<=d):S3 disp K d 6 NV:=fun _ _ _=>rd rfl rfl H (V1 (A2h H) hd<|V1 (Ht H) hd<|V1 (Dp H) hd<|rfl)
theorem Aqa(hd:1<=d):S1 disp K d 41 NX:=fun _=>rd rfl rfl H (V1 (Ks H) hd<|V1 (F4 H) hd<|rfl)
theorem Aoh(hd:2<=d):R1 disp K d 42 (Oa K):=fun _=>rl H hd fun d hd=>V1 (Ks H) hd<|V1 (F4 H) hd<|rfl
theorem Ak8(hd:3<=d):S2 disp K d 106 NY:=fun _ _=>rd rfl rfl H (V1 (Ar7 H) hd<|V2 (Ao6 H) hd<|V1 (Ht H) hd<|V2 (Ey H) hd<|V1 (W7 H) hd<|V1 (Aoo H) hd<|rfl)
theorem A32(hd:3<=d):R1 disp K d 214 (uN K):=fun _=>rl H hd fun d hd=>V2 (Ob H) hd<|rfl
theorem Amq(hd:4<=d):R1 disp K d 40 (Md K):=fun _=>ll H hd (fun d hd=>V1 (Ks H) hd<|V1 (F4 H) hd<|V1 (E9 H) hd<|V1 (Ht H) hd<|V2 (Ey H) hd<|rfl) 51 (e4 (Jj K) 0 3 11 12)
theorem Apy(hd:2<=d):S2 disp K d 139 OG:=fun _ _=>ld rfl rfl H (V1 (Ht H) hd<|V1 (Dp H) hd<|V1 (Jf H) hd<|V2 (Asc H) hd<|rfl) 103 (fun c r=>e5 (K9 c r K) 1 7 8 21 22)
theorem Ao8(hd:4<=d):S1 disp K d 15 OJ:=fun _=>rd rfl rfl H (V1 (Amq H) hd<|V1 (Ks H) hd<|V1 (F4 H) hd<|V1 (Aoh H) hd<|rfl)
theorem A20(hd:5<=d):R1 disp K d 201 (sL K):=fun _=>rl H hd fun d hd=>V1 (uH H) hd<|V2 (Ob H) hd<|V1 (NH H) hd<|rfl
theorem A0x(hd:6<=d):S3 disp K d 140 ON:=fun _ _ _=>ld rfl rfl H (V4 (NL H) hd<|rfl) 51 (fun c r=>e7 (Vi c r K) 1 3 6 8 13 14 15)
theorem A3r(hd:7<=d):R2 disp K d 202 (sM K):=fun _ _=>ll H hd (fun d hd=>V1 (uH H) hd<|V3 (xU H) hd<|V1 (A32 H) hd<|V1 (F4 H) hd<|rfl) 51 (e4 (Yz K) 2 3 5 13)
omit H in
theorem Afi(c r:Ah)(K:Nat)(m:Nat):kH false (Ol K c) c r K 5 6655 [(2,fun A tm h ds=>Gu c r K (A 5) (A 7) (A 9) h)] m=(fun m A tm h ds=>Eh c r K m (A 5) (A 7) (A 9) (A 73) (A 74) h) m:=
 N6 (E:=fun m A tm h ds=>Eh c r K m (A 5) (A 7) (A 9) (A 73) (A 74) h) rfl (fun m=>kj fun A tm h ds=>by kernel_rfl) m
omit H in
theorem Ac4(c r:Ah)(K:Nat)(m:Nat):kH false (Ol K c) c r K 5 3327 [(0,fun A tm h ds=>Nd c r K (A 1) (A 5) (A 7) (A 9) h)] m=(fun m A tm h ds=>Dj c r K m (A 1) (A 5) (A 7) (A 9) (A 56) h) m:=
 N6 (E:=fun m A tm h ds=>Dj c r K m (A 1) (A 5) (A 7) (A 9) (A 56) h) rfl (fun m=>kj fun A tm h ds=>by kernel_rfl) m
theorem Afu(hd:5<=d):S1 disp K d 5 Xm:=fun _=>rm (q:=false) (D:=Ol K (Ag TT disp K d false)) (by kernel_rfl) rfl rfl H (V1 (Ag9 H) hd<|V4 (A7p H) hd<|V1 (Ik H) hd<|V1 (E9 H) hd<|V4 (Atk H) hd<|V1 (A7w H) hd<|V0 (A9b H) hd<|V3 (A1g H) hd<|V1 (NH H) hd<|V3 (A5r H) hd<|rfl) (cut [true,true,true,true,true,true,true,true,true,false,true,false] (Afi (Ag TT disp K d false) (Ag TT disp K d true) K K) (by kernel_rfl) (by kernel_rfl) (cut [true,true,true,true,true,true,true,true,false,true,false] (Ac4 (Ag TT disp K d false) (Ag TT disp K d true) K K) (by kernel_rfl) (by kernel_rfl) rfl))
omit H in
theorem A04(c r:Ah)(K:Nat)(m:Nat):kH false (xY K c) c r K 180 3327 [(2,fun A tm h ds=>xX c r K (A 2) (A 4) h)] m=(fun m A tm h ds=>T1 c r K m (A 0) (A 2) (A 4) (A 73) (A 74) (A 75) h) m:=
 N6 (E:=fun m A tm h ds=>T1 c r K m (A 0) (A 2) (A 4) (A 73) (A 74) (A 75) h) rfl (fun m=>kj fun A tm h ds=>by kernel_rfl) m
omit H in
theorem Azr(c r:Ah)(K:Nat)(m:Nat):kH false (xY K c) c r K 180 415 [(0,fun A tm h ds=>uP c r K (A 0) (A 2) (A 4) h)] m=(fun m A tm h ds=>Ra c r K m (A 0) (A 2) (A 4) (A 41) (A 42) (A 43) h) m:=
 N6 (E:=fun m A tm h ds=>Ra c r K m (A 0) (A 2) (A 4) (A 41) (A 42) (A 43) h) rfl (fun m=>kj fun A tm h ds=>by kernel_rfl) m
theorem A3u(hd:7<=d):S1 disp K d 180 O':=fun _=>rm (q:=false) (D:=xY K (Ag TT disp K d false)) (by kernel_rfl) rfl rfl H (V2 (A3r H) hd<|V1 (F4 H) hd<|V1 (Um H) hd<|V1 (A20 H) hd<|rfl) (cut [true,true,true,true,true,true,true,true,false,true,false] (A04 (Ag TT disp K d false) (Ag TT disp K d true) K K) (by kernel_rfl) (by kernel_rfl) (cut [true,true,true,true,true,false,true,false] (Azr (Ag TT disp K d false) (Ag TT disp K d true) K K) (by kernel_rfl) (by kernel_rfl) rfl))
end
end
section
noncomputable section
section
variable (c r:Ah)(K l:Nat)(k0:A0)(k1:A1)(k2:A2)(k3:A3)(k4:A4)(k5:A5)(k6:A6)(k7:A7)(k8:A8)(k9:A9)(n_:lC)(oc:lG)(oe:mQ)(m0:B0)(m1:B1)(m2:B2)(m3:B3)(m4:B4)(m5:B5)(m6:B6)(m7:B7)(m8:B8)(m9:B9)(oh:mO)(oi:mP)(oo:mR)(base:Nat)(s:DX)(tm:Bb)(a b d e f g i j n o p q t u w x y z aa ab ad ae af ag ai aj an ao ap aq au aw ax ay az ba bb bd be bf bg bi bj bn bo bp bq bt bu bw bx bz da db dd de df dg di dj dn dp dq dt du dw dx dy dz ea eb ed ee ef eg ei ej en eo ep eq et eu ew ex ey ez fa fb fd fe ff fg fi fj fn fo fp fq ft fu fw fx fy fz ga gb gd ge gf gg gi gj gn go gp gq gt gu gw gx gy gz ia ib ie ig ii ij io ip iq it iu iw ix iy iz ja jb:EV)(h:Ab)(ds:List Nat)
def Ajy:Ru K (Ru r (Ru c R)):=
 hU a b fun d=>
 some (d,h)
def Ve:R:=(.mk:Sg 0x120221024210c0224e3101d2a430be [a,b,d] h [Dx (Kz K),Ej (Ajy c r K)]).F
def Vf:R:=(.mk:Sg 0x1203531024631000214e702ec3a20ce2101 [a] h [c 15,K6 (Ve c r K)]).F
def Vl:Ru K (Ru r (Ru c R)):=
 Ju b fun d=>
 k2 a d h
def Vn:R:=(.mk:Sg 0x1432004023285409e [a,b,d,e] h [Ej (Vl c r K k2)]).F
def Vc:R:=(.mk:Sg 0x120365410247641000214e802ed3d20ce2101 [a,b] h [c 15,T3 (Vn c r K k2)]).F
def Eo(c:Ah)(r:Ah)(K:Nat):Nat->A2
 | 0=>fun _ _ _=>none
 | m+1=>fun a b h=>
  cE Jw .lss 3 b (.int .i64 3)
  (Vc c r K (Eo c r K m) a b h)
  (Vf c r K a h)
def Vm:R:=
 Am (qA K a h) fun b h=>
 Eo c r K K b (.int .i64 0) h
def Z6:R:=(.mk:Sg 0x1211040237020ce701e21010007e [] h [c 5,Dx (Vm c r K)] [cu0 (Bp (Dn [(0,1),(1,1),(2,1),(3,1),(4,1),(5,1)]) [.int .i64 0,.int .i64 0,.int .i64 0,.int .i64 0,.int .i64 0,.int .i64 0] [(0,.int .i64 3),(1,.int .i64 8),(2,.int .i64 8),(3,.int .i64 1),(5,.int .i64 4)])]).F
end
variable{d:Nat}(H:Bu disp)
include H
theorem Ahq(hd:1<=d):S0 disp K d 4 Z6:=ld rfl rfl H (V1 (Zy H) hd<|V1 (O_ H) hd<|rfl) 207 (fun c r=>e2 (Eo c r K) 2 13)
end
end
noncomputable section
section
variable (c r:Ah)(K l:Nat)(k0:A0)(k1:A1)(k2:A2)(k3:A3)(k4:A4)(k5:A5)(k6:A6)(k7:A7)(k8:A8)(k9:A9)(n_:lC)(oc:lG)(oe:mQ)(m0:B0)(m1:B1)(m2:B2)(m3:B3)(m4:B4)(m5:B5)(m6:B6)(m7:B7)(m8:B8)(m9:B9)(oh:mO)(oi:mP)(oo:mR)(base:Nat)(s:DX)(tm:Bb)(a b d e f g i j n o p q t u w x y z aa ab ad ae af ag ai aj an ao ap aq au aw ax ay az ba bb bd be bf bg bi bj bn bo bp bq bt bu bw bx bz da db dd de df dg di dj dn dp dq dt du dw dx dy dz ea eb ed ee ef eg ei ej en eo ep eq et eu ew ex ey ez fa fb fd fe ff fg fi fj fn fo fp fq ft fu fw fx fy fz ga gb gd ge gf gg gi gj gn go gp gq gt gu gw gx gy gz ia ib ie ig ii ij io ip iq it iu iw ix iy iz ja jb:EV)(h:Ab)(ds:List Nat)
def Qz:Ru K (Ru r (Ru c R)):=
 hU a b fun d=>
 some (d,h)
def Qq:R:=(.mk:Sg 0x1202200252002325e702e0007e312e502e2a430be [a,b,d] h [Ej (Qz c r K)] [cu0 (Bp (L8 1) (List.replicate 32 (.int .u8 0)) [])]).F
def Q5:R:=(.mk:Sg 0x1202330023430000414e702ec2a540be [a,b,d,e] h [K6 (Qq c r K)]).F
def Fl:R:=(.mk:Sg 0x1202707e44023808e44030824eb2a207e24e2301fe6021de01e345212e6213f3f917e125e05e818e421ae20ce2323737365302b9121170ee318e0606e20ce322114101 [a,b,d,e,f] h [Dx (Ef K),Ej (Gp K),Dx (Cv K),c 17,T3 (Q5 c r K)] [] [[.int .i64 0,.int .i64 0,.int .i64 0,.int .i64 0,.int .i64 0,.int .i64 0],List.replicate 32 (.int .u8 0)]).F
def K0:Ru K (Ru r (Ru c R)):=
 Ju j fun n=>
 k8 a b d e f g i n h
def Q2:R:=(.mk:Sg 0x1a9765432810ba276543810610101e88 [a,b,d,e,f,g,i,j,n] h [Dx (Kz K),cl8 (K0 c r K k8)]).F
def Q6:R:=(.mk:Sg 0x1cb3a98765910402300214e801e20ce6101 [a,b,d,e,f,g,i,j] h [c 15,cl9 (Q2 c r K k8)]).F
def Du(c:Ah)(r:Ah)(K:Nat):Nat->A8
 | 0=>fun _ _ _ _ _ _ _ _ _=>none
 | m+1=>fun a b d e f g i j h=>
  cE Jw .lss 3 j i
  (Q6 c r K (Du c r K m) a b d e f g i j h)
  (Fl c r K a b d e g h)
def K2:R:=(.mk:Sg 0x10020056cba8202301fe6021de8348111325e012e06e20ce014201 [a,b,d] h [c 13,Dx (qA K),cl8 (Du c r K K)] [] [List.replicate 32 (.int .u8 0)] [(.int .i64 (-1))]).F
def G0:R:=(.mk:Sg 0x101e00eb340402300214e801e2302e443f1e87732e5707bd12e6310e2127372113279101170ee721652132e19e20fe032e06e0007e [a,b,d,e,f,g,i] h [Dx (Cv K),Dx (Bn K),Dx (Cw K),c 12,K6 (K2 c r K)] [cu0 (Bp (L8 1) (List.replicate 64 (.int .u8 0)) [])] [List.replicate 64 (.int .u8 0)]).F
def Py:R:=(.mk:Sg 0x129876537002a98764700924d48814 [a,b,d,e,f,g,i] h [cl7 (G0 c r K)]).F
def Fe:R:=
 il j n fun o=>
 ic o
 (some ((.bool true),h))
 (Py c r K a b d e f g i h)
def Fc:R:=(.mk:Sg 0x12023dcba9892024501e00edcba92000224e34405e2d00314e802e318e0606e20ce322117101 [a,b,d,e,f,g] h [Dx (Ef K),Ej (Gp K),cl9 (Fe c r K)] [] [[.int .i64 0,.int .i64 0,.int .i64 0,.int .i64 0,.int .i64 0,.int .i64 0]]).F
def Pv:Ru K (Ru r (Ru c R)):=
 Ju n fun o=>
 k9 a b d e f g i j o h
def Px:R:=(.mk:Sg 0x101e00edcba98791070b2301239e5213e039e06eb22007ea8116e [a,b,d,e,f,g,i,j,n] h [c 6,cl9 (Pv c r K k9)] [cu2 (fun o n=>Bp (Dn [(0,1),(1,1),(2,1),(3,68)]) (List.replicate 7 (.int .i64 0)++List.replicate 64 (.int .u8 0)) [(0,.int .i64 1),(1,o),(2,n)])] [List.replicate 7 (.int .i64 0)++List.replicate 64 (.int .u8 0)]).F
def Ec(c:Ah)(r:Ah)(K:Nat):Nat->A9
 | 0=>fun _ _ _ _ _ _ _ _ _ _=>none
 | m+1=>fun a b d e f g i j n h=>
  cE Jw .lss 3 n j
  (Px c r K (Ec c r K m) a b d e f g i j n h)
  (Fc c r K a b d e f g h)
def Pr:R:=
 Ip a fun j=>
 Ec c r K K b d e f g i a j (.int .i64 0) h
def Dg:R:=
 il j n fun o=>
 ic o
 (some ((.bool true),h))
 (Pr c r K a b d e f g i h)
def Eb:R:=(.mk:Sg 0x1202987654390023a987654900a075702e04e2da909e [a,b,d,e,f,g,i,j,n] h [cl9 (Dg c r K)]).F
def Ff:R:=(.mk:Sg 0x1202987654390023a98765490001622e02e2da909e [a,b,d,e,f,g,i,j,n] h [cl9 (Eb c r K)] [] [] [(.int .i64 63)]).F
def G1:R:=(.mk:Sg 0x1202987654390023a98765490000620e02e2da909e [a,b,d,e,f,g,i,j,n] h [cl9 (Ff c r K)]).F
def Pw:R:=(.mk:Sg 0x12023a98765910245cba9879100fe0222e513e04e2d7020ce702e2101765 [a,b,d,e,f,g] h [c 5,cl9 (G1 c r K)]).F
def Nh:R:=(.mk:Sg 0x14a987661040232820fe001209e9 [a,b,d,e,f,g] h [c 4,cl6 (Pw c r K)]).F
abbrev Lp(K:Nat)(c:Ah):Ah:=(w1 7 (Ef K) (w2 8 (Gp K) (w1 9 (Cv K) (w1 16 (Kz K) (w1 14 (qA K) (w1 10 (Bn K) (w1 11 (Cw K) c)))))))
end
variable{d:Nat}(H:Bu disp)
include H
omit H in
theorem Aam(c r:Ah)(K:Nat)(m:Nat):kH false (Lp K c) c r K 3 425983 [(2,fun A tm h ds=>Fl c r K (A 2) (A 6) (A 13) (A 21) (A 24) h)] m=(fun m A tm h ds=>Du c r K m (A 2) (A 6) (A 13) (A 21) (A 23) (A 24) (A 112) (A 113) h) m:=
 N6 (E:=fun m A tm h ds=>Du c r K m (A 2) (A 6) (A 13) (A 21) (A 23) (A 24) (A 112) (A 113) h) rfl (fun m=>kj fun A tm h ds=>by kernel_rfl) m
omit H in
theorem Zd(c r:Ah)(K:Nat)(m:Nat):kH false (Lp K c) c r K 3 207 [(0,fun A tm h ds=>Fc c r K (A 2) (A 3) (A 4) (A 5) (A 6) (A 13) h)] m=(fun m A tm h ds=>Ec c r K m (A 2) (A 3) (A 4) (A 5) (A 6) (A 13) (A 55) (A 56) (A 57) h) m:=
 N6 (E:=fun m A tm h ds=>Ec c r K m (A 2) (A 3) (A 4) (A 5) (A 6) (A 13) (A 55) (A 56) (A 57) h) rfl (fun m=>kj fun A tm h ds=>by kernel_rfl) m
theorem Abg(hd:1<=d):S6 disp K d 3 Nh:=fun _ _ _ _ _ _=>rm (q:=false) (D:=Lp K (Ag TT disp K d false)) (by kernel_rfl) rfl rfl H (V1 (Ks H) hd<|V2 (Hy H) hd<|V1 (Ht H) hd<|V1 (Zy H) hd<|V1 (O_ H) hd<|V1 (Dp H) hd<|V1 (Jf H) hd<|rfl) (cut [true,true,true,true,true,true,true,true,true,true,true,true,true,true,true,false,true,false] (Aam (Ag TT disp K d false) (Ag TT disp K d true) K K) (by kernel_rfl) (by kernel_rfl) (cut [true,true,true,true,false,true,false] (Zd (Ag TT disp K d false) (Ag TT disp K d true) K K) (by kernel_rfl) (by kernel_rfl) rfl))
end
end
end Go.Ev
