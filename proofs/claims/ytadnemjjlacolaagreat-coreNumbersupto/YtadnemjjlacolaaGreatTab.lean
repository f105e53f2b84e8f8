import Derived.Test.YtadnemjjlacolaaGreatProg
import Derived.Test.YtadnemjjlacolaaGreatEvSix
set_option linter.all false
namespace Go.Ev
open Go.Proofs
variable {α:Type}
noncomputable def fn2:Tr Func:=Fv Tryz.prog.funcs.toList 0 .nil
noncomputable def ty2:Tr TypeInfo:=Fv Tryz.prog.types.toList 0 .nil
def Bpo:List (Nat × List Nat):=[(227,List.replicate 2 0),(52,List.replicate 2 0),(23,List.replicate 6 0),(47,List.replicate 6 0),(49,List.replicate 32 0),(165,List.replicate 44 0),(167,List.replicate 49 0),(96,List.replicate 256 0),(69,List.replicate 3 0)]
noncomputable def TT:H7:=Bb1 fn2 ty2 Bpo [227,52]
noncomputable abbrev TP:Program:=Tryz.prog
theorem Bgs:Tryz.prog.follows .mixedOrders=true:=by kernel_rfl
theorem Bgj:(Tryz.prog.funcs.toList.all fun f=>!(f.name == "runtime.NumGoroutine"))=true:=by kernel_rfl
theorem Bl9:(Bpo.all fun x=>decide (flat Tryz.prog 6 x.1=some x.2)&&isA Tryz.prog x.1&&!(Tryz.prog.eqGuardType Tryz.prog.depth x.1))=true:=by kernel_rfl
theorem Bo5:Aja Tryz.prog 227=true:=by kernel_rfl
theorem Bk1:Ayi Tryz.prog 52=true:=by kernel_rfl
theorem Bhd:P6 TP TT:=Big Bgs Bgj (fun x d=>by
 have:=dN.1 Bl9 x d;simp only[aV,aU,Bool.not_eq_true']at this;exact⟨this.1.1,this.1.2,this.2⟩) (fun t a=>by
 rcases bS.1 a with rfl|a
 ·exact .inl Bo5
 ·rw[aM]at a;subst a;exact .inr Bk1)
noncomputable def Bod(g:Nat):Bool:=Ba (Nat.beq g 39) false (Ba (Nat.beq g 11) false (Ba (Nat.beq g 51) false (Ba (Nat.beq g 103) false true)))
noncomputable section
abbrev Ru {α:Type}(_:α)(β:Type):Type:=β
abbrev A0:=Aa->R
abbrev B0:=Az->Aa->List Nat->R
abbrev A1:=EV->Aa->R
abbrev B1:=Az->EV->Aa->List Nat->R
abbrev A2:=EV->EV->Aa->R
abbrev B2:=Az->EV->EV->Aa->List Nat->R
abbrev A3:=EV->EV->EV->Aa->R
abbrev B3:=Az->EV->EV->EV->Aa->List Nat->R
abbrev A4:=EV->EV->EV->EV->Aa->R
abbrev B4:=Az->EV->EV->EV->EV->Aa->List Nat->R
abbrev A5:=EV->EV->EV->EV->EV->Aa->R
abbrev B5:=Az->EV->EV->EV->EV->EV->Aa->List Nat->R
abbrev A6:=EV->EV->EV->EV->EV->EV->Aa->R
abbrev B6:=Az->EV->EV->EV->EV->EV->EV->Aa->List Nat->R
abbrev A7:=EV->EV->EV->EV->EV->EV->EV->Aa->R
abbrev B7:=Az->EV->EV->EV->EV->EV->EV->EV->Aa->List Nat->R
abbrev A8:=EV->EV->EV->EV->EV->EV->EV->EV->Aa->R
abbrev B8:=Az->EV->EV->EV->EV->EV->EV->EV->EV->Aa->List Nat->R
abbrev A9:=EV->EV->EV->EV->EV->EV->EV->EV->EV->Aa->R
abbrev B9:=Az->EV->EV->EV->EV->EV->EV->EV->EV->EV->Aa->List Nat->R
abbrev A10:=EV->EV->EV->EV->EV->EV->EV->EV->EV->EV->Aa->R
abbrev B10:=Az->EV->EV->EV->EV->EV->EV->EV->EV->EV->EV->Aa->List Nat->R
abbrev A11:=EV->EV->EV->EV->EV->EV->EV->EV->EV->EV->EV->Aa->R
abbrev B11:=Az->EV->EV->EV->EV->EV->EV->EV->EV->EV->EV->EV->Aa->List Nat->R
abbrev A12:=EV->EV->EV->EV->EV->EV->EV->EV->EV->EV->EV->EV->Aa->R
abbrev B12:=Az->EV->EV->EV->EV->EV->EV->EV->EV->EV->EV->EV->EV->Aa->List Nat->R
abbrev tU:EV:=.tuple []
def oE(c:Nat)(v:EV)(h:Aa)(k:EV->R):R:=Aht c v fun v=>Ez v h k
def fE(c:Nat)(v:EV)(h:Aa)(k:EV->R):R:=Arw v fun v=>oE c v h k
def noE(c:Nat)(v:EV)(k:EV->R):R:=Arw v fun v=>Aht c v k
def olE(c:Nat)(i:Nat)(b:Nat)(base:Nat)(v:EV)(s:DX)(h:Aa)(kd:DX->EV->R):R:=Aht c v fun v=>Ov i b base v s fun s=>Ez v h (kd s)
def Aq4(c:Nat)(i:Nat)(b:Nat)(base:Nat)(v:EV)(s:DX)(h:Aa)(kd:DX->EV->R):R:=Arw v fun v=>olE c i b base v s h kd
def A6d(n:Nat)(v:EV)(w:EV)(h:Aa)(k:EV->R):R:=Aac n v w fun v=>Ez v h k
def nsE(n:Nat)(l:List EV)(t:Nat)(x:EV)(h:Aa)(kh:EV->Aa->R):R:=Aun (.cells l t) h fun v h=>stE n v x h (kh v)
def x2E(v:EV)(kk:EV->EV->R):R:=Ap4 0 v fun a=>Ap4 1 v (kk a)
def pkA(x:EV)(y:EV)(k:EV->R):R:=Aqg x y (.bool false) k
def pkO(x:EV)(y:EV)(k:EV->R):R:=Aqg x (.bool true) y k
def wtE(v:EV)(p:R)(q:R):R:=Ba (Fa v true) p q
def wfE(v:EV)(p:R)(q:R):R:=Ba (Fa v false) p q
def uwE(v:EV)(h:Aa)(ds:List Nat):R:=Fp ds h fun h=>some (v,h)
def cE(g:IG)(f:BinOp)(t:Nat)(x:EV)(y:EV)(p:R)(q:R):R:=Kk g (bin TT f t) x y fun v=>ifE v p q
def A6q(x:EV)(p:R)(q:R):R:=cE Ajg .neq 35 x (.int .i64 0) p q
def K3(x:EV)(k:EV->R):R:=Kk A0i (bin TT .add 3) x (.int .i64 1) k
def Baq(x:EV)(y:EV)(k:EV->R):R:=Kk A0i (bin TT .add 3) x y k
def Bg2(x:EV)(y:EV)(k:EV->R):R:=Kk A9x (bin TT .sub 3) x y k
def A4a(x:EV)(y:EV)(k:EV->R):R:=Kk Bdy (bin TT .mul 3) x y k
def Auw(x:EV)(y:EV)(k:EV->R):R:=Kk Ky (bin TT .lss 3) x y k
def Awx(x:EV)(y:EV)(k:EV->R):R:=Kk Bak (bin TT .leq 3) x y k
def Auk(x:EV)(y:EV)(k:EV->R):R:=Kk A62 (bin TT .gtr 3) x y k
def A7e(x:EV)(y:EV)(k:EV->R):R:=Kk A9e (bin TT .geq 3) x y k
def A8k(x:EV)(y:EV)(k:EV->R):R:=Kk Al0 (bin TT .eql 3) x y k
def Ayf(x:EV)(y:EV)(k:EV->R):R:=Kk Ajg (bin TT .neq 3) x y k
abbrev Zi:Prop:=
 (∀(g:IG) (f:BinOp) (t:Nat) (x:EV) (y:EV) (p:R) (q:R),cE g f t x y p q=Kk g (bin TT f t) x y fun v=>ifE v p q) /\
 (∀(x:EV) (p:R) (q:R),A6q x p q=cE Ajg .neq 35 x (.int .i64 0) p q) /\
 (∀(x:EV) (k:EV->R),K3 x k=Kk A0i (bin TT .add 3) x (.int .i64 1) k) /\
 (∀(x:EV) (y:EV) (k:EV->R),Baq x y k=Kk A0i (bin TT .add 3) x y k) /\
 (∀(x:EV) (y:EV) (k:EV->R),Bg2 x y k=Kk A9x (bin TT .sub 3) x y k) /\
 (∀(x:EV) (y:EV) (k:EV->R),A4a x y k=Kk Bdy (bin TT .mul 3) x y k) /\
 (∀(x:EV) (y:EV) (k:EV->R),Auw x y k=Kk Ky (bin TT .lss 3) x y k) /\
 (∀(x:EV) (y:EV) (k:EV->R),Awx x y k=Kk Bak (bin TT .leq 3) x y k) /\
 (∀(x:EV) (y:EV) (k:EV->R),Auk x y k=Kk A62 (bin TT .gtr 3) x y k) /\
 (∀(x:EV) (y:EV) (k:EV->R),A7e x y k=Kk A9e (bin TT .geq 3) x y k) /\
 (∀(x:EV) (y:EV) (k:EV->R),A8k x y k=Kk Al0 (bin TT .eql 3) x y k) /\
 (∀(x:EV) (y:EV) (k:EV->R),Ayf x y k=Kk Ajg (bin TT .neq 3) x y k)
abbrev Zs:Prop:=
 (∀(c:Nat) (v:EV) (h:Aa) (k:EV->R),oE c v h k=Aht c v fun v=>Ez v h k) /\
 (∀(c:Nat) (v:EV) (h:Aa) (k:EV->R),fE c v h k=Arw v fun v=>oE c v h k) /\
 (∀(c:Nat) (v:EV) (k:EV->R),noE c v k=Arw v fun v=>Aht c v k) /\
 (∀(c:Nat) (i:Nat) (b:Nat) (base:Nat) (v:EV) (s:DX) (h:Aa) (kd:DX->EV->R),olE c i b base v s h kd=Aht c v fun v=>Ov i b base v s fun s=>Ez v h (kd s)) /\
 (∀(c:Nat) (i:Nat) (b:Nat) (base:Nat) (v:EV) (s:DX) (h:Aa) (kd:DX->EV->R),Aq4 c i b base v s h kd=Arw v fun v=>olE c i b base v s h kd) /\
 (∀(n:Nat) (v:EV) (w:EV) (h:Aa) (k:EV->R),A6d n v w h k=Aac n v w fun v=>Ez v h k) /\
 (∀(n:Nat) (l:List EV) (t:Nat) (x:EV) (h:Aa) (kh:EV->Aa->R),nsE n l t x h kh=Aun (.cells l t) h fun v h=>stE n v x h (kh v)) /\
 (∀(v:EV) (kk:EV->EV->R),x2E v kk=Ap4 0 v fun a=>Ap4 1 v (kk a)) /\
 (∀(x:EV) (y:EV) (k:EV->R),pkA x y k=Aqg x y (.bool false) k) /\
 (∀(x:EV) (y:EV) (k:EV->R),pkO x y k=Aqg x (.bool true) y k) /\
 (∀(v:EV) (p:R) (q:R),wtE v p q=Ba (Fa v true) p q) /\
 (∀(v:EV) (p:R) (q:R),wfE v p q=Ba (Fa v false) p q) /\
 (∀(v:EV) (h:Aa) (ds:List Nat),uwE v h ds=Fp ds h fun h=>some (v,h))
theorem dzi:Zi:=by refine⟨?_,?_,?_,?_,?_,?_,?_,?_,?_,?_,?_,?_⟩<;>intros<;>rfl
theorem dz:Zs:=by refine⟨?_,?_,?_,?_,?_,?_,?_,?_,?_,?_,?_,?_,?_⟩<;>intros<;>rfl
theorem dq:Zs/\Zi:=⟨dz,dzi⟩
section
variable {c:Nat}{i:Nat}{b:Nat}{base:Nat}{n:Nat}{t:Nat}{v:EV}{w:EV}{x:EV}{y:EV}{s:DX}{h:Aa}{k:EV->R}{p:R}{q:R}{kd:DX->EV->R}{kh:EV->Aa->R}{kk:EV->EV->R}{g:IG}{f:BinOp}{l:List EV}{ds:List Nat}{v' w' x' y':EV}{l':List EV}
@[congr] theorem oE.cg(e0:v=v'):oE c v h k=oE c v' h k:=by rw[e0]
@[congr] theorem fE.cg(e0:v=v'):fE c v h k=fE c v' h k:=by rw[e0]
@[congr] theorem noE.cg(e0:v=v'):noE c v k=noE c v' k:=by rw[e0]
@[congr] theorem olE.cg(e0:v=v'):olE c i b base v s h kd=olE c i b base v' s h kd:=by rw[e0]
@[congr] theorem Aq4.cg(e0:v=v'):Aq4 c i b base v s h kd=Aq4 c i b base v' s h kd:=by rw[e0]
@[congr] theorem A6d.cg(e0:v=v')(e1:w=w'):A6d n v w h k=A6d n v' w' h k:=by rw[e0,e1]
@[congr] theorem nsE.cg(e0:x=x')(e1:l=l'):nsE n l t x h kh=nsE n l' t x' h kh:=by rw[e0,e1]
@[congr] theorem x2E.cg(e0:v=v'):x2E v kk=x2E v' kk:=by rw[e0]
@[congr] theorem pkA.cg(e0:x=x'):pkA x y k=pkA x' y k:=by rw[e0]
@[congr] theorem pkO.cg(e0:x=x'):pkO x y k=pkO x' y k:=by rw[e0]
@[congr] theorem wtE.cg(e0:v=v'):wtE v p q=wtE v' p q:=by rw[e0]
@[congr] theorem wfE.cg(e0:v=v'):wfE v p q=wfE v' p q:=by rw[e0]
@[congr] theorem cE.cg(e0:x=x')(e1:y=y'):cE g f t x y p q=cE g f t x' y' p q:=by rw[e0,e1]
@[congr] theorem A6q.cg(e0:x=x'):A6q x p q=A6q x' p q:=by rw[e0]
@[congr] theorem K3.cg(e0:x=x'):K3 x k=K3 x' k:=by rw[e0]
@[congr] theorem Baq.cg(e0:x=x')(e1:y=y'):Baq x y k=Baq x' y' k:=by rw[e0,e1]
@[congr] theorem Bg2.cg(e0:x=x')(e1:y=y'):Bg2 x y k=Bg2 x' y' k:=by rw[e0,e1]
@[congr] theorem A4a.cg(e0:x=x')(e1:y=y'):A4a x y k=A4a x' y' k:=by rw[e0,e1]
@[congr] theorem Auw.cg(e0:x=x')(e1:y=y'):Auw x y k=Auw x' y' k:=by rw[e0,e1]
@[congr] theorem Awx.cg(e0:x=x')(e1:y=y'):Awx x y k=Awx x' y' k:=by rw[e0,e1]
@[congr] theorem Auk.cg(e0:x=x')(e1:y=y'):Auk x y k=Auk x' y' k:=by rw[e0,e1]
@[congr] theorem A7e.cg(e0:x=x')(e1:y=y'):A7e x y k=A7e x' y' k:=by rw[e0,e1]
@[congr] theorem A8k.cg(e0:x=x')(e1:y=y'):A8k x y k=A8k x' y' k:=by rw[e0,e1]
@[congr] theorem Ayf.cg(e0:x=x')(e1:y=y'):Ayf x y k=Ayf x' y' k:=by rw[e0,e1]
end
end
noncomputable section
abbrev NM:=List EV->Aa->R
abbrev UM:=List EV->(EV->R)->R
def cl0(F:Aa->R):NM:=fun x h=>match x with | []=>F h|_=>none
def Es(F:EV->Aa->R):NM:=fun x h=>match x with | [a]=>F a h|_=>none
def El(F:EV->EV->Aa->R):NM:=fun x h=>match x with | [a,b]=>F a b h|_=>none
def K7(F:EV->EV->EV->Aa->R):NM:=fun x h=>match x with | [a,b,c]=>F a b c h|_=>none
def Vp(F:EV->EV->EV->EV->Aa->R):NM:=fun x h=>match x with | [a,b,c,d]=>F a b c d h|_=>none
def cl5(F:EV->EV->EV->EV->EV->Aa->R):NM:=fun x h=>match x with | [a,b,c,d,e]=>F a b c d e h|_=>none
def cl6(F:EV->EV->EV->EV->EV->EV->Aa->R):NM:=fun x h=>match x with | [a,b,c,d,e,f]=>F a b c d e f h|_=>none
def cl7(F:EV->EV->EV->EV->EV->EV->EV->Aa->R):NM:=fun x h=>match x with | [a,b,c,d,e,f,i]=>F a b c d e f i h|_=>none
def cl8(F:EV->EV->EV->EV->EV->EV->EV->EV->Aa->R):NM:=fun x h=>match x with | [a,b,c,d,e,f,i,j]=>F a b c d e f i j h|_=>none
def cl9(F:EV->EV->EV->EV->EV->EV->EV->EV->EV->Aa->R):NM:=fun x h=>match x with | [a,b,c,d,e,f,i,j,k]=>F a b c d e f i j k h|_=>none
def Bkv(F:EV->EV->EV->EV->EV->EV->EV->EV->EV->EV->Aa->R):NM:=fun x h=>match x with | [a,b,c,d,e,f,i,j,k,l]=>F a b c d e f i j k l h|_=>none
def Bol(F:EV->EV->EV->EV->EV->EV->EV->EV->EV->EV->EV->Aa->R):NM:=fun x h=>match x with | [a,b,c,d,e,f,i,j,k,l,m]=>F a b c d e f i j k l m h|_=>none
def Bg6(F:EV->EV->EV->EV->EV->EV->EV->EV->EV->EV->EV->EV->Aa->R):NM:=fun x h=>match x with | [a,b,c,d,e,f,i,j,k,l,m,n]=>F a b c d e f i j k l m n h|_=>none
def cu0(F:(EV->R)->R):UM:=fun x k=>match x with | []=>F k|_=>none
def cu1(F:EV->(EV->R)->R):UM:=fun x k=>match x with | [a]=>F a k|_=>none
def cu2(F:EV->EV->(EV->R)->R):UM:=fun x k=>match x with | [a,b]=>F a b k|_=>none
def cu3(F:EV->EV->EV->(EV->R)->R):UM:=fun x k=>match x with | [a,b,c]=>F a b c k|_=>none
def cu4(F:EV->EV->EV->EV->(EV->R)->R):UM:=fun x k=>match x with | [a,b,c,d]=>F a b c d k|_=>none
def cu5(F:EV->EV->EV->EV->EV->(EV->R)->R):UM:=fun x k=>match x with | [a,b,c,d,e]=>F a b c d e k|_=>none
def cu6(F:EV->EV->EV->EV->EV->EV->(EV->R)->R):UM:=fun x k=>match x with | [a,b,c,d,e,f]=>F a b c d e f k|_=>none
def nth(d:α):List α->Nat->α
 | [],_=>d
 | a::_,0=>a
 | _::r,n+1=>nth d r n
def kc:List EV:=[(.int .i64 0),(.int .i64 1),tU,(.int .i64 2),(.bool false),(.bool true),(.int .i64 3),.Ga,(.int .i64 5),(.int .i64 7),(.int .u8 0),.Ao,(.int .i64 4),(.int .i64 8),(.int .i64 10),(.int .i64 11),(.int .i64 12),(.int .i64 13),(.int .i64 14),(.int .i64 15),(.int .i64 16),(.int .i64 17),(.int .i64 18),(.int .i64 20),(.int .i64 30),(.int .i64 31),(.int .i64 32),(.int .i64 33),(.int .i64 34),(.int .i64 40),(.int .i64 41),(.int .i64 42),(.int .i64 43),(.int .i64 44),(.int .i64 48),(.int .i64 64)]
def tk:Nat->Nat->List Nat
 | 0,_=>[]
 | f+1,n=>if n=1 then[]else if n%16=14 then(n/16%256+14)::tk f (n/4096)else if n%16=15 then(n/256%16^(n/16%16))::tk f (n/256/16^(n/16%16))else n%16::tk f (n/16)
def rT:List Nat->(Nat->List Nat->R)->R
 | t::n,k=>k t n
 | [],_=>none
def rW(C e:List EV)(k:EV->List Nat->R):Nat->List Nat->R
 | 0,n=>rT n fun i n=>k (nth tU kc i) n
 | 1,n=>rT n fun i n=>k (nth tU C i) n
 | x+2,n=>k (nth tU e x) n
def rV(C e:List EV)(n:List Nat)(k:EV->List Nat->R):R:=rT n fun q n=>rW C e k q n
def rL(C e:List EV):Nat->List Nat->(List EV->List Nat->R)->R
 | 0,n,k=>k [] n
 | m+1,n,k=>rV C e n fun v n=>rL C e m n fun l n=>k (v::l) n
def rR(C e:List EV):Nat->List Nat->(List RV->R)->R
 | 0,_,k=>k []
 | m+1,n,k=>rT n fun q n=>rV C e n fun v n=>nth none [rR C e m n fun l=>k (.v v::l),rT n fun t n=>rR C e m n fun l=>k (.c v t::l)] q
def rC(N:List NM)(C e:List EV)(n:List Nat)(k:(Aa->R)->List Nat->R):R:=rT n fun j n=>rT n fun m n=>rL C e m n fun l n=>k (nth (fun _ _=>none) N j l) n
def gOf(n:Nat)(k:IG->BinOp->R):R:=nth none [k A0i .add,k A9x .sub,k Bdy .mul,k Ky .lss,k Bak .leq,k A62 .gtr,k A9e .geq,k Al0 .eql,k Ajg .neq] n
def bOf(n:Nat):BinOp:=nth .shr [.quo,.rem,.and,.or,.xor,.shl,.shr] n
def dk(N:List NM)(U:List UM)(Z:List (List EV))(C:List EV):Nat->List Nat->Nat->DX->List EV->Aa->R
 | f+1,q::n,base,s,e,h=>nth (fun _=>none) [
 fun n=>rC N C e n fun c _=>c h,
 fun n=>rC N C e n fun c n=>Ap (c h) fun v h=>dk N U Z C f n base s (v::e) h,
 fun n=>rV C e n fun v _=>some (v,h),
 fun n=>rT n fun p0 n=>rV C e n fun p1 n=>fE p0 p1 h fun v=>dk N U Z C f n base s (v::e) h,
 fun n=>rT n fun p0 n=>rV C e n fun p1 n=>oE p0 p1 h fun v=>dk N U Z C f n base s (v::e) h,
 fun n=>rT n fun p0 n=>rV C e n fun p1 n=>Ox p0 p1 h fun v=>dk N U Z C f n base s (v::e) h,
 fun n=>rT n fun p0 n=>rV C e n fun p1 n=>rV C e n fun a n=>stE p0 p1 a h fun h=>dk N U Z C f n base s e h,
 fun n=>rT n fun i n=>rT n fun b n=>rC N C e n fun c n=>L6 i b s h (fun h=>c h) fun v h s=>dk N U Z C f n base s (v::e) h,
 fun n=>rV C e n fun p0 n=>rT n fun L n=>ifE p0 (dk N U Z C f n base s e h) (dk N U Z C f (n.drop L) base s e h),
 fun n=>rT n fun p0 n=>rV C e n fun p1 n=>Sh p0 p1 h fun v h=>dk N U Z C f n base s (v::e) h,
 fun n=>rV C e n fun p0 n=>rT n fun L n=>wtE p0 (dk N U Z C f n base s e h) (dk N U Z C f (n.drop L) base s e h),
 fun n=>rT n fun p0 n=>rT n fun p1 n=>rV C e n fun a n=>Ov p0 p1 base a s fun s=>dk N U Z C f n base s e h,
 fun n=>rT n fun p0 n=>rV C e n fun p1 n=>noE p0 p1 fun v=>dk N U Z C f n base s (v::e) h,
 fun n=>rV C e n fun p0 n=>rT n fun L n=>wfE p0 (dk N U Z C f n base s e h) (dk N U Z C f (n.drop L) base s e h),
 fun n=>rT n fun m n=>rL C e m n fun l _=>some (.tuple l,h),
 fun n=>rT n fun g n=>rT n fun t n=>rV C e n fun x n=>rV C e n fun y n=>rT n fun L n=>gOf g fun g o=>cE g o t x y (dk N U Z C f n base s e h) (dk N U Z C f (n.drop L) base s e h),
 fun n=>rT n fun g n=>rT n fun t n=>rV C e n fun x n=>rV C e n fun y n=>gOf g fun g o=>Kk g (bin TT o t) x y fun v=>dk N U Z C f n base s (v::e) h,
 fun n=>rT n fun g n=>rT n fun t n=>rV C e n fun x n=>rV C e n fun y n=>Afi (bin TT (bOf g) t) x y fun v=>dk N U Z C f n base s (v::e) h,
 fun n=>rT n fun m n=>rR C e m n fun l=>It TT l h,
 fun n=>rT n fun t n=>rT n fun z n=>Aun (.cells (nth [] Z z) t) h fun v h=>dk N U Z C f n base s (v::e) h,
 fun n=>rT n fun m n=>rT n fun z n=>rT n fun t n=>rV C e n fun x n=>nsE m (nth [] Z z) t x h fun v h=>dk N U Z C f n base s (v::e) h,
 fun n=>rT n fun j n=>rT n fun m n=>rL C e m n fun l n=>nth (fun _ _=>none) U j l fun v=>dk N U Z C f n base s (v::e) h,
 fun n=>none,
 fun n=>rV C e n fun p0 n=>rV C e n fun p1 n=>pkO p0 p1 fun v=>dk N U Z C f n base s (v::e) h,
 fun n=>rV C e n fun p0 n=>K3 p0 fun v=>dk N U Z C f n base s (v::e) h,
 fun n=>rV C e n fun p0 n=>rV C e n fun p1 n=>pkA p0 p1 fun v=>dk N U Z C f n base s (v::e) h,
 fun n=>rV C e n fun p0 n=>x2E p0 fun v w=>dk N U Z C f n base s (w::v::e) h,
 fun n=>rV C e n fun p0 n=>Ez p0 h fun v=>dk N U Z C f n base s (v::e) h,
 fun n=>Aaa h fun base s=>dk N U Z C f n base s e h,
 fun n=>rV C e n fun p0 n=>An0 p0 fun v=>dk N U Z C f n base s (v::e) h,
 fun n=>rT n fun p0 n=>rT n fun p1 n=>rT n fun a n=>rV C e n fun d n=>olE p0 p1 a base d s h fun s v=>dk N U Z C f n base s (v::e) h,
 fun n=>rT n fun p0 n=>rT n fun p1 n=>rT n fun a n=>rV C e n fun d n=>Aq4 p0 p1 a base d s h fun s v=>dk N U Z C f n base s (v::e) h,
 fun n=>rV C e n fun p0 n=>rT n fun L n=>A6q p0 (dk N U Z C f n base s e h) (dk N U Z C f (n.drop L) base s e h),
 fun n=>rV C e n fun p0 n=>H5 p0 fun v=>dk N U Z C f n base s (v::e) h,
 fun n=>rT n fun p0 n=>rV C e n fun p1 n=>Aht p0 p1 fun v=>dk N U Z C f n base s (v::e) h,
 fun n=>rT n fun p0 n=>rV C e n fun p1 n=>rV C e n fun a n=>Aac p0 p1 a fun v=>dk N U Z C f n base s (v::e) h,
 fun n=>rT n fun p0 n=>rV C e n fun p1 n=>rV C e n fun a n=>A6d p0 p1 a h fun v=>dk N U Z C f n base s (v::e) h,
 fun n=>rT n fun p0 n=>rT n fun p1 n=>rV C e n fun a n=>Bfn p0 p1 a s fun s=>dk N U Z C f n base s e h,
 fun n=>rT n fun p0 n=>A9w p0 h s fun s=>dk N U Z C f n base s e h,
 fun n=>rT n fun p0 n=>rT n fun p1 n=>rV C e n fun a n=>rV C e n fun d n=>Auo p0 p1 a d fun v=>dk N U Z C f n base s (v::e) h,
 fun n=>rT n fun p0 n=>rV C e n fun p1 n=>Ap4 p0 p1 fun v=>dk N U Z C f n base s (v::e) h,
 fun n=>rV C e n fun p0 n=>Arw p0 fun v=>dk N U Z C f n base s (v::e) h,
 fun n=>rV C e n fun p0 n=>A8q p0 fun v=>dk N U Z C f n base s (v::e) h,
 fun n=>rV C e n fun p0 n=>rV C e n fun p1 n=>Baq p0 p1 fun v=>dk N U Z C f n base s (v::e) h,
 fun n=>rV C e n fun p0 n=>rV C e n fun p1 n=>Bg2 p0 p1 fun v=>dk N U Z C f n base s (v::e) h,
 fun n=>rV C e n fun p0 n=>rV C e n fun p1 n=>A4a p0 p1 fun v=>dk N U Z C f n base s (v::e) h,
 fun n=>rV C e n fun p0 n=>rV C e n fun p1 n=>Auw p0 p1 fun v=>dk N U Z C f n base s (v::e) h,
 fun n=>rV C e n fun p0 n=>rV C e n fun p1 n=>Awx p0 p1 fun v=>dk N U Z C f n base s (v::e) h,
 fun n=>rV C e n fun p0 n=>rV C e n fun p1 n=>Auk p0 p1 fun v=>dk N U Z C f n base s (v::e) h,
 fun n=>rV C e n fun p0 n=>rV C e n fun p1 n=>A7e p0 p1 fun v=>dk N U Z C f n base s (v::e) h,
 fun n=>rV C e n fun p0 n=>rV C e n fun p1 n=>A8k p0 p1 fun v=>dk N U Z C f n base s (v::e) h,
 fun n=>rV C e n fun p0 n=>rV C e n fun p1 n=>Ayf p0 p1 fun v=>dk N U Z C f n base s (v::e) h,
 fun n=>rT n fun p0 n=>rV C e n fun p1 n=>Ay0 p0 p1 fun v=>dk N U Z C f n base s (v::e) h] q n
 | _,_,_,_,_,_=>none
def s0:DX:=⟨0,[],[],[],[]⟩
inductive Nf:R->R->Prop where
 | mk (x:R):Nf x x
structure Dm(x y:R):Prop where
structure Sg(n:Nat)(e:List EV)(h:Aa)(N:List NM:=[])(U:List UM:=[])(Z:List (List EV):=[])(C:List EV:=[]) where mk ::
 {t:List Nat}
 {F:R}
 (p:tk 900 n=t:=by
  simp only[tk,↓reduceIte,Nat.reduceMod,Nat.reduceDiv,Nat.reduceEqDiff,Nat.reduceAdd,Nat.reducePow]
  first|done|rfl)
 (q:Dm (dk N U Z C 300 t 0 s0 e h) F:=by
  refine' (?f:∀x y,Nf x y->Dm x y) _ _ ?m
  case m=>
   dsimp only[dk,rT,rW,rV,rL,rR,rC,nth,kc,gOf,bOf,List.drop,cl0,Es,El,K7,Vp,cl5,cl6,cl7,cl8,cl9,Bkv,Bol,Bg6,cu0,cu1,cu2,cu3,cu4,cu5,cu6];exact .mk _
  case f=>
   intros;exact⟨⟩)
theorem dr:Zs/\Zi:=⟨dz,dzi⟩
end
end Go.Ev
