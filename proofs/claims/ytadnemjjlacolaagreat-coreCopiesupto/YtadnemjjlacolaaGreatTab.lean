import Derived.Test.YtadnemjjlacolaaGreatProg
import Derived.Test.YtadnemjjlacolaaGreatEvSix
set_option linter.all false
namespace Go.Ev
open Go.Proofs
variable {α:Type}
noncomputable def fn2:Tr Func:=G3 Tryz.prog.funcs.toList 0 .nil
noncomputable def ty2:Tr TypeInfo:=G3 Tryz.prog.types.toList 0 .nil
def Bvq:List (Nat × List Nat):=[(227,List.replicate 2 0),(52,List.replicate 2 0),(23,List.replicate 6 0),(47,List.replicate 6 0),(49,List.replicate 32 0),(165,List.replicate 44 0),(167,List.replicate 49 0),(96,List.replicate 256 0),(69,List.replicate 3 0)]
noncomputable def TT:Kh:=Bip fn2 ty2 Bvq [227,52]
noncomputable abbrev TP:Program:=Tryz.prog
theorem Bo6:Tryz.prog.follows .mixedOrders=true:=by kernel_rfl
theorem Bnc:(Tryz.prog.funcs.toList.all fun f=>!(f.name == "runtime.NumGoroutine"))=true:=by kernel_rfl
theorem Br8:(Bvq.all fun x=>decide (flat Tryz.prog 6 x.1=some x.2)&&isA Tryz.prog x.1&&!(Tryz.prog.eqGuardType Tryz.prog.depth x.1))=true:=by kernel_rfl
theorem Bu8:Api Tryz.prog 227=true:=by kernel_rfl
theorem Bs5:A4t Tryz.prog 52=true:=by kernel_rfl
theorem A2k:Uf TP TT:=Bmz Bo6 Bnc (fun x d=>by
 have:=dM.1 Br8 x d;simp only[aR,aQ,Bool.not_eq_true']at this;exact⟨this.1.1,this.1.2,this.2⟩) (fun t a=>by
 rcases bU.1 a with rfl|a
 ·exact .inl Bu8
 ·rw[aO]at a;subst a;exact .inr Bs5)
noncomputable def Bu5(g:Nat):Bool:=Bf (Nat.beq g 39) false (Bf (Nat.beq g 11) false (Bf (Nat.beq g 51) false (Bf (Nat.beq g 103) false true)))
noncomputable section
abbrev Ru {α:Type}(_:α)(β:Type):Type:=β
abbrev A0:=Ab->R
abbrev B0:=Ax->Ab->List Nat->R
abbrev A1:=EV->Ab->R
abbrev B1:=Ax->EV->Ab->List Nat->R
abbrev A2:=EV->EV->Ab->R
abbrev B2:=Ax->EV->EV->Ab->List Nat->R
abbrev A3:=EV->EV->EV->Ab->R
abbrev B3:=Ax->EV->EV->EV->Ab->List Nat->R
abbrev A4:=EV->EV->EV->EV->Ab->R
abbrev B4:=Ax->EV->EV->EV->EV->Ab->List Nat->R
abbrev A5:=EV->EV->EV->EV->EV->Ab->R
abbrev B5:=Ax->EV->EV->EV->EV->EV->Ab->List Nat->R
abbrev A6:=EV->EV->EV->EV->EV->EV->Ab->R
abbrev B6:=Ax->EV->EV->EV->EV->EV->EV->Ab->List Nat->R
abbrev A7:=EV->EV->EV->EV->EV->EV->EV->Ab->R
abbrev B7:=Ax->EV->EV->EV->EV->EV->EV->EV->Ab->List Nat->R
abbrev A8:=EV->EV->EV->EV->EV->EV->EV->EV->Ab->R
abbrev B8:=Ax->EV->EV->EV->EV->EV->EV->EV->EV->Ab->List Nat->R
abbrev A9:=EV->EV->EV->EV->EV->EV->EV->EV->EV->Ab->R
abbrev B9:=Ax->EV->EV->EV->EV->EV->EV->EV->EV->EV->Ab->List Nat->R
abbrev A10:=EV->EV->EV->EV->EV->EV->EV->EV->EV->EV->Ab->R
abbrev B10:=Ax->EV->EV->EV->EV->EV->EV->EV->EV->EV->EV->Ab->List Nat->R
abbrev A11:=EV->EV->EV->EV->EV->EV->EV->EV->EV->EV->EV->Ab->R
abbrev B11:=Ax->EV->EV->EV->EV->EV->EV->EV->EV->EV->EV->EV->Ab->List Nat->R
abbrev A12:=EV->EV->EV->EV->EV->EV->EV->EV->EV->EV->EV->EV->Ab->R
abbrev B12:=Ax->EV->EV->EV->EV->EV->EV->EV->EV->EV->EV->EV->EV->Ab->List Nat->R
abbrev tU:EV:=.tuple []
def oE(c:Nat)(v:EV)(h:Ab)(k:EV->R):R:=Alc c v fun v=>Fm v h k
def fE(c:Nat)(v:EV)(h:Ab)(k:EV->R):R:=Axv v fun v=>oE c v h k
def noE(c:Nat)(v:EV)(k:EV->R):R:=Axv v fun v=>Alc c v k
def olE(c:Nat)(i:Nat)(b:Nat)(base:Nat)(v:EV)(s:DX)(h:Ab)(kd:DX->EV->R):R:=Alc c v fun v=>P8 i b base v s fun s=>Fm v h (kd s)
def Ax8(c:Nat)(i:Nat)(b:Nat)(base:Nat)(v:EV)(s:DX)(h:Ab)(kd:DX->EV->R):R:=Axv v fun v=>olE c i b base v s h kd
def Bbx(n:Nat)(v:EV)(w:EV)(h:Ab)(k:EV->R):R:=Z8 n v w fun v=>Fm v h k
def nsE(n:Nat)(l:List EV)(t:Nat)(x:EV)(h:Ab)(kh:EV->Ab->R):R:=Avo (.cells l t) h fun v h=>stE n v x h (kh v)
def x2E(v:EV)(kk:EV->EV->R):R:=Aso 0 v fun a=>Aso 1 v (kk a)
def pkA(x:EV)(y:EV)(k:EV->R):R:=Awc x y (.bool false) k
def pkO(x:EV)(y:EV)(k:EV->R):R:=Awc x (.bool true) y k
def wtE(v:EV)(p:R)(q:R):R:=Bf (Cg v true) p q
def wfE(v:EV)(p:R)(q:R):R:=Bf (Cg v false) p q
def uwE(v:EV)(h:Ab)(ds:List Nat):R:=E1 ds h fun h=>some (v,h)
def cE(g:IG)(f:BinOp)(t:Nat)(x:EV)(y:EV)(p:R)(q:R):R:=Kl g (bin TT f t) x y fun v=>ifE v p q
def Bbz(x:EV)(p:R)(q:R):R:=cE Alb .neq 35 x (.int .i64 0) p q
def Iz(x:EV)(k:EV->R):R:=Kl A6b (bin TT .add 3) x (.int .i64 1) k
def A8q(x:EV)(y:EV)(k:EV->R):R:=Kl A6b (bin TT .add 3) x y k
def Bn9(x:EV)(y:EV)(k:EV->R):R:=Kl Bgm (bin TT .sub 3) x y k
def A93(x:EV)(y:EV)(k:EV->R):R:=Kl Bl2 (bin TT .mul 3) x y k
def Axi(x:EV)(y:EV)(k:EV->R):R:=Kl Iq (bin TT .lss 3) x y k
def A28(x:EV)(y:EV)(k:EV->R):R:=Kl Bf7 (bin TT .leq 3) x y k
def Azw(x:EV)(y:EV)(k:EV->R):R:=Kl Beh (bin TT .gtr 3) x y k
def Bc5(x:EV)(y:EV)(k:EV->R):R:=Kl Bfp (bin TT .geq 3) x y k
def Bcl(x:EV)(y:EV)(k:EV->R):R:=Kl An2 (bin TT .eql 3) x y k
def A3x(x:EV)(y:EV)(k:EV->R):R:=Kl Alb (bin TT .neq 3) x y k
abbrev Zi:Prop:=
 (∀(g:IG) (f:BinOp) (t:Nat) (x:EV) (y:EV) (p:R) (q:R),cE g f t x y p q=Kl g (bin TT f t) x y fun v=>ifE v p q) /\
 (∀(x:EV) (p:R) (q:R),Bbz x p q=cE Alb .neq 35 x (.int .i64 0) p q) /\
 (∀(x:EV) (k:EV->R),Iz x k=Kl A6b (bin TT .add 3) x (.int .i64 1) k) /\
 (∀(x:EV) (y:EV) (k:EV->R),A8q x y k=Kl A6b (bin TT .add 3) x y k) /\
 (∀(x:EV) (y:EV) (k:EV->R),Bn9 x y k=Kl Bgm (bin TT .sub 3) x y k) /\
 (∀(x:EV) (y:EV) (k:EV->R),A93 x y k=Kl Bl2 (bin TT .mul 3) x y k) /\
 (∀(x:EV) (y:EV) (k:EV->R),Axi x y k=Kl Iq (bin TT .lss 3) x y k) /\
 (∀(x:EV) (y:EV) (k:EV->R),A28 x y k=Kl Bf7 (bin TT .leq 3) x y k) /\
 (∀(x:EV) (y:EV) (k:EV->R),Azw x y k=Kl Beh (bin TT .gtr 3) x y k) /\
 (∀(x:EV) (y:EV) (k:EV->R),Bc5 x y k=Kl Bfp (bin TT .geq 3) x y k) /\
 (∀(x:EV) (y:EV) (k:EV->R),Bcl x y k=Kl An2 (bin TT .eql 3) x y k) /\
 (∀(x:EV) (y:EV) (k:EV->R),A3x x y k=Kl Alb (bin TT .neq 3) x y k)
abbrev Zs:Prop:=
 (∀(c:Nat) (v:EV) (h:Ab) (k:EV->R),oE c v h k=Alc c v fun v=>Fm v h k) /\
 (∀(c:Nat) (v:EV) (h:Ab) (k:EV->R),fE c v h k=Axv v fun v=>oE c v h k) /\
 (∀(c:Nat) (v:EV) (k:EV->R),noE c v k=Axv v fun v=>Alc c v k) /\
 (∀(c:Nat) (i:Nat) (b:Nat) (base:Nat) (v:EV) (s:DX) (h:Ab) (kd:DX->EV->R),olE c i b base v s h kd=Alc c v fun v=>P8 i b base v s fun s=>Fm v h (kd s)) /\
 (∀(c:Nat) (i:Nat) (b:Nat) (base:Nat) (v:EV) (s:DX) (h:Ab) (kd:DX->EV->R),Ax8 c i b base v s h kd=Axv v fun v=>olE c i b base v s h kd) /\
 (∀(n:Nat) (v:EV) (w:EV) (h:Ab) (k:EV->R),Bbx n v w h k=Z8 n v w fun v=>Fm v h k) /\
 (∀(n:Nat) (l:List EV) (t:Nat) (x:EV) (h:Ab) (kh:EV->Ab->R),nsE n l t x h kh=Avo (.cells l t) h fun v h=>stE n v x h (kh v)) /\
 (∀(v:EV) (kk:EV->EV->R),x2E v kk=Aso 0 v fun a=>Aso 1 v (kk a)) /\
 (∀(x:EV) (y:EV) (k:EV->R),pkA x y k=Awc x y (.bool false) k) /\
 (∀(x:EV) (y:EV) (k:EV->R),pkO x y k=Awc x (.bool true) y k) /\
 (∀(v:EV) (p:R) (q:R),wtE v p q=Bf (Cg v true) p q) /\
 (∀(v:EV) (p:R) (q:R),wfE v p q=Bf (Cg v false) p q) /\
 (∀(v:EV) (h:Ab) (ds:List Nat),uwE v h ds=E1 ds h fun h=>some (v,h))
theorem dzi:Zi:=by refine⟨?_,?_,?_,?_,?_,?_,?_,?_,?_,?_,?_,?_⟩<;>intros<;>rfl
theorem dz:Zs:=by refine⟨?_,?_,?_,?_,?_,?_,?_,?_,?_,?_,?_,?_,?_⟩<;>intros<;>rfl
theorem dq:Zs/\Zi:=⟨dz,dzi⟩
section
variable {c:Nat}{i:Nat}{b:Nat}{base:Nat}{n:Nat}{t:Nat}{v:EV}{w:EV}{x:EV}{y:EV}{s:DX}{h:Ab}{k:EV->R}{p:R}{q:R}{kd:DX->EV->R}{kh:EV->Ab->R}{kk:EV->EV->R}{g:IG}{f:BinOp}{l:List EV}{ds:List Nat}{v' w' x' y':EV}{l':List EV}
@[congr] theorem oE.cg(e0:v=v'):oE c v h k=oE c v' h k:=by rw[e0]
@[congr] theorem fE.cg(e0:v=v'):fE c v h k=fE c v' h k:=by rw[e0]
@[congr] theorem noE.cg(e0:v=v'):noE c v k=noE c v' k:=by rw[e0]
@[congr] theorem olE.cg(e0:v=v'):olE c i b base v s h kd=olE c i b base v' s h kd:=by rw[e0]
@[congr] theorem Ax8.cg(e0:v=v'):Ax8 c i b base v s h kd=Ax8 c i b base v' s h kd:=by rw[e0]
@[congr] theorem Bbx.cg(e0:v=v')(e1:w=w'):Bbx n v w h k=Bbx n v' w' h k:=by rw[e0,e1]
@[congr] theorem nsE.cg(e0:x=x')(e1:l=l'):nsE n l t x h kh=nsE n l' t x' h kh:=by rw[e0,e1]
@[congr] theorem x2E.cg(e0:v=v'):x2E v kk=x2E v' kk:=by rw[e0]
@[congr] theorem pkA.cg(e0:x=x'):pkA x y k=pkA x' y k:=by rw[e0]
@[congr] theorem pkO.cg(e0:x=x'):pkO x y k=pkO x' y k:=by rw[e0]
@[congr] theorem wtE.cg(e0:v=v'):wtE v p q=wtE v' p q:=by rw[e0]
@[congr] theorem wfE.cg(e0:v=v'):wfE v p q=wfE v' p q:=by rw[e0]
@[congr] theorem cE.cg(e0:x=x')(e1:y=y'):cE g f t x y p q=cE g f t x' y' p q:=by rw[e0,e1]
@[congr] theorem Bbz.cg(e0:x=x'):Bbz x p q=Bbz x' p q:=by rw[e0]
@[congr] theorem Iz.cg(e0:x=x'):Iz x k=Iz x' k:=by rw[e0]
@[congr] theorem A8q.cg(e0:x=x')(e1:y=y'):A8q x y k=A8q x' y' k:=by rw[e0,e1]
@[congr] theorem Bn9.cg(e0:x=x')(e1:y=y'):Bn9 x y k=Bn9 x' y' k:=by rw[e0,e1]
@[congr] theorem A93.cg(e0:x=x')(e1:y=y'):A93 x y k=A93 x' y' k:=by rw[e0,e1]
@[congr] theorem Axi.cg(e0:x=x')(e1:y=y'):Axi x y k=Axi x' y' k:=by rw[e0,e1]
@[congr] theorem A28.cg(e0:x=x')(e1:y=y'):A28 x y k=A28 x' y' k:=by rw[e0,e1]
@[congr] theorem Azw.cg(e0:x=x')(e1:y=y'):Azw x y k=Azw x' y' k:=by rw[e0,e1]
@[congr] theorem Bc5.cg(e0:x=x')(e1:y=y'):Bc5 x y k=Bc5 x' y' k:=by rw[e0,e1]
@[congr] theorem Bcl.cg(e0:x=x')(e1:y=y'):Bcl x y k=Bcl x' y' k:=by rw[e0,e1]
@[congr] theorem A3x.cg(e0:x=x')(e1:y=y'):A3x x y k=A3x x' y' k:=by rw[e0,e1]
end
end
noncomputable section
abbrev NM:=List EV->Ab->R
abbrev UM:=List EV->(EV->R)->R
def cl0(F:Ab->R):NM:=fun x h=>match x with | []=>F h|_=>none
def Ey(F:EV->Ab->R):NM:=fun x h=>match x with | [a]=>F a h|_=>none
def D5(F:EV->EV->Ab->R):NM:=fun x h=>match x with | [a,b]=>F a b h|_=>none
def Lz(F:EV->EV->EV->Ab->R):NM:=fun x h=>match x with | [a,b,c]=>F a b c h|_=>none
def Zc(F:EV->EV->EV->EV->Ab->R):NM:=fun x h=>match x with | [a,b,c,d]=>F a b c d h|_=>none
def cl5(F:EV->EV->EV->EV->EV->Ab->R):NM:=fun x h=>match x with | [a,b,c,d,e]=>F a b c d e h|_=>none
def cl6(F:EV->EV->EV->EV->EV->EV->Ab->R):NM:=fun x h=>match x with | [a,b,c,d,e,f]=>F a b c d e f h|_=>none
def cl7(F:EV->EV->EV->EV->EV->EV->EV->Ab->R):NM:=fun x h=>match x with | [a,b,c,d,e,f,i]=>F a b c d e f i h|_=>none
def cl8(F:EV->EV->EV->EV->EV->EV->EV->EV->Ab->R):NM:=fun x h=>match x with | [a,b,c,d,e,f,i,j]=>F a b c d e f i j h|_=>none
def cl9(F:EV->EV->EV->EV->EV->EV->EV->EV->EV->Ab->R):NM:=fun x h=>match x with | [a,b,c,d,e,f,i,j,k]=>F a b c d e f i j k h|_=>none
def Bk7(F:EV->EV->EV->EV->EV->EV->EV->EV->EV->EV->Ab->R):NM:=fun x h=>match x with | [a,b,c,d,e,f,i,j,k,l]=>F a b c d e f i j k l h|_=>none
def Bsw(F:EV->EV->EV->EV->EV->EV->EV->EV->EV->EV->EV->Ab->R):NM:=fun x h=>match x with | [a,b,c,d,e,f,i,j,k,l,m]=>F a b c d e f i j k l m h|_=>none
def Bwh(F:EV->EV->EV->EV->EV->EV->EV->EV->EV->EV->EV->EV->Ab->R):NM:=fun x h=>match x with | [a,b,c,d,e,f,i,j,k,l,m,n]=>F a b c d e f i j k l m n h|_=>none
def cu0(F:(EV->R)->R):UM:=fun x k=>match x with | []=>F k|_=>none
def cu1(F:EV->(EV->R)->R):UM:=fun x k=>match x with | [a]=>F a k|_=>none
def cu2(F:EV->EV->(EV->R)->R):UM:=fun x k=>match x with | [a,b]=>F a b k|_=>none
def cu3(F:EV->EV->EV->(EV->R)->R):UM:=fun x k=>match x with | [a,b,c]=>F a b c k|_=>none
def cu4(F:EV->EV->EV->EV->(EV->R)->R):UM:=fun x k=>match x with | [a,b,c,d]=>F a b c d k|_=>none
def cu5(F:EV->EV->EV->EV->EV->(EV->R)->R):UM:=fun x k=>match x with | [a,b,c,d,e]=>F a b c d e k|_=>none
def cu6(F:EV->EV->EV->EV->EV->EV->(EV->R)->R):UM:=fun x k=>match x with | [a,b,c,d,e,f]=>F a b c d e f k|_=>none
def nth(d:α):List α->Nat->α
 | [],_=>d
 | a::_,0=>a
 | _::r,n+1=>nth d r n
def kc:List EV:=[(.int .i64 0),(.int .i64 1),tU,(.int .i64 2),(.bool false),(.bool true),(.int .i64 3),.E3,(.int .i64 5),(.int .i64 7),(.int .u8 0),.Ao,(.int .i64 4),(.int .i64 8),(.int .i64 10),(.int .i64 11),(.int .i64 12),(.int .i64 13),(.int .i64 14),(.int .i64 15),(.int .i64 16),(.int .i64 17),(.int .i64 18),(.int .i64 20),(.int .i64 30),(.int .i64 31),(.int .i64 32),(.int .i64 33),(.int .i64 34),(.int .i64 40),(.int .i64 41),(.int .i64 42),(.int .i64 43),(.int .i64 44),(.int .i64 48),(.int .i64 64)]
def tk:Nat->Nat->List Nat
 | 0,_=>[]
 | f+1,n=>if n=1 then[]else if n%16=14 then(n/16%256+14)::tk f (n/4096)else if n%16=15 then(n/256%16^(n/16%16))::tk f (n/256/16^(n/16%16))else n%16::tk f (n/16)
def rT:List Nat->(Nat->List Nat->R)->R
 | t::n,k=>k t n
 | [],_=>none
def rW(C e:List EV)(k:EV->List Nat->R):Nat->List Nat->R
 | 0,n=>rT n fun i n=>k (nth tU kc i) n
 | 1,n=>rT n fun i n=>k (nth tU C i) n
 | x+2,n=>k (nth tU e x) n
def rV(C e:List EV)(n:List Nat)(k:EV->List Nat->R):R:=rT n fun q n=>rW C e k q n
def rL(C e:List EV):Nat->List Nat->(List EV->List Nat->R)->R
 | 0,n,k=>k [] n
 | m+1,n,k=>rV C e n fun v n=>rL C e m n fun l n=>k (v::l) n
def rR(C e:List EV):Nat->List Nat->(List RV->R)->R
 | 0,_,k=>k []
 | m+1,n,k=>rT n fun q n=>rV C e n fun v n=>nth none [rR C e m n fun l=>k (.v v::l),rT n fun t n=>rR C e m n fun l=>k (.c v t::l)] q
def rC(N:List NM)(C e:List EV)(n:List Nat)(k:(Ab->R)->List Nat->R):R:=rT n fun j n=>rT n fun m n=>rL C e m n fun l n=>k (nth (fun _ _=>none) N j l) n
def gOf(n:Nat)(k:IG->BinOp->R):R:=nth none [k A6b .add,k Bgm .sub,k Bl2 .mul,k Iq .lss,k Bf7 .leq,k Beh .gtr,k Bfp .geq,k An2 .eql,k Alb .neq] n
def bOf(n:Nat):BinOp:=nth .shr [.quo,.rem,.and,.or,.xor,.shl,.shr] n
def dk(N:List NM)(U:List UM)(Z:List (List EV))(C:List EV):Nat->List Nat->Nat->DX->List EV->Ab->R
 | f+1,q::n,base,s,e,h=>nth (fun _=>none) [
 fun n=>rC N C e n fun c _=>c h,
 fun n=>rC N C e n fun c n=>An (c h) fun v h=>dk N U Z C f n base s (v::e) h,
 fun n=>rV C e n fun v _=>some (v,h),
 fun n=>rT n fun p0 n=>rV C e n fun p1 n=>fE p0 p1 h fun v=>dk N U Z C f n base s (v::e) h,
 fun n=>rT n fun p0 n=>rV C e n fun p1 n=>oE p0 p1 h fun v=>dk N U Z C f n base s (v::e) h,
 fun n=>rT n fun p0 n=>rV C e n fun p1 n=>Oz p0 p1 h fun v=>dk N U Z C f n base s (v::e) h,
 fun n=>rT n fun p0 n=>rV C e n fun p1 n=>rV C e n fun p2 n=>stE p0 p1 p2 h fun h=>dk N U Z C f n base s e h,
 fun n=>rT n fun i n=>rT n fun b n=>rC N C e n fun c n=>L5 i b s h (fun h=>c h) fun v h s=>dk N U Z C f n base s (v::e) h,
 fun n=>rV C e n fun p0 n=>rT n fun L n=>ifE p0 (dk N U Z C f n base s e h) (dk N U Z C f (n.drop L) base s e h),
 fun n=>rT n fun p0 n=>rV C e n fun p1 n=>Wy p0 p1 h fun v h=>dk N U Z C f n base s (v::e) h,
 fun n=>rV C e n fun p0 n=>rT n fun L n=>wtE p0 (dk N U Z C f n base s e h) (dk N U Z C f (n.drop L) base s e h),
 fun n=>rT n fun p0 n=>rT n fun p1 n=>rV C e n fun p2 n=>P8 p0 p1 base p2 s fun s=>dk N U Z C f n base s e h,
 fun n=>rT n fun p0 n=>rV C e n fun p1 n=>noE p0 p1 fun v=>dk N U Z C f n base s (v::e) h,
 fun n=>rV C e n fun p0 n=>rT n fun L n=>wfE p0 (dk N U Z C f n base s e h) (dk N U Z C f (n.drop L) base s e h),
 fun n=>rT n fun m n=>rL C e m n fun l _=>some (.tuple l,h),
 fun n=>rT n fun g n=>rT n fun t n=>rV C e n fun x n=>rV C e n fun y n=>rT n fun L n=>gOf g fun g o=>cE g o t x y (dk N U Z C f n base s e h) (dk N U Z C f (n.drop L) base s e h),
 fun n=>rT n fun g n=>rT n fun t n=>rV C e n fun x n=>rV C e n fun y n=>gOf g fun g o=>Kl g (bin TT o t) x y fun v=>dk N U Z C f n base s (v::e) h,
 fun n=>rT n fun g n=>rT n fun t n=>rV C e n fun x n=>rV C e n fun y n=>Ale (bin TT (bOf g) t) x y fun v=>dk N U Z C f n base s (v::e) h,
 fun n=>rT n fun m n=>rR C e m n fun l=>Ji TT l h,
 fun n=>rT n fun t n=>rT n fun z n=>Avo (.cells (nth [] Z z) t) h fun v h=>dk N U Z C f n base s (v::e) h,
 fun n=>rT n fun m n=>rT n fun z n=>rT n fun t n=>rV C e n fun x n=>nsE m (nth [] Z z) t x h fun v h=>dk N U Z C f n base s (v::e) h,
 fun n=>rT n fun j n=>rT n fun m n=>rL C e m n fun l n=>nth (fun _ _=>none) U j l fun v=>dk N U Z C f n base s (v::e) h,
 fun n=>none,
 fun n=>rV C e n fun p0 n=>rV C e n fun p1 n=>pkO p0 p1 fun v=>dk N U Z C f n base s (v::e) h,
 fun n=>rV C e n fun p0 n=>Iz p0 fun v=>dk N U Z C f n base s (v::e) h,
 fun n=>rV C e n fun p0 n=>rV C e n fun p1 n=>pkA p0 p1 fun v=>dk N U Z C f n base s (v::e) h,
 fun n=>rV C e n fun p0 n=>x2E p0 fun v w=>dk N U Z C f n base s (w::v::e) h,
 fun n=>rV C e n fun p0 n=>Fm p0 h fun v=>dk N U Z C f n base s (v::e) h,
 fun n=>Adz h fun base s=>dk N U Z C f n base s e h,
 fun n=>rV C e n fun p0 n=>Arw p0 fun v=>dk N U Z C f n base s (v::e) h,
 fun n=>rT n fun p0 n=>rT n fun p1 n=>rT n fun p2 n=>rV C e n fun a n=>olE p0 p1 p2 base a s h fun s v=>dk N U Z C f n base s (v::e) h,
 fun n=>rT n fun p0 n=>rT n fun p1 n=>rT n fun p2 n=>rV C e n fun a n=>Ax8 p0 p1 p2 base a s h fun s v=>dk N U Z C f n base s (v::e) h,
 fun n=>rV C e n fun p0 n=>rT n fun L n=>Bbz p0 (dk N U Z C f n base s e h) (dk N U Z C f (n.drop L) base s e h),
 fun n=>rV C e n fun p0 n=>F3 p0 fun v=>dk N U Z C f n base s (v::e) h,
 fun n=>rT n fun p0 n=>rV C e n fun p1 n=>Alc p0 p1 fun v=>dk N U Z C f n base s (v::e) h,
 fun n=>rT n fun p0 n=>rV C e n fun p1 n=>rV C e n fun p2 n=>Z8 p0 p1 p2 fun v=>dk N U Z C f n base s (v::e) h,
 fun n=>rT n fun p0 n=>rV C e n fun p1 n=>rV C e n fun p2 n=>Bbx p0 p1 p2 h fun v=>dk N U Z C f n base s (v::e) h,
 fun n=>rT n fun p0 n=>rT n fun p1 n=>rV C e n fun p2 n=>Bmc p0 p1 p2 s fun s=>dk N U Z C f n base s e h,
 fun n=>rT n fun p0 n=>Bg2 p0 h s fun s=>dk N U Z C f n base s e h,
 fun n=>rT n fun p0 n=>rT n fun p1 n=>rV C e n fun p2 n=>rV C e n fun a n=>A0z p0 p1 p2 a fun v=>dk N U Z C f n base s (v::e) h,
 fun n=>rT n fun p0 n=>rV C e n fun p1 n=>Aso p0 p1 fun v=>dk N U Z C f n base s (v::e) h,
 fun n=>rV C e n fun p0 n=>Axv p0 fun v=>dk N U Z C f n base s (v::e) h,
 fun n=>rV C e n fun p0 n=>Bgc p0 fun v=>dk N U Z C f n base s (v::e) h,
 fun n=>rV C e n fun p0 n=>rV C e n fun p1 n=>A8q p0 p1 fun v=>dk N U Z C f n base s (v::e) h,
 fun n=>rV C e n fun p0 n=>rV C e n fun p1 n=>Bn9 p0 p1 fun v=>dk N U Z C f n base s (v::e) h,
 fun n=>rV C e n fun p0 n=>rV C e n fun p1 n=>A93 p0 p1 fun v=>dk N U Z C f n base s (v::e) h,
 fun n=>rV C e n fun p0 n=>rV C e n fun p1 n=>Axi p0 p1 fun v=>dk N U Z C f n base s (v::e) h,
 fun n=>rV C e n fun p0 n=>rV C e n fun p1 n=>A28 p0 p1 fun v=>dk N U Z C f n base s (v::e) h,
 fun n=>rV C e n fun p0 n=>rV C e n fun p1 n=>Azw p0 p1 fun v=>dk N U Z C f n base s (v::e) h,
 fun n=>rV C e n fun p0 n=>rV C e n fun p1 n=>Bc5 p0 p1 fun v=>dk N U Z C f n base s (v::e) h,
 fun n=>rV C e n fun p0 n=>rV C e n fun p1 n=>Bcl p0 p1 fun v=>dk N U Z C f n base s (v::e) h,
 fun n=>rV C e n fun p0 n=>rV C e n fun p1 n=>A3x p0 p1 fun v=>dk N U Z C f n base s (v::e) h,
 fun n=>rT n fun p0 n=>rV C e n fun p1 n=>A3t p0 p1 fun v=>dk N U Z C f n base s (v::e) h] q n
 | _,_,_,_,_,_=>none
def s0:DX:=⟨0,[],[],[],[]⟩
inductive Nf:R->R->Prop where
 | mk (x:R):Nf x x
structure Dm(x y:R):Prop where
structure Sg(n:Nat)(e:List EV)(h:Ab)(N:List NM:=[])(U:List UM:=[])(Z:List (List EV):=[])(C:List EV:=[]) where mk ::
 {t:List Nat}
 {F:R}
 (p:tk 900 n=t:=by
  simp only[tk,↓reduceIte,Nat.reduceMod,Nat.reduceDiv,Nat.reduceEqDiff,Nat.reduceAdd,Nat.reducePow]
  first|done|rfl)
 (q:Dm (dk N U Z C 300 t 0 s0 e h) F:=by
  refine' (?f:∀x y,Nf x y->Dm x y) _ _ ?m
  case m=>
   dsimp only[dk,rT,rW,rV,rL,rR,rC,nth,kc,gOf,bOf,List.drop,cl0,Ey,D5,Lz,Zc,cl5,cl6,cl7,cl8,cl9,Bk7,Bsw,Bwh,cu0,cu1,cu2,cu3,cu4,cu5,cu6];exact .mk _
  case f=>
   intros;exact⟨⟩)
theorem dr:Zs/\Zi:=⟨dz,dzi⟩
end
end Go.Ev
