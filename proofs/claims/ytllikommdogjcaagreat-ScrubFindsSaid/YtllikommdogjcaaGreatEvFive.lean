import Derived.Test.YtllikommdogjcaaGreatEvThree
set_option linter.all false
namespace Go.Ev
set_option maxRecDepth 100000
variable {α:Type}{x:Operand}{v:EV}{op:Op}{T:Ir}{t:TypeId}{i j n off fuel:Nat}{tm:Bb}{h h':Ab}{vs args:List EV}{a b fl:Bool}{ops:List Oper}{round:Ah}{ds:List Nat}{f:EV->EV->Option EV}{todo:List Item}{P:Program}
noncomputable section
abbrev R:=Option (EV × Ab)
abbrev qw:=List EV->Ab->R
def Btx:Nat->Nat->List Bool:=
 @Nat.rec (fun _=>Nat->List Bool) (fun _=>[]) (fun _ d i=>Bc (Nat.beq i 0) [] (Bc (Nat.beq (Nat.land i 1) 1) (true::d (Nat.div i 2)) (false::d (Nat.pred (Nat.div i 2)))))
def pathOf(i:Nat):List Bool:=Btx (Nat.succ (Nat.log2 (Nat.succ i))) i
def oB {α β:Type}(k:α->Option β)(x:Option α):Option β:=@Option.rec α (fun _=>Option β) none k x
def uw {α β d:Type}(k:α->β->Option d)(p:α × β):Option d:=@Prod.rec α β (fun _=>Option d) k p
def Gk(l:List EV):Nat:=@List.rec EV (fun _=>Nat) 0 (fun _ _ d=>Nat.succ d) l
def kV(l:List EV):Nat->Option EV:=@List.rec EV (fun _=>Nat->Option EV) (fun _=>none) (fun a _ d n=>Bc (Nat.beq n 0) (some a) (d (Nat.pred n))) l
def uQ(l:List EV):Nat->List EV:=@List.rec EV (fun _=>Nat->List EV) (fun _=>[]) (fun a r d n=>Bc (Nat.beq n 0) (a::r) (d (Nat.pred n))) l
def pz(a:EV)(x:Option (List EV)):Option (List EV):=@Option.rec (List EV) (fun _=>Option (List EV)) none (fun l=>some (a::l)) x
def sN(l:List EV):Nat->Option (List EV):=@List.rec EV (fun _=>Nat->Option (List EV)) (fun n=>Bc (Nat.beq n 0) (some []) none) (fun a _ d n=>Bc (Nat.beq n 0) (some []) (pz a (d (Nat.pred n)))) l
def Ou(l:List EV)(off n:Nat):Option (List EV):=Bc (Nat.beq off 0) (Bc (Nat.beq (Gk l) n) (some l) (sN l n)) (sN (uQ l off) n)
def pA(vs:List EV):List EV->Option (List EV):=@List.rec EV (fun _=>List EV->Option (List EV)) (fun l=>some l) (fun v _ d l=>@List.rec EV (fun _=>Option (List EV)) none (fun _ r _=>pz v (d r)) l) vs
def qB(vs:List EV)(l:List EV):Nat->Option (List EV):=@List.rec EV (fun _=>Nat->Option (List EV)) (fun n=>Bc (Nat.beq n 0) (pA vs []) none) (fun a r d n=>Bc (Nat.beq n 0) (pA vs (a::r)) (pz a (d (Nat.pred n)))) l
def Nb(l:List EV)(off:Nat)(vs:List EV):Option (List EV):=Bc (Nat.beq off 0) (Bc (Nat.beq (Gk l) (Gk vs)) (some vs) (qB vs l 0)) (qB vs l off)
def mV {β:Type}(k:List EV->Nat->Option β)(off:Nat)(x:Option D5):Option β:=
 match x with|some (.cells l _)=>k l off|some (.vec l _ _)=>k l off|some (.view ws _)=>(match mW ws off with|some (o,l)=>k l (Nat.sub off o)|none=>none)|_=>none
def nV(h:Ab)(i:Nat)(f:List EV->Option (List EV))(k:Ab->R):R:=
 match h.get i with
 | some (.cells l t)=>oB (fun l'=>k (h.put i (.cells l' t))) (f l)
 | some (.vec l t s)=>oB (fun l'=>k (h.put i (.vec l' t s))) (f l)
 | _=>none
def Yy(h:Ab)(i off n:Nat):Option (List EV):=mV (fun l o=>Ou l o n) off (h.get i)
def Pm(h:Ab)(size n:Nat)(x:EV):Option (List EV):=
 match x with
 | .Aq=>Bc (Nat.beq n 0) (some []) none
 | .slice i off _ _ _=>Bc (Nat.beq n 0) (some []) (Yy h i off (Nat.mul n size))
 | .tail ..=>Bc (Nat.beq n 0) (some []) none
 | _=>none
def uR(x y:R)(v:EV):R:=match v with | .bool b=>Bc b x y|_=>none
def lQ(k:Nat->Nat->R)(v:EV):R:=match v with | .ptr i off=>k i off|_=>none
def uS(k:Nat->R)(v:EV):R:=match v with | .int _ n=>@Int.rec (fun _=>R) k (fun _=>none) n|_=>none
def PB(k:IntKind->Int->R)(v:EV):R:=match v with | .int c n=>k c n|_=>none
def xZ(k:List EV->R)(v:EV):R:=match v with | .agg l=>k l|_=>none
def PC(k:List EV->R)(v:EV):R:=match v with | .tuple l=>k l|_=>none
def uT(a b:Int):Int:=@Int.rec (fun _=>Int) (fun m=>@Int.rec (fun _=>Int) (fun n=>.ofNat (Nat.add m n)) (fun n=>Int.add (.ofNat m) (.negSucc n)) b) (fun m=>Int.add (.negSucc m) b) a
def uU(a b:Int):Int:=@Int.rec (fun _=>Int) (fun m=>@Int.rec (fun _=>Int) (fun n=>Bc (Nat.ble n m) (.ofNat (Nat.sub m n)) (.negSucc (Nat.pred (Nat.sub n m)))) (fun n=>Int.sub (.ofNat m) (.negSucc n)) b) (fun m=>Int.sub (.negSucc m) b) a
def lS(a b:Int):Bool:=@Int.rec (fun _=>Bool) (fun m=>@Int.rec (fun _=>Bool) (fun n=>Nat.ble (Nat.succ m) n) (fun _=>false) b) (fun m=>kI (.negSucc m) b) a
def oq(a b:Int):Bool:=@Int.rec (fun _=>Bool) (fun m=>@Int.rec (fun _=>Bool) (fun n=>Nat.beq m n) (fun _=>false) b) (fun m=>iV (.negSucc m) b) a
def ju(b:Bool):Bool:=@Bool.rec (fun _=>Bool) true false b
abbrev IG:=IntKind->Int->Int->EV
def lJ:IG:=fun k a b=>.int k (Dl k (uT a b))
def o7:IG:=fun k a b=>.int k (Dl k (uU a b))
def qm:IG:=fun k a b=>.int k (Dl k (Int.mul a b))
def Jw:IG:=fun _ a b=>.bool (lS a b)
def o8:IG:=fun _ a b=>.bool (ju (lS b a))
def nN:IG:=fun _ a b=>.bool (lS b a)
def o9:IG:=fun _ a b=>.bool (ju (lS a b))
def iT:IG:=fun _ a b=>.bool (oq a b)
def i_:IG:=fun _ a b=>.bool (ju (oq a b))
def x_:BinOp->Option IG
 | .add=>some lJ | .sub=>some o7 | .mul=>some qm | .lss=>some Jw | .leq=>some o8 | .gtr=>some nN | .geq=>some o9 | .eql=>some iT | .neq=>some i_
 | _=>none
def uV(agg:Bool)(n:Nat)(cs:List EV)(off:Nat)(k:EV->R):R:=Bc agg (oB (fun l=>k (.agg l)) (Ou cs off n)) (oB k (kV cs off))
def jF(place:Nat->Option (Nat × Nat))(l:List (Nat × EV)):List EV->Option (List EV):=
 @List.rec (Nat × EV) (fun _=>List EV->Option (List EV)) (fun c=>some c) (fun x _ d c=>oB (uw fun off size=>Bc x.2.plain (Bc (Nat.beq (Gk x.2.cells) size) (oB d (Nb c off x.2.cells)) none) none) (place x.1)) l
def Dn(l:List (Nat × Nat)):Nat->Option (Nat × Nat):=@List.rec (Nat × Nat) (fun _=>Nat->Option (Nat × Nat)) (fun _=>none) (fun a _ d i=>Bc (Nat.beq i 0) (some a) (d (Nat.pred i))) l
def L8(s:Nat):Nat->Option (Nat × Nat):=fun i=>some (Nat.mul i s,s)
def sO(a b:List EV):List EV:=@List.rec EV (fun _=>List EV) b (fun x _ d=>x::d) a
def Et(e:TypeId)(size:Nat)(s x:EV)(h:Ab):R:=
 oB (fun n=>Bc (Nat.beq n 0)
  (match s with
   | .slice _ _ d room _=>Bc (Nat.ble d room) (some (s,h)) none
   | .Aq=>some (s,h)
   | _=>none)
  (Bc (Nat.ble n 65536) (oB (fun new=>
   match s with
   | .Aq=>some (.slice h.next 0 n n true,h.new (.vec new e size))
   | .slice i off d room op=>Bc (Nat.ble d 1048576) (oB (fun Bt=>
    Bc op
     (Bc (Nat.beq off 0) (Bc (Nat.beq room d) (match h.get i with
      | some (.vec l e' s')=>Bc (Nat.beq (Gk l) (Nat.mul d size)) (Bc (Nat.beq s' size) (Bc (Nat.beq e' e)
       (some (.slice h.next 0 (Nat.add d n) (Nat.add d n) true,(h.del i).new (.vec (sO Bt new) e size))) none) none) none
      | _=>none) none) none)
     (Bc (Nat.ble (Nat.add d n) room) none (some (.slice h.next 0 (Nat.add d n) (Nat.add d n) true,h.new (.vec (sO Bt new) e size)))))
    (Pm h size d s)) none
   | _=>none) (Pm h size n x)) none)) (lenOf x)
def mN(x:Option D5)(off n:Nat):Option (List EV):=mV (fun l o=>Ou l o n) off x
def K3(g:IG)(f:EV->EV->Option EV)(x y:EV)(k:EV->R):R:=
 match x,y with
 | .int c x,.int d y=>Bc (Nat.beq (Pq c) (Pq d)) (k (g c x y)) none
 | x,y=>oB k (f x y)
def Iy(x:EV)(h:Ab)(k:EV->R):R:=lQ (fun i off=>oB (fun l=>match l with | [v]=>k v|_=>none) (mN (h.get i) off 1)) x
def Tt(n:Nat)(x:EV)(h:Ab)(k:EV->R):R:=lQ (fun i off=>oB (fun l=>k (.agg l)) (mN (h.get i) off n)) x
def hQ(n:Nat)(a v:EV)(h:Ab)(k:Ab->R):R:=lQ (fun i off=>Bc v.plain (Bc (Nat.beq (Gk v.cells) n) (nV h i (fun l=>Nb l off v.cells) k) none) none) a
def iF(s:Nat)(x ix:EV)(k:EV->R):R:=uS (fun j=>match x with | .slice i off len _ _=>Bc (Nat.ble (Nat.succ j) len) (k (.ptr i (Nat.add off (Nat.mul j s)))) none|_=>none) ix
def kF(c a b:EV)(k:EV->R):R:=uR (k a) (k b) c
def iQ(f:EV->EV->Option EV)(a b:EV)(k:EV->R):R:=oB k (f a b)
def jt(v:EV)(k:EV->R):R:=uR (k (.bool false)) (k (.bool true)) v
def pa(v:EV)(k:EV->R):R:=match v with | .int c n=>k (.int c (Dl c (Int.sub 0 n)))|_=>none
def jS(v:EV)(k:EV->R):R:=lQ (fun i o=>k (.ptr i o)) v
def iX(c:Nat)(v:EV)(k:EV->R):R:=lQ (fun i o=>k (.ptr i (Nat.add o c))) v
def ki(len s:Nat)(v ix:EV)(k:EV->R):R:=uS (fun j=>lQ (fun i off=>Bc (Nat.ble (Nat.succ j) len) (k (.ptr i (Nat.add off (Nat.mul j s)))) none) v) ix
def kD(len s:Nat)(agg:Bool)(n:Nat)(v ix:EV)(k:EV->R):R:=uS (fun j=>xZ (fun cs=>Bc (Nat.ble (Nat.succ j) len) (uV agg n cs (Nat.mul j s) k) none) v) ix
def Y8(off:Nat)(agg:Bool)(n:Nat)(v:EV)(k:EV->R):R:=xZ (fun cs=>uV agg n cs off k) v
def Sz(c:IntKind)(v:EV)(k:EV->R):R:=PB (fun _ n=>k (.int c (Dl c n))) v
def lI(ix:Nat)(v:EV)(k:EV->R):R:=PC (fun l=>oB k (kV l ix)) v
def j'(o:D5)(h:Ab)(k:EV->Ab->R):R:=k (.ptr h.next 0) (h.new o)
def Ta(t:TypeId)(v:EV)(h:Ab)(k:EV->Ab->R):R:=Bc v.plain (k (.ptr h.next 0) (h.new (.cells v.cells t))) none
def Ip(v:EV)(k:EV->R):R:=oB (fun n=>k (.int .i64 (.ofNat n))) (lenOf v)
def Am(x:R)(k:EV->Ab->R):R:=oB (uw k) x
def Ue(c r:Ah)(f:EV)(args:List EV)(h:Ab):R:=match f with
 | .func g a cs=>c g (sO a (sO args cs)) h
 | .Vz l=>r l args h
 | _=>none
def Bp(place:Nat->Option (Nat × Nat))(z:List EV)(ps:List (Nat × EV))(k:EV->R):R:=oB (fun c=>k (.agg c)) (jF place ps z)
def pe(n:Nat)(v:EV)(k:EV->R):R:=match v with | .slice i off len _ _=>Bc (Nat.ble n len) (k (.ptr i off)) none|_=>none
def iK(s:Nat)(v:EV)(d e o:Option EV)(k:EV->R):R:=oB k (je v s d e o)
def Ny(n s:Nat)(v:EV)(d e o:Option EV)(k:EV->R):R:=lQ (fun i off=>oB k (je (.slice i off n n false) s d e o)) v
def Wa(z:List EV)(e:TypeId)(l c:EV)(h:Ab):R:=
 match l,c with
 | .int _ (.ofNat n),.int _ (.ofNat m)=>Bc (Nat.ble n m) (Bc (Nat.ble m 65536) (some (.slice h.next 0 n m false,h.new (.cells (rep z m) e))) none) none
 | _,_=>none
def Ca(z:List EV)(e:TypeId)(s n:Nat)(ps:List (Nat × EV))(h:Ab):R:=
 Bc (Nat.ble (Nat.mul n s) 65536) (oB (fun c=>some (.slice h.next 0 n n false,h.new (.cells c e))) (jF (L8 s) ps (rep z n))) none
def uF(h:Ab):R:=some (.map h.next,h.new (.map []))
def uB(s:EV)(h:Ab):R:=match s with | .int _ (.ofNat n)=>Bc (Nat.ble n 65536) (some (.chan h.next,h.new (.chan n []))) none|_=>none
def qs(T:Ir)(o e:TypeId)(ok:Bool)(m ix:EV)(h:Ab):R:=
 match m with
 | .map i=>Bc (O2 T o ix) (match h.get i with
  | some (.map es)=>match Io ix es 0 with
   | some (some (_,v))=>some (Bc ok (.tuple [v,.bool true]) v,h)
   | some none=>oB (fun d=>some (Bc ok (.tuple [d,.bool false]) d,h)) (zeroOf T e)
   | none=>none
  | _=>none) none
 | _=>none
def qu(T:Ir)(d:TypeId)(m ix x:EV)(h:Ab):R:=
 match m with
 | .map i=>Bc (O2 T d ix) (match h.get i with
  | some (.map es)=>match Io ix es 0 with
   | some (some (j,_))=>some (.tuple [],h.put i (.map (es.set j (ix,x))))
   | some none=>some (.tuple [],h.put i (.map (es++[(ix,x)])))
   | none=>none
  | _=>none) none
 | _=>none
def pr(c x:EV)(h:Ab):R:=
 match c with
 | .chan i=>match h.get i with
  | some (.chan cap buf)=>Bc (Nat.ble (Nat.succ (len buf)) cap) (some (.tuple [.int .i64 0,.bool false],h.put i (.chan cap (buf++[x])))) (some (.tuple [.int .i64 (-1),.bool false],h))
  | _=>none
 | _=>none
def px(d:EV)(c:EV)(h:Ab):R:=
 match c with
 | .chan i=>match h.get i with
  | some (.chan cap buf)=>match buf with
   | v::r=>some (.tuple [.int .i64 0,.bool true,v],h.put i (.chan cap r))
   | []=>some (.tuple [.int .i64 (-1),.bool false,d],h)
  | _=>none
 | _=>none
def uD(c:EV)(h:Ab):R:=match c with | .chan i=>(match h.get i with|some (.chan _ buf)=>some (.int .i64 (.ofNat (len buf)),h)|_=>none)|_=>none
def ic(v:EV)(x y:R):R:=uR x y v
inductive RV where
 | v (x:EV)
 | c (a:EV) (t:TypeId)
def kB(T:Ir)(h:Ab):List RV->Option (List EV)
 | []=>some []
 | .v x::r=>match kB T h r with|some l=>some (x::l)|none=>none
 | .c a t::r=>match a,kB T h r,T.size t with
  | .ptr i off,some l,some n=>match Jo h i off n with
   | some cs=>match T.agg t with
    | some true=>some (.agg cs::l)
    | some false=>(match cs with | [v]=>some (v::l)|_=>none)
    | none=>none
   | none=>none
  | _,_,_=>none
def J5(T:Ir)(l:List RV)(h:Ab):R:=match kB T h l with|some [v]=>some (v,h)|some l=>some (.tuple l,h)|none=>none
def Fm(l:Nat)(h:Ab)(k:Ab->R):R:=match h.get l with
 | some (.loop .ready p f o e ps d' body d)=>k (h.put l (.loop .busy p f o e ps d' body d))
 | _=>none
def ot(l:Nat)(r:R)(k:Ab->R)(ex:Nat->Ab->R)(ret:Ab->R):R:=match r with
 | none=>none
 | some (_,h)=>match h.get l with
  | some (.loop st p f o e ps d' body d)=>match st with
   | .busy=>none
   | _=>match p with
    | none=>k (h.put l (.loop .exhausted p f o e ps d' body d))
    | some (.exit id)=>ex id (h.put l (.loop .exhausted p f o e ps d' body d))
    | some .ret=>ret (h.put l (.loop .exhausted p f o e ps d' body d))
    | some _=>none
  | _=>none
def Xo(l:Nat)(v:Bool)(st:LoopState)(jump:Option Code)(h:Ab):R:=match h.get l with
 | some (.loop _ _ f n tm ps d' body d)=>some (.bool v,h.put l (.loop st jump f n tm ps d' body d))
 | _=>none
def lT:Code->List (Operand × List Tmp × Code × Code)
 | .seq a b=>lT a++lT b
 | .cond _ a b=>lT a++lT b
 | .block _ c=>lT c
 | .loop c=>lT c
 | .rangeFunc f ps a b=>(f,ps.toList,a,b)::(lT a++lT b)
 | .scope c=>lT c
 | _=>[]
def PD {α:Type}:List α->Nat->Option α
 | [],_=>none
 | a::r,n=>Bc (Nat.beq n 0) (some a) (PD r (Nat.pred n))
def Fw(T:Ir)(g i:Nat):Operand × List Tmp × Code × Code:=match T.fn g with|some { body:=some c,.. }=>(match PD (lT c) i with|some x=>x|none=>(.tmp 0,[],.skip,.skip))|_=>(.tmp 0,[],.skip,.skip)
def Yq(c:Ah)(T:Ir)(g n i:Nat)(f:EV)(tm:Bb)(h:Ab)(ds:List Nat)(k:Ab->List Nat->R)(ex:Nat->Ab->List Nat->R)(ret:Ab->List Nat->R):R:=match f with
 | .func q first captured=>ot (Nat.succ h.next) (c q (first++(.Vz (Nat.succ h.next)::captured)) ((h.new (.deferred true)).new (.loop .ready none g n tm (Fw T g i).2.1 (Fw T g i).2.2.1 (Fw T g i).2.2.2 h.next)))
  (fun h'=>k h' (h.next::ds)) (fun id h'=>ex id h' (h.next::ds)) (fun h'=>ret h' (h.next::ds))
 | _=>none
def qe(c:Ah)(T:Ir)(g n i l0:Nat)(f:EV)(tm:Bb)(h:Ab)(ds:List Nat)(k:Ab->List Nat->R)(ex:Nat->Ab->List Nat->R)(ret:Ab->List Nat->R):R:=match f with
 | .func q first captured=>match h.get l0 with
  | some (.loop _ _ _ _ _ _ _ _ d)=>ot h.next (c q (first++(.Vz h.next::captured)) (h.new (.loop .ready none g n tm (Fw T g i).2.1 (Fw T g i).2.2.1 (Fw T g i).2.2.2 d)))
   (fun h'=>k h' ds) (fun id h'=>ex id h' ds) (fun h'=>ret h' ds)
  | _=>none
 | _=>none
structure DX where
 bg:Nat
 nw:List (Nat × Nat)
 Cy:List (Nat × Nat)
 lou:List (Nat × Nat)
 st:List (Nat × Nat)
def ur(b base q:Nat)(s:DX):Bool:=Bc (Fx b q s.st) (Bc (Nat.ble (Nat.succ q) base) (Yo b q s.lou) (Bc (within s.bg b) (match loose b s.nw with | []=>true|_=>false) false)) false
def qo(b q:Nat)(s:DX):Bool:=Bc (within s.bg b) (Bc (Fx b q s.st) (Bc (Fx b q s.Cy) (A1c q (loose b s.nw)) false) false) false
def Abk(b:Nat)(s:DX):Bool:=Bc (within s.bg b) (Azc b s.st) false
def DX.ld(s:DX)(i q:Nat):DX:=⟨s.bg,s.nw,(Nat.shiftLeft 1 i,q)::s.Cy,s.lou,s.st⟩
def DX.new(s:DX)(i q:Nat):DX:=⟨s.bg,(Nat.shiftLeft 1 i,q)::s.nw,s.Cy,s.lou,s.st⟩
def DX.sto(s:DX)(i q:Nat):DX:=⟨s.bg,s.nw,s.Cy,s.lou,(Nat.shiftLeft 1 i,q)::s.st⟩
def DX.big(s:DX)(i:Nat):DX:=⟨Nat.lor s.bg (Nat.shiftLeft 1 i),s.nw,s.Cy,s.lou,s.st⟩
def DX.iI(s:DX)(i w:Nat):DX:=⟨Nat.lor s.bg (Nat.shiftLeft 1 i),s.nw,s.Cy,(Nat.shiftLeft 1 i,w)::s.lou,s.st⟩
def M0(i b:Nat)(s:DX)(h h':Ab)(k:DX->Ab->R):R:=
 Bc (Nat.ble h.next h'.mw)
  (k (s.big i) ⟨kA h.t h'.t (loose b s.nw),h'.next,h.mw⟩)
  (Bc (Tg b h'.mw s.Cy)
   (k (s.iI i h'.mw) ⟨kA h.t h'.t (loose b s.nw),h'.next,Bc (Nat.ble h.mw h'.mw) h.mw h'.mw⟩)
   none)
def Ic(b:Nat)(s:DX)(h:Ab):Ab:=⟨kJ h.t (loose b s.nw),h.next,h.next⟩
def pB(T:Ir)(op:Op):Bool:=
 match cls op with
 | .val=>true
 | .load=>true
 | .pur=>match op with
  | .call { callee:=.builtin .len,argTypes,.. }=>match argTypes.toList with
   | [t]=>match T.T8 t with|some (.slice _)=>true|_=>false
   | _=>false
  | .call { callee:=.builtin .min,.. }=>true
  | .call { callee:=.builtin .max,.. }=>true
  | _=>false
 | _=>false
def uW(T:Ir)(l:List Oper):Bool:=match l with | []=>true|o::r=>Bc (pB T o.op) (uW T r) false
def uX(T:Ir)(l:List Oper):Bool:=Bc (uW T l) (Bc (ov l 0) (mX l (Oy l 0 .nil) l 0 []) false) false
def Zj(h:Ab)(k:Nat->DX->R):R:=k h.next ⟨0,[],[],[],[]⟩
def Pj(i b base:Nat)(x:EV)(s:DX)(k:DX->R):R:=lQ (fun q _=>Bc (ur b base q s) (k (s.ld i q)) none) x
def o_(i:Nat)(h:Ab)(s:DX)(k:DX->R):R:=k (s.new i h.next)
def qn(i b:Nat)(x:EV)(s:DX)(k:DX->R):R:=lQ (fun q _=>Bc (qo b q s) (k (s.sto i q)) none) x
def PE(h:Ab)(k:Ab->R):R:=k ⟨.nil,h.next,h.next⟩
def Ly(i b:Nat)(s:DX)(h:Ab)(call:Ab->R)(k:EV->Ab->DX->R):R:=Bc (Abk b s) (Am (call (Ic b s h)) fun v h'=>M0 i b s h h' fun s h=>k v h s) none
def Eu(v:EV)(w:Bool):Bool:=match v with | .bool b=>Bc b w (ju w)|_=>false
abbrev VS:=Nat->EV
abbrev CD:=VS->Bb->Ab->List Nat->R
abbrev sP(e:VS)(d:Nat)(v:EV):VS:=fun i=>Bc (Nat.beq d i) v (e i)
abbrev Ew(d:VS)(x:Operand):Option EV:=match x with
 | .tmp t=>some (d t)
 | .const v=>ofV v
 | .global _=>none
 | .func f=>some (.func f [] [])
abbrev pC(d:VS)(l:List Operand):Option (List EV):=@List.rec Operand (fun _=>Option (List EV)) (some []) (fun x _ o=>match Ew d x,o with|some e,some es=>some (e::es)|_,_=>none) l
abbrev uY(d:VS)(l:List (Nat × Operand)):Option (List (Nat × EV)):=@List.rec (Nat × Operand) (fun _=>Option (List (Nat × EV))) (some []) (fun x _ o=>match Ew d x.2,o with|some e,some es=>some ((x.1,e)::es)|_,_=>none) l
abbrev uZ(d:VS)(x:Option Operand):Option (Option EV):=match x with
 | none=>some none
 | some x=>(match Ew d x with|some e=>some (some e)|none=>none)
abbrev hY(T:Ir)(call b_ round:Ah)(op:Op)(d:VS)(h:Ab)(k:EV->Ab->R):R:=
 match op with
 | .move x=>(match Ew d x with|some e=>k e h|none=>none)
 | .assign x=>(match Ew d x with|some e=>k e h|none=>none)
 | .pick c a b=>(match Ew d c,Ew d a,Ew d b with|some c,some a,some b=>kF c a b fun v=>k v h|_,_,_=>none)
 | .binOp op t x y _=>(match Ew d x,Ew d y with
  | some a,some b=>(match x_ op with|some g=>K3 g (bin T op t) a b fun v=>k v h|none=>iQ (bin T op t) a b fun v=>k v h)
  | _,_=>none)
 | .unOp .not _ x=>(match Ew d x with|some e=>jt e fun v=>k v h|none=>none)
 | .nilCheck x=>(match Ew d x with|some e=>jS e fun v=>k v h|none=>none)
 | .fieldAddr s x f=>(match Ew d x,T.T8 s with
  | some e,some (.struct fields)=>(match mY fields.toList f with
   | some fd=>(match T.size fd.type with|some n=>Bc (Nat.beq n 0) none (iX fd.offset e fun v=>k v h)|none=>none)
   | none=>none)
  | _,_=>none)
 | .indexAddr t x ix=>(match Ew d x,Ew d ix,T.T8 t with
  | some e,some ix,some (.array len o)=>(match T.size o with|some s=>ki len s e ix fun v=>k v h|none=>none)
  | some e,some ix,some (.slice o)=>(match T.size o with|some s=>iF s e ix fun v=>k v h|none=>none)
  | _,_,_=>none)
 | .index t x ix=>(match Ew d x,Ew d ix,T.T8 t with
  | some e,some B,some (.array len o)=>(match T.size o,T.agg o with|some s,some agg=>kD len s agg s e B fun v=>k v h|_,_=>none)
  | _,_,_=>none)
 | .field t x f=>(match Ew d x,T.T8 t with
  | some e,some (.struct fields)=>(match mY fields.toList f with
   | some fd=>(match T.agg fd.type with
    | some true=>(match T.size fd.type with|some n=>Y8 fd.offset true n e fun v=>k v h|none=>none)
    | some false=>Y8 fd.offset false 0 e fun v=>k v h
    | none=>none)
   | none=>none)
  | _,_=>none)
 | .convert src dst x=>(match Ew d x,T.T8 src,T.T8 dst with|some e,some _,some (.int c)=>Sz c e fun v=>k v h|_,_,_=>none)
 | .extract x ix=>(match Ew d x with|some e=>lI ix e fun v=>k v h|none=>none)
 | .load t x=>(match Ew d x,T.agg t with
  | some e,some true=>(match T.size t with|some n=>Tt n e h fun v=>k v h|none=>none)
  | some e,some false=>Iy e h fun v=>k v h
  | _,_=>none)
 | .store t a x=>(match Ew d a,Ew d x,T.size t with|some a,some x,some n=>hQ n a x h fun h=>k (.tuple []) h|_,_,_=>none)
 | .alloc t=>(match T.zero t with|some z=>j' (.cells z t) h k|none=>none)
 | .box t x=>(match Ew d x with|some e=>Ta t e h k|none=>none)
 | .call { callee:=.value (.func g),args,.. }=>(match pC d args.toList with|some xs=>Am (call g xs h) k|none=>none)
 | .call { callee:=.value f,args,.. }=>(match Ew d f,pC d args.toList with|some e,some xs=>Am (Ue b_ round e xs h) k|_,_=>none)
 | .call { callee:=.builtin .append,args,argTypes }=>(match args.toList,argTypes.toList with
  | [s,x],[t,u]=>(match Ew d s,Ew d x,T.T8 u,T.T8 t with
   | some a,some b,some (.slice _),some (.slice e)=>(match T.size e,T.zero e with
    | some size,some _=>Am (Et e size a b h) k
    | _,_=>none)
   | _,_,_,_=>none)
  | _,_=>none)
 | .call { callee:=.builtin .len,args,argTypes }=>(match args.toList,argTypes.toList with
  | [x],[t]=>(match Ew d x,T.T8 t with
   | some e,some (.slice _)=>Ip e fun v=>k v h
   | some e,some (.chan ..)=>Am (uD e h) k
   | some e,_=>Am (builtin T .len argTypes [e] h) k
   | _,_=>none)
  | _,_=>none)
 | .call { callee:=.builtin b,args,argTypes }=>(match pC d args.toList with|some xs=>Am (builtin T b argTypes xs h) k|none=>none)
 | .unOp .neg _ x=>(match Ew d x with|some e=>pa e fun v=>k v h|none=>none)
 | .build t ps=>(match T.zero t,uY d ps.toList,T.T8 t with
  | some z,some l,some (.struct fields)=>(match placesOf T fields.toList with
   | some ps=>Bp (Dn ps) z l fun v=>k v h
   | none=>none)
  | some z,some l,some (.array _ e)=>(match T.size e with
   | some s=>Bp (L8 s) z l fun v=>k v h
   | none=>none)
  | _,_,_=>none)
 | .buildSlice t n ps=>(match T.T8 t,uY d ps.toList with
  | some (.slice e),some l=>(match T.size e,T.zero e with
   | some s,some z=>Am (Ca z e s n l h) k
   | _,_=>none)
  | _,_=>none)
 | .makeFunc (.func f) first captured=>(match pC d first.toList,pC d captured.toList with|some a,some b=>k (.func f a b) h|_,_=>none)
 | .sliceToArrayPointer t x=>(match Ew d x,T.T8 t with|some e,some (.array n _)=>pe n e fun v=>k v h|_,_=>none)
 | .slice t x p q A=>(match Ew d x,uZ d p,uZ d q,uZ d A with
  | some e,some p,some q,some A=>(match T.T8 t with
   | some (.array n o)=>(match T.size o with|some s=>Ny n s e p q A fun v=>k v h|none=>none)
   | some (.slice o)=>(match T.size o with|some s=>iK s e p q A fun v=>k v h|none=>none)
   | _=>none)
  | _,_,_,_=>none)
 | .makeSlice t l c=>(match Ew d l,Ew d c,T.T8 t with
  | some l,some c,some (.slice e)=>(match T.zero e with|some z=>Am (Wa z e l c h) k|none=>none)
  | _,_,_=>none)
 | .makeMap _ none=>Am (uF h) k
 | .makeChan t s=>(match Ew d s,T.T8 t with
  | some s,some (.chan _ e)=>(match T.size e with|some _=>Am (uB s h) k|none=>none)
  | _,_=>none)
 | .lookup t x ix ok=>(match Ew d x,Ew d ix,T.T8 t with|some m,some i,some (.map C e)=>Am (qs T C e ok m i h) k|_,_,_=>none)
 | .mapUpdate t m ix x=>(match Ew d m,Ew d ix,Ew d x,T.T8 t with|some m,some i,some x,some (.map C _)=>Am (qu T C m i x h) k|_,_,_,_=>none)
 | .select cs false=>(match cs.toList with
  | [c]=>(match c.send with
   | some x=>(match Ew d c.chan,Ew d x,zeroOf T c.elem with|some c,some x,some _=>Am (pr c x h) k|_,_,_=>none)
   | none=>(match Ew d c.chan,zeroOf T c.elem with|some c,some D=>Am (px D c h) k|_,_=>none))
  | _=>none)
 | _=>none
abbrev Mode:=Option ((Nat × Bool) × Bool)
def PF(a b:Bool):Bool:=Bc a b (ju b)
def qC(m:Mode)(g:Nat × Bool):Option Bool:=match m with|some x=>Bc (Bc (Nat.beq x.1.1 g.1) (PF x.1.2 g.2) false) (some x.2) none|none=>none
def j5(ops:List Oper)(g:Nat × Bool)(b:Bool)(dst:Option Tmp):Mode:=
 match kK ops g.1 with
 | some o=>(match o.dst with
  | some d=>(match dst with|some e=>Bc (Nat.beq d e) none (some (g,b))|none=>some (g,b))
  | none=>some (g,b))
 | none=>some (g,b)
abbrev iR(n:Nat)(d:Option Tmp)(e:VS)(v:EV):VS:=match d with|none=>e|some d=>Bc (Nat.ble (Nat.succ d) n) (sP e d v) e
abbrev sQ(ops:List Oper)(e:VS)(g:Nat × Bool):Bool:=match kK ops g.1 with
 | some o=>(match o.dst with|some d=>Eu (e d) g.2|none=>false)
 | none=>false
abbrev ya(fl:Bool)(n:Nat)(tm:Bb)(d:Option Tmp)(v:EV):Bb:=Bc fl (Qm n tm d v) tm
abbrev Bt9(n:Nat)(tm:Bb)(d:Option Tmp)(v:EV):Bb:=match d with|none=>tm|some d=>@Bool.rec (fun _=>Bb) tm (tm.put d (some v)) (Nat.ble (Nat.succ d) n)
abbrev jh(fl:Bool)(n:Nat)(tm:Bb)(d:Option Tmp)(v:EV)(F:Bb->R):R:=@Bool.rec (fun _=>R) (F tm) (F (Bt9 n tm d v)) fl
def jZ(c:Code):Bool:=@Code.rec (fun _=>Bool) false (fun _ _ _=>false) (fun _ _ a b=>Bc a true b) (fun _ _ _ a b=>Bc a true b) (fun _ _ a=>a) (fun _ a=>a)
 (fun _ _ _ _ _ _=>true) (fun _=>false) (fun _ a=>a) (fun _=>false) (fun _=>false) false (fun _=>false) c
abbrev qD(fl:Bool)(T:Ir)(call b_ round:Ah)(n:Nat)(ops:List Oper)(fin:CD)(l:List Oper):Mode->CD:=
 @List.rec Oper (fun _=>Mode->CD) (fun _=>fin) (fun o _ e m=>@Option.rec (Nat × Bool) (fun _=>CD) (fun d tm h ds=>hY T call b_ round o.op d h fun v h=>jh fl n tm o.dst v fun tm=>e none (iR n o.dst d v) tm h ds)
  (fun g d tm h ds=>match qC m g with
   | some true=>hY T call b_ round o.op d h fun v h=>jh fl n tm o.dst v fun tm=>e (j5 ops g true o.dst) (iR n o.dst d v) tm h ds
   | some false=>jh fl n tm o.dst (.tuple []) fun tm=>e (j5 ops g false o.dst) (iR n o.dst d (.tuple [])) tm h ds
   | none=>Bc (sQ ops d g) (hY T call b_ round o.op d h fun v h=>jh fl n tm o.dst v fun tm=>e (j5 ops g true o.dst) (iR n o.dst d v) tm h ds) (jh fl n tm o.dst (.tuple []) fun tm=>e (j5 ops g false o.dst) (iR n o.dst d (.tuple [])) tm h ds)) o.guard) l
abbrev ox(T:Ir)(call b_ round:Ah)(op:Op)(i b base:Nat)(s:DX)(d:VS)(h:Ab)(k:DX->EV->Ab->R):R:=
 match cls op with
 | .val=>hY T call b_ round op d h (k s)
 | .load=>(match op with | .load t x=>(match Ew d x with|some e=>Pj i b base e s fun s=>hY T call b_ round (.load t x) d h (k s)|none=>none)|_=>none)
 | .new=>o_ i h s fun s=>hY T call b_ round op d h (k s)
 | .sto=>(match op with | .store t a x=>(match Ew d a with|some e=>qn i b e s fun s=>hY T call b_ round (.store t a x) d h (k s)|none=>none)|_=>none)
 | .pur=>PE h fun h0=>hY T call b_ round op d h0 fun v _=>k s v h
 | .big=>Bc (Abk b s) (hY T call b_ round op d (Ic b s h) fun v h'=>M0 i b s h h' fun s h=>k s v h) none
abbrev lU(fl:Bool)(T:Ir)(call b_ round:Ah)(n:Nat)(ops:List Oper)(bs:Tr Nat)(base:Nat)(fin:CD)(l:List Oper):Nat->Mode->DX->CD:=
 @List.rec Oper (fun _=>Nat->Mode->DX->CD) (fun _ _ _=>fin) (fun o _ e i m s d tm h ds=>match bs.get i with
  | none=>none
  | some b=>@Option.rec (Nat × Bool) (fun _=>R) (ox T call b_ round o.op i b base s d h fun s v h=>jh fl n tm o.dst v fun tm=>e (Nat.succ i) none s (iR n o.dst d v) tm h ds)
   (fun g=>match qC m g with
    | some true=>ox T call b_ round o.op i b base s d h fun s v h=>jh fl n tm o.dst v fun tm=>e (Nat.succ i) (j5 ops g true o.dst) s (iR n o.dst d v) tm h ds
    | some false=>jh fl n tm o.dst (.tuple []) fun tm=>e (Nat.succ i) (j5 ops g false o.dst) s (iR n o.dst d (.tuple [])) tm h ds
    | none=>Bc (sQ ops d g) (ox T call b_ round o.op i b base s d h fun s v h=>jh fl n tm o.dst v fun tm=>e (Nat.succ i) (j5 ops g true o.dst) s (iR n o.dst d v) tm h ds) (jh fl n tm o.dst (.tuple []) fun tm=>e (Nat.succ i) (j5 ops g false o.dst) s (iR n o.dst d (.tuple [])) tm h ds)) o.guard) l
abbrev u5(fl:Bool)(T:Ir)(call b_ round:Ah)(n:Nat)(ops:List Oper)(fin:CD):CD:=fun d tm h ds=>
 @Bool.rec (fun _=>R) none (@Bool.rec (fun _=>R) none (Zj h fun base s=>lU fl T call b_ round n ops (Oy ops 0 .nil) base fin ops 0 none s d tm h ds) (mX ops (Oy ops 0 .nil) ops 0 [])) (ov ops 0)
abbrev jd:=List (Nat × CD)
abbrev pD(out:Nat->CD)(env:jd)(id:Nat):CD:=@List.rec (Nat × CD) (fun _=>CD) (out id) (fun p _ e d tm h ds=>@Prod.rec Nat CD (fun _=>R) (fun j k=>Bc (Nat.beq j id) (k d tm h ds) (e d tm h ds)) p) env
abbrev qv(c:CD->CD)(fuel:Nat):CD:=@Nat.rec (fun _=>CD) (fun _ _ _ _=>none) (fun _ d=>c d) fuel
abbrev yb(call:Ah)(fn n:Nat)(Dy:Option Nat)(f:EV)(ps:List Tmp)(d' body:Code)(tm:Bb)(h:Ab)(ds:List Nat)(k:Ab->List Nat->R)(ex:Nat->Ab->List Nat->R)(ret:Ab->List Nat->R):R:=match f with
 | .func q first captured=>(match Dy with
  | none=>ot (Nat.succ h.next) (call q (first++(.Vz (Nat.succ h.next)::captured)) ((h.new (.deferred true)).new (.loop .ready none fn n tm ps d' body h.next))) (fun h'=>k h' (h.next::ds)) (fun id h'=>ex id h' (h.next::ds)) (fun h'=>ret h' (h.next::ds))
  | some l0=>(match h.get l0 with
   | some (.loop _ _ _ _ _ _ _ _ d)=>ot h.next (call q (first++(.Vz h.next::captured)) (h.new (.loop .ready none fn n tm ps d' body d))) (fun h'=>k h' ds) (fun id h'=>ex id h' ds) (fun h'=>ret h' ds)
   | _=>none))
 | _=>none
abbrev jv(fl:Bool)(T:Ir)(call b_ round:Ah)(fuel fn n:Nat)(Dy:Option Nat)(out:Nat->CD)(ret:CD)(c:Code):jd->CD->CD:=
 @Code.rec (fun _=>jd->CD->CD) (fun _ k=>k)
  (fun _ ops dr _ k=>@Bool.rec (fun _=>CD) (qD fl T call b_ round n ops.toList k ops.toList none) (@Bool.rec (fun _=>CD) (u5 fl T call b_ round n ops.toList k) (qD fl T call b_ round n ops.toList k ops.toList none) (uX T ops.toList)) dr)
  (fun _ _ a b env k=>a env (b env k))
  (fun c _ _ a b env k d tm h ds=>match Ew d c with|some e=>ic e (a env k d tm h ds) (b env k d tm h ds)|none=>none)
  (fun id _ c env k=>c ((id,k)::env) k)
  (fun _ c env _=>qv (fun o=>c env o) fuel)
  (fun f ps d' body _ _ env k d tm h ds=>@Bool.rec (fun _=>R) none (match Ew d f with|some e=>yb b_ fn n Dy e ps.toList d' body tm h ds (fun h ds=>k d tm h ds) (fun id h ds=>pD out env id d tm h ds) (fun h ds=>ret d tm h ds)|none=>none) fl)
  (fun id env _=>pD out env id) (fun _ _ _ _ _ _ _ _=>none) (fun _ _ k=>k) (fun _ _ _ _ _ _ _=>none) (fun _ _=>ret) (fun _ _ _ _ _ _ _=>none) c
def Gb(ds:List Nat)(h:Ab)(k:Ab->R):R:=
 @List.rec Nat (fun _=>Ab->R) k (fun d _ e h=>match h.get d with|some (.deferred true)=>e (h.put d (.deferred false))|_=>none) ds h
abbrev u7(d:VS):ResultVar->RV
 | .tmp t=>.v (d t)
 | .cell a t=>.c (d a) t
abbrev mZ(T:Ir)(res:List ResultVar)(d:VS)(h:Ab):R:=match res with
 | [.tmp t]=>some (d t,h)
 | []=>some (.tuple [],h)
 | [.tmp s,.tmp t]=>some (.tuple [d s,d t],h)
 | res=>J5 T (res.map (u7 d)) h
abbrev sR(fl:Bool)(T:Ir)(res:List ResultVar):CD:=fun d _ h ds=>@Bool.rec (fun _=>R) (mZ T res d h) (Gb ds h fun h=>mZ T res d h) fl
abbrev sD(l:List EV):Nat->VS->VS:=@List.rec EV (fun _=>Nat->VS->VS) (fun _ d=>d) (fun v _ e i d=>e (Nat.succ i) (sP d i v)) l
abbrev u0:VS:=fun _=>.tuple []
abbrev nY:Nat->CD:=fun _ _ _ _ _=>none
def lP(T:Ir)(call round:Ah)(fuel f:Nat)(args:List EV)(h:Ab):R:=
 match T.fn f with
 | some { ntmps:=n,body:=some c,results:=res,.. }=>Bc (Nat.ble (Gk args) n) (jv (jZ c) T call call round fuel f n none nY (sR (jZ c) T res.toList) c [] (sR (jZ c) T res.toList) (sD args 0 u0) (setArgs args 0 .nil) h []) none
 | _=>none
abbrev sE(n:Nat)(ps:List Tmp):List EV->VS->VS:=@List.rec Tmp (fun _=>List EV->VS->VS) (fun _ d=>d) (fun p _ e args d=>@List.rec EV (fun _=>VS) d (fun v r _=>e r (iR n (some p) d v)) args) ps
abbrev xJ(T:Ir)(call b_ round:Ah)(fuel l f n:Nat)(d' body:Code):CD:=
 jv true T call b_ round fuel f n (some l) (fun id _ _ h _=>Xo l false .done (some (.exit id)) h) (fun _ _ h _=>Xo l false .done (some .ret) h) d' []
  fun d tm h ds=>Fm l h fun h=>jv true T call b_ round fuel f n (some l) (fun id _ _ h _=>Xo l false .done (some (.exit id)) h) (fun _ _ h _=>Xo l false .done (some .ret) h) body [] (fun _ _ h _=>Xo l true .ready none h) d tm h ds
def qy(T:Ir)(call round:Ah)(fuel l:Nat)(args:List EV)(h:Ab):R:=
 match h.get l with
 | some (.loop _ _ f n tm ps d' body _)=>match Ww ps args n tm with
  | some d=>xJ T call call round fuel l f n d' body (sE n ps args (tmp tm)) d h []
  | none=>none
 | _=>none
end
variable {k:List EV->R}{m:Mode}{cf fin:CD}
section
theorem oA(l:List EV):Gk l=len l:=by
 induction l with
 | nil=>rfl
 | cons a r d=>exact congrArg Nat.succ d
theorem yc:∀(l:List EV) (n:Nat),kV l n=match Zm l n with|v::_=>some v | []=>none
 | [],n=>rfl
 | a::r,n=>by
  have e:kV (a::r) n=Bc (Nat.beq n 0) (some a) (kV r (Nat.pred n)):=rfl;rw[e];simp only[Zm];cases Nat.beq n 0
  ·exact yc r _
  ·rfl
theorem PG:∀(l:List EV) (n:Nat),uQ l n=Zm l n
 | [],n=>rfl
 | a::r,n=>by
  have e:uQ (a::r) n=Bc (Nat.beq n 0) (a::r) (uQ r (Nat.pred n)):=rfl;rw[e];simp only[Zm];rw[PG r]
theorem yd(a:EV)(x:Option (List EV)):pz a x=match x with|some x=>some (a::x)|none=>none:=by cases x<;>rfl
theorem ye:∀(l:List EV) (n:Nat),sN l n=takeN l n
 | [],n=>rfl
 | a::r,n=>by
  have e:sN (a::r) n=Bc (Nat.beq n 0) (some []) (pz a (sN r (Nat.pred n))):=rfl;rw[e];simp only[takeN];rw[ye r,yd];cases takeN r (Nat.pred n)<;>rfl
theorem PH:∀(l:List EV),takeN l (len l)=some l
 | []=>rfl
 | a::r=>by
  simp only[takeN,len];rw[show Nat.beq (Nat.succ (len r)) 0=false from rfl,Bk,Nat.pred_succ,PH r]
theorem Bb6(l:List EV):Zm l 0=l:=by cases l<;>rfl
theorem nX(l:List EV)(off n:Nat):Ou l off n=takeN (Zm l off) n:=by
 unfold Ou;rw[PG,ye,ye,oA];cases h:Nat.beq off 0
 ·rfl
 ·have:=aK h;subst this
  rw[Bb6];cases d:Nat.beq (len l) n
  ·rfl
  ·have:=aK d;subst this
   rw[PH];rfl
theorem yf:∀(vs l:List EV),pA vs l=J3 l vs
 | [],l=>by cases l<;>rfl
 | v::vs,[]=>rfl
 | v::vs,a::r=>by
  have e:pA (v::vs) (a::r)=pz v (pA vs r):=rfl;rw[e];simp only[J3];rw[yf vs r,yd];cases J3 r vs<;>rfl
theorem yg(vs:List EV):∀(l:List EV) (n:Nat),qB vs l n=Gc l n vs
 | [],n=>by
  have e:qB vs [] n=Bc (Nat.beq n 0) (pA vs []) none:=rfl;rw[e];simp only[Gc];rw[yf]
 | a::r,n=>by
  have e:qB vs (a::r) n=Bc (Nat.beq n 0) (pA vs (a::r)) (pz a (qB vs r (Nat.pred n))):=rfl;rw[e];simp only[Gc];rw[yf,yg vs r,yd];cases Gc r (Nat.pred n) vs<;>rfl
theorem PI:∀(l vs:List EV),len l=len vs->J3 l vs=some vs
 | [],[],_=>rfl
 | a::r,[],h=>by simp[len]at h
 | [],v::vs,h=>by simp[len]at h
 | a::r,v::vs,h=>by
  simp only[J3];rw[PI r vs (by simpa [len]using h)]
theorem U6(l:List EV)(off:Nat)(vs:List EV):Nb l off vs=Gc l off vs:=by
 unfold Nb;rw[yg,yg,oA,oA];cases h:Nat.beq off 0
 ·rfl
 ·have:=aK h;subst this
  cases d:Nat.beq (len l) (len vs)
  ·rfl
  ·have h2:=aK d
   have:Gc l 0 vs=J3 l vs:=by cases l<;>rfl
   rw[this,PI l vs h2];rfl
theorem Hf {β:Type}(k:α->Option β)(a:α):oB k (some a)=k a:=rfl
theorem Nr {β:Type}{k:α->Option β}{x:Option α}{r:β}(e:oB k x=some r):∃a,x=some a/\k a=some r:=by
 cases x with
 | none=>cases e
 | some a=>exact⟨a,rfl,e⟩
theorem yh {x y:R}{r:EV × Ab}(e:uR x y v=some r):∃b,v=.bool b/\(Bc b x y)=some r:=by
 cases v with
 | bool b=>exact⟨b,rfl,e⟩
 | _=>cases e
theorem Pz {k:Nat->Nat->R}{r:EV × Ab}(e:lQ k v=some r):∃i o,v=.ptr i o/\k i o=some r:=by
 cases v with
 | ptr i o=>exact⟨i,o,rfl,e⟩
 | _=>cases e
theorem Bcq {k:IntKind->Int->R}{r:EV × Ab}(e:PB k v=some r):∃c n,v=.int c n/\k c n=some r:=by
 cases v with
 | int c n=>exact⟨c,n,rfl,e⟩
 | _=>cases e
theorem yi {k:Nat->R}{r:EV × Ab}(e:uS k v=some r):∃c n,v=.int c (.ofNat n)/\k n=some r:=by
 cases v with
 | int c n=>
  cases n with
  | ofNat n=>exact⟨c,n,rfl,e⟩
  | negSucc n=>cases e
 | _=>cases e
theorem yj{r:EV × Ab}(e:xZ k v=some r):∃l,v=.agg l/\k l=some r:=by
 cases v with
 | agg l=>exact⟨l,rfl,e⟩
 | _=>cases e
theorem Bds{r:EV × Ab}(e:PC k v=some r):∃l,v=.tuple l/\k l=some r:=by
 cases v with
 | tuple l=>exact⟨l,rfl,e⟩
 | _=>cases e
theorem PJ(a b:Int):uT a b=Int.add a b:=by cases a<;>cases b<;>rfl
theorem PK(a b:Int):uU a b=Int.sub a b:=by
 cases a with
 | ofNat m=>
  cases b with
  | ofNat n=>
   have e:uU (.ofNat m) (.ofNat n)=Bc (Nat.ble n m) (.ofNat (Nat.sub m n)) (.negSucc (Nat.pred (Nat.sub n m))):=rfl;rw[e,Br];show _=(Int.ofNat m)-(Int.ofNat n);split
   next h=>
    have:=bG h;show((m-n:Nat):Int)=_;simp only[aZ];omega
   next h=>
    have:¬n<=m:=fun x=>h (aR x)
    show Int.negSucc ((n-m)-1)=_;simp only[aZ,dJ];omega
  | negSucc n=>rfl
 | negSucc m=>rfl
theorem yk(a b:Int):lS a b=kI a b:=by cases a<;>cases b<;>rfl
theorem xq(a b:Int):oq a b=iV a b:=by cases a<;>cases b<;>rfl
theorem PL(b:Bool):ju b=Bc b false true:=by cases b<;>rfl
theorem Bp2 {op:BinOp}{g:IntKind->Int->Int->EV}(h:x_ op=some g):u9 op=false/\∀k a b,qE op k a b=some (g k a b):=by
 unfold x_ at h;split at h<;>cases h<;>refine⟨rfl,fun k a b=>?_⟩<;>simp only[qE,lJ,o7,qm,Jw,o8,nN,o9,iT,i_,PJ,PK,yk,xq,PL]
theorem PM:∀(l:List (Nat × Nat)) (n:Nat),Dn l n=lW l n
 | [],n=>rfl
 | a::r,n=>by
  have e:Dn (a::r) n=Bc (Nat.beq n 0) (some a) (Dn r (Nat.pred n)):=rfl;rw[e];simp only[lW];rw[PM r]
theorem u_(place:Nat->Option (Nat × Nat)):∀(l:List (Nat × EV)) (c:List EV),jF place l c=fill place c l
 | [],c=>rfl
 | (i,v)::l,c=>by
  have e:jF place ((i,v)::l) c=oB (uw fun off size=>Bc v.plain (Bc (Nat.beq (Gk v.cells) size) (oB (jF place l) (Nb c off v.cells)) none) none) (place i):=rfl;rw[e];simp only[fill];cases place i with
  | none=>rfl
  | some x=>
   obtain⟨off,size⟩:=x;simp only;show Bc v.plain (Bc (Nat.beq (Gk v.cells) size) (oB (jF place l) (Nb c off v.cells)) none) none=_;rw[oA,U6];cases Gc c off v.cells with
   | none=>rfl
   | some d=>
    show Bc v.plain (Bc (Nat.beq (len v.cells) size) (jF place l d) none) none=_;rw[u_ place l d]
theorem yl(h:Ab)(i off n:Nat):Yy h i off n=Jo h i off n:=by
 unfold Yy Jo mV;cases h.get i with
 | none=>rfl
 | some o=>
  cases o<;>simp only[nX];cases mW _ off<;>rfl
theorem tX(h:Ab)(size n:Nat)(x:EV):Pm h size n x=cellsOf h size n x:=by
 unfold Pm cellsOf;cases x<;>simp only[yl]
theorem rI(a b:List EV):sO a b=a++b:=by
 induction a with
 | nil=>rfl
 | cons x r d=>exact congrArg (x :: ·) d
theorem Bd2{st e:TypeId}{size:Nat}{z:List EV}(p:T.T8 st=some (.slice e))(h2:T.size e=some size)(q:T.zero e=some z)(s x:EV)(h:Ab):append T st s x h=Et e size s x h:=by
 unfold append Et;simp only[p,h2,q];cases lenOf x with
 | none=>rfl
 | some n=>
  simp only[Hf];rw[tX];cases cellsOf h size n x with
  | none=>rfl
  | some new=>
   simp only[Hf];cases s with
   | slice i off d room op=>
    simp only;rw[tX];cases cellsOf h size d (.slice i off d room op)with
    | none=>rfl
    | some Bt=>
     simp only[Hf,rI,oA];cases h.get i with
     | none=>rfl
     | some o=>cases o<;>rfl
   | _=>rfl
theorem ym{agg:Bool}(o:T.agg t=some agg)(p:agg=true->T.size t=some n){cs:List EV}{k:EV->R}{r:EV × Ab}(e:uV agg n cs off k=some r):
 ∃v,part T t cs off=some v/\k v=some r:=by
 unfold uV at e;unfold part;rw[o];cases agg with
 | true=>
  rw[Al]at e;obtain⟨l,d,h2⟩:=Nr e;rw[nX]at d;rw[p rfl];simp only;rw[d];exact⟨_,rfl,h2⟩
 | false=>
  rw[Bk]at e;obtain⟨v,d,h2⟩:=Nr e;rw[yc]at d;exact⟨v,d,h2⟩
theorem Df(tm:Bb)(x:Operand):Ew (tmp tm) x=Cj tm x:=by cases x<;>rfl
theorem F7(tm:Bb)(l:List Operand):pC (tmp tm) l=Nc tm l:=by
 induction l with
 | nil=>rfl
 | cons x r d=>
  show(match Ew (tmp tm) x,pC (tmp tm) r with|some e,some es=>some (e::es)|_,_=>none)=_;rw[d,Df];simp only[Nc];cases Cj tm x<;>cases Nc tm r<;>rfl
theorem F3(tm:Bb)(l:List (Nat × Operand)):uY (tmp tm) l=Z8 tm l:=by
 induction l with
 | nil=>rfl
 | cons x r d=>
  obtain⟨i,x⟩:=x;show(match Ew (tmp tm) x,uY (tmp tm) r with|some e,some es=>some ((i,e)::es)|_,_=>none)=_;rw[d,Df];simp only[Z8];cases Cj tm x<;>cases Z8 tm r<;>rfl
theorem Hz(tm:Bb)(x:Option Operand):uZ (tmp tm) x=jw tm x:=by
 cases x with
 | none=>rfl
 | some x=>show(match Ew (tmp tm) x with|some e=>some (some e)|none=>none)=_;rw[Df];rfl
theorem Xs {x:R}{k:EV->Ab->R}{r:EV × Ab}(e:Am x k=some r):∃v h,x=some (v,h)/\k v h=some r:=by
 obtain⟨⟨v,h⟩,d,h2⟩:=Nr e;exact⟨v,h,d,h2⟩
section
variable{call:Ah}
theorem H6(d:oC op=true)(e:Fh T tm op=some v):aop T call round tm op h=some (v,h):=by
 unfold aop;rw[d,Al,e]
theorem A6f{k:Ab->R}{r:EV × Ab}(e:nV h i (fun l=>Nb l off vs) k=some r):∃h',My h i off vs=some h'/\k h'=some r:=by
 unfold nV at e;unfold My;split at e
 next l t hg=>
  obtain⟨l',o,h2⟩:=Nr e;have d:Gc l off vs=some l':=by rw[<-U6];exact o
  simp only[hg,d];exact⟨_,rfl,h2⟩
 next l t s hg=>
  obtain⟨l',o,h2⟩:=Nr e;have d:Gc l off vs=some l':=by rw[<-U6];exact o
  simp only[hg,d];exact⟨_,rfl,h2⟩
 ·cases e
theorem pE{k:EV->Ab->R}{r:EV × Ab}(e:hY T call call round op (tmp tm) h k=some r):
 ∃v h',aop T call round tm op h=some (v,h')/\k v h'=some r:=by
 cases op with
 | move x=>
  simp only[hY,Df,F7,F3,Hz]at e;split at e
  next e1 he=>exact⟨_,_,H6 rfl (he),e⟩
  ·cases e
 | assign x=>
  simp only[hY,Df,F7,F3,Hz]at e;split at e
  next e1 he=>exact⟨_,_,H6 rfl (he),e⟩
  ·cases e
 | pick c a b=>
  simp only[hY,Df,F7,F3,Hz]at e;split at e
  next c1 U b1 hc C hb=>
   obtain⟨bb,d,h2⟩:=yh e;have p:=hc;rw[d]at p;cases bb
   ·exact⟨_,_,H6 rfl (by simp only[Fh];rw[p];exact hb),h2⟩
   ·exact⟨_,_,H6 rfl (by simp only[Fh];rw[p];exact C),h2⟩
  ·cases e
 | binOp op t x y yt=>
  simp only[hY,Df,F7,F3,Hz]at e;split at e
  next U b1 C hb=>
   have ad:=C;have ae:=hb;have key:∀v,bin T op t U b1=some v->aop T call round tm (.binOp op t x y yt) h=some (v,h):=fun v hv=>
    H6 rfl (by simp only[Fh];rw[ad];simp only;rw[ae];exact hv)
   split at e
   next g hg=>
    obtain⟨s1,s2⟩:=Bp2 hg;unfold K3 at e;split at e
    ·obtain⟨d,h2⟩:=Ap e
     refine⟨_,_,key _ ?_,h2⟩;simp only[bin];rw[s1,Bk,d,Al,s2]
    ·obtain⟨v,d,h2⟩:=Nr e
     exact⟨v,h,key v d,h2⟩
   ·obtain⟨v,d,h2⟩:=Nr e
    exact⟨v,h,key v d,h2⟩
  ·cases e
 | unOp u t x=>
  cases u with
  | not=>
   simp only[hY,Df,F7,F3,Hz]at e;split at e
   next e1 he=>
    obtain⟨b,d,h2⟩:=yh e;have p:=he;rw[d]at p;cases b
    ·exact⟨_,_,H6 rfl (by simp only[Fh];rw[p];rfl),h2⟩
    ·exact⟨_,_,H6 rfl (by simp only[Fh];rw[p];rfl),h2⟩
   ·cases e
  | neg=>
   simp only[hY,Df,F7,F3,Hz]at e;split at e
   next e1 he=>
    unfold pa at e;split at e
    ·exact⟨_,h,H6 rfl (by simp only[Fh];rw[he]),e⟩
    ·cases e
   ·cases e
  | _=>(cases e)
 | nilCheck x=>
  simp only[hY,Df,F7,F3,Hz]at e;split at e
  next e1 he=>
   obtain⟨i,o,d,h2⟩:=Pz e;have p:=he;rw[d]at p;exact⟨_,_,H6 rfl (by simp only[Fh];rw[p]),h2⟩
  ·cases e
 | fieldAddr s x f=>
  simp only[hY,Df,F7,F3,Hz]at e;split at e
  next e1 fields he hu=>
   split at e
   next fd hf=>
    split at e
    next n O=>
     cases hb:Nat.beq n 0 with
     | true=>rw[hb,Al]at e;cases e
     | false=>
      rw[hb,Bk]at e;obtain⟨i,o,d,h2⟩:=Pz e;have p:=he;rw[d]at p;exact⟨_,_,H6 rfl (by simp only[Fh];rw[p];simp only;rw[hu];simp only;rw[hf];simp only;rw[O];simp only;rw[hb,Bk]),h2⟩
    ·cases e
   ·cases e
  ·cases e
 | indexAddr t x ix=>
  simp only[hY,Df,F7,F3,Hz]at e;split at e
  next e1 V ln H he L hu=>
   split at e
   next s hs=>
    obtain⟨c,j,d,h2⟩:=yi e;obtain⟨i,off,p,h4⟩:=Pz h2;obtain⟨D,E⟩:=Ap h4;have A:=L;have B:=he;rw[d]at A;rw[p]at B;exact⟨_,_,H6 rfl (by simp only[Fh];rw[A];simp only;rw[hu,B];simp only;rw[hs];simp only;rw[D,Al]),E⟩
   ·cases e
  next e1 V H he L hu=>
   split at e
   next s hs=>
    obtain⟨c,j,d,h2⟩:=yi e;split at h2
    ·obtain⟨D,E⟩:=Ap h2
     have A:=L;have B:=he;rw[d]at A;exact⟨_,_,H6 rfl (by simp only[Fh];rw[A];simp only;rw[hu,B];simp only;rw[hs];simp only;rw[D,Al]),E⟩
    ·cases h2
   ·cases e
  ·cases e
 | index t x ix=>
  simp only[hY,Df,F7,F3,Hz]at e;split at e
  next e1 V ln H he L hu=>
   split at e
   next s agg hs C=>
    obtain⟨c,j,d,h2⟩:=yi e;obtain⟨cs,p,h4⟩:=yj h2;obtain⟨D,E⟩:=Ap h4;obtain⟨v,Q,S⟩:=ym C (fun _=>hs) E;have A:=L;have B:=he;rw[d]at A;rw[p]at B;exact⟨_,_,H6 rfl (by simp only[Fh];rw[A];simp only;rw[hu,B];simp only;rw[hs];simp only;rw[D,Al,Q]),S⟩
   ·cases e
  ·(cases e)
 | field t x f=>
  simp only[hY,Df,F7,F3,Hz]at e;split at e
  next e1 fields he hu=>
   split at e
   next fd hf=>
    have B:=he;split at e
    next C=>
     split at e
     next n O=>
      obtain⟨cs,p,h4⟩:=yj e;obtain⟨v,Q,S⟩:=ym C (fun _=>O) h4;rw[p]at B;exact⟨_,_,H6 rfl (by simp only[Fh];rw[hu,B];simp only;rw[hf];simp only;rw[Q]),S⟩
     ·cases e
    next C=>
     obtain⟨cs,p,h4⟩:=yj e;obtain⟨v,Q,S⟩:=ym C (fun x=>by cases x) h4;rw[p]at B;exact⟨_,_,H6 rfl (by simp only[Fh];rw[hu,B];simp only;rw[hf];simp only;rw[Q]),S⟩
    ·cases e
   ·cases e
  ·cases e
 | convert src dst x=>
  simp only[hY,Df,F7,F3,Hz]at e;split at e
  next e1 _ c he hs hd=>
   obtain⟨c',n,d,h2⟩:=Bcq e;have q:=he;rw[d]at q;exact⟨_,_,H6 rfl (by simp only[Fh];rw[hs,hd,q]),h2⟩
  ·cases e
 | extract x ix=>
  simp only[hY,Df,F7,F3,Hz]at e;split at e
  next e1 he=>
   obtain⟨l,d,h2⟩:=Bds e;obtain⟨v,p,h4⟩:=Nr h2;have q:=he;rw[d]at q;rw[yc]at p;exact⟨_,_,H6 rfl (by simp only[Fh];rw[q];exact p),h4⟩
  ·cases e
 | load t x=>
  simp only[hY,Df]at e;split at e
  next e1 he C=>
   split at e
   next n O=>
    obtain⟨i,off,d,h2⟩:=Pz e;obtain⟨l',D,E⟩:=Nr h2;rw[d]at he;refine⟨_,_,?_,E⟩;show D3 T tm (.load t x) h=_;simp only[D3];rw[he];simp only;rw[C];simp only;rw[O];simp only;rw[<-yl];rw[show Yy h i off n=some l' from D]
   ·cases e
  next e1 he C=>
   obtain⟨i,off,d,h2⟩:=Pz e;obtain⟨l',D,E⟩:=Nr h2;rw[d]at he;split at E
   ·refine⟨_,_,?_,E⟩
    show D3 T tm (.load t x) h=_;simp only[D3];rw[he];simp only;rw[C];simp only;rw[<-yl,show Yy h i off 1=some _ from D]
   ·cases E
  ·cases e
 | store t a x=>
  simp only[hY,Df,F7,F3,Hz]at e;split at e
  next U x1 n C hx O=>
   obtain⟨i,off,d,h2⟩:=Pz e;obtain⟨p,h4⟩:=Ap h2;obtain⟨D,E⟩:=Ap h4;obtain⟨h',Q,S⟩:=A6f E;rw[oA]at D;have A:=C;have B:=hx;rw[d]at A;refine⟨_,_,?_,S⟩;show D3 T tm (.store t a x) h=_;simp only[D3];rw[A,B,O];simp only;rw[p,Al,D,Al,Q]
  ·cases e
 | alloc t=>
  simp only[hY,Df,F7,F3,Hz]at e;split at e
  next z F=>
   refine⟨_,_,?_,e⟩;show D3 T tm (.alloc t) h=_;simp only[D3];rw[F]
  ·cases e
 | box t x=>
  simp only[hY,Df,F7,F3,Hz]at e;split at e
  next e1 he=>
   obtain⟨d,h2⟩:=Ap e;refine⟨_,_,?_,h2⟩;show D3 T tm (.box t x) h=_;simp only[D3];rw[he];simp only;rw[d,Al]
  ·cases e
 | call c=>
  obtain⟨callee,args,M⟩:=c;have W:∀{f:Operand} {e1:EV} {as:List EV},Cj tm f=some e1->Nc tm args.toList=some as->Am (Ue call round e1 as h) k=some r->∃v h',aop T call round tm (.call ⟨.value f,args,M⟩) h=some (v,h')/\k v h'=some r:=by
   intro f e1 as A B hc;obtain⟨v,h',d,h2⟩:=Xs hc;refine⟨v,h',?_,h2⟩;show(match Cj tm f,Nc tm args.toList with|some (.func g first captured),some as=>call g (first++(as++captured)) h|some (.Vz l),some as=>round l as h|_,_=>none)=_;rw[A,B];unfold Ue at d;split at d
   ·rw[rI,rI]at d;exact d
   ·exact d
   ·cases d
  cases callee with
  | value f=>
   cases f with
   | func g=>
    simp only[hY,Df,F7]at e;split at e
    next as C=>
     obtain⟨v,h',d,h2⟩:=Xs e;refine⟨v,h',?_,h2⟩;show(match Cj tm (.func g),Nc tm args.toList with|some (.func g first captured),some as=>call g (first++(as++captured)) h|some (.Vz l),some as=>round l as h|_,_=>none)=_;rw[C];simp only[Cj,cU,dP];exact d
    ·cases e
   | global g=>cases e
   | _=>
    simp only[hY,Df,F7]at e;split at e
    next e1 as hf C=>exact W hf C e
    ·cases e
  | builtin b=>
   have key:∀{as:List EV},Nc tm args.toList=some as->∀v h',builtin T b M as h=some (v,h')->aop T call round tm (.call ⟨.builtin b,args,M⟩) h=some (v,h'):=by
    intro as C v h' hb;show D3 T tm (.call ⟨.builtin b,args,M⟩) h=_;simp only[D3];rw[C];exact hb
   cases b with
   | append=>
    simp only[hY,Df]at e;split at e
    next s x t u G J=>
     split at e
     next U b1 u1 H hs hx hu X=>
      split at e
      next size z ag F=>
       obtain⟨v,h',d,h2⟩:=Xs e;refine⟨v,h',key (as:=[U,b1]) (by rw[G];simp only[Nc,hs,hx]) v h' ?_,h2⟩;rw[<-Bd2 X ag F]at d;simp only[builtin];rw[J];simp only;rw[hu];exact d
      ·cases e
     ·cases e
    ·cases e
   | len=>
    simp only[hY,Df]at e;split at e
    next x t G J=>
     have ka:∀{e1:EV},Cj tm x=some e1->Nc tm args.toList=some [e1]:=by
      intro e1 he;rw[G];simp only[Nc,he]
     split at e
     next e1 H he X=>
      obtain⟨n,d,h2⟩:=Nr e;refine⟨_,_,key (ka he) _ _ ?_,h2⟩;simp only[builtin];rw[J];simp only;rw[X];simp only;rw[d]
     next e1 dd H he X=>
      obtain⟨v,h',d,h2⟩:=Xs e;refine⟨_,_,key (ka he) v h' ?_,h2⟩;simp only[builtin];rw[J];simp only;rw[X];revert d;unfold uD;cases e1<;>exact id
     next e1 _ _ he _ _=>
      obtain⟨v,h',d,h2⟩:=Xs e;exact⟨_,_,key (ka he) v h' d,h2⟩
     ·cases e
    ·cases e
   | _=>
    simp only[hY,F7]at e;split at e
    next as C=>
     obtain⟨v,h',d,h2⟩:=Xs e;exact⟨v,h',key C v h' d,h2⟩
    ·cases e
  | _=>cases e
 | build t ps=>
  simp only[hY,F3]at e;split at e
  next z l fields F Y hu=>
   split at e
   next pl ai=>
    obtain⟨c,p,h2⟩:=Nr e;refine⟨_,h,H6 rfl ?_,h2⟩;rw[u_,show Dn pl=lW pl from funext (PM pl)]at p;simp only[Fh];rw[F,Y,hu];simp only;rw[ai];simp only;rw[p]
   ·cases e
  next z l n H F Y hu=>
   split at e
   next s hs=>
    obtain⟨c,p,h2⟩:=Nr e;refine⟨_,h,H6 rfl ?_,h2⟩;rw[u_]at p;simp only[Fh];rw[F,Y,hu];simp only;rw[hs];simp only;have aj:fill (fun i=>some (Nat.mul i s,s)) z l=some c:=p;rw[aj]
   ·cases e
  ·cases e
 | buildSlice t n ps=>
  simp only[hY,F3]at e;split at e
  next H l hu Y=>
   split at e
   next s z hs F=>
    obtain⟨v,h',d,h2⟩:=Xs e;refine⟨v,h',?_,h2⟩;unfold Ca at d;obtain⟨p,h4⟩:=Ap d;obtain⟨c,D,E⟩:=Nr h4;rw[u_]at D;have al:fill (fun i=>some (Nat.mul i s,s)) (rep z n) l=some c:=D;show D3 T tm (.buildSlice t n ps) h=_;simp only[D3];rw[hu,Y];simp only;rw[hs,F];simp only;rw[p,Al,al];exact E
   ·cases e
  ·cases e
 | makeFunc fo first captured=>
  cases fo with
  | func f=>
   simp only[hY,F7]at e;split at e
   next a b C hb=>
    exact⟨_,h,H6 rfl (by simp only[Fh];rw[C,hb]),e⟩
   ·cases e
  | _=>cases e
 | sliceToArrayPointer t x=>
  simp only[hY,Df]at e;split at e
  next e1 n H he hu=>
   unfold pe at e;split at e
   ·obtain⟨d,h2⟩:=Ap e
    exact⟨_,h,H6 rfl (by simp only[Fh];rw[hu,he];simp only;rw[d,Al]),h2⟩
   ·cases e
  ·cases e
 | slice t x lo hi mx=>
  simp only[hY,Df,Hz]at e;split at e
  next e1 a2 a3 a4 A B q3 q4=>
   split at e
   next n H hu=>
    split at e
    next s hs=>
     obtain⟨i,o,rfl,d⟩:=Pz e;obtain⟨v,h2,p⟩:=Nr d;exact⟨v,h,H6 rfl (by simp only[Fh];rw[B,q3,q4];simp only;rw[hu,A];simp only[hs];exact h2),p⟩
    ·cases e
   next H hu=>
    split at e
    next s hs=>
     obtain⟨v,d,h2⟩:=Nr e;exact⟨v,h,H6 rfl (by simp only[Fh];rw[B,q3,q4];simp only;rw[hu,A];simp only;rw[hs];exact d),h2⟩
    ·cases e
   ·cases e
  ·cases e
 | makeSlice t l c=>
  simp only[hY,Df]at e;split at e
  next l1 c1 H A B hu=>
   split at e
   next z F=>
    obtain⟨v,h',d,h2⟩:=Xs e;refine⟨v,h',?_,h2⟩;unfold Wa at d;split at d
    ·show D3 T tm (.makeSlice t l c) h=_
     simp only[D3];rw[hu,A,B];simp only;rw[F];exact d
    ·cases d
   ·cases e
  ·cases e
 | makeMap t rs=>
  cases rs with
  | none=>
   obtain⟨v,h',d,h2⟩:=Xs (show Am (uF h) k=some r from e);exact⟨v,h',d,h2⟩
  | some x=>cases e
 | makeChan t s=>
  simp only[hY,Df]at e;split at e
  next s1 dd H A hu=>
   split at e
   next n0 ao=>
    obtain⟨v,h',d,h2⟩:=Xs e;refine⟨v,h',?_,h2⟩;unfold uB at d;split at d
    ·show D3 T tm (.makeChan t s) h=_
     simp only[D3];rw[hu,A];simp only;rw[ao];exact d
    ·cases d
   ·cases e
  ·cases e
 | lookup t x ix ok=>
  simp only[hY,Df]at e;split at e
  next m1 i1 kt H A B hu=>
   obtain⟨v,h',d,h2⟩:=Xs e;refine⟨v,h',?_,h2⟩;unfold qs at d;split at d
   ·show D3 T tm (.lookup t x ix ok) h=_
    simp only[D3];rw[hu,A,B];simp only;obtain⟨p,h4⟩:=Ap d;rw[p,Al];split at h4
    next es hg=>
     rw[hg];simp only;split at h4
     next hf=>rw[hf];exact h4
     next hf=>
      rw[hf];simp only
      obtain⟨zv,D,E⟩:=Nr h4;rw[D];exact E
     ·cases h4
    ·cases h4
   ·cases d
  ·cases e
 | mapUpdate t m ix x=>
  simp only[hY,Df]at e;split at e
  next m1 i1 x1 kt H A B q3 hu=>
   obtain⟨v,h',d,h2⟩:=Xs e;refine⟨v,h',?_,h2⟩;unfold qu at d;split at d
   ·show D3 T tm (.mapUpdate t m ix x) h=_
    simp only[D3];rw[hu,A,B,q3];simp only;obtain⟨p,h4⟩:=Ap d;rw[p,Al];split at h4
    next es hg=>
     rw[hg];simp only;split at h4
     next hf=>rw[hf];exact h4
     next hf=>rw[hf];exact h4
     ·cases h4
    ·cases h4
   ·cases d
  ·cases e
 | select cs bl=>
  cases bl with
  | true=>cases e
  | false=>
   simp only[hY,Df]at e;split at e
   next c Z=>
    split at e
    next x hsend=>
     split at e
     next c1 x1 zv A B F=>
      obtain⟨v,h',d,h2⟩:=Xs e;refine⟨v,h',?_,h2⟩;unfold pr at d;split at d
      ·show D3 T tm (.select cs false) h=_
       simp only[D3];rw[Z];simp only;rw[A,hsend];simp only;split at d
       next cap buf hg=>
        rw[hg,B];simp only;rw[F];exact d
       ·cases d
      ·cases d
     ·cases e
    next hsend=>
     split at e
     next c1 zv A F=>
      obtain⟨v,h',d,h2⟩:=Xs e;refine⟨v,h',?_,h2⟩;unfold px at d;split at d
      ·show D3 T tm (.select cs false) h=_
       simp only[D3];rw[Z];simp only;rw[A,hsend];simp only;split at d
       next cap buf hg=>
        rw[hg,F];exact d
       ·cases d
      ·cases d
     ·cases e
   ·cases e
 | _=>cases e
theorem Jg(tm:Bb)(j i:Nat)(v:EV):tmp (tm.put j (some v)) i=if j=i then v else tmp tm i:=by
 unfold tmp;rw[Tr.get_put];by_cases h:j=i<;>simp[h]
theorem qF(n:Nat)(d:Option Tmp)(tm:Bb)(v:EV):iR n d (tmp tm) v=tmp (Qm n tm d v):=by
 cases d with
 | none=>rfl
 | some d=>
  show Bc (Nat.ble (Nat.succ d) n) (sP (tmp tm) d v) (tmp tm)=tmp (Bc (Nat.ble (Nat.succ d) n) (tm.put d (some v)) tm);cases Nat.ble (Nat.succ d) n with
  | false=>rfl
  | true=>
   funext i;rw[Al,Al,Jg];show Bc (Nat.beq d i) v (tmp tm i)=_;by_cases e:d=i
   ·subst e;rw[aI rfl,cL,Al]
   ·rw[aG e,beq_false e,Bk]
theorem Blj(ops:List Oper)(g:Nat × Bool)(tm:Bb):sQ ops (tmp tm) g=wanted ops tm (some g):=by
 obtain⟨j,want⟩:=g;simp only[wanted,yielded];show(match kK ops j with|some o=>(match o.dst with|some d=>Eu (tmp tm d) want|none=>false)|none=>false)=_;cases kK ops j with
 | none=>rfl
 | some o=>
  simp only;cases o.dst with
  | none=>rfl
  | some d=>
   simp only[tmp];cases tm.get d with
   | none=>rfl
   | some v=>cases v<;>first|rfl|(simp only[Eu,PL])
def km(ops:List Oper)(tm:Bb)(m:Mode):Prop:=∀g b,m=some (g,b)->wanted ops tm (some g)=b
theorem km.none(ops:List Oper)(tm:Bb):km ops tm none:=fun _ _ h=>by cases h
theorem Bmo(h:PF a b=true):a=b:=by cases a<;>cases b<;>first|rfl|cases h
theorem PN(hm:km ops tm m){g:Nat × Bool}(h:qC m g=some b):wanted ops tm (some g)=b:=by
 unfold qC at h;cases m with
 | none=>cases h
 | some x=>
  obtain⟨⟨j,w⟩,e⟩:=x;simp only at h;obtain⟨d,h2⟩:=Ap h;cases h2;rw[Br]at d;split at d
  next hj=>
   have e1:j=g.1:=aK hj;have e2:w=g.2:=Bmo d;have:g=(j,w):=by rw[e1,e2]
   rw[this];exact hm _ _ rfl
  ·cases d
theorem va{g:Nat × Bool}(hw:wanted ops tm (some g)=b)(n:Nat)(dst:Option Tmp)(v:EV):km ops (Qm n tm dst v) (j5 ops g b dst):=by
 intro A B h;obtain⟨j,w⟩:=g;unfold j5 at h;simp only[wanted,yielded]at hw⊢;cases p:kK ops j with
 | none=>
  rw[p]at h hw;simp only at h hw;cases h;simp only[p];exact hw
 | some o=>
  rw[p]at h hw;simp only at h hw;cases hd:o.dst with
  | none=>
   rw[hd]at h hw;simp only at h hw;cases h;simp only[p,hd];exact hw
  | some d=>
   rw[hd]at h hw;simp only at h hw;cases dst with
   | none=>
    simp only at h;cases h;simp only[p,hd,Qm];exact hw
   | some u=>
    simp only at h;rw[Br]at h;split at h
    ·cases h
    next y=>
     cases h;have q:u≠d:=fun e=>y (by rw[e];exact cL _)
     have hg:(Qm n tm (some u) v).get d=tm.get d:=by
      show(Bc (Nat.ble (Nat.succ u) n) (tm.put u (some v)) tm).get d=_;rw[Br];split
      ·rw[Tr.get_put,aG q]
      ·rfl
     simp only[p,hd,hg];exact hw
theorem PO(hm:km ops tm m){g:Nat × Bool}{A B:R}{r:EV × Ab}(e:(match qC m g with|some true=>A|some false=>B|none=>Bc (sQ ops (tmp tm) g) A B)=some r):
 (wanted ops tm (some g)=true/\A=some r)\/(wanted ops tm (some g)=false/\B=some r):=by
 split at e
 next d=>exact .inl ⟨PN hm d,e⟩
 next d=>exact .inr ⟨PN hm d,e⟩
 ·rw[Blj]at e
  cases hw:wanted ops tm (some g)with
  | true=>rw[hw,Al]at e;exact .inl ⟨rfl,e⟩
  | false=>rw[hw,Bk]at e;exact .inr ⟨rfl,e⟩
theorem vc{d:Option Tmp}(F:Bb->R):jh fl n tm d v F=F (ya fl n tm d v):=by cases fl<;>cases d<;>rfl
theorem yo:∀{l:List Oper} {m:Mode} {tm t2:Bb} {h:Ab} {ds:List Nat} {r:EV × Ab},(fl=true->t2=tm)->km ops tm m->qD fl T call call round n ops fin l m (tmp tm) t2 h ds=some r ->
 ∃d h' o,jJ T call round n ops l tm h=some (d,h')/\(fl=true->o=d)/\fin (tmp d) o h' ds=some r
 | [],m,tm,t2,h,ds,r,p,_,e=>⟨tm,h,t2,rfl,p,e⟩
 | ⟨dst,op,ty,ps,E,g⟩::l,m,tm,t2,h,ds,r,p,hm,e=>by
  have hp:∀v,fl=true->ya fl n t2 dst v=Qm n tm dst v:=fun v e=>by rw[p e];show Bc fl _ _=_;rw[e,Al]
  have run:∀{q:Mode},(∀v,km ops (Qm n tm dst v) q)->hY T call call round op (tmp tm) h (fun v h=>jh fl n t2 dst v fun t2=>qD fl T call call round n ops fin l q (iR n dst (tmp tm) v) t2 h ds)=some r ->
   ∃d h' o,(match aop T call round tm op h with|some (v,h')=>jJ T call round n ops l (Qm n tm dst v) h'|none=>none)=some (d,h')/\(fl=true->o=d)/\fin (tmp d) o h' ds=some r:=by
   intro q u e;obtain⟨v,h',B,h2⟩:=pE e;rw[vc,qF]at h2;obtain⟨y,A,t3,C,h4,D⟩:=yo (hp v) (u v) h2;exact⟨y,A,t3,by rw[B];exact C,h4,D⟩
  simp only[jJ];cases g with
  | none=>
   simp only[wanted,Al];exact run (fun v=>km.none _ _) e
  | some g=>
   rcases PO hm e with⟨hw,e'⟩|⟨hw,e'⟩
   ·rw[hw,Al];exact run (fun v=>va hw n dst v) e'
   ·rw[hw,Bk];rw[vc,qF]at e';exact yo (hp _) (va hw n dst _) e'
end
end
theorem yp(h:Bc a b false=true):a=true/\b=true:=by cases a<;>simp_all [Br]
theorem PQ(h:cls op=.load):∃t x,op=.load t x:=by
 cases op<;>first|exact⟨_,_,rfl⟩|skip
 all_goals (first|(cases h;done)|skip)
 all_goals (simp only[cls,oC,Al,Bk]at h;first|(cases h;done)|skip)
 all_goals exact absurd h (sS false _).2.1
theorem Bo3{call:Ah}(o:pB T op=true)(u:cls op=.pur){h2:Ab}(d:aop T call round tm op h=some (v,h')):
 h'=h/\D3 T tm op h2=some (v,h2):=by
 have hp:=vd u;rw[yq hp]at d;refine⟨PR hp d,?_⟩;unfold pB at o;rw[u]at o;simp only at o;split at o
 next args p=>
  split at o
  next t q=>
   split at o
   next e hu=>
    simp only[D3]at d⊢;split at d
    next as has=>
     match as,d with
     | [x],d=>
      simp only[builtin]at d⊢;rw[q]at d⊢;simp only at d⊢;rw[hu]at d⊢;simp only at d⊢;split at d
      ·cases d;first|rfl|(rename_i n y;rw[y])
      ·cases d
     | [],d=>cases d
     | _::_::_,d=>cases d
    ·cases d
   ·cases o
  ·cases o
 next args p=>
  simp only[D3]at d⊢;split at d
  next as has=>
   match as,d with
   | x::l,d=>
    cases x<;>first|(cases d;done)|skip
    simp only[builtin]at d⊢;split at d
    ·cases d;first|rfl|(rename_i hm;rw[hm])
    ·cases d
   | [],d=>cases d
  ·cases d
 next args p=>
  simp only[D3]at d⊢;split at d
  next as has=>
   match as,d with
   | x::l,d=>
    cases x<;>first|(cases d;done)|skip
    simp only[builtin]at d⊢;split at d
    ·cases d;first|rfl|(rename_i hm;rw[hm])
    ·cases d
   | [],d=>cases d
  ·cases d
 ·cases o
theorem yr {T:Ir}{call round:Ah}{n:Nat}{ops:List Oper}{bs:Tr Nat}{h:Ab}{base:Nat}:
 ∀(l:List Oper) (i:Nat) (tm g_:Bb) (h':Ab) (Cy:List (Nat × Nat)),uW T l=true->(∀k,k<l.length->∃b,bs.get (i+k)=some b)->jJ T call round n ops l tm h=some (g_,h') ->
  h'=h/\∃lds',Tj T call round n ops bs base l i ⟨tm,h,0,[],Cy,[],[]⟩=some ⟨g_,h,0,[],lds',[],[]⟩
 | [],i,tm,g_,h',Cy,_,_,e=>by cases e;exact⟨rfl,Cy,rfl⟩
 | ⟨dst,op,ty,ps,af,g⟩::l,i,tm,g_,h',Cy,hq,hbs,e=>by
  obtain⟨hq1,hq2⟩:=yp (show Bc (pB T op) (uW T l) false=true from hq);have hbs':∀k,k<l.length->∃b,bs.get (Nat.succ i+k)=some b:=fun k hk=>by
   have:=hbs (k+1) (by simp;omega);rw[show Nat.succ i+k=i+(k+1) from a_];exact this
  obtain⟨b,iE⟩:=hbs 0 (by simp);rw[dU]at iE;simp only[jJ]at e;cases hw:wanted ops tm g with
  | false=>
   rw[hw,Bk]at e;obtain⟨h1,lds',h2⟩:=yr l (Nat.succ i) _ _ _ Cy hq2 hbs' e;refine⟨h1,lds',?_⟩;simp only[Tj,Xa,hw,Bk];exact h2
  | true=>
   rw[hw,Al]at e;split at e
   next v h1 hop=>
    have go:h1=h->(∃lds1,Xa T call round n ops bs base ⟨dst,op,ty,ps,af,g⟩ i ⟨tm,h,0,[],Cy,[],[]⟩=some ⟨Qm n tm dst v,h,0,[],lds1,[],[]⟩) ->
     h'=h/\∃lds',Tj T call round n ops bs base (⟨dst,op,ty,ps,af,g⟩::l) i ⟨tm,h,0,[],Cy,[],[]⟩=some ⟨g_,h,0,[],lds',[],[]⟩:=by
     rintro rfl ⟨lds1,hd⟩;obtain⟨h2,lds',h3⟩:=yr l (Nat.succ i) _ _ _ lds1 hq2 hbs' e;exact⟨h2,lds',by simp only[Tj,hd];exact h3⟩
    cases hc:cls op with
    | val=>
     have hv:=ys hc;unfold aop at hop;rw[hv,Al]at hop;split at hop
     next v' hv'=>
      cases hop;refine go rfl ⟨Cy,?_⟩;simp only[Xa,hw,Al,iE,hc,hv']
     ·cases hop
    | load=>
     obtain⟨t,x,rfl⟩:=PQ hc;have hop':D3 T tm (.load t x) h=some (v,h1):=hop;have hop2:=hop';simp only[D3]at hop';split at hop'
     next q off hx=>
      have hh1:h1=h:=by
       split at hop'
       ·split at hop'
        ·split at hop'
         ·cases hop';rfl
         ·cases hop'
        ·cases hop'
       ·split at hop'
        ·cases hop';rfl
        ·cases hop'
       ·cases hop'
      subst hh1;refine go rfl ⟨(Nat.shiftLeft 1 i,q)::Cy,?_⟩;have hst:within 0 b=true:=by unfold within;rw[show Nat.land 0 b=0 from Nat.zero_and b];rfl
      have hall:Bc (Nat.ble (Nat.succ q) base) true (Bc (within 0 b) true false)=true:=by rw[hst];cases Nat.ble (Nat.succ q) base<;>rfl
      simp only[Xa,hw,Al,iE,hc,hx,Fx,Yo,loose,hall,hop2]
     ·cases hop'
    | pur=>
     obtain⟨h2,h3⟩:=Bo3 (h2:=⟨.nil,h.next,h.next⟩) hq1 hc hop;refine go h2 ⟨Cy,?_⟩;simp only[Xa,hw,Al,iE,hc,h3]
    | new=>unfold pB at hq1;rw[hc]at hq1;cases hq1
    | sto=>unfold pB at hq1;rw[hc]at hq1;cases hq1
    | big=>unfold pB at hq1;rw[hc]at hq1;cases hq1
   ·cases e
theorem A9l{call:Ah}(o:uX T ops=true){d:Bb}(e:jJ T call round n ops ops tm h=some (d,h')):
 lY T call round n ops tm h=some (d,h'):=by
 obtain⟨u,o⟩:=yp o;obtain⟨y,A⟩:=yp o;have p:∀k,k<ops.length->∃b,(Oy ops 0 .nil).get (0+k)=some b:=fun k B=>by
  obtain⟨b,hb,_⟩:=yu ops 0 .nil (fun _ _=>rfl) k ops[k] (aD B);exact⟨b,hb⟩
 obtain⟨rfl,q,C⟩:=yr (bs:=Oy ops 0 .nil) (base:=h.next) ops 0 tm d h' [] u p e;unfold lY;rw[y,Al,A,Al,C]
theorem Br6(h:b=true){x y:α}:Bc b x y=x:=by rw[h];rfl
theorem Bn0{call:Ah}:aop T call round tm (.load t x) h=D3 T tm (.load t x) h:=rfl
theorem Boi{call:Ah}{a:Operand}:aop T call round tm (.store t a x) h=D3 T tm (.store t a x) h:=rfl
theorem Bqk(h:cls op=.sto):∃t a x,op=.store t a x:=by
 cases op<;>first|exact⟨_,_,_,rfl⟩|skip
 all_goals (first|(cases h;done)|skip)
 all_goals (first
  | (rename_i c;exact absurd (show Bc false l_.val (Bc (m' (.call c)) .pur .big)=.sto from h) (sS _ _).2.2)
  | exact absurd h (sS _ _).2.2)
theorem Baf{call:Ah}(d:cls op=.new):aop T call round tm op h=D3 T tm op h:=by
 rcases yv d with⟨_,rfl⟩|⟨_,_,rfl⟩|⟨_,_,_,rfl⟩|⟨_,_,_,rfl⟩|⟨_,_,rfl⟩|⟨_,_,rfl⟩<;>rfl
def DX.with(s:DX)(tm:Bb)(h:Ab):jk:=⟨tm,h,s.bg,s.nw,s.Cy,s.lou,s.st⟩
theorem yw{call:Ah}{bs:Tr Nat}{base:Nat}{r:EV × Ab}:∀{l:List Oper} {i:Nat} {m:Mode} {s:DX} {tm t2:Bb} {h:Ab},(fl=true->t2=tm)->km ops tm m ->
 lU fl T call call round n ops bs base fin l i m s (tmp tm) t2 h ds=some r->∃s' y,Tj T call round n ops bs base l i (s.with tm h)=some s'/\(fl=true->y=s'.tm)/\fin (tmp s'.tm) y s'.h ds=some r
 | [],i,m,s,tm,t2,h,J,_,e=>⟨s.with tm h,t2,rfl,J,e⟩
 | ⟨dst,op,ty,ps,L,g⟩::l,i,m,s,tm,t2,h,J,hm,e=>by
  have hp:∀v,fl=true->ya fl n t2 dst v=Qm n tm dst v:=fun v e=>by rw[J e];show Bc fl _ _=_;rw[e,Al]
  cases hb:bs.get i with
  | none=>simp only[lU,hb]at e;cases e
  | some b=>
   have run:∀{mk:Mode},(∀v,km ops (Qm n tm dst v) mk)->wanted ops tm g=true->ox T call call round op i b base s (tmp tm) h (fun s v h=>jh fl n t2 dst v fun t2=>lU fl T call call round n ops bs base fin l (Nat.succ i) mk s (iR n dst (tmp tm) v) t2 h ds)=some r ->
    ∃s' y,Tj T call round n ops bs base (⟨dst,op,ty,ps,L,g⟩::l) i (s.with tm h)=some s'/\(fl=true->y=s'.tm)/\fin (tmp s'.tm) y s'.h ds=some r:=by
    intro mk M hw e2;have p:∀{v:EV} {B:Ab} {s1:DX},(jh fl n t2 dst v fun t2=>lU fl T call call round n ops bs base fin l (Nat.succ i) mk s1 (iR n dst (tmp tm) v) t2 B ds)=some r ->
     Xa T call round n ops bs base ⟨dst,op,ty,ps,L,g⟩ i (s.with tm h)=some (s1.with (Qm n tm dst v) B) ->
     ∃s' y,Tj T call round n ops bs base (⟨dst,op,ty,ps,L,g⟩::l) i (s.with tm h)=some s'/\(fl=true->y=s'.tm)/\fin (tmp s'.tm) y s'.h ds=some r:=by
     intro v B s1 e3 hd;rw[vc,qF]at e3;obtain⟨s',t3,h2,A,h4⟩:=yw (hp v) (M v) e3;exact⟨s',t3,by simp only[Tj,hd];exact h2,A,h4⟩
    unfold ox at e2;cases u:cls op with
    | val=>
     rw[u]at e2;obtain⟨v,B,h2,A⟩:=pE e2;have U:=ys u;unfold aop at h2;rw[U,Al]at h2;split at h2
     next W O=>
      cases h2;refine p A ?_;simp only[Xa,DX.with,hw,Al,hb,u,O]
     ·cases h2
    | load=>
     rw[u]at e2;obtain⟨t,x,rfl⟩:=PQ u;simp only[Df]at e2;split at e2
     next ex C=>
      obtain⟨q,o,B,h2⟩:=Pz e2;obtain⟨A,h4⟩:=Ap h2;obtain⟨v,D,E,F⟩:=pE h4;rw[Bn0]at E;rw[B]at C;have Q:D=h:=by
       have d:=E;simp only[D3]at d;rw[C]at d;simp only at d;split at d
       ·split at d
        ·split at d
         ·cases d;rfl
         ·cases d
        ·cases d
       ·split at d
        ·cases d;rfl
        ·cases d
       ·cases d
      subst Q;refine p F ?_;unfold ur at A;simp only[Xa,DX.with,hw,Al,hb,u,C,E,DX.ld];exact Br6 A
     ·cases e2
    | new=>
     rw[u]at e2;simp only[o_]at e2;obtain⟨v,B,h2,A⟩:=pE e2;rw[Baf u]at h2;refine p A ?_;simp only[Xa,DX.with,hw,Al,hb,u,h2,DX.new]
    | sto=>
     rw[u]at e2;obtain⟨t,a,x,rfl⟩:=Bqk u;simp only[Df]at e2;split at e2
     next ex C=>
      obtain⟨q,o,B,h2⟩:=Pz e2;obtain⟨A,h4⟩:=Ap h2;obtain⟨v,D,E,F⟩:=pE h4;rw[Boi]at E;rw[B]at C;refine p F ?_;unfold qo at A;simp only[Xa,DX.with,hw,Al,hb,u,C,A,E,DX.sto]
     ·cases e2
    | pur=>
     rw[u]at e2;simp only[PE]at e2;obtain⟨v,B,h2,A⟩:=pE e2;rw[yq (vd u)]at h2;refine p A ?_;simp only[Xa,DX.with,hw,Al,hb,u,h2]
    | big=>
     rw[u]at e2;obtain⟨B,h2⟩:=Ap e2;obtain⟨v,A,h4,D⟩:=pE h2;obtain⟨t,nx,mw⟩:=h;obtain⟨V,S,G⟩:=A;have H:aop T call round tm op ⟨kJ t (loose b s.nw),nx,nx⟩=some (v,⟨V,S,G⟩):=h4;unfold Abk at B;unfold M0 at D;simp only at D;cases hle:Nat.ble nx G with
     | true=>
      rw[hle,Al]at D;refine p D ?_;simp only[Xa,DX.with,hw,Al,hb,u,B,H,hle,DX.big]
     | false=>
      rw[hle,Bk]at D;obtain⟨E,F⟩:=Ap D;refine p F ?_;simp only[Xa,DX.with,hw,Al,Bk,hb,u,B,H,hle,E,DX.iI]
   have e1:(match bs.get i with|none=>none|some b=>(@Option.rec (Nat × Bool) (fun _=>R) (ox T call call round op i b base s (tmp tm) h (fun s v h=>jh fl n t2 dst v fun t2=>lU fl T call call round n ops bs base fin l (Nat.succ i) none s (iR n dst (tmp tm) v) t2 h ds))
    (fun g=>match qC m g with
     | some true=>ox T call call round op i b base s (tmp tm) h (fun s v h=>jh fl n t2 dst v fun t2=>lU fl T call call round n ops bs base fin l (Nat.succ i) (j5 ops g true dst) s (iR n dst (tmp tm) v) t2 h ds)
     | some false=>jh fl n t2 dst (.tuple []) fun t2=>lU fl T call call round n ops bs base fin l (Nat.succ i) (j5 ops g false dst) s (iR n dst (tmp tm) (.tuple [])) t2 h ds
     | none=>Bc (sQ ops (tmp tm) g) (ox T call call round op i b base s (tmp tm) h (fun s v h=>jh fl n t2 dst v fun t2=>lU fl T call call round n ops bs base fin l (Nat.succ i) (j5 ops g true dst) s (iR n dst (tmp tm) v) t2 h ds)) (jh fl n t2 dst (.tuple []) fun t2=>lU fl T call call round n ops bs base fin l (Nat.succ i) (j5 ops g false dst) s (iR n dst (tmp tm) (.tuple [])) t2 h ds)) g:R))=some r:=e
   rw[hb]at e1;cases g with
   | none=>exact run (fun v=>km.none _ _) rfl e1
   | some g=>
    rcases PO hm e1 with⟨hw,e'⟩|⟨hw,e'⟩
    ·exact run (fun v=>va hw n dst v) hw e'
    ·rw[vc,qF]at e'
     obtain⟨s',t3,h2,A,h4⟩:=yw (hp _) (va hw n dst _) e';refine⟨s',t3,?_,A,h4⟩;simp only[Tj,Xa,DX.with,hw,Bk];exact h2
theorem Bdf{t2:Bb}{call:Ah}{r:EV × Ab}(q:fl=true->t2=tm)(e:u5 fl T call call round n ops fin (tmp tm) t2 h ds=some r):
 ∃d h' o,lY T call round n ops tm h=some (d,h')/\(fl=true->o=d)/\fin (tmp d) o h' ds=some r:=by
 unfold u5 at e;obtain⟨u,e⟩:=Ap e;obtain⟨h2,e⟩:=Ap e;obtain⟨⟨d,h',y,A,B,C,D⟩,t3,E,h4,F⟩:=yw q (km.none _ _) e;refine⟨d,h',t3,?_,h4,F⟩;unfold lY;rw[u,Al,h2,Al];have p:Tj T call round n ops (Oy ops 0 .nil) h.next ops 0 ⟨tm,h,0,[],[],[],[]⟩=some ⟨d,h',y,A,B,C,D⟩:=E
 rw[p]
section
inductive Reach (step:H3->AR):H3->H3->Prop where
 | refl (s:H3):Reach step s s
 | head {s s1 s2:H3}:step s=.go s1->Reach step s1 s2->Reach step s s2
def Ends(step:H3->AR)(s:H3)(r:EV × Ab):Prop:=∃s1,Reach step s s1/\step s1=.done r.1 r.2
theorem Ends.go {step:H3->AR}{s s1:H3}{r:EV × Ab}(h:step s=.go s1)(e:Ends step s1 r):Ends step s r:=by
 obtain⟨s2,d,h2⟩:=e;exact⟨s2,.head h d,h2⟩
theorem Ends.done {step:H3->AR}{s:H3}{r:EV × Ab}(h:step s=.done r.1 r.2):Ends step s r:=⟨s,.refl s,h⟩
theorem Ends.congr {step:H3->AR}{s s':H3}{r:EV × Ab}(h:step s=step s')(e:Ends step s r):Ends step s' r:=by
 obtain⟨s2,d,h2⟩:=e;cases d with
 | refl=>exact⟨s',.refl s',by rw[<-h];exact h2⟩
 | head o h4=>exact⟨s2,.head (by rw[<-h];exact o) h4,h2⟩
section
variable (fl:Bool)(T:Ir)(call round:Ah)(fn n:Nat)(Dy:Option Nat)
def At(cd:CD)(todo:List Item):Prop:=∀tm t2 h ds r,((fl=true->t2=tm)/\(fl=false->ds = []))->cd (tmp tm) t2 h ds=some r->Ends (Cr T call round) ⟨⟨fn,n,tm,todo,ds,false,Dy⟩,h⟩ r
end
section
variable{call:Ah}{fn:Nat}{Dy:Option Nat}
theorem At.bad(todo:List Item):At fl T call round fn n Dy (fun _ _ _ _=>none) todo:=fun _ _ _ _ _ _ e=>(by cases e)
theorem At.step{a b:List Item}(hs:∀tm h ds,Cr T call round ⟨⟨fn,n,tm,a,ds,false,Dy⟩,h⟩=.go ⟨⟨fn,n,tm,b,ds,false,Dy⟩,h⟩)(h:At fl T call round fn n Dy cf b):At fl T call round fn n Dy cf a:=
 fun tm t2 h' ds r d e=>(h tm t2 h' ds r d e).go (hs tm h' ds)
theorem At.exit{id:Nat}{a b:List Item}(hs:exitTo id a=exitTo id b)(h:At fl T call round fn n Dy cf (.code (.exit id)::a)):At fl T call round fn n Dy cf (.code (.exit id)::b):=by
 intro tm t2 h' ds r d e;refine(h tm t2 h' ds r d e).congr ?_;simp only[Cr];rw[hs];cases exitTo id b with
 | some k=>rfl
 | none=>simp only[leave]
theorem Bjd(out:Nat->CD)(id:Nat)(k:CD)(env:jd)(d:Nat):pD out ((id,k)::env) d=Bc (Nat.beq id d) k (pD out env d):=by
 funext e tm h ds;show Bc (Nat.beq id d) (k e tm h ds) (pD out env d e tm h ds)=_;cases Nat.beq id d<;>rfl
theorem PS {k:Ab->R}{ex:Nat->Ab->R}{ret:Ab->R}{o:List Item}{l:Nat}{r:R}{x:EV × Ab}(p:∀h,k h=some x->Ends (Cr T call round) ⟨⟨fn,n,tm,o,ds,false,Dy⟩,h⟩ x)
 (hex:∀id h,ex id h=some x->Ends (Cr T call round) ⟨⟨fn,n,tm,.code (.exit id)::o,ds,false,Dy⟩,h⟩ x) (d:∀h,ret h=some x->Ends (Cr T call round) ⟨⟨fn,n,tm,.code .ret::o,ds,false,Dy⟩,h⟩ x) (e:ot l r k ex ret=some x) :
 ∃s',behind fn n tm ds Dy l o r=.go s'/\Ends (Cr T call round) s' x:=by
 unfold ot at e;unfold behind;split at e
 ·cases e
 ·split at e
  next hg=>
   split at e
   ·cases e
   next q=>
    split at e
    ·simp only;rw[hg];simp only;exact⟨_,rfl,p _ e⟩
    ·simp only;rw[hg];simp only;exact⟨_,rfl,hex _ _ e⟩
    ·simp only;rw[hg];simp only;exact⟨_,rfl,d _ e⟩
    ·cases e
  ·cases e
theorem X1 {fuel:Nat}{out:Nat->CD}{ret:CD}(hret:∀kk,At fl T call round fn n Dy ret (.code .ret::kk)):∀(c:Code) (env:jd) (k:CD) (kk:List Item),
 At fl T call round fn n Dy k kk->(∀id,At fl T call round fn n Dy (pD out env id) (.code (.exit id)::kk))->At fl T call round fn n Dy (jv fl T call call round fuel fn n Dy out ret c env k) (.code c::kk)
 | .skip,env,k,kk,hk,henv=>At.step (fun _ _ _=>rfl) hk
 | .region id ops dr,env,k,kk,hk,henv=>by
  intro tm t2 h ds r ht e;have plain:qD fl T call call round n ops.toList k ops.toList none (tmp tm) t2 h ds=some r->(∀g_ h',jJ T call round n ops.toList ops.toList tm h=some (g_,h')->Cr T call round ⟨⟨fn,n,tm,.code (.region id ops dr)::kk,ds,false,Dy⟩,h⟩=.go ⟨⟨fn,n,g_,kk,ds,false,Dy⟩,h'⟩) ->
   Ends (Cr T call round) ⟨⟨fn,n,tm,.code (.region id ops dr)::kk,ds,false,Dy⟩,h⟩ r:=fun e hs=>by
   obtain⟨g_,h',t3,h1,h3,h2⟩:=yo ht.1 (km.none _ _) e;exact(hk _ _ _ _ _ ⟨h3,ht.2⟩ h2).go (hs _ _ h1)
  cases dr with
  | false=>exact plain e fun g_ h' h1=>by simp only[Cr];rw[h1]
  | true=>
   have e':Bc (uX T ops.toList) (qD fl T call call round n ops.toList k ops.toList none) (u5 fl T call call round n ops.toList k) (tmp tm) t2 h ds=some r:=e;cases hq:uX T ops.toList with
   | true=>
    rw[hq,Al]at e';exact plain e' fun g_ h' h1=>by simp only[Cr];rw[A9l hq h1]
   | false=>
    rw[hq,Bk]at e';obtain⟨g_,h',t3,h1,h3,h2⟩:=Bdf ht.1 e';exact(hk _ _ _ _ _ ⟨h3,ht.2⟩ h2).go (by simp only[Cr];rw[h1])
 | .seq a b,env,k,kk,hk,henv=>by
  have hb:=X1 (fuel:=fuel) hret b env k kk hk henv;exact At.step (fun _ _ _=>rfl) (X1 (fuel:=fuel) hret a env _ (.code b::kk) hb fun id=>At.exit (a:=kk) (b:=.code b::kk) rfl (henv id))
 | .cond c a b,env,k,kk,hk,henv=>by
  have ha:=X1 (fuel:=fuel) hret a env k kk hk henv;have hb:=X1 (fuel:=fuel) hret b env k kk hk henv;intro tm t2 h ds r ht e;have e':(match Ew (tmp tm) c with|some e=>ic e (jv fl T call call round fuel fn n Dy out ret a env k (tmp tm) t2 h ds) (jv fl T call call round fuel fn n Dy out ret b env k (tmp tm) t2 h ds)|none=>none)=some r:=e;rw[Df]at e';split at e'
  next e1 he=>
   obtain⟨b,rfl,h2⟩:=yh e';cases b
   ·exact(hb _ _ _ _ _ ht h2).go (by simp only[Cr];rw[he])
   ·exact(ha _ _ _ _ _ ht h2).go (by simp only[Cr];rw[he])
  ·cases e'
 | .block id c,env,k,kk,hk,henv=>by
  refine At.step (b:=.code c :: .inBlock id::kk) (fun _ _ _=>rfl) (X1 hret c ((id,k)::env) k (.inBlock id::kk) (At.step (fun _ _ _=>rfl) hk) fun id'=>?_);rw[Bjd,Br];split
  next hid=>
   have:=aK hid;subst this;exact At.step (fun _ _ _=>by simp[Cr,exitTo]) hk
  next hid=>
   refine(henv id').exit ?_;have:(id == id')=false:=by
    cases hb:(id == id')with
    | false=>rfl
    | true=>exact absurd (by simpa using hb:id=id') (fun e=>hid (by subst e;exact cL _))
   simp[exitTo,this]
 | .loop c,env,k,kk,hk,henv=>by
  have key:∀m,At fl T call round fn n Dy (qv (fun ih=>jv fl T call call round fuel fn n Dy out ret c env ih) m) (.code c :: .inLoop c::kk):=by
   intro m;induction m with
   | zero=>exact At.bad _
   | succ m ih=>exact X1 hret c env _ (.inLoop c::kk) (At.step (fun _ _ _=>rfl) ih) fun id=>At.exit (a:=kk) (b:=.inLoop c::kk) rfl (henv id)
  exact At.step (fun _ _ _=>rfl) (key fuel)
 | .rangeFunc f ps d' body,env,k,kk,hk,henv=>by
  intro tm t2 h ds r ht e;obtain⟨hfl,e'⟩:=Ap (show Bc fl (match Ew (tmp tm) f with|some e=>yb call fn n Dy e ps.toList d' body t2 h ds (fun h ds=>k (tmp tm) t2 h ds) (fun id h ds=>pD out env id (tmp tm) t2 h ds) (fun h ds=>ret (tmp tm) t2 h ds)|none=>none) none=some r from e);have e2:=ht.1 hfl;subst e2;have ht:∀{ds:List Nat},((fl=true->t2=t2)/\(fl=false->ds = [])):=fun {_}=>⟨fun _=>rfl,fun x=>by rw[hfl]at x;cases x⟩
  rw[Df]at e';split at e'
  next e1 hf=>
   unfold yb at e';split at e'
   ·split at e'
    ·obtain⟨s',h1,h2⟩:=PS (fun h e=>hk _ _ _ _ _ ht e) (fun id h e=>henv id _ _ _ _ _ ht e) (fun h e=>hret kk _ _ _ _ _ ht e) e'
     exact h2.go (by simp only[Cr];rw[hf];exact h1)
    ·split at e'
     next hg=>
      obtain⟨s',h1,h2⟩:=PS (fun h e=>hk _ _ _ _ _ ht e) (fun id h e=>henv id _ _ _ _ _ ht e) (fun h e=>hret kk _ _ _ _ _ ht e) e';exact h2.go (by simp only[Cr];rw[hf];simp only;rw[hg];exact h1)
     ·cases e'
   ·cases e'
  ·cases e'
 | .exit id,env,k,kk,hk,henv=>henv id
 | .scope c,env,k,kk,hk,henv=>At.bad _
 | .label l,env,k,kk,hk,henv=>At.step (fun _ _ _=>rfl) hk
 | .goto l,env,k,kk,hk,henv=>At.bad _
 | .ret,env,k,kk,hk,henv=>hret kk
 | .refuse w,env,k,kk,hk,henv=>At.bad _
theorem Bqb(T:Ir)(res:List ResultVar)(tm:Bb)(h:Ab):mZ T res (tmp tm) h=match Ni T tm h res with|some [v]=>some (v,h)|some l=>some (.tuple l,h)|none=>none:=by
 have e:∀l:List ResultVar,Ni T tm h l=kB T h (l.map (u7 (tmp tm))):=by
  intro l;induction l with
  | nil=>rfl
  | cons a r d=>
   cases a with
   | tmp t=>simp only[Ni,dT,u7,kB,d];rfl
   | cell a t=>simp only[Ni,dT,u7,kB,d];cases tmp tm a<;>rfl
 unfold mZ;split
 ·rfl
 ·rfl
 ·rfl
 ·rw[e];rfl
theorem yx {f:Func}(hf:T.fn fn=some f):∀{ds:List Nat} {h:Ab} {r:EV × Ab},Gb ds h (fun h=>mZ T f.results.toList (tmp tm) h)=some r ->
 Ends (Cr T call round) ⟨⟨fn,n,tm,todo,ds,true,Dy⟩,h⟩ r
 | [],h,r,e=>by
  have e':mZ T f.results.toList (tmp tm) h=some r:=e;rw[Bqb]at e';refine .done ?_;simp only[Cr];rw[hf];simp only;split at e'
  next v q=>cases e';rw[q]
  next l p u=>
   cases e';rw[u];split
   next v o=>cases o;exact(p v rfl).elim
   next o=>cases o;rfl
   next o=>cases o
  ·cases e'
 | d::ds,h,r,e=>by
  have e':(match h.get d with|some (.deferred true)=>Gb ds (h.put d (.deferred false)) (fun h=>mZ T f.results.toList (tmp tm) h)|_=>none)=some r:=e;split at e'
  next hg=>
   exact(yx hf e').go (by simp only[Cr];rw[hg])
  ·cases e'
theorem Bp8 {f:Func}(hf:T.fn fn=some f):(∀o,At fl T call round fn n none (sR fl T f.results.toList) (.code .ret::o))/\At fl T call round fn n none (sR fl T f.results.toList) []:=
 by
 have k:∀{tm:Bb} {h:Ab} {ds:List Nat} {r:EV × Ab} {todo:List Item},(fl=false->ds = [])->Bc fl (Gb ds h fun h=>mZ T f.results.toList (tmp tm) h) (mZ T f.results.toList (tmp tm) h)=some r->Ends (Cr T call round) ⟨⟨fn,n,tm,todo,ds,true,none⟩,h⟩ r:=fun hd e=>by
  cases fl with
  | true=>exact yx hf e
  | false=>rw[hd rfl]at *;exact yx (ds:=[]) hf e
 exact⟨fun _ _ _ _ _ _ d e=>(k d.2 e).go rfl,fun _ _ _ _ _ d e=>(k d.2 e).go rfl⟩
theorem Bph(tm:Bb)(d:Nat)(v:EV):sP (tmp tm) d v=tmp (tm.put d (some v)):=by
 have:=qF (Nat.succ d) (some d) tm v;simp only[iR,Qm]at this
 rwa [show Nat.ble (Nat.succ d) (Nat.succ d)=true from aR (aE _),Al,Al]at this
theorem PT:∀(l:List EV) (i:Nat) (tm:Bb),sD l i (tmp tm)=tmp (setArgs l i tm)
 | [],_,_=>rfl
 | v::r,i,tm=>by
  show sD r (Nat.succ i) (sP (tmp tm) i v)=_;rw[Bph,PT r];rfl
theorem PU:∀{ps:List Tmp} {args:List EV} {tm d:Bb},Ww ps args n tm=some d->sE n ps args (tmp tm)=tmp d
 | [],[],tm,d,e=>by cases e;rfl
 | [],_::_,_,_,e=>by cases e
 | _::_,[],_,_,e=>by cases e
 | p::r,v::s,tm,d,e=>by
  show sE n r s (iR n (some p) (tmp tm) v)=_;rw[qF];exact PU e
theorem Bg3 {f:Nat}{r:EV × Ab}(e:lP T call round fuel f args h=some r):∃fr,enter T f args=some fr/\Ends (Cr T call round) ⟨fr,h⟩ r:=by
 unfold lP at e;split at e
 next name origin targs params p nfree q res c A ours file el B met C d=>
  obtain⟨o,h2⟩:=Ap e;rw[oA]at o;rw[show(u0:VS)=tmp .nil from rfl,PT]at h2;obtain⟨u,y⟩:=Bp8 (call:=call) (round:=round) (n:=q) d;refine⟨_,by unfold enter;rw[d];simp only;rw[o,Al],?_⟩;exact X1 u _ [] _ [] y (fun id=>At.bad _) _ _ _ _ _ ⟨fun _=>rfl,fun _=>rfl⟩ h2
 ·cases e
theorem Bg5(l:Nat):(∀d,At fl T call round fn n (some l) (fun _ _ h _=>Xo l false .done (some .ret) h) (.code .ret::d)) /\
 (∀id d,exitTo id d=none->At fl T call round fn n (some l) (fun _ _ h _=>Xo l false .done (some (.exit id)) h) (.code (.exit id)::d))/\At fl T call round fn n (some l) (fun _ _ h _=>Xo l true .ready none h) []:=by
 refine⟨?_,?_,?_⟩
 ·intro d tm t2 h ds r _ e
  simp only[Xo]at e;split at e
  next hg=>cases e;exact .done (by simp only[Cr,leave];rw[hg])
  ·cases e
 ·intro id d o tm t2 h ds r _ e
  simp only[Xo]at e;split at e
  next hg=>cases e;exact .done (by simp only[Cr];rw[o];simp only[leave];rw[hg])
  ·cases e
 ·intro tm t2 h ds r _ e
  simp only[Xo]at e;split at e
  next hg=>cases e;exact .done (by simp only[Cr,leave];rw[hg])
  ·cases e
theorem PV {l:Nat}{r:EV × Ab}(e:qy T call round fuel l args h=some r):∃fr,ve l args h=some fr/\Ends (Cr T call round) ⟨fr,h⟩ r:=by
 unfold qy at e;split at e
 next st D f u tm ps d' body d hg=>
  split at e
  next p o=>
   refine⟨⟨f,u,p,[.code d',.beginRound,.code body],[],false,some l⟩,by unfold ve;rw[hg];simp only;rw[o],?_⟩;obtain⟨y,A,B⟩:=Bg5 (fl:=true) (T:=T) (call:=call) (round:=round) (fn:=f) (n:=u) l;rw[PU o]at e;refine X1 (out:=fun id _ _ h _=>Xo l false .done (some (.exit id)) h) y d' [] _ [.beginRound,.code body] (fun tm t2 h ds r C e=>?_) (fun id=>A id _ rfl) _ _ _ _ _ ⟨fun _=>rfl,fun x=>by cases x⟩ e;simp only[Fm]at e;split at e
   next q=>
    exact(X1 (fuel:=fuel) (out:=fun id _ _ h _=>Xo l false .done (some (.exit id)) h) y body [] _ [] B (fun id=>A id [] rfl) _ _ _ _ _ C e).go (by simp only[Cr];rw[q])
   ·cases e
  ·cases e
 ·cases e
end
structure Good(P:Program)(g:Nat)(args:List EV)(h:Ab)(v:EV)(h':Ab):Prop where
 fn:∃fn,P.funcs[g]? = some fn/\fn.body.isSome=true/\(fn.name == "runtime.NumGoroutine")=false
 run:∀p f w,Ug p h->Uc f h w->EV.Ud p args->∀cs,∃fr f' w',Steps P (lone (Frame.enter P g (Bw f args).toArray .normal) cs w) (lone fr cs w')/\fr.fn=g /\
  fr.leaving P w' (.returned (Ct f' v))/\Move p f h w f' h' w'/\Wf p h h'/\v.ok (grow p h h')
 wf:AWf h h'
def yz(P:Program)(g:Nat)(F:qw):Prop:=∀args h v h',F args h=some (v,h')->Good P g args h v h'
def Sound(P:Program)(c:Ah):Prop:=∀g,yz P g (c g)
def vf(P:Program)(c:Ah):Prop:=pF P c/\Wu c
theorem Sound.call{c:Ah}(h:Sound P c):kX P c:=fun g args d v h' e=>⟨(h g args d v h' e).fn,(h g args d v h' e).run⟩
theorem Sound.w{c:Ah}(h:Sound P c):Wu c:=fun g args d v h' e=>(h g args d v h' e).wf
theorem Sound.of{c:Ah}(d:kX P c)(h2:Wu c):Sound P c:=fun g args h v h' e=>⟨(d g args h v h' e).1,(d g args h v h' e).2,h2 g args h v h' e⟩
section
variable(hT:Qu P T){call:Ah}(hC:Sound P call)(hR:vf P round)
include hT hC hR
theorem yA {s s':H3}(h:Reach (Cr T call round) s s'):qG P s s'/\AWf s.h s'.h:=by
 induction h with
 | refl s=>exact⟨fun p f w cs hf d e=>iC.refl hf d e,.refl _⟩
 | @head s s1 s2 o _ q=>
  have a:qG P s s1:=fun p f w cs hf d e=>Bko hT hC.call hR.1 hC.w hR.2 o hf d e cs
  exact⟨a.trans q.1,(yB hC.w hR.2 (.inl ⟨s1,o,rfl⟩)).trans q.2⟩
theorem Bou(fuel g:Nat):yz P g (lP T call round fuel g):=by
 intro args h v h' C;obtain⟨fr,o,s1,D,e⟩:=Bg3 C;obtain⟨A,hw⟩:=yA hT hC hR D;simp only at e;unfold enter at o;split at o
 next name origin targs params L nfree n results c U ours file el V met W E=>
  obtain⟨hle,o⟩:=Ap o;cases o;have u:args.length<=n:=by have:=bG hle;rwa [Wg]at this
  obtain⟨y,B⟩:=hT.fn _ _ E;refine⟨⟨_,y,rfl,B⟩,fun p f w M O Q cs=>?_,hw.trans (yB hC.w hR.2 (.inr ⟨v,e⟩))⟩;have F:X6 p ⟨g,n,setArgs args 0 .nil,[.code c],[],false,none⟩:=⟨Bkd u Q,fun d hd=>(by cases hd),fun l S=>(by cases S),fun x=>(by cases x)⟩;obtain⟨f1,w1,hs,hm,hwf,G,e1,e2⟩:=A p f w cs F M O;have q:=PW hT e G hwf.hok hm.rep;unfold Fin at q;rw[e2]at q;obtain⟨rfl,H,J⟩:=q;refine⟨_,f1,w1,?_,e1,H,hm,hwf,J⟩;have he:Frame.enter P g (Bw f args).toArray .normal=O5 f ⟨g,n,setArgs args 0 .nil,[.code c],[],false,none⟩:=by
   unfold Frame.enter O5;rw[Bbx f u];simp[y]
  rw[he];exact hs
 ·cases o
theorem Bg4(fuel:Nat):vf P (qy T call round fuel):=by
 constructor
 ·intro l args h v h' B
  obtain⟨fr,e,s1,C,o⟩:=PV B;obtain⟨u,hw⟩:=yA hT hC hR C;simp only at o;unfold ve at e;split at e
  next st Q fn n tm ps d' body dd hg=>
   split at e
   next D E=>
    cases e;refine⟨st,Q,fn,n,tm,ps,d',body,dd,D,hg,E,fun p f w F S U caller cs=>?_⟩;obtain⟨_,G,_⟩:=yC f E U (F.get l _ hg).2.1;have H:X6 p ⟨fn,n,D,[.code d',.beginRound,.code body],[],false,some l⟩:=⟨G,fun d hd=>(by cases hd),fun l' V=>(by cases V;exact(F.get l _ hg).1),fun x=>(by cases x)⟩;obtain⟨f1,w1,hs,hm,hwf,J,e1,e2⟩:=u p f w (caller::cs) H F S;have y:=PW hT o J hwf.hok hm.rep;unfold Fin at y;rw[e2]at y;obtain⟨w2,L,M,A,O⟩:=y caller cs;refine⟨f1,w2,?_,hm.trans M,hwf.trans A,EV.ok.mono (fun q W=>?_) _ O⟩
    ·exact hs.trans L
    ·rw[<-qH p hwf.next A.next];exact .inl W
   ·cases e
  ·cases e
 ·intro l args h v h' B
  obtain⟨fr,e,s1,C,o⟩:=PV B;obtain⟨u,hw⟩:=yA hT hC hR C;unfold ve at e;split at e
  ·split at e
   ·cases e;exact hw.trans (yB hC.w hR.2 (.inr ⟨v,o⟩))
   ·cases e
  ·cases e
end
end
noncomputable section
abbrev FT:=Ah->Ah->Nat->qw
def pG(P:Program)(g:Nat)(F:FT):Prop:=∀call round K,Sound P call->vf P round->yz P g (F call round K)
def Ag(T:Ir)(disp:Nat->Option FT)(K:Nat):Nat->Bool->Ah:=
 @Nat.rec (fun _=>Bool->Ah) (fun _ _ _ _=>none)
  (fun _ d b=>@Bool.rec (fun _=>Ah) (fun f=>@Option.rec FT (fun _=>qw) (lP T (d false) (d true) K f) (fun F=>F (d false) (d true) K) (disp f)) (fun l=>qy T (d false) (d true) K l) b)
theorem yD(hT:Qu P T){disp:Nat->Option FT}(p:∀g F,disp g=some F->pG P g F)(K:Nat):∀d,Sound P (Ag T disp K d false)/\vf P (Ag T disp K d true)
 | 0=>⟨fun _ _ _ _ _ e=>(by cases e),fun _ _ _ _ _ e=>(by cases e),fun _ _ _ _ _ e=>(by cases e)⟩
 | d+1=>by
  obtain⟨c1,o⟩:=yD hT p K d;constructor
  ·intro g
   have e:Ag T disp K (d+1) false g = @Option.rec FT (fun _=>qw) (lP T (Ag T disp K d false) (Ag T disp K d true) K g) (fun F=>F (Ag T disp K d false) (Ag T disp K d true) K) (disp g):=rfl;rw[e];cases q:disp g with
   | none=>exact Bou hT c1 o K g
   | some F=>exact p g F q _ _ K c1 o
  ·exact Bg4 hT c1 o K
def vg:List UInt8->List UInt8->Bool
 | [],[]=>true
 | a::r,b::s=>Bc (Nat.beq a.toNat b.toNat) (vg r s) false
 | _,_=>false
def yE(a b:Bool):Bool:=Bc a b (ju b)
mutual
def im:EV->EV->Bool
 | .int k n,.int p q=>Bc (Nat.beq (Pq k) (Pq p)) (oq n q) false
 | .bool a,.bool b=>yE a b
 | .str a,.str b=>vg a.data.toList b.data.toList
 | .ptr i o,.ptr d o'=>Bc (Nat.beq i d) (Nat.beq o o') false
 | .Cl,.Cl=>true
 | .slice i o l r op,.slice d o' l' u e=>Bc (Nat.beq i d) (Bc (Nat.beq o o') (Bc (Nat.beq l l') (Bc (Nat.beq r u) (yE op e) false) false) false) false
 | .Aq,.Aq=>true
 | .map i,.map d=>Nat.beq i d
 | .Am2,.Am2=>true
 | .chan i,.chan d=>Nat.beq i d
 | .Afh,.Afh=>true
 | .func f a c,.func f' y A=>Bc (Nat.beq f f') (Bc (m_ a y) (m_ c A) false) false
 | .Vz l,.Vz l'=>Nat.beq l l'
 | .Aid,.Aid=>true
 | .Acv,.Acv=>true
 | .agg l,.agg l'=>m_ l l'
 | .tuple l,.tuple l'=>m_ l l'
 | _,_=>false
def m_:List EV->List EV->Bool
 | [],[]=>true
 | a::r,b::s=>Bc (im a b) (m_ r s) false
 | _,_=>false
end
end
variable {disp:Nat->Option FT}
theorem Blt {a b:Int}(h:oq a b=true):a=b:=by
 cases a<;>cases b
 ·exact congrArg Int.ofNat (aK h)
 ·cases h
 ·cases h
 ·exact congrArg Int.negSucc (aK h)
theorem PX:∀{a b:List UInt8},vg a b=true->a=b
 | [],[],_=>rfl
 | x::r,y::s,h=>by
  simp only[vg]at h;rw[Br]at h;split at h
  next e=>
   rw[UInt8.toNat_inj.1 (aK e),PX h]
  ·cases h
 | [],_::_,h=>by cases h
 | _::_,[],h=>by cases h
theorem PY(h:yE a b=true):a=b:=by cases a<;>cases b<;>first|rfl|cases h
theorem Bgx {a b:IntKind}(h:Pq a=Pq b):a=b:=by cases a<;>cases b<;>first|rfl|(simp[Pq]at h)
theorem nf(h:Bc a b false=true):a=true/\b=true:=by cases a<;>simp_all [Br]
theorem beq_spec {a b:Nat}(h:Nat.beq a b=true):a=b:=aK h
mutual
theorem PZ:∀{a b:EV},im a b=true->a=b
 | .int k n,b,h=>by
  cases b<;>first|(simp[im]at h;done)|skip
  simp only[im]at h;obtain⟨d,h2⟩:=nf h;rw[Bgx (beq_spec d),Blt h2]
 | .bool a,b,h=>by
  cases b<;>first|(simp[im]at h;done)|skip
  simp only[im]at h;rw[PY h]
 | .str a,b,h=>by
  cases b<;>first|(simp[im]at h;done)|skip
  rename_i b;simp only[im]at h;obtain⟨⟨a⟩⟩:=a;obtain⟨⟨b⟩⟩:=b;have:a=b:=PX h;rw[this]
 | .ptr i o,b,h=>by
  cases b<;>first|(simp[im]at h;done)|skip
  simp only[im]at h;obtain⟨d,h2⟩:=nf h;rw[beq_spec d,beq_spec h2]
 | .Cl,b,h=>by cases b<;>first|(simp[im]at h;done)|rfl
 | .slice i o l r op,b,h=>by
  cases b<;>first|(simp[im]at h;done)|skip
  simp only[im]at h;obtain⟨d,h⟩:=nf h;obtain⟨h2,h⟩:=nf h;obtain⟨e,h⟩:=nf h;obtain⟨h4,h⟩:=nf h;rw[beq_spec d,beq_spec h2,beq_spec e,beq_spec h4,PY h]
 | .tail i o p,b,h=>by cases b<;>(simp[im]at h)
 | .odd a,b,h=>by cases b<;>(simp[im]at h)
 | .Aq,b,h=>by cases b<;>first|(simp[im]at h;done)|rfl
 | .map i,b,h=>by
  cases b<;>first|(simp[im]at h;done)|skip
  simp only[im]at h;rw[beq_spec h]
 | .Am2,b,h=>by cases b<;>first|(simp[im]at h;done)|rfl
 | .chan i,b,h=>by
  cases b<;>first|(simp[im]at h;done)|skip
  simp only[im]at h;rw[beq_spec h]
 | .Afh,b,h=>by cases b<;>first|(simp[im]at h;done)|rfl
 | .func f a c,b,h=>by
  cases b<;>first|(simp[im]at h;done)|skip
  simp only[im]at h;obtain⟨d,h⟩:=nf h;obtain⟨h2,h⟩:=nf h;rw[beq_spec d,sT h2,sT h]
 | .Vz l,b,h=>by
  cases b<;>first|(simp[im]at h;done)|skip
  simp only[im]at h;rw[beq_spec h]
 | .Aid,b,h=>by cases b<;>first|(simp[im]at h;done)|rfl
 | .Acv,b,h=>by cases b<;>first|(simp[im]at h;done)|rfl
 | .agg l,b,h=>by
  cases b<;>first|(simp[im]at h;done)|skip
  simp only[im]at h;rw[sT h]
 | .tuple l,b,h=>by
  cases b<;>first|(simp[im]at h;done)|skip
  simp only[im]at h;rw[sT h]
theorem sT:∀{a b:List EV},m_ a b=true->a=b
 | [],[],_=>rfl
 | x::r,y::s,h=>by
  simp only[m_]at h;obtain⟨d,h2⟩:=nf h;rw[PZ d,sT h2]
 | [],_::_,h=>by simp[m_]at h
 | _::_,[],h=>by simp[m_]at h
end
abbrev I(n:Int):EV:=.int .i64 n
abbrev N(n:Nat):EV:=.int .i64 (.ofNat n)
theorem sC(a b:Int):lS a b=decide (a<b):=by
 rw[yk];cases a<;>cases b<;>simp only[kI]
 next a b=>rw[eR,fQ];simp[dO];omega
 next a b=>symm;rw[cq];simp only[aZ];omega
 next a b=>symm;rw[fQ];simp only[aZ];omega
 next a b=>rw[eR,fQ];simp[dO];omega
theorem rX(a b:Int):oq a b=decide (a=b):=by
 rw[xq];cases a<;>cases b<;>simp only[iV]
 ·rw[eR,fQ];simp[Nat.beq_eq];omega
 ·simp
 ·simp
 ·rw[eR,fQ];simp[Nat.beq_eq]
theorem uv(p:Prop)[Decidable p]:ju (decide p)=decide (¬p):=by by_cases h:p<;>simp[h,ju]
theorem Bgi(a b:Int):uT a b=a+b:=PJ a b
theorem Bdh(a b:Int):uU a b=a-b:=PK a b
theorem FV {n:Int}(d : -9223372036854775808<=n)(h2:n<9223372036854775808):Dl .i64 n=n:=by
 unfold Dl;split
 next m=>
  have:Nat.ble (Nat.succ m) (vh .i64)=true:=aR (show m+1<=9223372036854775808 by simp only[aZ]at h2;omega);rw[this,Al]
 next m=>
  have:Nat.ble (Nat.succ m) (floor .i64)=true:=aR (show m+1<=9223372036854775808 by simp only[dJ]at d;omega);rw[this,Al]
theorem Ad(h:Ab)(o:D5):(h.new o).get h.next=some o:=by rw[Ab.Lx,aI rfl]
theorem Az(o:D5)(d:i<h.next):(h.new o).get i=h.get i:=by rw[Ab.Lx,aG a_]
theorem Ae(h:Ab)(i:Nat)(o:D5):(h.put i o).get i=some o:=by rw[Ab.get_put,aI rfl]
theorem Af(o:D5)(d:i≠j:=by omega):(h.put i o).get j=h.get j:=by rw[Ab.get_put,aG d]
theorem Bcf(d:i≠j):(h.del i).get j=h.get j:=by rw[Ab.lK,aG d]
theorem Bqr(p:Prop)[Decidable p](x y:α):Bc (decide p) x y=if p then x else y:=by by_cases h:p<;>simp[h]
theorem Bb1 {l:List EV}(h:n<=l.length):takeN l n=some (l.take n):=by
 induction l generalizing n with
 | nil=>
  have:n=0:=by simpa using h
  subst this;rfl
 | cons a r d=>
  cases n with
  | zero=>rfl
  | succ n=>
   simp only[takeN];rw[show Nat.beq (n+1) 0=false from rfl,Bk,Nat.pred_succ,d (by simpa using h)];rfl
theorem F9 {l:List EV}(h:off+n<=l.length):Ou l off n=some ((l.drop off).take n):=by
 rw[nX,Td,Bb1 (by rw[bA];omega)]
theorem uu:∀(l:List EV) (n:Nat),kV l n=l[n]?
 | [],n=>rfl
 | a::r,0=>rfl
 | a::r,n+1=>by
  have e:kV (a::r) (n+1)=kV r n:=rfl;rw[e,uu r n];simp
theorem FQ(v:EV):∀(l:List EV) (n:Nat),n<l.length->Nb l n [v]=some (l.set n v)
 | [],n,h=>by simp at h
 | a::r,n,h=>by
  rw[U6];cases n with
  | zero=>cases r<;>rfl
  | succ n=>
   have e:Gc (a::r) (n+1) [v]=(match Gc r n [v]with|some x=>some (a::x)|none=>none):=rfl;rw[e,<-U6,FQ v r n (by simpa using h)];rfl
theorem Bg(l:List EV):Gk l=l.length:=by rw[oA,Wg]
theorem Bo {l:List EV}(h:l.length=vs.length):Nb l 0 vs=some vs:=by
 unfold Nb;rw[Bg,Bg,h,show Nat.beq 0 0=true from rfl,Al,show Nat.beq vs.length vs.length=true from cL _,Al]
section
variable{s:Nat}{g:IG}
theorem Boo(c:IntKind)(a b:Int):Jw c a b=.bool (lS a b):=rfl
theorem Bp6(c:IntKind)(a b:Int):o8 c a b=.bool (ju (lS b a)):=rfl
theorem Bqc(c:IntKind)(a b:Int):nN c a b=.bool (lS b a):=rfl
theorem Bof(c:IntKind)(a b:Int):o9 c a b=.bool (ju (lS a b)):=rfl
theorem Bqj(c:IntKind)(a b:Int):iT c a b=.bool (oq a b):=rfl
theorem FW(c:IntKind)(a b:Int):i_ c a b=.bool (ju (oq a b)):=rfl
theorem Bot(c:IntKind)(a b:Int):lJ c a b=.int c (Dl c (uT a b)):=rfl
theorem Bz(b w:Bool):Eu (.bool b) w=Bc b w (ju w):=rfl
theorem Bsc:ju true=false:=rfl
theorem A3i{l:List EV}(hg:h.get i=some (.cells l t))(F:List EV->Option (List EV))(k:Ab->R):nV h i F k=oB (fun l'=>k (h.put i (.cells l' t))) (F l):=by
 unfold nV;rw[hg]
theorem Bqd {q d rm:Nat}{op:Bool}(hj:j<d)(k:EV->R)(c:IntKind):iF s (.slice q off d rm op) (.int c (.ofNat j)) k=k (.ptr q (off+j*s)):=by
 show Bc (Nat.ble (Nat.succ j) d) _ none=_;rw[aR hj,Al];rfl
end
section
variable{call:Ah}{K:Nat}
theorem Bn9{g:Nat}{F:FT}(h:disp g=some F)(d:Nat)(args:List EV)(hp:Ab):
 Ag T disp K (d+1) false g args hp=F (Ag T disp K d false) (Ag T disp K d true) K args hp:=by
 have e:Ag T disp K (d+1) false g args hp = @Option.rec FT (fun _=>qw) (lP T (Ag T disp K d false) (Ag T disp K d true) K g) (fun F=>F (Ag T disp K d false) (Ag T disp K d true) K) (disp g) args hp:=rfl;rw[e,h]
theorem A9o(disp:Nat->Option FT)(d l:Nat)(args:List EV)(hp:Ab):
 Ag T disp K (d+1) true l args hp=qy T (Ag T disp K d false) (Ag T disp K d true) K l args hp:=rfl
theorem lq {m d:Nat}(h:n<=d)(e:Nat.ble m n=true):m<=d:=bQ (bG e) h
end
end Go.Ev


namespace Go.Ev
noncomputable section
inductive Hk where
 | no
 | here (X:CD)
 | two (a b:Hk)
abbrev Hk.l(H:Hk):Hk:=match H with | .two a _=>a|_=>.no
abbrev Hk.r(H:Hk):Hk:=match H with | .two _ b=>b|_=>.no
section
variable (fl:Bool)(T:Ir)(call b_ round:Ah)(fuel fn n:Nat)(Dy:Option Nat)(out:Nat->CD)(ret:CD)
abbrev Q4(H:Hk):Code->jd->CD->CD:=
 @Hk.rec (fun _=>Code->jd->CD->CD) (fun c env k=>jv fl T call b_ round fuel fn n Dy out ret c env k) (fun X _ _ _=>X)
  (fun _ _ a b c env k=>match c with
   | .seq x y=>a x env (b y env k)
   | .cond v x y=>fun d tm h ds=>match Ew d v with|some e=>ic e (a x env k d tm h ds) (b y env k d tm h ds)|none=>none
   | .block id x=>a x ((id,k)::env) k
   | c=>jv fl T call b_ round fuel fn n Dy out ret c env k) H
abbrev pj(p:List Bool):Hk->Code->jd->CD->CD:=
 @List.rec Bool (fun _=>Hk->Code->jd->CD->CD) (fun _ c env k=>jv fl T call b_ round fuel fn n Dy out ret c env k)
  (fun s _ d H c env k=>match c with
   | .seq x y=>Bc s (d H.r y env k) (d H.l x env (Q4 fl T call b_ round fuel fn n Dy out ret H.r y env k))
   | .cond _ x y=>Bc s (d H.r y env k) (d H.l x env k)
   | .block id x=>d H.l x ((id,k)::env) k
   | c=>jv fl T call b_ round fuel fn n Dy out ret c env k) p
end
abbrev kW(p:List Bool)(X:CD):Hk->Hk:=
 @List.rec Bool (fun _=>Hk->Hk) (fun _=>.here X) (fun s _ d H=>Bc s (.two H.l (d H.r)) (.two (d H.l) H.r)) p
def lO(p:List Bool):Hk->Code->Bool:=
 @List.rec Bool (fun _=>Hk->Code->Bool) (fun H _=>match H with | .no=>true|_=>false)
  (fun s _ d H c=>match H with
   | .here _=>false
   | H=>match c with
    | .seq x y=>Bc s (d H.r y) (d H.l x)
    | .cond _ x y=>Bc s (d H.r y) (d H.l x)
    | .block _ x=>Bc s false (d H.l x)
    | _=>false) p
def Bt7(p:List Bool):Code->Code:=
 @List.rec Bool (fun _=>Code->Code) (fun c=>c) (fun s _ d c=>match c with
  | .seq x y=>Bc s (d y) (d x)
  | .cond _ x y=>Bc s (d y) (d x)
  | .block _ x=>d x
  | .loop x=>d x
  | c=>c) p
abbrev Ov(T:Ir)(g:Nat):Code:=match T.fn g with|some { body:=some c,.. }=>c|_=>.skip
abbrev lN(T:Ir)(g:Nat):Nat:=match T.fn g with|some f=>f.ntmps|_=>0
abbrev jT(q:Bool)(T:Ir)(g:Nat):CD:=match T.fn g with|some f=>sR q T f.results.toList|_=>fun _ _ _ _=>none
abbrev Bt6(T:Ir)(g:Nat)(p:List Bool):Code:=match Bt7 p (Ov T g)with | .loop c=>c|c=>c
end
section
variable {fl:Bool}{T:Ir}{call b_ round:Ah}{fuel fn n:Nat}{Dy:Option Nat}{out:Nat->CD}{ret:CD}
theorem Bgq(H:Hk)(d:∀X,H≠.here X)(c:Code)(env:jd)(k:CD):Q4 fl T call b_ round fuel fn n Dy out ret H c env k=Q4 fl T call b_ round fuel fn n Dy out ret (.two H.l H.r) c env k:=by
 cases H with
 | no=>cases c<;>rfl
 | here X=>exact(d X rfl).elim
 | two a b=>rfl
theorem po(X:CD):∀(p:List Bool) (H:Hk) (c:Code) (env:jd) (k:CD),lO p H c=true->pj fl T call b_ round fuel fn n Dy out ret p H c env k=X->Q4 fl T call b_ round fuel fn n Dy out ret H c env k=Q4 fl T call b_ round fuel fn n Dy out ret (kW p X H) c env k
 | [],H,c,env,k,hf,e=>by
  cases H with
  | no=>exact e
  | here _=>cases hf
  | two _ _=>cases hf
 | s::p,H,c,env,k,hf,e=>by
  have q:∀Y,H≠.here Y:=fun Y y=>by subst y;cases hf
  have hs:kW (s::p) X H=Bc s (.two H.l (kW p X H.r)) (.two (kW p X H.l) H.r):=rfl;rw[Bgq H q,hs];have u:∃x y id v,c=.seq x y\/c=.cond v x y\/c=.block id x:=by
   cases H with
   | here Y=>exact(q Y rfl).elim
   | no=>cases c<;>first|exact⟨_,_,0,default,.inl rfl⟩|exact⟨_,_,0,_,.inr (.inl rfl)⟩|exact⟨_,.skip,_,default,.inr (.inr rfl)⟩|cases hf
   | two a b=>cases c<;>first|exact⟨_,_,0,default,.inl rfl⟩|exact⟨_,_,0,_,.inr (.inl rfl)⟩|exact⟨_,.skip,_,default,.inr (.inr rfl)⟩|cases hf
  obtain⟨x,y,id,v,rfl|rfl|rfl⟩:=u
  ·have d:Bc s (lO p H.r y) (lO p H.l x)=true:=by cases H<;>first|exact hf|exact(q _ rfl).elim
   have e':Bc s (pj fl T call b_ round fuel fn n Dy out ret p H.r y env k) (pj fl T call b_ round fuel fn n Dy out ret p H.l x env (Q4 fl T call b_ round fuel fn n Dy out ret H.r y env k))=X:=e;cases s with
   | true=>show Q4 fl T call b_ round fuel fn n Dy out ret H.l x env (Q4 fl T call b_ round fuel fn n Dy out ret H.r y env k)=Q4 fl T call b_ round fuel fn n Dy out ret H.l x env (Q4 fl T call b_ round fuel fn n Dy out ret (kW p X H.r) y env k);rw[po X p H.r y env k d e']
   | false=>exact po X p H.l x env _ d e'
  ·have d:Bc s (lO p H.r y) (lO p H.l x)=true:=by cases H<;>first|exact hf|exact(q _ rfl).elim
   have e':Bc s (pj fl T call b_ round fuel fn n Dy out ret p H.r y env k) (pj fl T call b_ round fuel fn n Dy out ret p H.l x env k)=X:=e;cases s with
   | true=>
    show(fun o tm h ds=>match Ew o v with|some e=>ic e (Q4 fl T call b_ round fuel fn n Dy out ret H.l x env k o tm h ds) (Q4 fl T call b_ round fuel fn n Dy out ret H.r y env k o tm h ds)|none=>none)=fun o tm h ds=>match Ew o v with|some e=>ic e (Q4 fl T call b_ round fuel fn n Dy out ret H.l x env k o tm h ds) (Q4 fl T call b_ round fuel fn n Dy out ret (kW p X H.r) y env k o tm h ds)|none=>none
    rw[po X p H.r y env k d e']
   | false=>
    show(fun o tm h ds=>match Ew o v with|some e=>ic e (Q4 fl T call b_ round fuel fn n Dy out ret H.l x env k o tm h ds) (Q4 fl T call b_ round fuel fn n Dy out ret H.r y env k o tm h ds)|none=>none)=fun o tm h ds=>match Ew o v with|some e=>ic e (Q4 fl T call b_ round fuel fn n Dy out ret (kW p X H.l) x env k o tm h ds) (Q4 fl T call b_ round fuel fn n Dy out ret H.r y env k o tm h ds)|none=>none
    rw[po X p H.l x env k d e']
  ·have d:Bc s false (lO p H.l x)=true:=by cases H<;>first|exact hf|exact(q _ rfl).elim
   cases s with
   | true=>cases d
   | false=>exact po X p H.l x _ k d e
theorem cut(p:List Bool){H:Hk}{c:Code}{env:jd}{k X Y Z:CD}(e:Y=X)(hf:lO p H c=true)(d:pj fl T call b_ round fuel fn n Dy out ret p H c env k=Y)(rest:Q4 fl T call b_ round fuel fn n Dy out ret (kW p X H) c env k=Z):
 Q4 fl T call b_ round fuel fn n Dy out ret H c env k=Z:=(po X p H c env k hf (d.trans e)).trans rest
theorem N6 {B:CD->CD}{E:Nat->CD}(h0:E 0=fun _ _ _ _=>none)(hs:∀m,B (E m)=E (m+1)):∀m,qv B m=E m
 | 0=>h0.symm
 | m+1=>by
  show B (qv B m)=_;rw[N6 h0 hs m,hs]
theorem Btm {c:Code}{env:jd}{E e:Nat->CD}(h0:E 0=fun _ _ _ _=>none)(o:∀m,Q4 fl T call b_ round fuel fn n Dy out ret .no c env (E m)=e m)(h2:∀m,e m=E (m+1))(m:Nat):qv (fun d=>jv fl T call b_ round fuel fn n Dy out ret c env d) m=E m:=
 N6 (B:=fun d=>jv fl T call b_ round fuel fn n Dy out ret c env d) h0 (fun m=>(o m).trans (h2 m)) m
theorem kj {A B:CD}(e:∀d tm h ds,A d tm h ds=B d tm h ds):A=B:=funext fun d=>funext fun tm=>funext fun h=>funext fun ds=>e d tm h ds
end
noncomputable section
abbrev w0(g:Nat)(f:Ab->R)(c:Ah):Ah:=fun d xs h=>Bc (Nat.beq g d) (@List.rec EV (fun _=>R) (f h) (fun _ _ _=>c d xs h) xs) (c d xs h)
abbrev w1(g:Nat)(f:EV->Ab->R)(c:Ah):Ah:=fun d xs h=>Bc (Nat.beq g d) (match xs with | [a]=>f a h|xs=>c d xs h) (c d xs h)
abbrev w2(g:Nat)(f:EV->EV->Ab->R)(c:Ah):Ah:=fun d xs h=>Bc (Nat.beq g d) (match xs with | [a,b]=>f a b h|xs=>c d xs h) (c d xs h)
abbrev w3(g:Nat)(f:EV->EV->EV->Ab->R)(c:Ah):Ah:=fun e xs h=>Bc (Nat.beq g e) (match xs with | [a,b,d]=>f a b d h|xs=>c e xs h) (c e xs h)
abbrev w4(g:Nat)(f:EV->EV->EV->EV->Ab->R)(c:Ah):Ah:=fun o xs h=>Bc (Nat.beq g o) (match xs with | [a,b,d,e]=>f a b d e h|xs=>c o xs h) (c o xs h)
abbrev w5(g:Nat)(f:EV->EV->EV->EV->EV->Ab->R)(c:Ah):Ah:=fun o xs h=>Bc (Nat.beq g o) (match xs with | [a,b,d,e,i]=>f a b d e i h|xs=>c o xs h) (c o xs h)
abbrev w6(g:Nat)(f:EV->EV->EV->EV->EV->EV->Ab->R)(c:Ah):Ah:=fun o xs h=>Bc (Nat.beq g o) (match xs with | [a,b,d,e,i,j]=>f a b d e i j h|xs=>c o xs h) (c o xs h)
end
section
variable {c x:Ah}{g:Nat}
theorem W0 {f:Ab->R}(e:∀h,c g [] h=f h)(y:c=x):c=w0 g f x:=by
 subst y;funext d xs h;show _=Bc (Nat.beq g d) _ _;cases hb:Nat.beq g d with
 | false=>rfl
 | true=>have:=aK hb;subst this;cases xs<;>first|exact e h|rfl
theorem W1 {f:EV->Ab->R}(e:∀a h,c g [a] h=f a h)(y:c=x):c=w1 g f x:=by
 subst y;funext d xs h;show _=Bc (Nat.beq g d) _ _;cases hb:Nat.beq g d with
 | false=>rfl
 | true=>have:=aK hb;subst this;show c g xs h=(match xs with | [a]=>f a h|xs=>c g xs h);split<;>first|exact e _ h|rfl
theorem W2 {f:EV->EV->Ab->R}(e:∀a b h,c g [a,b] h=f a b h)(y:c=x):c=w2 g f x:=by
 subst y;funext d xs h;show _=Bc (Nat.beq g d) _ _;cases hb:Nat.beq g d with
 | false=>rfl
 | true=>have:=aK hb;subst this;show c g xs h=(match xs with | [a,b]=>f a b h|xs=>c g xs h);split<;>first|exact e _ _ h|rfl
theorem W3 {f:EV->EV->EV->Ab->R}(e:∀a b d h,c g [a,b,d] h=f a b d h)(y:c=x):c=w3 g f x:=by
 subst y;funext o xs h;show _=Bc (Nat.beq g o) _ _;cases hb:Nat.beq g o with
 | false=>rfl
 | true=>have:=aK hb;subst this;show c g xs h=(match xs with | [a,b,d]=>f a b d h|xs=>c g xs h);split<;>first|exact e _ _ _ h|rfl
theorem W4 {f:EV->EV->EV->EV->Ab->R}(e:∀a b d i h,c g [a,b,d,i] h=f a b d i h)(y:c=x):c=w4 g f x:=by
 subst y;funext o xs h;show _=Bc (Nat.beq g o) _ _;cases hb:Nat.beq g o with
 | false=>rfl
 | true=>have:=aK hb;subst this;show c g xs h=(match xs with | [a,b,d,e]=>f a b d e h|xs=>c g xs h);split<;>first|exact e _ _ _ _ h|rfl
theorem W5 {f:EV->EV->EV->EV->EV->Ab->R}(e:∀a b d i j h,c g [a,b,d,i,j] h=f a b d i j h)(y:c=x):c=w5 g f x:=by
 subst y;funext o xs h;show _=Bc (Nat.beq g o) _ _;cases hb:Nat.beq g o with
 | false=>rfl
 | true=>have:=aK hb;subst this;show c g xs h=(match xs with | [a,b,d,e,i]=>f a b d e i h|xs=>c g xs h);split<;>first|exact e _ _ _ _ _ h|rfl
end
noncomputable def n'(T:Ir)(g n:Nat):Bool:=match T.fn g with|some { body:=some _,.. }=>Nat.ble n (lN T g)|_=>false
theorem Bjo {T:Ir}{c r:Ah}{K g:Nat}{args:List EV}(d:n' T g (Gk args)=true)(h:Ab):lP T c r K g args h=Q4 (jZ (Ov T g)) T c c r K g (lN T g) none nY (jT (jZ (Ov T g)) T g) .no (Ov T g) [] (jT (jZ (Ov T g)) T g) (sD args 0 u0) (setArgs args 0 .nil) h []:=by
 unfold n' lN at d;unfold lP lN jT Ov;cases hf:T.fn g with
 | none=>rw[hf]at d<;>cases d
 | some fn=>
  rw[hf]at d;obtain⟨name,origin,targs,params,e,nfree,n,results,body,o,ours,file,el,p,met,q⟩:=fn;cases body with
  | none=>cases d
  | some c0=>
   show Bc (Nat.ble (Gk args) n) _ none=_;rw[show Nat.ble (Gk args) n=true from d,Al]
end Go.Ev
