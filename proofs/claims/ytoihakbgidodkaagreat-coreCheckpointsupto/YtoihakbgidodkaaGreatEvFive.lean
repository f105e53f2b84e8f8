import Derived.Test.YtoihakbgidodkaaGreatEvThree
set_option linter.all false
namespace Go.Ev
set_option maxRecDepth 100000
variable {α:Type}{x:Operand}{v:EV}{op:Op}{T:I5}{t:TypeId}{i j n off fuel:Nat}{tm:Ba}{h h':Ab}{vs args:List EV}{a b fl:Bool}{ops:List Oper}{round:Ah}{ds:List Nat}{f:EV->EV->Option EV}{todo:List Item}{P:Program}
noncomputable section
abbrev R:=Option (EV × Ab)
abbrev pH:=List EV->Ab->R
def Bs2:Nat->Nat->List Bool:=
 @Nat.rec (fun _=>Nat->List Bool) (fun _=>[]) (fun _ d i=>Bb (Nat.beq i 0) [] (Bb (Nat.beq (Nat.land i 1) 1) (true::d (Nat.div i 2)) (false::d (Nat.pred (Nat.div i 2)))))
def pathOf(i:Nat):List Bool:=Bs2 (Nat.succ (Nat.log2 (Nat.succ i))) i
def oB {α β:Type}(k:α->Option β)(x:Option α):Option β:=@Option.rec α (fun _=>Option β) none k x
def tG {α β d:Type}(k:α->β->Option d)(p:α × β):Option d:=@Prod.rec α β (fun _=>Option d) k p
def Fw(l:List EV):Nat:=@List.rec EV (fun _=>Nat) 0 (fun _ _ d=>Nat.succ d) l
def kA(l:List EV):Nat->Option EV:=@List.rec EV (fun _=>Nat->Option EV) (fun _=>none) (fun a _ d n=>Bb (Nat.beq n 0) (some a) (d (Nat.pred n))) l
def ub(l:List EV):Nat->List EV:=@List.rec EV (fun _=>Nat->List EV) (fun _=>[]) (fun a r d n=>Bb (Nat.beq n 0) (a::r) (d (Nat.pred n))) l
def oA(a:EV)(x:Option (List EV)):Option (List EV):=@Option.rec (List EV) (fun _=>Option (List EV)) none (fun l=>some (a::l)) x
def rH(l:List EV):Nat->Option (List EV):=@List.rec EV (fun _=>Nat->Option (List EV)) (fun n=>Bb (Nat.beq n 0) (some []) none) (fun a _ d n=>Bb (Nat.beq n 0) (some []) (oA a (d (Nat.pred n)))) l
def Ke(l:List EV)(off n:Nat):Option (List EV):=Bb (Nat.beq off 0) (Bb (Nat.beq (Fw l) n) (some l) (rH l n)) (rH (ub l off) n)
def oC(vs:List EV):List EV->Option (List EV):=@List.rec EV (fun _=>List EV->Option (List EV)) (fun l=>some l) (fun v _ d l=>@List.rec EV (fun _=>Option (List EV)) none (fun _ r _=>oA v (d r)) l) vs
def pK(vs:List EV)(l:List EV):Nat->Option (List EV):=@List.rec EV (fun _=>Nat->Option (List EV)) (fun n=>Bb (Nat.beq n 0) (oC vs []) none) (fun a r d n=>Bb (Nat.beq n 0) (oC vs (a::r)) (oA a (d (Nat.pred n)))) l
def Nl(l:List EV)(off:Nat)(vs:List EV):Option (List EV):=Bb (Nat.beq off 0) (Bb (Nat.beq (Fw l) (Fw vs)) (some vs) (pK vs l 0)) (pK vs l off)
def mi {β:Type}(k:List EV->Nat->Option β)(off:Nat)(x:Option Ds):Option β:=
 match x with|some (.cells l _)=>k l off|some (.vec l _ _)=>k l off|some (.view ws _)=>(match j' ws off with|some (o,l)=>k l (Nat.sub off o)|none=>none)|_=>none
def m'(h:Ab)(i:Nat)(f:List EV->Option (List EV))(k:Ab->R):R:=
 match h.get i with
 | some (.cells l t)=>oB (fun l'=>k (h.put i (.cells l' t))) (f l)
 | some (.vec l t s)=>oB (fun l'=>k (h.put i (.vec l' t s))) (f l)
 | _=>none
def Xk(h:Ab)(i off n:Nat):Option (List EV):=mi (fun l o=>Ke l o n) off (h.get i)
def Pw(h:Ab)(size n:Nat)(x:EV):Option (List EV):=
 match x with
 | .An=>Bb (Nat.beq n 0) (some []) none
 | .slice i off _ _ _=>Bb (Nat.beq n 0) (some []) (Xk h i off (Nat.mul n size))
 | .tail ..=>Bb (Nat.beq n 0) (some []) none
 | _=>none
def uc(x y:R)(v:EV):R:=match v with | .bool b=>Bb b x y|_=>none
def kU(k:Nat->Nat->R)(v:EV):R:=match v with | .ptr i off=>k i off|_=>none
def ue(k:Nat->R)(v:EV):R:=match v with | .int _ n=>@Int.rec (fun _=>R) k (fun _=>none) n|_=>none
def NV(k:IntKind->Int->R)(v:EV):R:=match v with | .int c n=>k c n|_=>none
def xv(k:List EV->R)(v:EV):R:=match v with | .agg l=>k l|_=>none
def NW(k:List EV->R)(v:EV):R:=match v with | .tuple l=>k l|_=>none
def uf(a b:Int):Int:=@Int.rec (fun _=>Int) (fun m=>@Int.rec (fun _=>Int) (fun n=>.ofNat (Nat.add m n)) (fun n=>Int.add (.ofNat m) (.negSucc n)) b) (fun m=>Int.add (.negSucc m) b) a
def ug(a b:Int):Int:=@Int.rec (fun _=>Int) (fun m=>@Int.rec (fun _=>Int) (fun n=>Bb (Nat.ble n m) (.ofNat (Nat.sub m n)) (.negSucc (Nat.pred (Nat.sub n m)))) (fun n=>Int.sub (.ofNat m) (.negSucc n)) b) (fun m=>Int.sub (.negSucc m) b) a
def kV(a b:Int):Bool:=@Int.rec (fun _=>Bool) (fun m=>@Int.rec (fun _=>Bool) (fun n=>Nat.ble (Nat.succ m) n) (fun _=>false) b) (fun m=>j_ (.negSucc m) b) a
def nh(a b:Int):Bool:=@Int.rec (fun _=>Bool) (fun m=>@Int.rec (fun _=>Bool) (fun n=>Nat.beq m n) (fun _=>false) b) (fun m=>iE (.negSucc m) b) a
def i_(b:Bool):Bool:=@Bool.rec (fun _=>Bool) true false b
abbrev IG:=IntKind->Int->Int->EV
def kP:IG:=fun k a b=>.int k (Cs k (uf a b))
def nZ:IG:=fun k a b=>.int k (Cs k (ug a b))
def pB:IG:=fun k a b=>.int k (Cs k (Int.mul a b))
def Iz:IG:=fun _ a b=>.bool (kV a b)
def n_:IG:=fun _ a b=>.bool (i_ (kV b a))
def mU:IG:=fun _ a b=>.bool (kV b a)
def mV:IG:=fun _ a b=>.bool (i_ (kV a b))
def iD:IG:=fun _ a b=>.bool (nh a b)
def iF:IG:=fun _ a b=>.bool (i_ (nh a b))
def xw:BinOp->Option IG
 | .add=>some kP | .sub=>some nZ | .mul=>some pB | .lss=>some Iz | .leq=>some n_ | .gtr=>some mU | .geq=>some mV | .eql=>some iD | .neq=>some iF
 | _=>none
def uh(agg:Bool)(n:Nat)(cs:List EV)(off:Nat)(k:EV->R):R:=Bb agg (oB (fun l=>k (.agg l)) (Ke cs off n)) (oB k (kA cs off))
def iT(place:Nat->Option (Nat × Nat))(l:List (Nat × EV)):List EV->Option (List EV):=
 @List.rec (Nat × EV) (fun _=>List EV->Option (List EV)) (fun c=>some c) (fun x _ d c=>oB (tG fun off size=>Bb x.2.plain (Bb (Nat.beq (Fw x.2.cells) size) (oB d (Nl c off x.2.cells)) none) none) (place x.1)) l
def Df(l:List (Nat × Nat)):Nat->Option (Nat × Nat):=@List.rec (Nat × Nat) (fun _=>Nat->Option (Nat × Nat)) (fun _=>none) (fun a _ d i=>Bb (Nat.beq i 0) (some a) (d (Nat.pred i))) l
def N8(s:Nat):Nat->Option (Nat × Nat):=fun i=>some (Nat.mul i s,s)
def rI(a b:List EV):List EV:=@List.rec EV (fun _=>List EV) b (fun x _ d=>x::d) a
def Ef(e:TypeId)(size:Nat)(s x:EV)(h:Ab):R:=
 oB (fun n=>Bb (Nat.beq n 0)
  (match s with
   | .slice _ _ d room _=>Bb (Nat.ble d room) (some (s,h)) none
   | .An=>some (s,h)
   | _=>none)
  (Bb (Nat.ble n 65536) (oB (fun new=>
   match s with
   | .An=>some (.slice h.next 0 n n true,h.new (.vec new e size))
   | .slice i off d room op=>Bb (Nat.ble d 1048576) (oB (fun Cn=>
    Bb op
     (Bb (Nat.beq off 0) (Bb (Nat.beq room d) (match h.get i with
      | some (.vec l e' s')=>Bb (Nat.beq (Fw l) (Nat.mul d size)) (Bb (Nat.beq s' size) (Bb (Nat.beq e' e)
       (some (.slice h.next 0 (Nat.add d n) (Nat.add d n) true,(h.del i).new (.vec (rI Cn new) e size))) none) none) none
      | _=>none) none) none)
     (Bb (Nat.ble (Nat.add d n) room) none (some (.slice h.next 0 (Nat.add d n) (Nat.add d n) true,h.new (.vec (rI Cn new) e size)))))
    (Pw h size d s)) none
   | _=>none) (Pw h size n x)) none)) (lenOf x)
def kx(x:Option Ds)(off n:Nat):Option (List EV):=mi (fun l o=>Ke l o n) off x
def Jk(g:IG)(f:EV->EV->Option EV)(x y:EV)(k:EV->R):R:=
 match x,y with
 | .int c x,.int d y=>Bb (Nat.beq (Pv c) (Pv d)) (k (g c x y)) none
 | x,y=>oB k (f x y)
def Et(x:EV)(h:Ab)(k:EV->R):R:=kU (fun i off=>oB (fun l=>match l with | [v]=>k v|_=>none) (kx (h.get i) off 1)) x
def Oo(n:Nat)(x:EV)(h:Ab)(k:EV->R):R:=kU (fun i off=>oB (fun l=>k (.agg l)) (kx (h.get i) off n)) x
def Vz(n:Nat)(a v:EV)(h:Ab)(k:Ab->R):R:=kU (fun i off=>Bb v.plain (Bb (Nat.beq (Fw v.cells) n) (m' h i (fun l=>Nl l off v.cells) k) none) none) a
def Ve(s:Nat)(x ix:EV)(k:EV->R):R:=ue (fun j=>match x with | .slice i off len _ _=>Bb (Nat.ble (Nat.succ j) len) (k (.ptr i (Nat.add off (Nat.mul j s)))) none|_=>none) ix
def kO(c a b:EV)(k:EV->R):R:=uc (k a) (k b) c
def iA(f:EV->EV->Option EV)(a b:EV)(k:EV->R):R:=oB k (f a b)
def iX(v:EV)(k:EV->R):R:=uc (k (.bool false)) (k (.bool true)) v
def oc(v:EV)(k:EV->R):R:=match v with | .int c n=>k (.int c (Cs c (Int.sub 0 n)))|_=>none
def jv(v:EV)(k:EV->R):R:=kU (fun i o=>k (.ptr i o)) v
def Xg(c:Nat)(v:EV)(k:EV->R):R:=kU (fun i o=>k (.ptr i (Nat.add o c))) v
def jR(len s:Nat)(v ix:EV)(k:EV->R):R:=ue (fun j=>kU (fun i off=>Bb (Nat.ble (Nat.succ j) len) (k (.ptr i (Nat.add off (Nat.mul j s)))) none) v) ix
def j8(len s:Nat)(agg:Bool)(n:Nat)(v ix:EV)(k:EV->R):R:=ue (fun j=>xv (fun cs=>Bb (Nat.ble (Nat.succ j) len) (uh agg n cs (Nat.mul j s) k) none) v) ix
def ky(off:Nat)(agg:Bool)(n:Nat)(v:EV)(k:EV->R):R:=xv (fun cs=>uh agg n cs off k) v
def Tg(c:IntKind)(v:EV)(k:EV->R):R:=NV (fun _ n=>k (.int c (Cs c n))) v
def kN(ix:Nat)(v:EV)(k:EV->R):R:=NW (fun l=>oB k (kA l ix)) v
def iZ(o:Ds)(h:Ab)(k:EV->Ab->R):R:=k (.ptr h.next 0) (h.new o)
def Pz(t:TypeId)(v:EV)(h:Ab)(k:EV->Ab->R):R:=Bb v.plain (k (.ptr h.next 0) (h.new (.cells v.cells t))) none
def Fz(v:EV)(k:EV->R):R:=oB (fun n=>k (.int .i64 (.ofNat n))) (lenOf v)
def Al(x:R)(k:EV->Ab->R):R:=oB (tG k) x
def P0(c r:Ah)(f:EV)(args:List EV)(h:Ab):R:=match f with
 | .func g a cs=>c g (rI a (rI args cs)) h
 | .U5 l=>r l args h
 | _=>none
def Bp(place:Nat->Option (Nat × Nat))(z:List EV)(ps:List (Nat × EV))(k:EV->R):R:=oB (fun c=>k (.agg c)) (iT place ps z)
def oe(n:Nat)(v:EV)(k:EV->R):R:=match v with | .slice i off len _ _=>Bb (Nat.ble n len) (k (.ptr i off)) none|_=>none
def il(s:Nat)(v:EV)(d e o:Option EV)(k:EV->R):R:=oB k (iJ v s d e o)
def Oa(n s:Nat)(v:EV)(d e o:Option EV)(k:EV->R):R:=kU (fun i off=>oB k (iJ (.slice i off n n false) s d e o)) v
def Wl(z:List EV)(e:TypeId)(l c:EV)(h:Ab):R:=
 match l,c with
 | .int _ (.ofNat n),.int _ (.ofNat m)=>Bb (Nat.ble n m) (Bb (Nat.ble m 65536) (some (.slice h.next 0 n m false,h.new (.cells (rep z m) e))) none) none
 | _,_=>none
def By(z:List EV)(e:TypeId)(s n:Nat)(ps:List (Nat × EV))(h:Ab):R:=
 Bb (Nat.ble (Nat.mul n s) 65536) (oB (fun c=>some (.slice h.next 0 n n false,h.new (.cells c e))) (iT (N8 s) ps (rep z n))) none
def tN(h:Ab):R:=some (.map h.next,h.new (.map []))
def tJ(s:EV)(h:Ab):R:=match s with | .int _ (.ofNat n)=>Bb (Nat.ble n 65536) (some (.chan h.next,h.new (.chan n []))) none|_=>none
def pE(T:I5)(o e:TypeId)(ok:Bool)(m ix:EV)(h:Ab):R:=
 match m with
 | .map i=>Bb (O6 T o ix) (match h.get i with
  | some (.map es)=>match Ip ix es 0 with
   | some (some (_,v))=>some (Bb ok (.tuple [v,.bool true]) v,h)
   | some none=>oB (fun d=>some (Bb ok (.tuple [d,.bool false]) d,h)) (zeroOf T e)
   | none=>none
  | _=>none) none
 | _=>none
def pF(T:I5)(d:TypeId)(m ix x:EV)(h:Ab):R:=
 match m with
 | .map i=>Bb (O6 T d ix) (match h.get i with
  | some (.map es)=>match Ip ix es 0 with
   | some (some (j,_))=>some (.tuple [],h.put i (.map (es.set j (ix,x))))
   | some none=>some (.tuple [],h.put i (.map (es++[(ix,x)])))
   | none=>none
  | _=>none) none
 | _=>none
def ox(c x:EV)(h:Ab):R:=
 match c with
 | .chan i=>match h.get i with
  | some (.chan cap buf)=>Bb (Nat.ble (Nat.succ (len buf)) cap) (some (.tuple [.int .i64 0,.bool false],h.put i (.chan cap (buf++[x])))) (some (.tuple [.int .i64 (-1),.bool false],h))
  | _=>none
 | _=>none
def oz(d:EV)(c:EV)(h:Ab):R:=
 match c with
 | .chan i=>match h.get i with
  | some (.chan cap buf)=>match buf with
   | v::r=>some (.tuple [.int .i64 0,.bool true,v],h.put i (.chan cap r))
   | []=>some (.tuple [.int .i64 (-1),.bool false,d],h)
  | _=>none
 | _=>none
def tL(c:EV)(h:Ab):R:=match c with | .chan i=>(match h.get i with|some (.chan _ buf)=>some (.int .i64 (.ofNat (len buf)),h)|_=>none)|_=>none
def gm(v:EV)(x y:R):R:=uc x y v
inductive RV where
 | v (x:EV)
 | c (a:EV) (t:TypeId)
def j5(T:I5)(h:Ab):List RV->Option (List EV)
 | []=>some []
 | .v x::r=>match j5 T h r with|some l=>some (x::l)|none=>none
 | .c a t::r=>match a,j5 T h r,T.size t with
  | .ptr i off,some l,some n=>match Jn h i off n with
   | some cs=>match T.agg t with
    | some true=>some (.agg cs::l)
    | some false=>(match cs with | [v]=>some (v::l)|_=>none)
    | none=>none
   | none=>none
  | _,_,_=>none
def Gi(T:I5)(l:List RV)(h:Ab):R:=match j5 T h l with|some [v]=>some (v,h)|some l=>some (.tuple l,h)|none=>none
def Ez(l:Nat)(h:Ab)(k:Ab->R):R:=match h.get l with
 | some (.loop .ready p f o e ps dT body d)=>k (h.put l (.loop .busy p f o e ps dT body d))
 | _=>none
def ni(l:Nat)(r:R)(k:Ab->R)(ex:Nat->Ab->R)(ret:Ab->R):R:=match r with
 | none=>none
 | some (_,h)=>match h.get l with
  | some (.loop st p f o e ps dT body d)=>match st with
   | .busy=>none
   | _=>match p with
    | none=>k (h.put l (.loop .exhausted p f o e ps dT body d))
    | some (.exit id)=>ex id (h.put l (.loop .exhausted p f o e ps dT body d))
    | some .ret=>ret (h.put l (.loop .exhausted p f o e ps dT body d))
    | some _=>none
  | _=>none
def Wh(l:Nat)(v:Bool)(st:LoopState)(jump:Option Code)(h:Ab):R:=match h.get l with
 | some (.loop _ _ f n tm ps dT body d)=>some (.bool v,h.put l (.loop st jump f n tm ps dT body d))
 | _=>none
def kW:Code->List (Operand × List Tmp × Code × Code)
 | .seq a b=>kW a++kW b
 | .cond _ a b=>kW a++kW b
 | .block _ c=>kW c
 | .loop c=>kW c
 | .rangeFunc f ps a b=>(f,ps.toList,a,b)::(kW a++kW b)
 | .scope c=>kW c
 | _=>[]
def NX {α:Type}:List α->Nat->Option α
 | [],_=>none
 | a::r,n=>Bb (Nat.beq n 0) (some a) (NX r (Nat.pred n))
def Eb(T:I5)(g i:Nat):Operand × List Tmp × Code × Code:=match T.fn g with|some { body:=some c,.. }=>(match NX (kW c) i with|some x=>x|none=>(.tmp 0,[],.skip,.skip))|_=>(.tmp 0,[],.skip,.skip)
def P9(c:Ah)(T:I5)(g n i:Nat)(f:EV)(tm:Ba)(h:Ab)(ds:List Nat)(k:Ab->List Nat->R)(ex:Nat->Ab->List Nat->R)(ret:Ab->List Nat->R):R:=match f with
 | .func q first captured=>ni (Nat.succ h.next) (c q (first++(.U5 (Nat.succ h.next)::captured)) ((h.new (.deferred true)).new (.loop .ready none g n tm (Eb T g i).2.1 (Eb T g i).2.2.1 (Eb T g i).2.2.2 h.next)))
  (fun h'=>k h' (h.next::ds)) (fun id h'=>ex id h' (h.next::ds)) (fun h'=>ret h' (h.next::ds))
 | _=>none
def pw(c:Ah)(T:I5)(g n i l0:Nat)(f:EV)(tm:Ba)(h:Ab)(ds:List Nat)(k:Ab->List Nat->R)(ex:Nat->Ab->List Nat->R)(ret:Ab->List Nat->R):R:=match f with
 | .func q first captured=>match h.get l0 with
  | some (.loop _ _ _ _ _ _ _ _ d)=>ni h.next (c q (first++(.U5 h.next::captured)) (h.new (.loop .ready none g n tm (Eb T g i).2.1 (Eb T g i).2.2.1 (Eb T g i).2.2.2 d)))
   (fun h'=>k h' ds) (fun id h'=>ex id h' ds) (fun h'=>ret h' ds)
  | _=>none
 | _=>none
structure DX where
 bg:Nat
 nw:List (Nat × Nat)
 Cy:List (Nat × Nat)
 lou:List (Nat × Nat)
 st:List (Nat × Nat)
def tD(b base q:Nat)(s:DX):Bool:=Bb (Fh b q s.st) (Bb (Nat.ble (Nat.succ q) base) (Xt b q s.lou) (Bb (within s.bg b) (match loose b s.nw with | []=>true|_=>false) false)) false
def pC(b q:Nat)(s:DX):Bool:=Bb (within s.bg b) (Bb (Fh b q s.st) (Bb (Fh b q s.Cy) (A1d q (loose b s.nw)) false) false) false
def Ab3(b:Nat)(s:DX):Bool:=Bb (within s.bg b) (Ayf b s.st) false
def DX.ld(s:DX)(i q:Nat):DX:=⟨s.bg,s.nw,(Nat.shiftLeft 1 i,q)::s.Cy,s.lou,s.st⟩
def DX.new(s:DX)(i q:Nat):DX:=⟨s.bg,(Nat.shiftLeft 1 i,q)::s.nw,s.Cy,s.lou,s.st⟩
def DX.sto(s:DX)(i q:Nat):DX:=⟨s.bg,s.nw,s.Cy,s.lou,(Nat.shiftLeft 1 i,q)::s.st⟩
def DX.big(s:DX)(i:Nat):DX:=⟨Nat.lor s.bg (Nat.shiftLeft 1 i),s.nw,s.Cy,s.lou,s.st⟩
def DX.iv(s:DX)(i w:Nat):DX:=⟨Nat.lor s.bg (Nat.shiftLeft 1 i),s.nw,s.Cy,(Nat.shiftLeft 1 i,w)::s.lou,s.st⟩
def Mw(i b:Nat)(s:DX)(h h':Ab)(k:DX->Ab->R):R:=
 Bb (Nat.ble h.next h'.mw)
  (k (s.big i) ⟨jZ h.t h'.t (loose b s.nw),h'.next,h.mw⟩)
  (Bb (Tb b h'.mw s.Cy)
   (k (s.iv i h'.mw) ⟨jZ h.t h'.t (loose b s.nw),h'.next,Bb (Nat.ble h.mw h'.mw) h.mw h'.mw⟩)
   none)
def Ic(b:Nat)(s:DX)(h:Ab):Ab:=⟨kg h.t (loose b s.nw),h.next,h.next⟩
def oD(T:I5)(op:Op):Bool:=
 match cls op with
 | .val=>true
 | .load=>true
 | .pur=>match op with
  | .call { callee:=.builtin .len,argTypes,.. }=>match argTypes.toList with
   | [t]=>match T.Ud t with|some (.slice _)=>true|_=>false
   | _=>false
  | .call { callee:=.builtin .min,.. }=>true
  | .call { callee:=.builtin .max,.. }=>true
  | _=>false
 | _=>false
def ui(T:I5)(l:List Oper):Bool:=match l with | []=>true|o::r=>Bb (oD T o.op) (ui T r) false
def uj(T:I5)(l:List Oper):Bool:=Bb (ui T l) (Bb (nj l 0) (mj l (O7 l 0 .nil) l 0 []) false) false
def Yk(h:Ab)(k:Nat->DX->R):R:=k h.next ⟨0,[],[],[],[]⟩
def L0(i b base:Nat)(x:EV)(s:DX)(k:DX->R):R:=kU (fun q _=>Bb (tD b base q s) (k (s.ld i q)) none) x
def mg(i:Nat)(h:Ab)(s:DX)(k:DX->R):R:=k (s.new i h.next)
def mX(i b:Nat)(x:EV)(s:DX)(k:DX->R):R:=kU (fun q _=>Bb (pC b q s) (k (s.sto i q)) none) x
def NY(h:Ab)(k:Ab->R):R:=k ⟨.nil,h.next,h.next⟩
def Kw(i b:Nat)(s:DX)(h:Ab)(call:Ab->R)(k:EV->Ab->DX->R):R:=Bb (Ab3 b s) (Al (call (Ic b s h)) fun v h'=>Mw i b s h h' fun s h=>k v h s) none
def Fa(v:EV)(w:Bool):Bool:=match v with | .bool b=>Bb b w (i_ w)|_=>false
abbrev VS:=Nat->EV
abbrev CD:=VS->Ba->Ab->List Nat->R
abbrev rJ(e:VS)(d:Nat)(v:EV):VS:=fun i=>Bb (Nat.beq d i) v (e i)
abbrev Ej(d:VS)(x:Operand):Option EV:=match x with
 | .tmp t=>some (d t)
 | .const v=>ofV v
 | .global _=>none
 | .func f=>some (.func f [] [])
abbrev oF(d:VS)(l:List Operand):Option (List EV):=@List.rec Operand (fun _=>Option (List EV)) (some []) (fun x _ o=>match Ej d x,o with|some e,some es=>some (e::es)|_,_=>none) l
abbrev uk(d:VS)(l:List (Nat × Operand)):Option (List (Nat × EV)):=@List.rec (Nat × Operand) (fun _=>Option (List (Nat × EV))) (some []) (fun x _ o=>match Ej d x.2,o with|some e,some es=>some ((x.1,e)::es)|_,_=>none) l
abbrev um(d:VS)(x:Option Operand):Option (Option EV):=match x with
 | none=>some none
 | some x=>(match Ej d x with|some e=>some (some e)|none=>none)
abbrev gR(T:I5)(call b_ round:Ah)(op:Op)(d:VS)(h:Ab)(k:EV->Ab->R):R:=
 match op with
 | .move x=>(match Ej d x with|some e=>k e h|none=>none)
 | .assign x=>(match Ej d x with|some e=>k e h|none=>none)
 | .pick c a b=>(match Ej d c,Ej d a,Ej d b with|some c,some a,some b=>kO c a b fun v=>k v h|_,_,_=>none)
 | .binOp op t x y _=>(match Ej d x,Ej d y with
  | some a,some b=>(match xw op with|some g=>Jk g (bin T op t) a b fun v=>k v h|none=>iA (bin T op t) a b fun v=>k v h)
  | _,_=>none)
 | .unOp .not _ x=>(match Ej d x with|some e=>iX e fun v=>k v h|none=>none)
 | .nilCheck x=>(match Ej d x with|some e=>jv e fun v=>k v h|none=>none)
 | .fieldAddr s x f=>(match Ej d x,T.Ud s with
  | some e,some (.struct fields)=>(match mm fields.toList f with
   | some fd=>(match T.size fd.type with|some n=>Bb (Nat.beq n 0) none (Xg fd.offset e fun v=>k v h)|none=>none)
   | none=>none)
  | _,_=>none)
 | .indexAddr t x ix=>(match Ej d x,Ej d ix,T.Ud t with
  | some e,some ix,some (.array len o)=>(match T.size o with|some s=>jR len s e ix fun v=>k v h|none=>none)
  | some e,some ix,some (.slice o)=>(match T.size o with|some s=>Ve s e ix fun v=>k v h|none=>none)
  | _,_,_=>none)
 | .index t x ix=>(match Ej d x,Ej d ix,T.Ud t with
  | some e,some B,some (.array len o)=>(match T.size o,T.agg o with|some s,some agg=>j8 len s agg s e B fun v=>k v h|_,_=>none)
  | _,_,_=>none)
 | .field t x f=>(match Ej d x,T.Ud t with
  | some e,some (.struct fields)=>(match mm fields.toList f with
   | some fd=>(match T.agg fd.type with
    | some true=>(match T.size fd.type with|some n=>ky fd.offset true n e fun v=>k v h|none=>none)
    | some false=>ky fd.offset false 0 e fun v=>k v h
    | none=>none)
   | none=>none)
  | _,_=>none)
 | .convert src dst x=>(match Ej d x,T.Ud src,T.Ud dst with|some e,some _,some (.int c)=>Tg c e fun v=>k v h|_,_,_=>none)
 | .extract x ix=>(match Ej d x with|some e=>kN ix e fun v=>k v h|none=>none)
 | .load t x=>(match Ej d x,T.agg t with
  | some e,some true=>(match T.size t with|some n=>Oo n e h fun v=>k v h|none=>none)
  | some e,some false=>Et e h fun v=>k v h
  | _,_=>none)
 | .store t a x=>(match Ej d a,Ej d x,T.size t with|some a,some x,some n=>Vz n a x h fun h=>k (.tuple []) h|_,_,_=>none)
 | .alloc t=>(match T.zero t with|some z=>iZ (.cells z t) h k|none=>none)
 | .box t x=>(match Ej d x with|some e=>Pz t e h k|none=>none)
 | .call { callee:=.value (.func g),args,.. }=>(match oF d args.toList with|some xs=>Al (call g xs h) k|none=>none)
 | .call { callee:=.value f,args,.. }=>(match Ej d f,oF d args.toList with|some e,some xs=>Al (P0 b_ round e xs h) k|_,_=>none)
 | .call { callee:=.builtin .append,args,argTypes }=>(match args.toList,argTypes.toList with
  | [s,x],[t,u]=>(match Ej d s,Ej d x,T.Ud u,T.Ud t with
   | some a,some b,some (.slice _),some (.slice e)=>(match T.size e,T.zero e with
    | some size,some _=>Al (Ef e size a b h) k
    | _,_=>none)
   | _,_,_,_=>none)
  | _,_=>none)
 | .call { callee:=.builtin .len,args,argTypes }=>(match args.toList,argTypes.toList with
  | [x],[t]=>(match Ej d x,T.Ud t with
   | some e,some (.slice _)=>Fz e fun v=>k v h
   | some e,some (.chan ..)=>Al (tL e h) k
   | some e,_=>Al (builtin T .len argTypes [e] h) k
   | _,_=>none)
  | _,_=>none)
 | .call { callee:=.builtin b,args,argTypes }=>(match oF d args.toList with|some xs=>Al (builtin T b argTypes xs h) k|none=>none)
 | .unOp .neg _ x=>(match Ej d x with|some e=>oc e fun v=>k v h|none=>none)
 | .build t ps=>(match T.zero t,uk d ps.toList,T.Ud t with
  | some z,some l,some (.struct fields)=>(match placesOf T fields.toList with
   | some ps=>Bp (Df ps) z l fun v=>k v h
   | none=>none)
  | some z,some l,some (.array _ e)=>(match T.size e with
   | some s=>Bp (N8 s) z l fun v=>k v h
   | none=>none)
  | _,_,_=>none)
 | .buildSlice t n ps=>(match T.Ud t,uk d ps.toList with
  | some (.slice e),some l=>(match T.size e,T.zero e with
   | some s,some z=>Al (By z e s n l h) k
   | _,_=>none)
  | _,_=>none)
 | .makeFunc (.func f) first captured=>(match oF d first.toList,oF d captured.toList with|some a,some b=>k (.func f a b) h|_,_=>none)
 | .sliceToArrayPointer t x=>(match Ej d x,T.Ud t with|some e,some (.array n _)=>oe n e fun v=>k v h|_,_=>none)
 | .slice t x p q A=>(match Ej d x,um d p,um d q,um d A with
  | some e,some p,some q,some A=>(match T.Ud t with
   | some (.array n o)=>(match T.size o with|some s=>Oa n s e p q A fun v=>k v h|none=>none)
   | some (.slice o)=>(match T.size o with|some s=>il s e p q A fun v=>k v h|none=>none)
   | _=>none)
  | _,_,_,_=>none)
 | .makeSlice t l c=>(match Ej d l,Ej d c,T.Ud t with
  | some l,some c,some (.slice e)=>(match T.zero e with|some z=>Al (Wl z e l c h) k|none=>none)
  | _,_,_=>none)
 | .makeMap _ none=>Al (tN h) k
 | .makeChan t s=>(match Ej d s,T.Ud t with
  | some s,some (.chan _ e)=>(match T.size e with|some _=>Al (tJ s h) k|none=>none)
  | _,_=>none)
 | .lookup t x ix ok=>(match Ej d x,Ej d ix,T.Ud t with|some m,some i,some (.map C e)=>Al (pE T C e ok m i h) k|_,_,_=>none)
 | .mapUpdate t m ix x=>(match Ej d m,Ej d ix,Ej d x,T.Ud t with|some m,some i,some x,some (.map C _)=>Al (pF T C m i x h) k|_,_,_,_=>none)
 | .select cs false=>(match cs.toList with
  | [c]=>(match c.send with
   | some x=>(match Ej d c.chan,Ej d x,zeroOf T c.elem with|some c,some x,some _=>Al (ox c x h) k|_,_,_=>none)
   | none=>(match Ej d c.chan,zeroOf T c.elem with|some c,some D=>Al (oz D c h) k|_,_=>none))
  | _=>none)
 | _=>none
abbrev Mode:=Option ((Nat × Bool) × Bool)
def NZ(a b:Bool):Bool:=Bb a b (i_ b)
def pL(m:Mode)(g:Nat × Bool):Option Bool:=match m with|some x=>Bb (Bb (Nat.beq x.1.1 g.1) (NZ x.1.2 g.2) false) (some x.2) none|none=>none
def jI(ops:List Oper)(g:Nat × Bool)(b:Bool)(dst:Option Tmp):Mode:=
 match kj ops g.1 with
 | some o=>(match o.dst with
  | some d=>(match dst with|some e=>Bb (Nat.beq d e) none (some (g,b))|none=>some (g,b))
  | none=>some (g,b))
 | none=>some (g,b)
abbrev iB(n:Nat)(d:Option Tmp)(e:VS)(v:EV):VS:=match d with|none=>e|some d=>Bb (Nat.ble (Nat.succ d) n) (rJ e d v) e
abbrev rK(ops:List Oper)(e:VS)(g:Nat × Bool):Bool:=match kj ops g.1 with
 | some o=>(match o.dst with|some d=>Fa (e d) g.2|none=>false)
 | none=>false
abbrev xy(fl:Bool)(n:Nat)(tm:Ba)(d:Option Tmp)(v:EV):Ba:=Bb fl (Qu n tm d v) tm
abbrev Btj(n:Nat)(tm:Ba)(d:Option Tmp)(v:EV):Ba:=match d with|none=>tm|some d=>@Bool.rec (fun _=>Ba) tm (tm.put d (some v)) (Nat.ble (Nat.succ d) n)
abbrev iN(fl:Bool)(n:Nat)(tm:Ba)(d:Option Tmp)(v:EV)(F:Ba->R):R:=@Bool.rec (fun _=>R) (F tm) (F (Btj n tm d v)) fl
def jH(c:Code):Bool:=@Code.rec (fun _=>Bool) false (fun _ _ _=>false) (fun _ _ a b=>Bb a true b) (fun _ _ _ a b=>Bb a true b) (fun _ _ a=>a) (fun _ a=>a)
 (fun _ _ _ _ _ _=>true) (fun _=>false) (fun _ a=>a) (fun _=>false) (fun _=>false) false (fun _=>false) c
abbrev pM(fl:Bool)(T:I5)(call b_ round:Ah)(n:Nat)(ops:List Oper)(fin:CD)(l:List Oper):Mode->CD:=
 @List.rec Oper (fun _=>Mode->CD) (fun _=>fin) (fun o _ e m=>@Option.rec (Nat × Bool) (fun _=>CD) (fun d tm h ds=>gR T call b_ round o.op d h fun v h=>iN fl n tm o.dst v fun tm=>e none (iB n o.dst d v) tm h ds)
  (fun g d tm h ds=>match pL m g with
   | some true=>gR T call b_ round o.op d h fun v h=>iN fl n tm o.dst v fun tm=>e (jI ops g true o.dst) (iB n o.dst d v) tm h ds
   | some false=>iN fl n tm o.dst (.tuple []) fun tm=>e (jI ops g false o.dst) (iB n o.dst d (.tuple [])) tm h ds
   | none=>Bb (rK ops d g) (gR T call b_ round o.op d h fun v h=>iN fl n tm o.dst v fun tm=>e (jI ops g true o.dst) (iB n o.dst d v) tm h ds) (iN fl n tm o.dst (.tuple []) fun tm=>e (jI ops g false o.dst) (iB n o.dst d (.tuple [])) tm h ds)) o.guard) l
abbrev nr(T:I5)(call b_ round:Ah)(op:Op)(i b base:Nat)(s:DX)(d:VS)(h:Ab)(k:DX->EV->Ab->R):R:=
 match cls op with
 | .val=>gR T call b_ round op d h (k s)
 | .load=>(match op with | .load t x=>(match Ej d x with|some e=>L0 i b base e s fun s=>gR T call b_ round (.load t x) d h (k s)|none=>none)|_=>none)
 | .new=>mg i h s fun s=>gR T call b_ round op d h (k s)
 | .sto=>(match op with | .store t a x=>(match Ej d a with|some e=>mX i b e s fun s=>gR T call b_ round (.store t a x) d h (k s)|none=>none)|_=>none)
 | .pur=>NY h fun h0=>gR T call b_ round op d h0 fun v _=>k s v h
 | .big=>Bb (Ab3 b s) (gR T call b_ round op d (Ic b s h) fun v h'=>Mw i b s h h' fun s h=>k s v h) none
abbrev kX(fl:Bool)(T:I5)(call b_ round:Ah)(n:Nat)(ops:List Oper)(bs:Tr Nat)(base:Nat)(fin:CD)(l:List Oper):Nat->Mode->DX->CD:=
 @List.rec Oper (fun _=>Nat->Mode->DX->CD) (fun _ _ _=>fin) (fun o _ e i m s d tm h ds=>match bs.get i with
  | none=>none
  | some b=>@Option.rec (Nat × Bool) (fun _=>R) (nr T call b_ round o.op i b base s d h fun s v h=>iN fl n tm o.dst v fun tm=>e (Nat.succ i) none s (iB n o.dst d v) tm h ds)
   (fun g=>match pL m g with
    | some true=>nr T call b_ round o.op i b base s d h fun s v h=>iN fl n tm o.dst v fun tm=>e (Nat.succ i) (jI ops g true o.dst) s (iB n o.dst d v) tm h ds
    | some false=>iN fl n tm o.dst (.tuple []) fun tm=>e (Nat.succ i) (jI ops g false o.dst) s (iB n o.dst d (.tuple [])) tm h ds
    | none=>Bb (rK ops d g) (nr T call b_ round o.op i b base s d h fun s v h=>iN fl n tm o.dst v fun tm=>e (Nat.succ i) (jI ops g true o.dst) s (iB n o.dst d v) tm h ds) (iN fl n tm o.dst (.tuple []) fun tm=>e (Nat.succ i) (jI ops g false o.dst) s (iB n o.dst d (.tuple [])) tm h ds)) o.guard) l
abbrev uo(fl:Bool)(T:I5)(call b_ round:Ah)(n:Nat)(ops:List Oper)(fin:CD):CD:=fun d tm h ds=>
 @Bool.rec (fun _=>R) none (@Bool.rec (fun _=>R) none (Yk h fun base s=>kX fl T call b_ round n ops (O7 ops 0 .nil) base fin ops 0 none s d tm h ds) (mj ops (O7 ops 0 .nil) ops 0 [])) (nj ops 0)
abbrev iI:=List (Nat × CD)
abbrev oG(out:Nat->CD)(env:iI)(id:Nat):CD:=@List.rec (Nat × CD) (fun _=>CD) (out id) (fun p _ e d tm h ds=>@Prod.rec Nat CD (fun _=>R) (fun j k=>Bb (Nat.beq j id) (k d tm h ds) (e d tm h ds)) p) env
abbrev pG(c:CD->CD)(fuel:Nat):CD:=@Nat.rec (fun _=>CD) (fun _ _ _ _=>none) (fun _ d=>c d) fuel
abbrev xz(call:Ah)(fn n:Nat)(Dr:Option Nat)(f:EV)(ps:List Tmp)(dT body:Code)(tm:Ba)(h:Ab)(ds:List Nat)(k:Ab->List Nat->R)(ex:Nat->Ab->List Nat->R)(ret:Ab->List Nat->R):R:=match f with
 | .func q first captured=>(match Dr with
  | none=>ni (Nat.succ h.next) (call q (first++(.U5 (Nat.succ h.next)::captured)) ((h.new (.deferred true)).new (.loop .ready none fn n tm ps dT body h.next))) (fun h'=>k h' (h.next::ds)) (fun id h'=>ex id h' (h.next::ds)) (fun h'=>ret h' (h.next::ds))
  | some l0=>(match h.get l0 with
   | some (.loop _ _ _ _ _ _ _ _ d)=>ni h.next (call q (first++(.U5 h.next::captured)) (h.new (.loop .ready none fn n tm ps dT body d))) (fun h'=>k h' ds) (fun id h'=>ex id h' ds) (fun h'=>ret h' ds)
   | _=>none))
 | _=>none
abbrev jc(fl:Bool)(T:I5)(call b_ round:Ah)(fuel fn n:Nat)(Dr:Option Nat)(out:Nat->CD)(ret:CD)(c:Code):iI->CD->CD:=
 @Code.rec (fun _=>iI->CD->CD) (fun _ k=>k)
  (fun _ ops dr _ k=>@Bool.rec (fun _=>CD) (pM fl T call b_ round n ops.toList k ops.toList none) (@Bool.rec (fun _=>CD) (uo fl T call b_ round n ops.toList k) (pM fl T call b_ round n ops.toList k ops.toList none) (uj T ops.toList)) dr)
  (fun _ _ a b env k=>a env (b env k))
  (fun c _ _ a b env k d tm h ds=>match Ej d c with|some e=>gm e (a env k d tm h ds) (b env k d tm h ds)|none=>none)
  (fun id _ c env k=>c ((id,k)::env) k)
  (fun _ c env _=>pG (fun o=>c env o) fuel)
  (fun f ps dT body _ _ env k d tm h ds=>@Bool.rec (fun _=>R) none (match Ej d f with|some e=>xz b_ fn n Dr e ps.toList dT body tm h ds (fun h ds=>k d tm h ds) (fun id h ds=>oG out env id d tm h ds) (fun h ds=>ret d tm h ds)|none=>none) fl)
  (fun id env _=>oG out env id) (fun _ _ _ _ _ _ _ _=>none) (fun _ _ k=>k) (fun _ _ _ _ _ _ _=>none) (fun _ _=>ret) (fun _ _ _ _ _ _ _=>none) c
def Dt(ds:List Nat)(h:Ab)(k:Ab->R):R:=
 @List.rec Nat (fun _=>Ab->R) k (fun d _ e h=>match h.get d with|some (.deferred true)=>e (h.put d (.deferred false))|_=>none) ds h
abbrev uq(d:VS):ResultVar->RV
 | .tmp t=>.v (d t)
 | .cell a t=>.c (d a) t
abbrev mn(T:I5)(res:List ResultVar)(d:VS)(h:Ab):R:=match res with
 | [.tmp t]=>some (d t,h)
 | []=>some (.tuple [],h)
 | [.tmp s,.tmp t]=>some (.tuple [d s,d t],h)
 | res=>Gi T (res.map (uq d)) h
abbrev rM(fl:Bool)(T:I5)(res:List ResultVar):CD:=fun d _ h ds=>@Bool.rec (fun _=>R) (mn T res d h) (Dt ds h fun h=>mn T res d h) fl
abbrev rk(l:List EV):Nat->VS->VS:=@List.rec EV (fun _=>Nat->VS->VS) (fun _ d=>d) (fun v _ e i d=>e (Nat.succ i) (rJ d i v)) l
abbrev u0:VS:=fun _=>.tuple []
abbrev nc:Nat->CD:=fun _ _ _ _ _=>none
def kT(T:I5)(call round:Ah)(fuel f:Nat)(args:List EV)(h:Ab):R:=
 match T.fn f with
 | some { ntmps:=n,body:=some c,results:=res,.. }=>Bb (Nat.ble (Fw args) n) (jc (jH c) T call call round fuel f n none nc (rM (jH c) T res.toList) c [] (rM (jH c) T res.toList) (rk args 0 u0) (setArgs args 0 .nil) h []) none
 | _=>none
abbrev rn(n:Nat)(ps:List Tmp):List EV->VS->VS:=@List.rec Tmp (fun _=>List EV->VS->VS) (fun _ d=>d) (fun p _ e args d=>@List.rec EV (fun _=>VS) d (fun v r _=>e r (iB n (some p) d v)) args) ps
abbrev xg(T:I5)(call b_ round:Ah)(fuel l f n:Nat)(dT body:Code):CD:=
 jc true T call b_ round fuel f n (some l) (fun id _ _ h _=>Wh l false .done (some (.exit id)) h) (fun _ _ h _=>Wh l false .done (some .ret) h) dT []
  fun d tm h ds=>Ez l h fun h=>jc true T call b_ round fuel f n (some l) (fun id _ _ h _=>Wh l false .done (some (.exit id)) h) (fun _ _ h _=>Wh l false .done (some .ret) h) body [] (fun _ _ h _=>Wh l true .ready none h) d tm h ds
def pI(T:I5)(call round:Ah)(fuel l:Nat)(args:List EV)(h:Ab):R:=
 match h.get l with
 | some (.loop _ _ f n tm ps dT body _)=>match Wy ps args n tm with
  | some d=>xg T call call round fuel l f n dT body (rn n ps args (tmp tm)) d h []
  | none=>none
 | _=>none
end
variable {k:List EV->R}{m:Mode}{cf fin:CD}
section
theorem nt(l:List EV):Fw l=len l:=by
 induction l with
 | nil=>rfl
 | cons a r d=>exact congrArg Nat.succ d
theorem xA:∀(l:List EV) (n:Nat),kA l n=match Zy l n with|v::_=>some v | []=>none
 | [],n=>rfl
 | a::r,n=>by
  have e:kA (a::r) n=Bb (Nat.beq n 0) (some a) (kA r (Nat.pred n)):=rfl;rw[e];simp only[Zy];cases Nat.beq n 0
  ·exact xA r _
  ·rfl
theorem N':∀(l:List EV) (n:Nat),ub l n=Zy l n
 | [],n=>rfl
 | a::r,n=>by
  have e:ub (a::r) n=Bb (Nat.beq n 0) (a::r) (ub r (Nat.pred n)):=rfl;rw[e];simp only[Zy];rw[N' r]
theorem xB(a:EV)(x:Option (List EV)):oA a x=match x with|some x=>some (a::x)|none=>none:=by cases x<;>rfl
theorem xC:∀(l:List EV) (n:Nat),rH l n=takeN l n
 | [],n=>rfl
 | a::r,n=>by
  have e:rH (a::r) n=Bb (Nat.beq n 0) (some []) (oA a (rH r (Nat.pred n))):=rfl;rw[e];simp only[takeN];rw[xC r,xB];cases takeN r (Nat.pred n)<;>rfl
theorem N_:∀(l:List EV),takeN l (len l)=some l
 | []=>rfl
 | a::r=>by
  simp only[takeN,len];rw[show Nat.beq (Nat.succ (len r)) 0=false from rfl,Bk,Nat.pred_succ,N_ r]
theorem Bdp(l:List EV):Zy l 0=l:=by cases l<;>rfl
theorem m_(l:List EV)(off n:Nat):Ke l off n=takeN (Zy l off) n:=by
 unfold Ke;rw[N',xC,xC,nt];cases h:Nat.beq off 0
 ·rfl
 ·have:=aJ h;subst this
  rw[Bdp];cases d:Nat.beq (len l) n
  ·rfl
  ·have:=aJ d;subst this
   rw[N_];rfl
theorem xD:∀(vs l:List EV),oC vs l=J0 l vs
 | [],l=>by cases l<;>rfl
 | v::vs,[]=>rfl
 | v::vs,a::r=>by
  have e:oC (v::vs) (a::r)=oA v (oC vs r):=rfl;rw[e];simp only[J0];rw[xD vs r,xB];cases J0 r vs<;>rfl
theorem xE(vs:List EV):∀(l:List EV) (n:Nat),pK vs l n=Fx l n vs
 | [],n=>by
  have e:pK vs [] n=Bb (Nat.beq n 0) (oC vs []) none:=rfl;rw[e];simp only[Fx];rw[xD]
 | a::r,n=>by
  have e:pK vs (a::r) n=Bb (Nat.beq n 0) (oC vs (a::r)) (oA a (pK vs r (Nat.pred n))):=rfl;rw[e];simp only[Fx];rw[xD,xE vs r,xB];cases Fx r (Nat.pred n) vs<;>rfl
theorem OA:∀(l vs:List EV),len l=len vs->J0 l vs=some vs
 | [],[],_=>rfl
 | a::r,[],h=>by simp[len]at h
 | [],v::vs,h=>by simp[len]at h
 | a::r,v::vs,h=>by
  simp only[J0];rw[OA r vs (by simpa [len]using h)]
theorem Vg(l:List EV)(off:Nat)(vs:List EV):Nl l off vs=Fx l off vs:=by
 unfold Nl;rw[xE,xE,nt,nt];cases h:Nat.beq off 0
 ·rfl
 ·have:=aJ h;subst this
  cases d:Nat.beq (len l) (len vs)
  ·rfl
  ·have h2:=aJ d
   have:Fx l 0 vs=J0 l vs:=by cases l<;>rfl
   rw[this,OA l vs h2];rfl
theorem G6 {β:Type}(k:α->Option β)(a:α):oB k (some a)=k a:=rfl
theorem N2 {β:Type}{k:α->Option β}{x:Option α}{r:β}(e:oB k x=some r):∃a,x=some a/\k a=some r:=by
 cases x with
 | none=>cases e
 | some a=>exact⟨a,rfl,e⟩
theorem xF {x y:R}{r:EV × Ab}(e:uc x y v=some r):∃b,v=.bool b/\(Bb b x y)=some r:=by
 cases v with
 | bool b=>exact⟨b,rfl,e⟩
 | _=>cases e
theorem Qd {k:Nat->Nat->R}{r:EV × Ab}(e:kU k v=some r):∃i o,v=.ptr i o/\k i o=some r:=by
 cases v with
 | ptr i o=>exact⟨i,o,rfl,e⟩
 | _=>cases e
theorem Bbi {k:IntKind->Int->R}{r:EV × Ab}(e:NV k v=some r):∃c n,v=.int c n/\k c n=some r:=by
 cases v with
 | int c n=>exact⟨c,n,rfl,e⟩
 | _=>cases e
theorem xG {k:Nat->R}{r:EV × Ab}(e:ue k v=some r):∃c n,v=.int c (.ofNat n)/\k n=some r:=by
 cases v with
 | int c n=>
  cases n with
  | ofNat n=>exact⟨c,n,rfl,e⟩
  | negSucc n=>cases e
 | _=>cases e
theorem xH{r:EV × Ab}(e:xv k v=some r):∃l,v=.agg l/\k l=some r:=by
 cases v with
 | agg l=>exact⟨l,rfl,e⟩
 | _=>cases e
theorem Ba5{r:EV × Ab}(e:NW k v=some r):∃l,v=.tuple l/\k l=some r:=by
 cases v with
 | tuple l=>exact⟨l,rfl,e⟩
 | _=>cases e
theorem OB(a b:Int):uf a b=Int.add a b:=by cases a<;>cases b<;>rfl
theorem OC(a b:Int):ug a b=Int.sub a b:=by
 cases a with
 | ofNat m=>
  cases b with
  | ofNat n=>
   have e:ug (.ofNat m) (.ofNat n)=Bb (Nat.ble n m) (.ofNat (Nat.sub m n)) (.negSucc (Nat.pred (Nat.sub n m))):=rfl;rw[e,Br];show _=(Int.ofNat m)-(Int.ofNat n);split
   next h=>
    have:=bG h;show((m-n:Nat):Int)=_;simp only[aX];omega
   next h=>
    have:¬n<=m:=fun x=>h (aM x)
    show Int.negSucc ((n-m)-1)=_;simp only[aX,cz];omega
  | negSucc n=>rfl
 | negSucc m=>rfl
theorem xI(a b:Int):kV a b=j_ a b:=by cases a<;>cases b<;>rfl
theorem wF(a b:Int):nh a b=iE a b:=by cases a<;>cases b<;>rfl
theorem OD(b:Bool):i_ b=Bb b false true:=by cases b<;>rfl
theorem Bpy {op:BinOp}{g:IntKind->Int->Int->EV}(h:xw op=some g):ur op=false/\∀k a b,pN op k a b=some (g k a b):=by
 unfold xw at h;split at h<;>cases h<;>refine⟨rfl,fun k a b=>?_⟩<;>simp only[pN,kP,nZ,pB,Iz,n_,mU,mV,iD,iF,OB,OC,xI,wF,OD]
theorem OE:∀(l:List (Nat × Nat)) (n:Nat),Df l n=kY l n
 | [],n=>rfl
 | a::r,n=>by
  have e:Df (a::r) n=Bb (Nat.beq n 0) (some a) (Df r (Nat.pred n)):=rfl;rw[e];simp only[kY];rw[OE r]
theorem uu(place:Nat->Option (Nat × Nat)):∀(l:List (Nat × EV)) (c:List EV),iT place l c=fill place c l
 | [],c=>rfl
 | (i,v)::l,c=>by
  have e:iT place ((i,v)::l) c=oB (tG fun off size=>Bb v.plain (Bb (Nat.beq (Fw v.cells) size) (oB (iT place l) (Nl c off v.cells)) none) none) (place i):=rfl;rw[e];simp only[fill];cases place i with
  | none=>rfl
  | some x=>
   obtain⟨off,size⟩:=x;simp only;show Bb v.plain (Bb (Nat.beq (Fw v.cells) size) (oB (iT place l) (Nl c off v.cells)) none) none=_;rw[nt,Vg];cases Fx c off v.cells with
   | none=>rfl
   | some d=>
    show Bb v.plain (Bb (Nat.beq (len v.cells) size) (iT place l d) none) none=_;rw[uu place l d]
theorem xJ(h:Ab)(i off n:Nat):Xk h i off n=Jn h i off n:=by
 unfold Xk Jn mi;cases h.get i with
 | none=>rfl
 | some o=>
  cases o<;>simp only[m_];cases j' _ off<;>rfl
theorem sV(h:Ab)(size n:Nat)(x:EV):Pw h size n x=cellsOf h size n x:=by
 unfold Pw cellsOf;cases x<;>simp only[xJ]
theorem qD(a b:List EV):rI a b=a++b:=by
 induction a with
 | nil=>rfl
 | cons x r d=>exact congrArg (x :: ·) d
theorem Bbw{st e:TypeId}{size:Nat}{z:List EV}(p:T.Ud st=some (.slice e))(h2:T.size e=some size)(q:T.zero e=some z)(s x:EV)(h:Ab):append T st s x h=Ef e size s x h:=by
 unfold append Ef;simp only[p,h2,q];cases lenOf x with
 | none=>rfl
 | some n=>
  simp only[G6];rw[sV];cases cellsOf h size n x with
  | none=>rfl
  | some new=>
   simp only[G6];cases s with
   | slice i off d room op=>
    simp only;rw[sV];cases cellsOf h size d (.slice i off d room op)with
    | none=>rfl
    | some Cn=>
     simp only[G6,qD,nt];cases h.get i with
     | none=>rfl
     | some o=>cases o<;>rfl
   | _=>rfl
theorem xK{agg:Bool}(o:T.agg t=some agg)(p:agg=true->T.size t=some n){cs:List EV}{k:EV->R}{r:EV × Ab}(e:uh agg n cs off k=some r):
 ∃v,part T t cs off=some v/\k v=some r:=by
 unfold uh at e;unfold part;rw[o];cases agg with
 | true=>
  rw[Aj]at e;obtain⟨l,d,h2⟩:=N2 e;rw[m_]at d;rw[p rfl];simp only;rw[d];exact⟨_,rfl,h2⟩
 | false=>
  rw[Bk]at e;obtain⟨v,d,h2⟩:=N2 e;rw[xA]at d;exact⟨v,d,h2⟩
theorem Di(tm:Ba)(x:Operand):Ej (tmp tm) x=Cg tm x:=by cases x<;>rfl
theorem Fv(tm:Ba)(l:List Operand):oF (tmp tm) l=Nj tm l:=by
 induction l with
 | nil=>rfl
 | cons x r d=>
  show(match Ej (tmp tm) x,oF (tmp tm) r with|some e,some es=>some (e::es)|_,_=>none)=_;rw[d,Di];simp only[Nj];cases Cg tm x<;>cases Nj tm r<;>rfl
theorem Fm(tm:Ba)(l:List (Nat × Operand)):uk (tmp tm) l=Zq tm l:=by
 induction l with
 | nil=>rfl
 | cons x r d=>
  obtain⟨i,x⟩:=x;show(match Ej (tmp tm) x,uk (tmp tm) r with|some e,some es=>some ((i,e)::es)|_,_=>none)=_;rw[d,Di];simp only[Zq];cases Cg tm x<;>cases Zq tm r<;>rfl
theorem Ht(tm:Ba)(x:Option Operand):um (tmp tm) x=jd tm x:=by
 cases x with
 | none=>rfl
 | some x=>show(match Ej (tmp tm) x with|some e=>some (some e)|none=>none)=_;rw[Di];rfl
theorem X9 {x:R}{k:EV->Ab->R}{r:EV × Ab}(e:Al x k=some r):∃v h,x=some (v,h)/\k v h=some r:=by
 obtain⟨⟨v,h⟩,d,h2⟩:=N2 e;exact⟨v,h,d,h2⟩
section
variable{call:Ah}
theorem Io(d:nu op=true)(e:E6 T tm op=some v):aop T call round tm op h=some (v,h):=by
 unfold aop;rw[d,Aj,e]
theorem A5m{k:Ab->R}{r:EV × Ab}(e:m' h i (fun l=>Nl l off vs) k=some r):∃h',Mx h i off vs=some h'/\k h'=some r:=by
 unfold m' at e;unfold Mx;split at e
 next l t o=>
  obtain⟨l',p,h2⟩:=N2 e;have d:Fx l off vs=some l':=by rw[<-Vg];exact p
  simp only[o,d];exact⟨_,rfl,h2⟩
 next l t s o=>
  obtain⟨l',p,h2⟩:=N2 e;have d:Fx l off vs=some l':=by rw[<-Vg];exact p
  simp only[o,d];exact⟨_,rfl,h2⟩
 ·cases e
theorem oH{k:EV->Ab->R}{r:EV × Ab}(e:gR T call call round op (tmp tm) h k=some r):
 ∃v h',aop T call round tm op h=some (v,h')/\k v h'=some r:=by
 cases op with
 | move x=>
  simp only[gR,Di,Fv,Fm,Ht]at e;split at e
  next e1 he=>exact⟨_,_,Io rfl (he),e⟩
  ·cases e
 | assign x=>
  simp only[gR,Di,Fv,Fm,Ht]at e;split at e
  next e1 he=>exact⟨_,_,Io rfl (he),e⟩
  ·cases e
 | pick c a b=>
  simp only[gR,Di,Fv,Fm,Ht]at e;split at e
  next c1 W b1 hc C hb=>
   obtain⟨bb,d,h2⟩:=xF e;have p:=hc;rw[d]at p;cases bb
   ·exact⟨_,_,Io rfl (by simp only[E6];rw[p];exact hb),h2⟩
   ·exact⟨_,_,Io rfl (by simp only[E6];rw[p];exact C),h2⟩
  ·cases e
 | binOp op t x y yt=>
  simp only[gR,Di,Fv,Fm,Ht]at e;split at e
  next W b1 C hb=>
   have af:=C;have ag:=hb;have key:∀v,bin T op t W b1=some v->aop T call round tm (.binOp op t x y yt) h=some (v,h):=fun v hv=>
    Io rfl (by simp only[E6];rw[af];simp only;rw[ag];exact hv)
   split at e
   next g O=>
    obtain⟨s1,s2⟩:=Bpy O;unfold Jk at e;split at e
    ·obtain⟨d,h2⟩:=Ap e
     refine⟨_,_,key _ ?_,h2⟩;simp only[bin];rw[s1,Bk,d,Aj,s2]
    ·obtain⟨v,d,h2⟩:=N2 e
     exact⟨v,h,key v d,h2⟩
   ·obtain⟨v,d,h2⟩:=N2 e
    exact⟨v,h,key v d,h2⟩
  ·cases e
 | unOp u t x=>
  cases u with
  | not=>
   simp only[gR,Di,Fv,Fm,Ht]at e;split at e
   next e1 he=>
    obtain⟨b,d,h2⟩:=xF e;have p:=he;rw[d]at p;cases b
    ·exact⟨_,_,Io rfl (by simp only[E6];rw[p];rfl),h2⟩
    ·exact⟨_,_,Io rfl (by simp only[E6];rw[p];rfl),h2⟩
   ·cases e
  | neg=>
   simp only[gR,Di,Fv,Fm,Ht]at e;split at e
   next e1 he=>
    unfold oc at e;split at e
    ·exact⟨_,h,Io rfl (by simp only[E6];rw[he]),e⟩
    ·cases e
   ·cases e
  | _=>(cases e)
 | nilCheck x=>
  simp only[gR,Di,Fv,Fm,Ht]at e;split at e
  next e1 he=>
   obtain⟨i,o,d,h2⟩:=Qd e;have p:=he;rw[d]at p;exact⟨_,_,Io rfl (by simp only[E6];rw[p]),h2⟩
  ·cases e
 | fieldAddr s x f=>
  simp only[gR,Di,Fv,Fm,Ht]at e;split at e
  next e1 fields he hu=>
   split at e
   next fd H=>
    split at e
    next n S=>
     cases hb:Nat.beq n 0 with
     | true=>rw[hb,Aj]at e;cases e
     | false=>
      rw[hb,Bk]at e;obtain⟨i,o,d,h2⟩:=Qd e;have p:=he;rw[d]at p;exact⟨_,_,Io rfl (by simp only[E6];rw[p];simp only;rw[hu];simp only;rw[H];simp only;rw[S];simp only;rw[hb,Bk]),h2⟩
    ·cases e
   ·cases e
  ·cases e
 | indexAddr t x ix=>
  simp only[gR,Di,Fv,Fm,Ht]at e;split at e
  next e1 X ln J he M hu=>
   split at e
   next s hs=>
    obtain⟨c,j,d,h2⟩:=xG e;obtain⟨i,off,p,h4⟩:=Qd h2;obtain⟨D,E⟩:=Ap h4;have A:=M;have B:=he;rw[d]at A;rw[p]at B;exact⟨_,_,Io rfl (by simp only[E6];rw[A];simp only;rw[hu,B];simp only;rw[hs];simp only;rw[D,Aj]),E⟩
   ·cases e
  next e1 X J he M hu=>
   split at e
   next s hs=>
    obtain⟨c,j,d,h2⟩:=xG e;split at h2
    ·obtain⟨D,E⟩:=Ap h2
     have A:=M;have B:=he;rw[d]at A;exact⟨_,_,Io rfl (by simp only[E6];rw[A];simp only;rw[hu,B];simp only;rw[hs];simp only;rw[D,Aj]),E⟩
    ·cases h2
   ·cases e
  ·cases e
 | index t x ix=>
  simp only[gR,Di,Fv,Fm,Ht]at e;split at e
  next e1 X ln J he M hu=>
   split at e
   next s agg hs C=>
    obtain⟨c,j,d,h2⟩:=xG e;obtain⟨cs,p,h4⟩:=xH h2;obtain⟨D,E⟩:=Ap h4;obtain⟨v,U,V⟩:=xK C (fun _=>hs) E;have A:=M;have B:=he;rw[d]at A;rw[p]at B;exact⟨_,_,Io rfl (by simp only[E6];rw[A];simp only;rw[hu,B];simp only;rw[hs];simp only;rw[D,Aj,U]),V⟩
   ·cases e
  ·(cases e)
 | field t x f=>
  simp only[gR,Di,Fv,Fm,Ht]at e;split at e
  next e1 fields he hu=>
   split at e
   next fd H=>
    have B:=he;split at e
    next C=>
     split at e
     next n S=>
      obtain⟨cs,p,h4⟩:=xH e;obtain⟨v,U,V⟩:=xK C (fun _=>S) h4;rw[p]at B;exact⟨_,_,Io rfl (by simp only[E6];rw[hu,B];simp only;rw[H];simp only;rw[U]),V⟩
     ·cases e
    next C=>
     obtain⟨cs,p,h4⟩:=xH e;obtain⟨v,U,V⟩:=xK C (fun x=>by cases x) h4;rw[p]at B;exact⟨_,_,Io rfl (by simp only[E6];rw[hu,B];simp only;rw[H];simp only;rw[U]),V⟩
    ·cases e
   ·cases e
  ·cases e
 | convert src dst x=>
  simp only[gR,Di,Fv,Fm,Ht]at e;split at e
  next e1 _ c he hs hd=>
   obtain⟨c',n,d,h2⟩:=Bbi e;have q:=he;rw[d]at q;exact⟨_,_,Io rfl (by simp only[E6];rw[hs,hd,q]),h2⟩
  ·cases e
 | extract x ix=>
  simp only[gR,Di,Fv,Fm,Ht]at e;split at e
  next e1 he=>
   obtain⟨l,d,h2⟩:=Ba5 e;obtain⟨v,p,h4⟩:=N2 h2;have q:=he;rw[d]at q;rw[xA]at p;exact⟨_,_,Io rfl (by simp only[E6];rw[q];exact p),h4⟩
  ·cases e
 | load t x=>
  simp only[gR,Di]at e;split at e
  next e1 he C=>
   split at e
   next n S=>
    obtain⟨i,off,d,h2⟩:=Qd e;obtain⟨l',D,E⟩:=N2 h2;rw[d]at he;refine⟨_,_,?_,E⟩;show Dx T tm (.load t x) h=_;simp only[Dx];rw[he];simp only;rw[C];simp only;rw[S];simp only;rw[<-xJ];rw[show Xk h i off n=some l' from D]
   ·cases e
  next e1 he C=>
   obtain⟨i,off,d,h2⟩:=Qd e;obtain⟨l',D,E⟩:=N2 h2;rw[d]at he;split at E
   ·refine⟨_,_,?_,E⟩
    show Dx T tm (.load t x) h=_;simp only[Dx];rw[he];simp only;rw[C];simp only;rw[<-xJ,show Xk h i off 1=some _ from D]
   ·cases E
  ·cases e
 | store t a x=>
  simp only[gR,Di,Fv,Fm,Ht]at e;split at e
  next W x1 n C hx S=>
   obtain⟨i,off,d,h2⟩:=Qd e;obtain⟨p,h4⟩:=Ap h2;obtain⟨D,E⟩:=Ap h4;obtain⟨h',U,V⟩:=A5m E;rw[nt]at D;have A:=C;have B:=hx;rw[d]at A;refine⟨_,_,?_,V⟩;show Dx T tm (.store t a x) h=_;simp only[Dx];rw[A,B,S];simp only;rw[p,Aj,D,Aj,U]
  ·cases e
 | alloc t=>
  simp only[gR,Di,Fv,Fm,Ht]at e;split at e
  next z F=>
   refine⟨_,_,?_,e⟩;show Dx T tm (.alloc t) h=_;simp only[Dx];rw[F]
  ·cases e
 | box t x=>
  simp only[gR,Di,Fv,Fm,Ht]at e;split at e
  next e1 he=>
   obtain⟨d,h2⟩:=Ap e;refine⟨_,_,?_,h2⟩;show Dx T tm (.box t x) h=_;simp only[Dx];rw[he];simp only;rw[d,Aj]
  ·cases e
 | call c=>
  obtain⟨callee,args,Q⟩:=c;have Y:∀{f:Operand} {e1:EV} {as:List EV},Cg tm f=some e1->Nj tm args.toList=some as->Al (P0 call round e1 as h) k=some r->∃v h',aop T call round tm (.call ⟨.value f,args,Q⟩) h=some (v,h')/\k v h'=some r:=by
   intro f e1 as A B hc;obtain⟨v,h',d,h2⟩:=X9 hc;refine⟨v,h',?_,h2⟩;show(match Cg tm f,Nj tm args.toList with|some (.func g first captured),some as=>call g (first++(as++captured)) h|some (.U5 l),some as=>round l as h|_,_=>none)=_;rw[A,B];unfold P0 at d;split at d
   ·rw[qD,qD]at d;exact d
   ·exact d
   ·cases d
  cases callee with
  | value f=>
   cases f with
   | func g=>
    simp only[gR,Di,Fv]at e;split at e
    next as C=>
     obtain⟨v,h',d,h2⟩:=X9 e;refine⟨v,h',?_,h2⟩;show(match Cg tm (.func g),Nj tm args.toList with|some (.func g first captured),some as=>call g (first++(as++captured)) h|some (.U5 l),some as=>round l as h|_,_=>none)=_;rw[C];simp only[Cg,cS,cW];exact d
    ·cases e
   | global g=>cases e
   | _=>
    simp only[gR,Di,Fv]at e;split at e
    next e1 as H C=>exact Y H C e
    ·cases e
  | builtin b=>
   have key:∀{as:List EV},Nj tm args.toList=some as->∀v h',builtin T b Q as h=some (v,h')->aop T call round tm (.call ⟨.builtin b,args,Q⟩) h=some (v,h'):=by
    intro as C v h' hb;show Dx T tm (.call ⟨.builtin b,args,Q⟩) h=_;simp only[Dx];rw[C];exact hb
   cases b with
   | append=>
    simp only[gR,Di]at e;split at e
    next s x t u G L=>
     split at e
     next W b1 u1 J hs hx hu Z=>
      split at e
      next size z ai F=>
       obtain⟨v,h',d,h2⟩:=X9 e;refine⟨v,h',key (as:=[W,b1]) (by rw[G];simp only[Nj,hs,hx]) v h' ?_,h2⟩;rw[<-Bbw Z ai F]at d;simp only[builtin];rw[L];simp only;rw[hu];exact d
      ·cases e
     ·cases e
    ·cases e
   | len=>
    simp only[gR,Di]at e;split at e
    next x t G L=>
     have ka:∀{e1:EV},Cg tm x=some e1->Nj tm args.toList=some [e1]:=by
      intro e1 he;rw[G];simp only[Nj,he]
     split at e
     next e1 J he Z=>
      obtain⟨n,d,h2⟩:=N2 e;refine⟨_,_,key (ka he) _ _ ?_,h2⟩;simp only[builtin];rw[L];simp only;rw[Z];simp only;rw[d]
     next e1 dd J he Z=>
      obtain⟨v,h',d,h2⟩:=X9 e;refine⟨_,_,key (ka he) v h' ?_,h2⟩;simp only[builtin];rw[L];simp only;rw[Z];revert d;unfold tL;cases e1<;>exact id
     next e1 _ _ he _ _=>
      obtain⟨v,h',d,h2⟩:=X9 e;exact⟨_,_,key (ka he) v h' d,h2⟩
     ·cases e
    ·cases e
   | _=>
    simp only[gR,Fv]at e;split at e
    next as C=>
     obtain⟨v,h',d,h2⟩:=X9 e;exact⟨v,h',key C v h' d,h2⟩
    ·cases e
  | _=>cases e
 | build t ps=>
  simp only[gR,Fm]at e;split at e
  next z l fields F hl hu=>
   split at e
   next pl al=>
    obtain⟨c,p,h2⟩:=N2 e;refine⟨_,h,Io rfl ?_,h2⟩;rw[uu,show Df pl=kY pl from funext (OE pl)]at p;simp only[E6];rw[F,hl,hu];simp only;rw[al];simp only;rw[p]
   ·cases e
  next z l n J F hl hu=>
   split at e
   next s hs=>
    obtain⟨c,p,h2⟩:=N2 e;refine⟨_,h,Io rfl ?_,h2⟩;rw[uu]at p;simp only[E6];rw[F,hl,hu];simp only;rw[hs];simp only;have ao:fill (fun i=>some (Nat.mul i s,s)) z l=some c:=p;rw[ao]
   ·cases e
  ·cases e
 | buildSlice t n ps=>
  simp only[gR,Fm]at e;split at e
  next J l hu hl=>
   split at e
   next s z hs F=>
    obtain⟨v,h',d,h2⟩:=X9 e;refine⟨v,h',?_,h2⟩;unfold By at d;obtain⟨p,h4⟩:=Ap d;obtain⟨c,D,E⟩:=N2 h4;rw[uu]at D;have aq:fill (fun i=>some (Nat.mul i s,s)) (rep z n) l=some c:=D;show Dx T tm (.buildSlice t n ps) h=_;simp only[Dx];rw[hu,hl];simp only;rw[hs,F];simp only;rw[p,Aj,aq];exact E
   ·cases e
  ·cases e
 | makeFunc fo first captured=>
  cases fo with
  | func f=>
   simp only[gR,Fv]at e;split at e
   next a b C hb=>
    exact⟨_,h,Io rfl (by simp only[E6];rw[C,hb]),e⟩
   ·cases e
  | _=>cases e
 | sliceToArrayPointer t x=>
  simp only[gR,Di]at e;split at e
  next e1 n J he hu=>
   unfold oe at e;split at e
   ·obtain⟨d,h2⟩:=Ap e
    exact⟨_,h,Io rfl (by simp only[E6];rw[hu,he];simp only;rw[d,Aj]),h2⟩
   ·cases e
  ·cases e
 | slice t x lo hi mx=>
  simp only[gR,Di,Ht]at e;split at e
  next e1 a7 a8 ba A B q3 q4=>
   split at e
   next n J hu=>
    split at e
    next s hs=>
     obtain⟨i,o,rfl,d⟩:=Qd e;obtain⟨v,h2,p⟩:=N2 d;exact⟨v,h,Io rfl (by simp only[E6];rw[B,q3,q4];simp only;rw[hu,A];simp only[hs];exact h2),p⟩
    ·cases e
   next J hu=>
    split at e
    next s hs=>
     obtain⟨v,d,h2⟩:=N2 e;exact⟨v,h,Io rfl (by simp only[E6];rw[B,q3,q4];simp only;rw[hu,A];simp only;rw[hs];exact d),h2⟩
    ·cases e
   ·cases e
  ·cases e
 | makeSlice t l c=>
  simp only[gR,Di]at e;split at e
  next l1 c1 J A B hu=>
   split at e
   next z F=>
    obtain⟨v,h',d,h2⟩:=X9 e;refine⟨v,h',?_,h2⟩;unfold Wl at d;split at d
    ·show Dx T tm (.makeSlice t l c) h=_
     simp only[Dx];rw[hu,A,B];simp only;rw[F];exact d
    ·cases d
   ·cases e
  ·cases e
 | makeMap t rs=>
  cases rs with
  | none=>
   obtain⟨v,h',d,h2⟩:=X9 (show Al (tN h) k=some r from e);exact⟨v,h',d,h2⟩
  | some x=>cases e
 | makeChan t s=>
  simp only[gR,Di]at e;split at e
  next s1 dd J A hu=>
   split at e
   next n0 au=>
    obtain⟨v,h',d,h2⟩:=X9 e;refine⟨v,h',?_,h2⟩;unfold tJ at d;split at d
    ·show Dx T tm (.makeChan t s) h=_
     simp only[Dx];rw[hu,A];simp only;rw[au];exact d
    ·cases d
   ·cases e
  ·cases e
 | lookup t x ix ok=>
  simp only[gR,Di]at e;split at e
  next m1 i1 kt J A B hu=>
   obtain⟨v,h',d,h2⟩:=X9 e;refine⟨v,h',?_,h2⟩;unfold pE at d;split at d
   ·show Dx T tm (.lookup t x ix ok) h=_
    simp only[Dx];rw[hu,A,B];simp only;obtain⟨p,h4⟩:=Ap d;rw[p,Aj];split at h4
    next es O=>
     rw[O];simp only;split at h4
     next H=>rw[H];exact h4
     next H=>
      rw[H];simp only
      obtain⟨zv,D,E⟩:=N2 h4;rw[D];exact E
     ·cases h4
    ·cases h4
   ·cases d
  ·cases e
 | mapUpdate t m ix x=>
  simp only[gR,Di]at e;split at e
  next m1 i1 x1 kt J A B q3 hu=>
   obtain⟨v,h',d,h2⟩:=X9 e;refine⟨v,h',?_,h2⟩;unfold pF at d;split at d
   ·show Dx T tm (.mapUpdate t m ix x) h=_
    simp only[Dx];rw[hu,A,B,q3];simp only;obtain⟨p,h4⟩:=Ap d;rw[p,Aj];split at h4
    next es O=>
     rw[O];simp only;split at h4
     next H=>rw[H];exact h4
     next H=>rw[H];exact h4
     ·cases h4
    ·cases h4
   ·cases d
  ·cases e
 | select cs bl=>
  cases bl with
  | true=>cases e
  | false=>
   simp only[gR,Di]at e;split at e
   next c ab=>
    split at e
    next x hsend=>
     split at e
     next c1 x1 zv A B F=>
      obtain⟨v,h',d,h2⟩:=X9 e;refine⟨v,h',?_,h2⟩;unfold ox at d;split at d
      ·show Dx T tm (.select cs false) h=_
       simp only[Dx];rw[ab];simp only;rw[A,hsend];simp only;split at d
       next cap buf O=>
        rw[O,B];simp only;rw[F];exact d
       ·cases d
      ·cases d
     ·cases e
    next hsend=>
     split at e
     next c1 zv A F=>
      obtain⟨v,h',d,h2⟩:=X9 e;refine⟨v,h',?_,h2⟩;unfold oz at d;split at d
      ·show Dx T tm (.select cs false) h=_
       simp only[Dx];rw[ab];simp only;rw[A,hsend];simp only;split at d
       next cap buf O=>
        rw[O,F];exact d
       ·cases d
      ·cases d
     ·cases e
   ·cases e
 | _=>cases e
theorem F1(tm:Ba)(j i:Nat)(v:EV):tmp (tm.put j (some v)) i=if j=i then v else tmp tm i:=by
 unfold tmp;rw[Tr.get_put];by_cases h:j=i<;>simp[h]
theorem pO(n:Nat)(d:Option Tmp)(tm:Ba)(v:EV):iB n d (tmp tm) v=tmp (Qu n tm d v):=by
 cases d with
 | none=>rfl
 | some d=>
  show Bb (Nat.ble (Nat.succ d) n) (rJ (tmp tm) d v) (tmp tm)=tmp (Bb (Nat.ble (Nat.succ d) n) (tm.put d (some v)) tm);cases Nat.ble (Nat.succ d) n with
  | false=>rfl
  | true=>
   funext i;rw[Aj,Aj,F1];show Bb (Nat.beq d i) v (tmp tm i)=_;by_cases e:d=i
   ·subst e;rw[aN rfl,cP,Aj]
   ·rw[aK e,beq_false e,Bk]
theorem Bk1(ops:List Oper)(g:Nat × Bool)(tm:Ba):rK ops (tmp tm) g=wanted ops tm (some g):=by
 obtain⟨j,want⟩:=g;simp only[wanted,yielded];show(match kj ops j with|some o=>(match o.dst with|some d=>Fa (tmp tm d) want|none=>false)|none=>false)=_;cases kj ops j with
 | none=>rfl
 | some o=>
  simp only;cases o.dst with
  | none=>rfl
  | some d=>
   simp only[tmp];cases tm.get d with
   | none=>rfl
   | some v=>cases v<;>first|rfl|(simp only[Fa,OD])
def jT(ops:List Oper)(tm:Ba)(m:Mode):Prop:=∀g b,m=some (g,b)->wanted ops tm (some g)=b
theorem jT.none(ops:List Oper)(tm:Ba):jT ops tm none:=fun _ _ h=>by cases h
theorem Bm0(h:NZ a b=true):a=b:=by cases a<;>cases b<;>first|rfl|cases h
theorem OG(hm:jT ops tm m){g:Nat × Bool}(h:pL m g=some b):wanted ops tm (some g)=b:=by
 unfold pL at h;cases m with
 | none=>cases h
 | some x=>
  obtain⟨⟨j,w⟩,e⟩:=x;simp only at h;obtain⟨d,h2⟩:=Ap h;cases h2;rw[Br]at d;split at d
  next hj=>
   have e1:j=g.1:=aJ hj;have e2:w=g.2:=Bm0 d;have:g=(j,w):=by rw[e1,e2]
   rw[this];exact hm _ _ rfl
  ·cases d
theorem uv{g:Nat × Bool}(hw:wanted ops tm (some g)=b)(n:Nat)(dst:Option Tmp)(v:EV):jT ops (Qu n tm dst v) (jI ops g b dst):=by
 intro B C h;obtain⟨j,w⟩:=g;unfold jI at h;simp only[wanted,yielded]at hw⊢;cases p:kj ops j with
 | none=>
  rw[p]at h hw;simp only at h hw;cases h;simp only[p];exact hw
 | some o=>
  rw[p]at h hw;simp only at h hw;cases hd:o.dst with
  | none=>
   rw[hd]at h hw;simp only at h hw;cases h;simp only[p,hd];exact hw
  | some d=>
   rw[hd]at h hw;simp only at h hw;cases dst with
   | none=>
    simp only at h;cases h;simp only[p,hd,Qu];exact hw
   | some u=>
    simp only at h;rw[Br]at h;split at h
    ·cases h
    next y=>
     cases h;have q:u≠d:=fun e=>y (by rw[e];exact cP _)
     have A:(Qu n tm (some u) v).get d=tm.get d:=by
      show(Bb (Nat.ble (Nat.succ u) n) (tm.put u (some v)) tm).get d=_;rw[Br];split
      ·rw[Tr.get_put,aK q]
      ·rfl
     simp only[p,hd,A];exact hw
theorem OH(hm:jT ops tm m){g:Nat × Bool}{A B:R}{r:EV × Ab}(e:(match pL m g with|some true=>A|some false=>B|none=>Bb (rK ops (tmp tm) g) A B)=some r):
 (wanted ops tm (some g)=true/\A=some r)\/(wanted ops tm (some g)=false/\B=some r):=by
 split at e
 next d=>exact .inl ⟨OG hm d,e⟩
 next d=>exact .inr ⟨OG hm d,e⟩
 ·rw[Bk1]at e
  cases hw:wanted ops tm (some g)with
  | true=>rw[hw,Aj]at e;exact .inl ⟨rfl,e⟩
  | false=>rw[hw,Bk]at e;exact .inr ⟨rfl,e⟩
theorem uw{d:Option Tmp}(F:Ba->R):iN fl n tm d v F=F (xy fl n tm d v):=by cases fl<;>cases d<;>rfl
theorem xL:∀{l:List Oper} {m:Mode} {tm t2:Ba} {h:Ab} {ds:List Nat} {r:EV × Ab},(fl=true->t2=tm)->jT ops tm m->pM fl T call call round n ops fin l m (tmp tm) t2 h ds=some r ->
 ∃d h' o,jl T call round n ops l tm h=some (d,h')/\(fl=true->o=d)/\fin (tmp d) o h' ds=some r
 | [],m,tm,t2,h,ds,r,p,_,e=>⟨tm,h,t2,rfl,p,e⟩
 | ⟨dst,op,ty,ps,F,g⟩::l,m,tm,t2,h,ds,r,p,hm,e=>by
  have B:∀v,fl=true->xy fl n t2 dst v=Qu n tm dst v:=fun v e=>by rw[p e];show Bb fl _ _=_;rw[e,Aj]
  have run:∀{q:Mode},(∀v,jT ops (Qu n tm dst v) q)->gR T call call round op (tmp tm) h (fun v h=>iN fl n t2 dst v fun t2=>pM fl T call call round n ops fin l q (iB n dst (tmp tm) v) t2 h ds)=some r ->
   ∃d h' o,(match aop T call round tm op h with|some (v,h')=>jl T call round n ops l (Qu n tm dst v) h'|none=>none)=some (d,h')/\(fl=true->o=d)/\fin (tmp d) o h' ds=some r:=by
   intro q u e;obtain⟨v,h',C,h2⟩:=oH e;rw[uw,pO]at h2;obtain⟨y,A,t3,D,h4,E⟩:=xL (B v) (u v) h2;exact⟨y,A,t3,by rw[C];exact D,h4,E⟩
  simp only[jl];cases g with
  | none=>
   simp only[wanted,Aj];exact run (fun v=>jT.none _ _) e
  | some g=>
   rcases OH hm e with⟨hw,e'⟩|⟨hw,e'⟩
   ·rw[hw,Aj];exact run (fun v=>uv hw n dst v) e'
   ·rw[hw,Bk];rw[uw,pO]at e';exact xL (B _) (uv hw n dst _) e'
end
end
theorem xM(h:Bb a b false=true):a=true/\b=true:=by cases a<;>simp_all [Br]
theorem OI(h:cls op=.load):∃t x,op=.load t x:=by
 cases op<;>first|exact⟨_,_,rfl⟩|skip
 all_goals (first|(cases h;done)|skip)
 all_goals (simp only[cls,nu,Aj,Bk]at h;first|(cases h;done)|skip)
 all_goals exact absurd h (rN false _).2.1
theorem Bnz{call:Ah}(o:oD T op=true)(u:cls op=.pur){h2:Ab}(d:aop T call round tm op h=some (v,h')):
 h'=h/\Dx T tm op h2=some (v,h2):=by
 have y:=uz u;rw[xN y]at d;refine⟨OJ y d,?_⟩;unfold oD at o;rw[u]at o;simp only at o;split at o
 next args p=>
  split at o
  next t q=>
   split at o
   next e hu=>
    simp only[Dx]at d⊢;split at d
    next as has=>
     match as,d with
     | [x],d=>
      simp only[builtin]at d⊢;rw[q]at d⊢;simp only at d⊢;rw[hu]at d⊢;simp only at d⊢;split at d
      ·cases d;first|rfl|(rename_i n A;rw[A])
      ·cases d
     | [],d=>cases d
     | _::_::_,d=>cases d
    ·cases d
   ·cases o
  ·cases o
 next args p=>
  simp only[Dx]at d⊢;split at d
  next as has=>
   match as,d with
   | x::l,d=>
    cases x<;>first|(cases d;done)|skip
    simp only[builtin]at d⊢;split at d
    ·cases d;first|rfl|(rename_i hm;rw[hm])
    ·cases d
   | [],d=>cases d
  ·cases d
 next args p=>
  simp only[Dx]at d⊢;split at d
  next as has=>
   match as,d with
   | x::l,d=>
    cases x<;>first|(cases d;done)|skip
    simp only[builtin]at d⊢;split at d
    ·cases d;first|rfl|(rename_i hm;rw[hm])
    ·cases d
   | [],d=>cases d
  ·cases d
 ·cases o
theorem xO {T:I5}{call round:Ah}{n:Nat}{ops:List Oper}{bs:Tr Nat}{h:Ab}{base:Nat}:
 ∀(l:List Oper) (i:Nat) (tm f_:Ba) (h':Ab) (Cy:List (Nat × Nat)),ui T l=true->(∀k,k<l.length->∃b,bs.get (i+k)=some b)->jl T call round n ops l tm h=some (f_,h') ->
  h'=h/\∃lds',Tk T call round n ops bs base l i ⟨tm,h,0,[],Cy,[],[]⟩=some ⟨f_,h,0,[],lds',[],[]⟩
 | [],i,tm,f_,h',Cy,_,_,e=>by cases e;exact⟨rfl,Cy,rfl⟩
 | ⟨dst,op,ty,ps,af,g⟩::l,i,tm,f_,h',Cy,hq,hbs,e=>by
  obtain⟨hq1,hq2⟩:=xM (show Bb (oD T op) (ui T l) false=true from hq);have hbs':∀k,k<l.length->∃b,bs.get (Nat.succ i+k)=some b:=fun k hk=>by
   have:=hbs (k+1) (by simp;omega);rw[show Nat.succ i+k=i+(k+1) from a_];exact this
  obtain⟨b,g_⟩:=hbs 0 (by simp);rw[dI]at g_;simp only[jl]at e;cases hw:wanted ops tm g with
  | false=>
   rw[hw,Bk]at e;obtain⟨h1,lds',h2⟩:=xO l (Nat.succ i) _ _ _ Cy hq2 hbs' e;refine⟨h1,lds',?_⟩;simp only[Tk,Ws,hw,Bk];exact h2
  | true=>
   rw[hw,Aj]at e;split at e
   next v h1 hop=>
    have go:h1=h->(∃lds1,Ws T call round n ops bs base ⟨dst,op,ty,ps,af,g⟩ i ⟨tm,h,0,[],Cy,[],[]⟩=some ⟨Qu n tm dst v,h,0,[],lds1,[],[]⟩) ->
     h'=h/\∃lds',Tk T call round n ops bs base (⟨dst,op,ty,ps,af,g⟩::l) i ⟨tm,h,0,[],Cy,[],[]⟩=some ⟨f_,h,0,[],lds',[],[]⟩:=by
     rintro rfl ⟨lds1,hd⟩;obtain⟨h2,lds',h3⟩:=xO l (Nat.succ i) _ _ _ lds1 hq2 hbs' e;exact⟨h2,lds',by simp only[Tk,hd];exact h3⟩
    cases hc:cls op with
    | val=>
     have hv:=xP hc;unfold aop at hop;rw[hv,Aj]at hop;split at hop
     next v' hv'=>
      cases hop;refine go rfl ⟨Cy,?_⟩;simp only[Ws,hw,Aj,g_,hc,hv']
     ·cases hop
    | load=>
     obtain⟨t,x,rfl⟩:=OI hc;have hop':Dx T tm (.load t x) h=some (v,h1):=hop;have hop2:=hop';simp only[Dx]at hop';split at hop'
     next q off hx=>
      have hh1:h1=h:=by
       split at hop'
       ·split at hop'
        ·split at hop'
         ·cases hop';rfl
         ·cases hop'
        ·cases hop'
       ·split at hop'
        ·cases hop';rfl
        ·cases hop'
       ·cases hop'
      subst hh1;refine go rfl ⟨(Nat.shiftLeft 1 i,q)::Cy,?_⟩;have hst:within 0 b=true:=by unfold within;rw[show Nat.land 0 b=0 from Nat.zero_and b];rfl
      have hall:Bb (Nat.ble (Nat.succ q) base) true (Bb (within 0 b) true false)=true:=by rw[hst];cases Nat.ble (Nat.succ q) base<;>rfl
      simp only[Ws,hw,Aj,g_,hc,hx,Fh,Xt,loose,hall,hop2]
     ·cases hop'
    | pur=>
     obtain⟨h2,h3⟩:=Bnz (h2:=⟨.nil,h.next,h.next⟩) hq1 hc hop;refine go h2 ⟨Cy,?_⟩;simp only[Ws,hw,Aj,g_,hc,h3]
    | new=>unfold oD at hq1;rw[hc]at hq1;cases hq1
    | sto=>unfold oD at hq1;rw[hc]at hq1;cases hq1
    | big=>unfold oD at hq1;rw[hc]at hq1;cases hq1
   ·cases e
theorem A9u{call:Ah}(o:uj T ops=true){d:Ba}(e:jl T call round n ops ops tm h=some (d,h')):
 kZ T call round n ops tm h=some (d,h'):=by
 obtain⟨u,o⟩:=xM o;obtain⟨y,A⟩:=xM o;have p:∀k,k<ops.length->∃b,(O7 ops 0 .nil).get (0+k)=some b:=fun k B=>by
  obtain⟨b,hb,_⟩:=xQ ops 0 .nil (fun _ _=>rfl) k ops[k] (aF B);exact⟨b,hb⟩
 obtain⟨rfl,q,C⟩:=xO (bs:=O7 ops 0 .nil) (base:=h.next) ops 0 tm d h' [] u p e;unfold kZ;rw[y,Aj,A,Aj,C]
theorem Bq4(h:b=true){x y:α}:Bb b x y=x:=by rw[h];rfl
theorem Bkz{call:Ah}:aop T call round tm (.load t x) h=Dx T tm (.load t x) h:=rfl
theorem Bpp{call:Ah}{a:Operand}:aop T call round tm (.store t a x) h=Dx T tm (.store t a x) h:=rfl
theorem Bpr(h:cls op=.sto):∃t a x,op=.store t a x:=by
 cases op<;>first|exact⟨_,_,_,rfl⟩|skip
 all_goals (first|(cases h;done)|skip)
 all_goals (first
  | (rename_i c;exact absurd (show Bb false k_.val (Bb (mo (.call c)) .pur .big)=.sto from h) (rN _ _).2.2)
  | exact absurd h (rN _ _).2.2)
theorem A90{call:Ah}(d:cls op=.new):aop T call round tm op h=Dx T tm op h:=by
 rcases xR d with⟨_,rfl⟩|⟨_,_,rfl⟩|⟨_,_,_,rfl⟩|⟨_,_,_,rfl⟩|⟨_,_,rfl⟩|⟨_,_,rfl⟩<;>rfl
def DX.with(s:DX)(tm:Ba)(h:Ab):iP:=⟨tm,h,s.bg,s.nw,s.Cy,s.lou,s.st⟩
theorem xS{call:Ah}{bs:Tr Nat}{base:Nat}{r:EV × Ab}:∀{l:List Oper} {i:Nat} {m:Mode} {s:DX} {tm t2:Ba} {h:Ab},(fl=true->t2=tm)->jT ops tm m ->
 kX fl T call call round n ops bs base fin l i m s (tmp tm) t2 h ds=some r->∃s' y,Tk T call round n ops bs base l i (s.with tm h)=some s'/\(fl=true->y=s'.tm)/\fin (tmp s'.tm) y s'.h ds=some r
 | [],i,m,s,tm,t2,h,J,_,e=>⟨s.with tm h,t2,rfl,J,e⟩
 | ⟨dst,op,ty,ps,L,g⟩::l,i,m,s,tm,t2,h,J,hm,e=>by
  have U:∀v,fl=true->xy fl n t2 dst v=Qu n tm dst v:=fun v e=>by rw[J e];show Bb fl _ _=_;rw[e,Aj]
  cases hb:bs.get i with
  | none=>simp only[kX,hb]at e;cases e
  | some b=>
   have run:∀{mk:Mode},(∀v,jT ops (Qu n tm dst v) mk)->wanted ops tm g=true->nr T call call round op i b base s (tmp tm) h (fun s v h=>iN fl n t2 dst v fun t2=>kX fl T call call round n ops bs base fin l (Nat.succ i) mk s (iB n dst (tmp tm) v) t2 h ds)=some r ->
    ∃s' y,Tk T call round n ops bs base (⟨dst,op,ty,ps,L,g⟩::l) i (s.with tm h)=some s'/\(fl=true->y=s'.tm)/\fin (tmp s'.tm) y s'.h ds=some r:=by
    intro mk M hw e2;have p:∀{v:EV} {B:Ab} {s1:DX},(iN fl n t2 dst v fun t2=>kX fl T call call round n ops bs base fin l (Nat.succ i) mk s1 (iB n dst (tmp tm) v) t2 B ds)=some r ->
     Ws T call round n ops bs base ⟨dst,op,ty,ps,L,g⟩ i (s.with tm h)=some (s1.with (Qu n tm dst v) B) ->
     ∃s' y,Tk T call round n ops bs base (⟨dst,op,ty,ps,L,g⟩::l) i (s.with tm h)=some s'/\(fl=true->y=s'.tm)/\fin (tmp s'.tm) y s'.h ds=some r:=by
     intro v B s1 e3 hd;rw[uw,pO]at e3;obtain⟨s',t3,h2,A,h4⟩:=xS (U v) (M v) e3;exact⟨s',t3,by simp only[Tk,hd];exact h2,A,h4⟩
    unfold nr at e2;cases u:cls op with
    | val=>
     rw[u]at e2;obtain⟨v,B,h2,A⟩:=oH e2;have V:=xP u;unfold aop at h2;rw[V,Aj]at h2;split at h2
     next X O=>
      cases h2;refine p A ?_;simp only[Ws,DX.with,hw,Aj,hb,u,O]
     ·cases h2
    | load=>
     rw[u]at e2;obtain⟨t,x,rfl⟩:=OI u;simp only[Di]at e2;split at e2
     next ex C=>
      obtain⟨q,o,B,h2⟩:=Qd e2;obtain⟨A,h4⟩:=Ap h2;obtain⟨v,D,E,F⟩:=oH h4;rw[Bkz]at E;rw[B]at C;have Q:D=h:=by
       have d:=E;simp only[Dx]at d;rw[C]at d;simp only at d;split at d
       ·split at d
        ·split at d
         ·cases d;rfl
         ·cases d
        ·cases d
       ·split at d
        ·cases d;rfl
        ·cases d
       ·cases d
      subst Q;refine p F ?_;unfold tD at A;simp only[Ws,DX.with,hw,Aj,hb,u,C,E,DX.ld];exact Bq4 A
     ·cases e2
    | new=>
     rw[u]at e2;simp only[mg]at e2;obtain⟨v,B,h2,A⟩:=oH e2;rw[A90 u]at h2;refine p A ?_;simp only[Ws,DX.with,hw,Aj,hb,u,h2,DX.new]
    | sto=>
     rw[u]at e2;obtain⟨t,a,x,rfl⟩:=Bpr u;simp only[Di]at e2;split at e2
     next ex C=>
      obtain⟨q,o,B,h2⟩:=Qd e2;obtain⟨A,h4⟩:=Ap h2;obtain⟨v,D,E,F⟩:=oH h4;rw[Bpp]at E;rw[B]at C;refine p F ?_;unfold pC at A;simp only[Ws,DX.with,hw,Aj,hb,u,C,A,E,DX.sto]
     ·cases e2
    | pur=>
     rw[u]at e2;simp only[NY]at e2;obtain⟨v,B,h2,A⟩:=oH e2;rw[xN (uz u)]at h2;refine p A ?_;simp only[Ws,DX.with,hw,Aj,hb,u,h2]
    | big=>
     rw[u]at e2;obtain⟨B,h2⟩:=Ap e2;obtain⟨v,A,h4,D⟩:=oH h2;obtain⟨t,nx,mw⟩:=h;obtain⟨W,S,G⟩:=A;have H:aop T call round tm op ⟨kg t (loose b s.nw),nx,nx⟩=some (v,⟨W,S,G⟩):=h4;unfold Ab3 at B;unfold Mw at D;simp only at D;cases hle:Nat.ble nx G with
     | true=>
      rw[hle,Aj]at D;refine p D ?_;simp only[Ws,DX.with,hw,Aj,hb,u,B,H,hle,DX.big]
     | false=>
      rw[hle,Bk]at D;obtain⟨E,F⟩:=Ap D;refine p F ?_;simp only[Ws,DX.with,hw,Aj,Bk,hb,u,B,H,hle,E,DX.iv]
   have e1:(match bs.get i with|none=>none|some b=>(@Option.rec (Nat × Bool) (fun _=>R) (nr T call call round op i b base s (tmp tm) h (fun s v h=>iN fl n t2 dst v fun t2=>kX fl T call call round n ops bs base fin l (Nat.succ i) none s (iB n dst (tmp tm) v) t2 h ds))
    (fun g=>match pL m g with
     | some true=>nr T call call round op i b base s (tmp tm) h (fun s v h=>iN fl n t2 dst v fun t2=>kX fl T call call round n ops bs base fin l (Nat.succ i) (jI ops g true dst) s (iB n dst (tmp tm) v) t2 h ds)
     | some false=>iN fl n t2 dst (.tuple []) fun t2=>kX fl T call call round n ops bs base fin l (Nat.succ i) (jI ops g false dst) s (iB n dst (tmp tm) (.tuple [])) t2 h ds
     | none=>Bb (rK ops (tmp tm) g) (nr T call call round op i b base s (tmp tm) h (fun s v h=>iN fl n t2 dst v fun t2=>kX fl T call call round n ops bs base fin l (Nat.succ i) (jI ops g true dst) s (iB n dst (tmp tm) v) t2 h ds)) (iN fl n t2 dst (.tuple []) fun t2=>kX fl T call call round n ops bs base fin l (Nat.succ i) (jI ops g false dst) s (iB n dst (tmp tm) (.tuple [])) t2 h ds)) g:R))=some r:=e
   rw[hb]at e1;cases g with
   | none=>exact run (fun v=>jT.none _ _) rfl e1
   | some g=>
    rcases OH hm e1 with⟨hw,e'⟩|⟨hw,e'⟩
    ·exact run (fun v=>uv hw n dst v) hw e'
    ·rw[uw,pO]at e'
     obtain⟨s',t3,h2,A,h4⟩:=xS (U _) (uv hw n dst _) e';refine⟨s',t3,?_,A,h4⟩;simp only[Tk,Ws,DX.with,hw,Bk];exact h2
theorem Bcq{t2:Ba}{call:Ah}{r:EV × Ab}(q:fl=true->t2=tm)(e:uo fl T call call round n ops fin (tmp tm) t2 h ds=some r):
 ∃d h' o,kZ T call round n ops tm h=some (d,h')/\(fl=true->o=d)/\fin (tmp d) o h' ds=some r:=by
 unfold uo at e;obtain⟨u,e⟩:=Ap e;obtain⟨h2,e⟩:=Ap e;obtain⟨⟨d,h',y,A,a3,a4,B⟩,t3,C,h4,D⟩:=xS q (jT.none _ _) e;refine⟨d,h',t3,?_,h4,D⟩;unfold kZ;rw[u,Aj,h2,Aj];have p:Tk T call round n ops (O7 ops 0 .nil) h.next ops 0 ⟨tm,h,0,[],[],[],[]⟩=some ⟨d,h',y,A,a3,a4,B⟩:=C
 rw[p]
section
inductive Reach (step:Hz->AR):Hz->Hz->Prop where
 | refl (s:Hz):Reach step s s
 | head {s s1 s2:Hz}:step s=.go s1->Reach step s1 s2->Reach step s s2
def Ends(step:Hz->AR)(s:Hz)(r:EV × Ab):Prop:=∃s1,Reach step s s1/\step s1=.done r.1 r.2
theorem Ends.go {step:Hz->AR}{s s1:Hz}{r:EV × Ab}(h:step s=.go s1)(e:Ends step s1 r):Ends step s r:=by
 obtain⟨s2,d,h2⟩:=e;exact⟨s2,.head h d,h2⟩
theorem Ends.done {step:Hz->AR}{s:Hz}{r:EV × Ab}(h:step s=.done r.1 r.2):Ends step s r:=⟨s,.refl s,h⟩
theorem Ends.congr {step:Hz->AR}{s s':Hz}{r:EV × Ab}(h:step s=step s')(e:Ends step s r):Ends step s' r:=by
 obtain⟨s2,d,h2⟩:=e;cases d with
 | refl=>exact⟨s',.refl s',by rw[<-h];exact h2⟩
 | head o h4=>exact⟨s2,.head (by rw[<-h];exact o) h4,h2⟩
section
variable (fl:Bool)(T:I5)(call round:Ah)(fn n:Nat)(Dr:Option Nat)
def At(cd:CD)(todo:List Item):Prop:=∀tm t2 h ds r,((fl=true->t2=tm)/\(fl=false->ds = []))->cd (tmp tm) t2 h ds=some r->Ends (Cm T call round) ⟨⟨fn,n,tm,todo,ds,false,Dr⟩,h⟩ r
end
section
variable{call:Ah}{fn:Nat}{Dr:Option Nat}
theorem At.bad(todo:List Item):At fl T call round fn n Dr (fun _ _ _ _=>none) todo:=fun _ _ _ _ _ _ e=>(by cases e)
theorem At.step{a b:List Item}(hs:∀tm h ds,Cm T call round ⟨⟨fn,n,tm,a,ds,false,Dr⟩,h⟩=.go ⟨⟨fn,n,tm,b,ds,false,Dr⟩,h⟩)(h:At fl T call round fn n Dr cf b):At fl T call round fn n Dr cf a:=
 fun tm t2 h' ds r d e=>(h tm t2 h' ds r d e).go (hs tm h' ds)
theorem At.exit{id:Nat}{a b:List Item}(hs:exitTo id a=exitTo id b)(h:At fl T call round fn n Dr cf (.code (.exit id)::a)):At fl T call round fn n Dr cf (.code (.exit id)::b):=by
 intro tm t2 h' ds r d e;refine(h tm t2 h' ds r d e).congr ?_;simp only[Cm];rw[hs];cases exitTo id b with
 | some k=>rfl
 | none=>simp only[leave]
theorem Bf6(out:Nat->CD)(id:Nat)(k:CD)(env:iI)(d:Nat):oG out ((id,k)::env) d=Bb (Nat.beq id d) k (oG out env d):=by
 funext e tm h ds;show Bb (Nat.beq id d) (k e tm h ds) (oG out env d e tm h ds)=_;cases Nat.beq id d<;>rfl
theorem OL {k:Ab->R}{ex:Nat->Ab->R}{ret:Ab->R}{kk:List Item}{l:Nat}{r:R}{x:EV × Ab}(p:∀h,k h=some x->Ends (Cm T call round) ⟨⟨fn,n,tm,kk,ds,false,Dr⟩,h⟩ x)
 (hex:∀id h,ex id h=some x->Ends (Cm T call round) ⟨⟨fn,n,tm,.code (.exit id)::kk,ds,false,Dr⟩,h⟩ x) (d:∀h,ret h=some x->Ends (Cm T call round) ⟨⟨fn,n,tm,.code .ret::kk,ds,false,Dr⟩,h⟩ x) (e:ni l r k ex ret=some x) :
 ∃s',behind fn n tm ds Dr l kk r=.go s'/\Ends (Cm T call round) s' x:=by
 unfold ni at e;unfold behind;split at e
 ·cases e
 ·split at e
  next o=>
   split at e
   ·cases e
   next q=>
    split at e
    ·simp only;rw[o];simp only;exact⟨_,rfl,p _ e⟩
    ·simp only;rw[o];simp only;exact⟨_,rfl,hex _ _ e⟩
    ·simp only;rw[o];simp only;exact⟨_,rfl,d _ e⟩
    ·cases e
  ·cases e
theorem Zb {fuel:Nat}{out:Nat->CD}{ret:CD}(hret:∀kk,At fl T call round fn n Dr ret (.code .ret::kk)):∀(c:Code) (env:iI) (k:CD) (kk:List Item),
 At fl T call round fn n Dr k kk->(∀id,At fl T call round fn n Dr (oG out env id) (.code (.exit id)::kk))->At fl T call round fn n Dr (jc fl T call call round fuel fn n Dr out ret c env k) (.code c::kk)
 | .skip,env,k,kk,hk,henv=>At.step (fun _ _ _=>rfl) hk
 | .region id ops dr,env,k,kk,hk,henv=>by
  intro tm t2 h ds r ht e;have plain:pM fl T call call round n ops.toList k ops.toList none (tmp tm) t2 h ds=some r->(∀f_ h',jl T call round n ops.toList ops.toList tm h=some (f_,h')->Cm T call round ⟨⟨fn,n,tm,.code (.region id ops dr)::kk,ds,false,Dr⟩,h⟩=.go ⟨⟨fn,n,f_,kk,ds,false,Dr⟩,h'⟩) ->
   Ends (Cm T call round) ⟨⟨fn,n,tm,.code (.region id ops dr)::kk,ds,false,Dr⟩,h⟩ r:=fun e hs=>by
   obtain⟨f_,h',t3,h1,h3,h2⟩:=xL ht.1 (jT.none _ _) e;exact(hk _ _ _ _ _ ⟨h3,ht.2⟩ h2).go (hs _ _ h1)
  cases dr with
  | false=>exact plain e fun f_ h' h1=>by simp only[Cm];rw[h1]
  | true=>
   have e':Bb (uj T ops.toList) (pM fl T call call round n ops.toList k ops.toList none) (uo fl T call call round n ops.toList k) (tmp tm) t2 h ds=some r:=e;cases hq:uj T ops.toList with
   | true=>
    rw[hq,Aj]at e';exact plain e' fun f_ h' h1=>by simp only[Cm];rw[A9u hq h1]
   | false=>
    rw[hq,Bk]at e';obtain⟨f_,h',t3,h1,h3,h2⟩:=Bcq ht.1 e';exact(hk _ _ _ _ _ ⟨h3,ht.2⟩ h2).go (by simp only[Cm];rw[h1])
 | .seq a b,env,k,kk,hk,henv=>by
  have hb:=Zb (fuel:=fuel) hret b env k kk hk henv;exact At.step (fun _ _ _=>rfl) (Zb (fuel:=fuel) hret a env _ (.code b::kk) hb fun id=>At.exit (a:=kk) (b:=.code b::kk) rfl (henv id))
 | .cond c a b,env,k,kk,hk,henv=>by
  have ha:=Zb (fuel:=fuel) hret a env k kk hk henv;have hb:=Zb (fuel:=fuel) hret b env k kk hk henv;intro tm t2 h ds r ht e;have e':(match Ej (tmp tm) c with|some e=>gm e (jc fl T call call round fuel fn n Dr out ret a env k (tmp tm) t2 h ds) (jc fl T call call round fuel fn n Dr out ret b env k (tmp tm) t2 h ds)|none=>none)=some r:=e;rw[Di]at e';split at e'
  next e1 he=>
   obtain⟨b,rfl,h2⟩:=xF e';cases b
   ·exact(hb _ _ _ _ _ ht h2).go (by simp only[Cm];rw[he])
   ·exact(ha _ _ _ _ _ ht h2).go (by simp only[Cm];rw[he])
  ·cases e'
 | .block id c,env,k,kk,hk,henv=>by
  refine At.step (b:=.code c :: .inBlock id::kk) (fun _ _ _=>rfl) (Zb hret c ((id,k)::env) k (.inBlock id::kk) (At.step (fun _ _ _=>rfl) hk) fun id'=>?_);rw[Bf6,Br];split
  next hid=>
   have:=aJ hid;subst this;exact At.step (fun _ _ _=>by simp[Cm,exitTo]) hk
  next hid=>
   refine(henv id').exit ?_;have:(id == id')=false:=by
    cases hb:(id == id')with
    | false=>rfl
    | true=>exact absurd (by simpa using hb:id=id') (fun e=>hid (by subst e;exact cP _))
   simp[exitTo,this]
 | .loop c,env,k,kk,hk,henv=>by
  have key:∀m,At fl T call round fn n Dr (pG (fun ih=>jc fl T call call round fuel fn n Dr out ret c env ih) m) (.code c :: .inLoop c::kk):=by
   intro m;induction m with
   | zero=>exact At.bad _
   | succ m ih=>exact Zb hret c env _ (.inLoop c::kk) (At.step (fun _ _ _=>rfl) ih) fun id=>At.exit (a:=kk) (b:=.inLoop c::kk) rfl (henv id)
  exact At.step (fun _ _ _=>rfl) (key fuel)
 | .rangeFunc f ps dT body,env,k,kk,hk,henv=>by
  intro tm t2 h ds r ht e;obtain⟨hfl,e'⟩:=Ap (show Bb fl (match Ej (tmp tm) f with|some e=>xz call fn n Dr e ps.toList dT body t2 h ds (fun h ds=>k (tmp tm) t2 h ds) (fun id h ds=>oG out env id (tmp tm) t2 h ds) (fun h ds=>ret (tmp tm) t2 h ds)|none=>none) none=some r from e);have e2:=ht.1 hfl;subst e2;have ht:∀{ds:List Nat},((fl=true->t2=t2)/\(fl=false->ds = [])):=fun {_}=>⟨fun _=>rfl,fun x=>by rw[hfl]at x;cases x⟩
  rw[Di]at e';split at e'
  next e1 hf=>
   unfold xz at e';split at e'
   ·split at e'
    ·obtain⟨s',h1,h2⟩:=OL (fun h e=>hk _ _ _ _ _ ht e) (fun id h e=>henv id _ _ _ _ _ ht e) (fun h e=>hret kk _ _ _ _ _ ht e) e'
     exact h2.go (by simp only[Cm];rw[hf];exact h1)
    ·split at e'
     next hg=>
      obtain⟨s',h1,h2⟩:=OL (fun h e=>hk _ _ _ _ _ ht e) (fun id h e=>henv id _ _ _ _ _ ht e) (fun h e=>hret kk _ _ _ _ _ ht e) e';exact h2.go (by simp only[Cm];rw[hf];simp only;rw[hg];exact h1)
     ·cases e'
   ·cases e'
  ·cases e'
 | .exit id,env,k,kk,hk,henv=>henv id
 | .scope c,env,k,kk,hk,henv=>At.bad _
 | .label l,env,k,kk,hk,henv=>At.step (fun _ _ _=>rfl) hk
 | .goto l,env,k,kk,hk,henv=>At.bad _
 | .ret,env,k,kk,hk,henv=>hret kk
 | .refuse w,env,k,kk,hk,henv=>At.bad _
theorem Bpa(T:I5)(res:List ResultVar)(tm:Ba)(h:Ab):mn T res (tmp tm) h=match Np T tm h res with|some [v]=>some (v,h)|some l=>some (.tuple l,h)|none=>none:=by
 have e:∀l:List ResultVar,Np T tm h l=j5 T h (l.map (uq (tmp tm))):=by
  intro l;induction l with
  | nil=>rfl
  | cons a r d=>
   cases a with
   | tmp t=>simp only[Np,cZ,uq,j5,d];rfl
   | cell a t=>simp only[Np,cZ,uq,j5,d];cases tmp tm a<;>rfl
 unfold mn;split
 ·rfl
 ·rfl
 ·rfl
 ·rw[e];rfl
theorem xT {f:Func}(q:T.fn fn=some f):∀{ds:List Nat} {h:Ab} {r:EV × Ab},Dt ds h (fun h=>mn T f.results.toList (tmp tm) h)=some r ->
 Ends (Cm T call round) ⟨⟨fn,n,tm,todo,ds,true,Dr⟩,h⟩ r
 | [],h,r,e=>by
  have e':mn T f.results.toList (tmp tm) h=some r:=e;rw[Bpa]at e';refine .done ?_;simp only[Cm];rw[q];simp only;split at e'
  next v u=>cases e';rw[u]
  next l p y=>
   cases e';rw[y];split
   next v o=>cases o;exact(p v rfl).elim
   next o=>cases o;rfl
   next o=>cases o
  ·cases e'
 | d::ds,h,r,e=>by
  have e':(match h.get d with|some (.deferred true)=>Dt ds (h.put d (.deferred false)) (fun h=>mn T f.results.toList (tmp tm) h)|_=>none)=some r:=e;split at e'
  next A=>
   exact(xT q e').go (by simp only[Cm];rw[A])
  ·cases e'
theorem Bpv {f:Func}(o:T.fn fn=some f):(∀kk,At fl T call round fn n none (rM fl T f.results.toList) (.code .ret::kk))/\At fl T call round fn n none (rM fl T f.results.toList) []:=
 by
 have k:∀{tm:Ba} {h:Ab} {ds:List Nat} {r:EV × Ab} {todo:List Item},(fl=false->ds = [])->Bb fl (Dt ds h fun h=>mn T f.results.toList (tmp tm) h) (mn T f.results.toList (tmp tm) h)=some r->Ends (Cm T call round) ⟨⟨fn,n,tm,todo,ds,true,none⟩,h⟩ r:=fun hd e=>by
  cases fl with
  | true=>exact xT o e
  | false=>rw[hd rfl]at *;exact xT (ds:=[]) o e
 exact⟨fun _ _ _ _ _ _ d e=>(k d.2 e).go rfl,fun _ _ _ _ _ d e=>(k d.2 e).go rfl⟩
theorem Bn3(tm:Ba)(d:Nat)(v:EV):rJ (tmp tm) d v=tmp (tm.put d (some v)):=by
 have:=pO (Nat.succ d) (some d) tm v;simp only[iB,Qu]at this
 rwa [show Nat.ble (Nat.succ d) (Nat.succ d)=true from aM (aD _),Aj,Aj]at this
theorem OM:∀(l:List EV) (i:Nat) (tm:Ba),rk l i (tmp tm)=tmp (setArgs l i tm)
 | [],_,_=>rfl
 | v::r,i,tm=>by
  show rk r (Nat.succ i) (rJ (tmp tm) i v)=_;rw[Bn3,OM r];rfl
theorem ON:∀{ps:List Tmp} {args:List EV} {tm d:Ba},Wy ps args n tm=some d->rn n ps args (tmp tm)=tmp d
 | [],[],tm,d,e=>by cases e;rfl
 | [],_::_,_,_,e=>by cases e
 | _::_,[],_,_,e=>by cases e
 | p::r,v::s,tm,d,e=>by
  show rn n r s (iB n (some p) (tmp tm) v)=_;rw[pO];exact ON e
theorem Bgk {f:Nat}{r:EV × Ab}(e:kT T call round fuel f args h=some r):∃fr,enter T f args=some fr/\Ends (Cm T call round) ⟨fr,h⟩ r:=by
 unfold kT at e;split at e
 next name origin targs params p nfree q res c A ours file el B met C d=>
  obtain⟨o,h2⟩:=Ap e;rw[nt]at o;rw[show(u0:VS)=tmp .nil from rfl,OM]at h2;obtain⟨u,y⟩:=Bpv (call:=call) (round:=round) (n:=q) d;refine⟨_,by unfold enter;rw[d];simp only;rw[o,Aj],?_⟩;exact Zb u _ [] _ [] y (fun id=>At.bad _) _ _ _ _ _ ⟨fun _=>rfl,fun _=>rfl⟩ h2
 ·cases e
theorem Bh9(l:Nat):(∀kk,At fl T call round fn n (some l) (fun _ _ h _=>Wh l false .done (some .ret) h) (.code .ret::kk)) /\
 (∀id kk,exitTo id kk=none->At fl T call round fn n (some l) (fun _ _ h _=>Wh l false .done (some (.exit id)) h) (.code (.exit id)::kk))/\At fl T call round fn n (some l) (fun _ _ h _=>Wh l true .ready none h) []:=by
 refine⟨?_,?_,?_⟩
 ·intro kk tm t2 h ds r _ e
  simp only[Wh]at e;split at e
  next d=>cases e;exact .done (by simp only[Cm,leave];rw[d])
  ·cases e
 ·intro id kk o tm t2 h ds r _ e
  simp only[Wh]at e;split at e
  next d=>cases e;exact .done (by simp only[Cm];rw[o];simp only[leave];rw[d])
  ·cases e
 ·intro tm t2 h ds r _ e
  simp only[Wh]at e;split at e
  next d=>cases e;exact .done (by simp only[Cm,leave];rw[d])
  ·cases e
theorem OO {l:Nat}{r:EV × Ab}(e:pI T call round fuel l args h=some r):∃fr,uA l args h=some fr/\Ends (Cm T call round) ⟨fr,h⟩ r:=by
 unfold pI at e;split at e
 next st E f u tm ps dT body d B=>
  split at e
  next p o=>
   refine⟨⟨f,u,p,[.code dT,.beginRound,.code body],[],false,some l⟩,by unfold uA;rw[B];simp only;rw[o],?_⟩;obtain⟨y,A,C⟩:=Bh9 (fl:=true) (T:=T) (call:=call) (round:=round) (fn:=f) (n:=u) l;rw[ON o]at e;refine Zb (out:=fun id _ _ h _=>Wh l false .done (some (.exit id)) h) y dT [] _ [.beginRound,.code body] (fun tm t2 h ds r D e=>?_) (fun id=>A id _ rfl) _ _ _ _ _ ⟨fun _=>rfl,fun x=>by cases x⟩ e;simp only[Ez]at e;split at e
   next q=>
    exact(Zb (fuel:=fuel) (out:=fun id _ _ h _=>Wh l false .done (some (.exit id)) h) y body [] _ [] C (fun id=>A id [] rfl) _ _ _ _ _ D e).go (by simp only[Cm];rw[q])
   ·cases e
  ·cases e
 ·cases e
end
structure Good(P:Program)(g:Nat)(args:List EV)(h:Ab)(v:EV)(h':Ab):Prop where
 fn:∃fn,P.funcs[g]? = some fn/\fn.body.isSome=true/\(fn.name == "runtime.NumGoroutine")=false
 run:∀p f w,Tw p h->T8 f h w->EV.T4 p args->∀cs,∃fr f' w',Steps P (lone (Frame.enter P g (Bo f args).toArray .normal) cs w) (lone fr cs w')/\fr.fn=g /\
  fr.leaving P w' (.returned (Cl f' v))/\Move p f h w f' h' w'/\Wf p h h'/\v.ok (grow p h h')
 wf:AWf h h'
def xU(P:Program)(g:Nat)(F:pH):Prop:=∀args h v h',F args h=some (v,h')->Good P g args h v h'
def Sound(P:Program)(c:Ah):Prop:=∀g,xU P g (c g)
def uB(P:Program)(c:Ah):Prop:=oI P c/\W8 c
theorem Sound.call{c:Ah}(h:Sound P c):kC P c:=fun g args d v h' e=>⟨(h g args d v h' e).fn,(h g args d v h' e).run⟩
theorem Sound.w{c:Ah}(h:Sound P c):W8 c:=fun g args d v h' e=>(h g args d v h' e).wf
theorem Sound.of{c:Ah}(d:kC P c)(h2:W8 c):Sound P c:=fun g args h v h' e=>⟨(d g args h v h' e).1,(d g args h v h' e).2,h2 g args h v h' e⟩
section
variable(hT:Q4 P T){call:Ah}(hC:Sound P call)(hR:uB P round)
include hT hC hR
theorem xV {s s':Hz}(h:Reach (Cm T call round) s s'):pP P s s'/\AWf s.h s'.h:=by
 induction h with
 | refl s=>exact⟨fun p f w cs d e o=>g'.refl d e o,.refl _⟩
 | @head s s1 s2 q _ u=>
  have a:pP P s s1:=fun p f w cs d e o=>Bmj hT hC.call hR.1 hC.w hR.2 q d e o cs
  exact⟨a.trans u.1,(xW hC.w hR.2 (.inl ⟨s1,q,rfl⟩)).trans u.2⟩
theorem Bqe(fuel g:Nat):xU P g (kT T call round fuel g):=by
 intro args h v h' C;obtain⟨fr,o,s1,D,e⟩:=Bgk C;obtain⟨A,hw⟩:=xV hT hC hR D;simp only at e;unfold enter at o;split at o
 next name origin targs params L nfree n results c U ours file el V met W E=>
  obtain⟨hle,o⟩:=Ap o;cases o;have u:args.length<=n:=by have:=bG hle;rwa [Ux]at this
  obtain⟨y,B⟩:=hT.fn _ _ E;refine⟨⟨_,y,rfl,B⟩,fun p f w M O Q cs=>?_,hw.trans (xW hC.w hR.2 (.inr ⟨v,e⟩))⟩;have F:Yz p ⟨g,n,setArgs args 0 .nil,[.code c],[],false,none⟩:=⟨Bmr u Q,fun d hd=>(by cases hd),fun l S=>(by cases S),fun x=>(by cases x)⟩;obtain⟨f1,w1,hs,hm,hwf,G,e1,e2⟩:=A p f w cs F M O;have q:=OP hT e G hwf.hok hm.rep;unfold Fin at q;rw[e2]at q;obtain⟨rfl,H,J⟩:=q;refine⟨_,f1,w1,?_,e1,H,hm,hwf,J⟩;have he:Frame.enter P g (Bo f args).toArray .normal=Pd f ⟨g,n,setArgs args 0 .nil,[.code c],[],false,none⟩:=by
   unfold Frame.enter Pd;rw[Bck f u];simp[y]
  rw[he];exact hs
 ·cases o
theorem Bf9(fuel:Nat):uB P (pI T call round fuel):=by
 constructor
 ·intro l args h v h' B
  obtain⟨fr,e,s1,C,o⟩:=OO B;obtain⟨u,hw⟩:=xV hT hC hR C;simp only at o;unfold uA at e;split at e
  next st S fn n tm ps dT body dd F=>
   split at e
   next D E=>
    cases e;refine⟨st,S,fn,n,tm,ps,dT,body,dd,D,F,E,fun p f w G U V caller cs=>?_⟩;obtain⟨_,H,_⟩:=xX f E V (G.get l _ F).2.1;have J:Yz p ⟨fn,n,D,[.code dT,.beginRound,.code body],[],false,some l⟩:=⟨H,fun d hd=>(by cases hd),fun l' W=>(by cases W;exact(G.get l _ F).1),fun x=>(by cases x)⟩;obtain⟨f1,w1,hs,hm,hwf,L,e1,e2⟩:=u p f w (caller::cs) J G U;have y:=OP hT o L hwf.hok hm.rep;unfold Fin at y;rw[e2]at y;obtain⟨w2,M,O,A,Q⟩:=y caller cs;refine⟨f1,w2,?_,hm.trans O,hwf.trans A,EV.ok.mono (fun q X=>?_) _ Q⟩
    ·exact hs.trans M
    ·rw[<-pQ p hwf.next A.next];exact .inl X
   ·cases e
  ·cases e
 ·intro l args h v h' B
  obtain⟨fr,e,s1,C,o⟩:=OO B;obtain⟨u,hw⟩:=xV hT hC hR C;unfold uA at e;split at e
  ·split at e
   ·cases e;exact hw.trans (xW hC.w hR.2 (.inr ⟨v,o⟩))
   ·cases e
  ·cases e
end
end
noncomputable section
abbrev FT:=Ah->Ah->Nat->pH
def km(P:Program)(g:Nat)(F:FT):Prop:=∀call round K,Sound P call->uB P round->xU P g (F call round K)
def Ag(T:I5)(disp:Nat->Option FT)(K:Nat):Nat->Bool->Ah:=
 @Nat.rec (fun _=>Bool->Ah) (fun _ _ _ _=>none)
  (fun _ d b=>@Bool.rec (fun _=>Ah) (fun f=>@Option.rec FT (fun _=>pH) (kT T (d false) (d true) K f) (fun F=>F (d false) (d true) K) (disp f)) (fun l=>pI T (d false) (d true) K l) b)
theorem uC(hT:Q4 P T){disp:Nat->Option FT}(p:∀g F,disp g=some F->km P g F)(K:Nat):∀d,Sound P (Ag T disp K d false)/\uB P (Ag T disp K d true)
 | 0=>⟨fun _ _ _ _ _ e=>(by cases e),fun _ _ _ _ _ e=>(by cases e),fun _ _ _ _ _ e=>(by cases e)⟩
 | d+1=>by
  obtain⟨c1,o⟩:=uC hT p K d;constructor
  ·intro g
   have e:Ag T disp K (d+1) false g = @Option.rec FT (fun _=>pH) (kT T (Ag T disp K d false) (Ag T disp K d true) K g) (fun F=>F (Ag T disp K d false) (Ag T disp K d true) K) (disp g):=rfl;rw[e];cases q:disp g with
   | none=>exact Bqe hT c1 o K g
   | some F=>exact p g F q _ _ K c1 o
  ·exact Bf9 hT c1 o K
def uD:List UInt8->List UInt8->Bool
 | [],[]=>true
 | a::r,b::s=>Bb (Nat.beq a.toNat b.toNat) (uD r s) false
 | _,_=>false
def xY(a b:Bool):Bool:=Bb a b (i_ b)
mutual
def gY:EV->EV->Bool
 | .int k n,.int p q=>Bb (Nat.beq (Pv k) (Pv p)) (nh n q) false
 | .bool a,.bool b=>xY a b
 | .str a,.str b=>uD a.data.toList b.data.toList
 | .ptr i o,.ptr d o'=>Bb (Nat.beq i d) (Nat.beq o o') false
 | .Bz,.Bz=>true
 | .slice i o l r op,.slice d o' l' u e=>Bb (Nat.beq i d) (Bb (Nat.beq o o') (Bb (Nat.beq l l') (Bb (Nat.beq r u) (xY op e) false) false) false) false
 | .An,.An=>true
 | .map i,.map d=>Nat.beq i d
 | .Al9,.Al9=>true
 | .chan i,.chan d=>Nat.beq i d
 | .Aex,.Aex=>true
 | .func f a c,.func f' y A=>Bb (Nat.beq f f') (Bb (mq a y) (mq c A) false) false
 | .U5 l,.U5 l'=>Nat.beq l l'
 | .Ahh,.Ahh=>true
 | .Ab6,.Ab6=>true
 | .agg l,.agg l'=>mq l l'
 | .tuple l,.tuple l'=>mq l l'
 | _,_=>false
def mq:List EV->List EV->Bool
 | [],[]=>true
 | a::r,b::s=>Bb (gY a b) (mq r s) false
 | _,_=>false
end
end
variable {disp:Nat->Option FT}
theorem Bm7 {a b:Int}(h:nh a b=true):a=b:=by
 cases a<;>cases b
 ·exact congrArg Int.ofNat (aJ h)
 ·cases h
 ·cases h
 ·exact congrArg Int.negSucc (aJ h)
theorem OQ:∀{a b:List UInt8},uD a b=true->a=b
 | [],[],_=>rfl
 | x::r,y::s,h=>by
  simp only[uD]at h;rw[Br]at h;split at h
  next e=>
   rw[UInt8.toNat_inj.1 (aJ e),OQ h]
  ·cases h
 | [],_::_,h=>by cases h
 | _::_,[],h=>by cases h
theorem OR(h:xY a b=true):a=b:=by cases a<;>cases b<;>first|rfl|cases h
theorem Bgm {a b:IntKind}(h:Pv a=Pv b):a=b:=by cases a<;>cases b<;>first|rfl|(simp[Pv]at h)
theorem mr(h:Bb a b false=true):a=true/\b=true:=by cases a<;>simp_all [Br]
theorem beq_spec {a b:Nat}(h:Nat.beq a b=true):a=b:=aJ h
mutual
theorem OS:∀{a b:EV},gY a b=true->a=b
 | .int k n,b,h=>by
  cases b<;>first|(simp[gY]at h;done)|skip
  simp only[gY]at h;obtain⟨d,h2⟩:=mr h;rw[Bgm (beq_spec d),Bm7 h2]
 | .bool a,b,h=>by
  cases b<;>first|(simp[gY]at h;done)|skip
  simp only[gY]at h;rw[OR h]
 | .str a,b,h=>by
  cases b<;>first|(simp[gY]at h;done)|skip
  rename_i b;simp only[gY]at h;obtain⟨⟨a⟩⟩:=a;obtain⟨⟨b⟩⟩:=b;have:a=b:=OQ h;rw[this]
 | .ptr i o,b,h=>by
  cases b<;>first|(simp[gY]at h;done)|skip
  simp only[gY]at h;obtain⟨d,h2⟩:=mr h;rw[beq_spec d,beq_spec h2]
 | .Bz,b,h=>by cases b<;>first|(simp[gY]at h;done)|rfl
 | .slice i o l r op,b,h=>by
  cases b<;>first|(simp[gY]at h;done)|skip
  simp only[gY]at h;obtain⟨d,h⟩:=mr h;obtain⟨h2,h⟩:=mr h;obtain⟨e,h⟩:=mr h;obtain⟨h4,h⟩:=mr h;rw[beq_spec d,beq_spec h2,beq_spec e,beq_spec h4,OR h]
 | .tail i o p,b,h=>by cases b<;>(simp[gY]at h)
 | .odd a,b,h=>by cases b<;>(simp[gY]at h)
 | .An,b,h=>by cases b<;>first|(simp[gY]at h;done)|rfl
 | .map i,b,h=>by
  cases b<;>first|(simp[gY]at h;done)|skip
  simp only[gY]at h;rw[beq_spec h]
 | .Al9,b,h=>by cases b<;>first|(simp[gY]at h;done)|rfl
 | .chan i,b,h=>by
  cases b<;>first|(simp[gY]at h;done)|skip
  simp only[gY]at h;rw[beq_spec h]
 | .Aex,b,h=>by cases b<;>first|(simp[gY]at h;done)|rfl
 | .func f a c,b,h=>by
  cases b<;>first|(simp[gY]at h;done)|skip
  simp only[gY]at h;obtain⟨d,h⟩:=mr h;obtain⟨h2,h⟩:=mr h;rw[beq_spec d,rO h2,rO h]
 | .U5 l,b,h=>by
  cases b<;>first|(simp[gY]at h;done)|skip
  simp only[gY]at h;rw[beq_spec h]
 | .Ahh,b,h=>by cases b<;>first|(simp[gY]at h;done)|rfl
 | .Ab6,b,h=>by cases b<;>first|(simp[gY]at h;done)|rfl
 | .agg l,b,h=>by
  cases b<;>first|(simp[gY]at h;done)|skip
  simp only[gY]at h;rw[rO h]
 | .tuple l,b,h=>by
  cases b<;>first|(simp[gY]at h;done)|skip
  simp only[gY]at h;rw[rO h]
theorem rO:∀{a b:List EV},mq a b=true->a=b
 | [],[],_=>rfl
 | x::r,y::s,h=>by
  simp only[mq]at h;obtain⟨d,h2⟩:=mr h;rw[OS d,rO h2]
 | [],_::_,h=>by simp[mq]at h
 | _::_,[],h=>by simp[mq]at h
end
abbrev I(n:Int):EV:=.int .i64 n
abbrev N(n:Nat):EV:=.int .i64 (.ofNat n)
theorem rj(a b:Int):kV a b=decide (a<b):=by
 rw[xI];cases a<;>cases b<;>simp only[j_]
 next a b=>rw[fN,fH];simp[dH];omega
 next a b=>symm;rw[dM];simp only[aX];omega
 next a b=>symm;rw[fH];simp only[aX];omega
 next a b=>rw[fN,fH];simp[dH];omega
theorem tp(a b:Int):nh a b=decide (a=b):=by
 rw[wF];cases a<;>cases b<;>simp only[iE]
 ·rw[fN,fH];simp[Nat.beq_eq];omega
 ·simp
 ·simp
 ·rw[fN,fH];simp[Nat.beq_eq]
theorem tF(p:Prop)[Decidable p]:i_ (decide p)=decide (¬p):=by by_cases h:p<;>simp[h,i_]
theorem Bhn(a b:Int):uf a b=a+b:=OB a b
theorem Bdr(a b:Int):ug a b=a-b:=OC a b
theorem HP {n:Int}(d : -9223372036854775808<=n)(h2:n<9223372036854775808):Cs .i64 n=n:=by
 unfold Cs;split
 next m=>
  have:Nat.ble (Nat.succ m) (uE .i64)=true:=aM (show m+1<=9223372036854775808 by simp only[aX]at h2;omega);rw[this,Aj]
 next m=>
  have:Nat.ble (Nat.succ m) (floor .i64)=true:=aM (show m+1<=9223372036854775808 by simp only[cz]at d;omega);rw[this,Aj]
theorem Ad(h:Ab)(o:Ds):(h.new o).get h.next=some o:=by rw[Ab.Lj,aN rfl]
theorem Az(o:Ds)(d:i<h.next):(h.new o).get i=h.get i:=by rw[Ab.Lj,aK a_]
theorem Af(h:Ab)(i:Nat)(o:Ds):(h.put i o).get i=some o:=by rw[Ab.get_put,aN rfl]
theorem Ae(o:Ds)(d:i≠j:=by omega):(h.put i o).get j=h.get j:=by rw[Ab.get_put,aK d]
theorem Bc6(d:i≠j):(h.del i).get j=h.get j:=by rw[Ab.kQ,aK d]
theorem Bon(p:Prop)[Decidable p](x y:α):Bb (decide p) x y=if p then x else y:=by by_cases h:p<;>simp[h]
theorem Bc3 {l:List EV}(h:n<=l.length):takeN l n=some (l.take n):=by
 induction l generalizing n with
 | nil=>
  have:n=0:=by simpa using h
  subst this;rfl
 | cons a r d=>
  cases n with
  | zero=>rfl
  | succ n=>
   simp only[takeN];rw[show Nat.beq (n+1) 0=false from rfl,Bk,Nat.pred_succ,d (by simpa using h)];rfl
theorem E4 {l:List EV}(h:off+n<=l.length):Ke l off n=some ((l.drop off).take n):=by
 rw[m_,Tq,Bc3 (by rw[aU];omega)]
theorem tE:∀(l:List EV) (n:Nat),kA l n=l[n]?
 | [],n=>rfl
 | a::r,0=>rfl
 | a::r,n+1=>by
  have e:kA (a::r) (n+1)=kA r n:=rfl;rw[e,tE r n];simp
theorem HN(v:EV):∀(l:List EV) (n:Nat),n<l.length->Nl l n [v]=some (l.set n v)
 | [],n,h=>by simp at h
 | a::r,n,h=>by
  rw[Vg];cases n with
  | zero=>cases r<;>rfl
  | succ n=>
   have e:Fx (a::r) (n+1) [v]=(match Fx r n [v]with|some x=>some (a::x)|none=>none):=rfl;rw[e,<-Vg,HN v r n (by simpa using h)];rfl
theorem Be(l:List EV):Fw l=l.length:=by rw[nt,Ux]
theorem Bl {l:List EV}(h:l.length=vs.length):Nl l 0 vs=some vs:=by
 unfold Nl;rw[Be,Be,h,show Nat.beq 0 0=true from rfl,Aj,show Nat.beq vs.length vs.length=true from cP _,Aj]
section
variable{s:Nat}{g:IG}
theorem Bo4(c:IntKind)(a b:Int):Iz c a b=.bool (kV a b):=rfl
theorem Bpq(c:IntKind)(a b:Int):n_ c a b=.bool (i_ (kV b a)):=rfl
theorem Bo8(c:IntKind)(a b:Int):mU c a b=.bool (kV b a):=rfl
theorem Bou(c:IntKind)(a b:Int):mV c a b=.bool (i_ (kV a b)):=rfl
theorem Bo6(c:IntKind)(a b:Int):iD c a b=.bool (nh a b):=rfl
theorem HQ(c:IntKind)(a b:Int):iF c a b=.bool (i_ (nh a b)):=rfl
theorem Bom(c:IntKind)(a b:Int):kP c a b=.int c (Cs c (uf a b)):=rfl
theorem OT(b w:Bool):Fa (.bool b) w=Bb b w (i_ w):=rfl
theorem Br5:i_ true=false:=rfl
theorem A28{l:List EV}(d:h.get i=some (.cells l t))(F:List EV->Option (List EV))(k:Ab->R):m' h i F k=oB (fun l'=>k (h.put i (.cells l' t))) (F l):=by
 unfold m';rw[d]
theorem Bos {q d rm:Nat}{op:Bool}(hj:j<d)(k:EV->R)(c:IntKind):Ve s (.slice q off d rm op) (.int c (.ofNat j)) k=k (.ptr q (off+j*s)):=by
 show Bb (Nat.ble (Nat.succ j) d) _ none=_;rw[aM hj,Aj];rfl
end
section
variable{call:Ah}{K:Nat}
theorem w7{g:Nat}{F:FT}(h:disp g=some F)(d:Nat)(args:List EV)(o:Ab):
 Ag T disp K (d+1) false g args o=F (Ag T disp K d false) (Ag T disp K d true) K args o:=by
 have e:Ag T disp K (d+1) false g args o = @Option.rec FT (fun _=>pH) (kT T (Ag T disp K d false) (Ag T disp K d true) K g) (fun F=>F (Ag T disp K d false) (Ag T disp K d true) K) (disp g) args o:=rfl;rw[e,h]
theorem A95(disp:Nat->Option FT)(d l:Nat)(args:List EV)(e:Ab):
 Ag T disp K (d+1) true l args e=pI T (Ag T disp K d false) (Ag T disp K d true) K l args e:=rfl
theorem lq {m d:Nat}(h:n<=d)(e:Nat.ble m n=true):m<=d:=bN (bG e) h
end
end Go.Ev


namespace Go.Ev
noncomputable section
inductive Hk where
 | no
 | here (X:CD)
 | two (a b:Hk)
abbrev Hk.l(H:Hk):Hk:=match H with | .two a _=>a|_=>.no
abbrev Hk.r(H:Hk):Hk:=match H with | .two _ b=>b|_=>.no
section
variable (fl:Bool)(T:I5)(call b_ round:Ah)(fuel fn n:Nat)(Dr:Option Nat)(out:Nat->CD)(ret:CD)
abbrev Q0(H:Hk):Code->iI->CD->CD:=
 @Hk.rec (fun _=>Code->iI->CD->CD) (fun c env k=>jc fl T call b_ round fuel fn n Dr out ret c env k) (fun X _ _ _=>X)
  (fun _ _ a b c env k=>match c with
   | .seq x y=>a x env (b y env k)
   | .cond v x y=>fun d tm h ds=>match Ej d v with|some e=>gm e (a x env k d tm h ds) (b y env k d tm h ds)|none=>none
   | .block id x=>a x ((id,k)::env) k
   | c=>jc fl T call b_ round fuel fn n Dr out ret c env k) H
abbrev og(p:List Bool):Hk->Code->iI->CD->CD:=
 @List.rec Bool (fun _=>Hk->Code->iI->CD->CD) (fun _ c env k=>jc fl T call b_ round fuel fn n Dr out ret c env k)
  (fun s _ d H c env k=>match c with
   | .seq x y=>Bb s (d H.r y env k) (d H.l x env (Q0 fl T call b_ round fuel fn n Dr out ret H.r y env k))
   | .cond _ x y=>Bb s (d H.r y env k) (d H.l x env k)
   | .block id x=>d H.l x ((id,k)::env) k
   | c=>jc fl T call b_ round fuel fn n Dr out ret c env k) p
end
abbrev kB(p:List Bool)(X:CD):Hk->Hk:=
 @List.rec Bool (fun _=>Hk->Hk) (fun _=>.here X) (fun s _ d H=>Bb s (.two H.l (d H.r)) (.two (d H.l) H.r)) p
def kS(p:List Bool):Hk->Code->Bool:=
 @List.rec Bool (fun _=>Hk->Code->Bool) (fun H _=>match H with | .no=>true|_=>false)
  (fun s _ d H c=>match H with
   | .here _=>false
   | H=>match c with
    | .seq x y=>Bb s (d H.r y) (d H.l x)
    | .cond _ x y=>Bb s (d H.r y) (d H.l x)
    | .block _ x=>Bb s false (d H.l x)
    | _=>false) p
def Bts(p:List Bool):Code->Code:=
 @List.rec Bool (fun _=>Code->Code) (fun c=>c) (fun s _ d c=>match c with
  | .seq x y=>Bb s (d y) (d x)
  | .cond _ x y=>Bb s (d y) (d x)
  | .block _ x=>d x
  | .loop x=>d x
  | c=>c) p
abbrev Oz(T:I5)(g:Nat):Code:=match T.fn g with|some { body:=some c,.. }=>c|_=>.skip
abbrev kR(T:I5)(g:Nat):Nat:=match T.fn g with|some f=>f.ntmps|_=>0
abbrev jz(q:Bool)(T:I5)(g:Nat):CD:=match T.fn g with|some f=>rM q T f.results.toList|_=>fun _ _ _ _=>none
abbrev Btg(T:I5)(g:Nat)(p:List Bool):Code:=match Bts p (Oz T g)with | .loop c=>c|c=>c
end
section
variable {fl:Bool}{T:I5}{call b_ round:Ah}{fuel fn n:Nat}{Dr:Option Nat}{out:Nat->CD}{ret:CD}
theorem Bin(H:Hk)(d:∀X,H≠.here X)(c:Code)(env:iI)(k:CD):Q0 fl T call b_ round fuel fn n Dr out ret H c env k=Q0 fl T call b_ round fuel fn n Dr out ret (.two H.l H.r) c env k:=by
 cases H with
 | no=>cases c<;>rfl
 | here X=>exact(d X rfl).elim
 | two a b=>rfl
theorem oh(X:CD):∀(p:List Bool) (H:Hk) (c:Code) (env:iI) (k:CD),kS p H c=true->og fl T call b_ round fuel fn n Dr out ret p H c env k=X->Q0 fl T call b_ round fuel fn n Dr out ret H c env k=Q0 fl T call b_ round fuel fn n Dr out ret (kB p X H) c env k
 | [],H,c,env,k,q,e=>by
  cases H with
  | no=>exact e
  | here _=>cases q
  | two _ _=>cases q
 | s::p,H,c,env,k,q,e=>by
  have u:∀Y,H≠.here Y:=fun Y y=>by subst y;cases q
  have hs:kB (s::p) X H=Bb s (.two H.l (kB p X H.r)) (.two (kB p X H.l) H.r):=rfl;rw[Bin H u,hs];have A:∃x y id v,c=.seq x y\/c=.cond v x y\/c=.block id x:=by
   cases H with
   | here Y=>exact(u Y rfl).elim
   | no=>cases c<;>first|exact⟨_,_,0,default,.inl rfl⟩|exact⟨_,_,0,_,.inr (.inl rfl)⟩|exact⟨_,.skip,_,default,.inr (.inr rfl)⟩|cases q
   | two a b=>cases c<;>first|exact⟨_,_,0,default,.inl rfl⟩|exact⟨_,_,0,_,.inr (.inl rfl)⟩|exact⟨_,.skip,_,default,.inr (.inr rfl)⟩|cases q
  obtain⟨x,y,id,v,rfl|rfl|rfl⟩:=A
  ·have d:Bb s (kS p H.r y) (kS p H.l x)=true:=by cases H<;>first|exact q|exact(u _ rfl).elim
   have e':Bb s (og fl T call b_ round fuel fn n Dr out ret p H.r y env k) (og fl T call b_ round fuel fn n Dr out ret p H.l x env (Q0 fl T call b_ round fuel fn n Dr out ret H.r y env k))=X:=e;cases s with
   | true=>show Q0 fl T call b_ round fuel fn n Dr out ret H.l x env (Q0 fl T call b_ round fuel fn n Dr out ret H.r y env k)=Q0 fl T call b_ round fuel fn n Dr out ret H.l x env (Q0 fl T call b_ round fuel fn n Dr out ret (kB p X H.r) y env k);rw[oh X p H.r y env k d e']
   | false=>exact oh X p H.l x env _ d e'
  ·have d:Bb s (kS p H.r y) (kS p H.l x)=true:=by cases H<;>first|exact q|exact(u _ rfl).elim
   have e':Bb s (og fl T call b_ round fuel fn n Dr out ret p H.r y env k) (og fl T call b_ round fuel fn n Dr out ret p H.l x env k)=X:=e;cases s with
   | true=>
    show(fun o tm h ds=>match Ej o v with|some e=>gm e (Q0 fl T call b_ round fuel fn n Dr out ret H.l x env k o tm h ds) (Q0 fl T call b_ round fuel fn n Dr out ret H.r y env k o tm h ds)|none=>none)=fun o tm h ds=>match Ej o v with|some e=>gm e (Q0 fl T call b_ round fuel fn n Dr out ret H.l x env k o tm h ds) (Q0 fl T call b_ round fuel fn n Dr out ret (kB p X H.r) y env k o tm h ds)|none=>none
    rw[oh X p H.r y env k d e']
   | false=>
    show(fun o tm h ds=>match Ej o v with|some e=>gm e (Q0 fl T call b_ round fuel fn n Dr out ret H.l x env k o tm h ds) (Q0 fl T call b_ round fuel fn n Dr out ret H.r y env k o tm h ds)|none=>none)=fun o tm h ds=>match Ej o v with|some e=>gm e (Q0 fl T call b_ round fuel fn n Dr out ret (kB p X H.l) x env k o tm h ds) (Q0 fl T call b_ round fuel fn n Dr out ret H.r y env k o tm h ds)|none=>none
    rw[oh X p H.l x env k d e']
  ·have d:Bb s false (kS p H.l x)=true:=by cases H<;>first|exact q|exact(u _ rfl).elim
   cases s with
   | true=>cases d
   | false=>exact oh X p H.l x _ k d e
theorem cut(p:List Bool){H:Hk}{c:Code}{env:iI}{k X Y Z:CD}(e:Y=X)(d:kS p H c=true)(o:og fl T call b_ round fuel fn n Dr out ret p H c env k=Y)(rest:Q0 fl T call b_ round fuel fn n Dr out ret (kB p X H) c env k=Z):
 Q0 fl T call b_ round fuel fn n Dr out ret H c env k=Z:=(oh X p H c env k d (o.trans e)).trans rest
theorem Mn {B:CD->CD}{E:Nat->CD}(h0:E 0=fun _ _ _ _=>none)(hs:∀m,B (E m)=E (m+1)):∀m,pG B m=E m
 | 0=>h0.symm
 | m+1=>by
  show B (pG B m)=_;rw[Mn h0 hs m,hs]
theorem Bs1 {c:Code}{env:iI}{E e:Nat->CD}(h0:E 0=fun _ _ _ _=>none)(o:∀m,Q0 fl T call b_ round fuel fn n Dr out ret .no c env (E m)=e m)(h2:∀m,e m=E (m+1))(m:Nat):pG (fun d=>jc fl T call b_ round fuel fn n Dr out ret c env d) m=E m:=
 Mn (B:=fun d=>jc fl T call b_ round fuel fn n Dr out ret c env d) h0 (fun m=>(o m).trans (h2 m)) m
theorem jG {A B:CD}(e:∀d tm h ds,A d tm h ds=B d tm h ds):A=B:=funext fun d=>funext fun tm=>funext fun h=>funext fun ds=>e d tm h ds
end
noncomputable section
abbrev w0(g:Nat)(f:Ab->R)(c:Ah):Ah:=fun d xs h=>Bb (Nat.beq g d) (@List.rec EV (fun _=>R) (f h) (fun _ _ _=>c d xs h) xs) (c d xs h)
abbrev w1(g:Nat)(f:EV->Ab->R)(c:Ah):Ah:=fun d xs h=>Bb (Nat.beq g d) (match xs with | [a]=>f a h|xs=>c d xs h) (c d xs h)
abbrev w2(g:Nat)(f:EV->EV->Ab->R)(c:Ah):Ah:=fun d xs h=>Bb (Nat.beq g d) (match xs with | [a,b]=>f a b h|xs=>c d xs h) (c d xs h)
abbrev w3(g:Nat)(f:EV->EV->EV->Ab->R)(c:Ah):Ah:=fun e xs h=>Bb (Nat.beq g e) (match xs with | [a,b,d]=>f a b d h|xs=>c e xs h) (c e xs h)
abbrev w4(g:Nat)(f:EV->EV->EV->EV->Ab->R)(c:Ah):Ah:=fun o xs h=>Bb (Nat.beq g o) (match xs with | [a,b,d,e]=>f a b d e h|xs=>c o xs h) (c o xs h)
abbrev w5(g:Nat)(f:EV->EV->EV->EV->EV->Ab->R)(c:Ah):Ah:=fun o xs h=>Bb (Nat.beq g o) (match xs with | [a,b,d,e,i]=>f a b d e i h|xs=>c o xs h) (c o xs h)
abbrev w6(g:Nat)(f:EV->EV->EV->EV->EV->EV->Ab->R)(c:Ah):Ah:=fun o xs h=>Bb (Nat.beq g o) (match xs with | [a,b,d,e,i,j]=>f a b d e i j h|xs=>c o xs h) (c o xs h)
end
section
variable {c x:Ah}{g:Nat}
theorem W0 {f:Ab->R}(e:∀h,c g [] h=f h)(y:c=x):c=w0 g f x:=by
 subst y;funext d xs h;show _=Bb (Nat.beq g d) _ _;cases hb:Nat.beq g d with
 | false=>rfl
 | true=>have:=aJ hb;subst this;cases xs<;>first|exact e h|rfl
theorem W1 {f:EV->Ab->R}(e:∀a h,c g [a] h=f a h)(y:c=x):c=w1 g f x:=by
 subst y;funext d xs h;show _=Bb (Nat.beq g d) _ _;cases hb:Nat.beq g d with
 | false=>rfl
 | true=>have:=aJ hb;subst this;show c g xs h=(match xs with | [a]=>f a h|xs=>c g xs h);split<;>first|exact e _ h|rfl
theorem W2 {f:EV->EV->Ab->R}(e:∀a b h,c g [a,b] h=f a b h)(y:c=x):c=w2 g f x:=by
 subst y;funext d xs h;show _=Bb (Nat.beq g d) _ _;cases hb:Nat.beq g d with
 | false=>rfl
 | true=>have:=aJ hb;subst this;show c g xs h=(match xs with | [a,b]=>f a b h|xs=>c g xs h);split<;>first|exact e _ _ h|rfl
theorem W3 {f:EV->EV->EV->Ab->R}(e:∀a b d h,c g [a,b,d] h=f a b d h)(y:c=x):c=w3 g f x:=by
 subst y;funext o xs h;show _=Bb (Nat.beq g o) _ _;cases hb:Nat.beq g o with
 | false=>rfl
 | true=>have:=aJ hb;subst this;show c g xs h=(match xs with | [a,b,d]=>f a b d h|xs=>c g xs h);split<;>first|exact e _ _ _ h|rfl
theorem W4 {f:EV->EV->EV->EV->Ab->R}(e:∀a b d i h,c g [a,b,d,i] h=f a b d i h)(y:c=x):c=w4 g f x:=by
 subst y;funext o xs h;show _=Bb (Nat.beq g o) _ _;cases hb:Nat.beq g o with
 | false=>rfl
 | true=>have:=aJ hb;subst this;show c g xs h=(match xs with | [a,b,d,e]=>f a b d e h|xs=>c g xs h);split<;>first|exact e _ _ _ _ h|rfl
theorem W5 {f:EV->EV->EV->EV->EV->Ab->R}(e:∀a b d i j h,c g [a,b,d,i,j] h=f a b d i j h)(y:c=x):c=w5 g f x:=by
 subst y;funext o xs h;show _=Bb (Nat.beq g o) _ _;cases hb:Nat.beq g o with
 | false=>rfl
 | true=>have:=aJ hb;subst this;show c g xs h=(match xs with | [a,b,d,e,i]=>f a b d e i h|xs=>c g xs h);split<;>first|exact e _ _ _ _ _ h|rfl
end
noncomputable def ng(T:I5)(g n:Nat):Bool:=match T.fn g with|some { body:=some _,.. }=>Nat.ble n (kR T g)|_=>false
theorem Bg9 {T:I5}{c r:Ah}{K g:Nat}{args:List EV}(d:ng T g (Fw args)=true)(h:Ab):kT T c r K g args h=Q0 (jH (Oz T g)) T c c r K g (kR T g) none nc (jz (jH (Oz T g)) T g) .no (Oz T g) [] (jz (jH (Oz T g)) T g) (rk args 0 u0) (setArgs args 0 .nil) h []:=by
 unfold ng kR at d;unfold kT kR jz Oz;cases e:T.fn g with
 | none=>rw[e]at d<;>cases d
 | some fn=>
  rw[e]at d;obtain⟨name,origin,targs,params,o,nfree,n,results,body,p,ours,file,el,q,met,u⟩:=fn;cases body with
  | none=>cases d
  | some y=>
   show Bb (Nat.ble (Fw args) n) _ none=_;rw[show Nat.ble (Fw args) n=true from d,Aj]
end Go.Ev
