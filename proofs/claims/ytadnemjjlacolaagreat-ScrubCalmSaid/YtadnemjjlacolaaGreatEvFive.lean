import Derived.Test.YtadnemjjlacolaaGreatEvThree
set_option linter.all false
namespace Go.Ev
set_option maxRecDepth 100000
variable {α:Type}{x:Operand}{v:EV}{op:Op}{T:Ig}{t:TypeId}{i j n off fuel:Nat}{tm:Ba}{h h':Ab}{vs args:List EV}{a b fl:Bool}{ops:List Oper}{round:Ah}{ds:List Nat}{f:EV->EV->Option EV}{todo:List Item}{P:Program}
noncomputable section
abbrev R:=Option (EV × Ab)
abbrev qb:=List EV->Ab->R
def Btv:Nat->Nat->List Bool:=
 @Nat.rec (fun _=>Nat->List Bool) (fun _=>[]) (fun _ d i=>Bb (Nat.beq i 0) [] (Bb (Nat.beq (Nat.land i 1) 1) (true::d (Nat.div i 2)) (false::d (Nat.pred (Nat.div i 2)))))
def pathOf(i:Nat):List Bool:=Btv (Nat.succ (Nat.log2 (Nat.succ i))) i
def oB {α β:Type}(k:α->Option β)(x:Option α):Option β:=@Option.rec α (fun _=>Option β) none k x
def ub {α β d:Type}(k:α->β->Option d)(p:α × β):Option d:=@Prod.rec α β (fun _=>Option d) k p
def Ga(l:List EV):Nat:=@List.rec EV (fun _=>Nat) 0 (fun _ _ d=>Nat.succ d) l
def kG(l:List EV):Nat->Option EV:=@List.rec EV (fun _=>Nat->Option EV) (fun _=>none) (fun a _ d n=>Bb (Nat.beq n 0) (some a) (d (Nat.pred n))) l
def uB(l:List EV):Nat->List EV:=@List.rec EV (fun _=>Nat->List EV) (fun _=>[]) (fun a r d n=>Bb (Nat.beq n 0) (a::r) (d (Nat.pred n))) l
def oV(a:EV)(x:Option (List EV)):Option (List EV):=@Option.rec (List EV) (fun _=>Option (List EV)) none (fun l=>some (a::l)) x
def ss(l:List EV):Nat->Option (List EV):=@List.rec EV (fun _=>Nat->Option (List EV)) (fun n=>Bb (Nat.beq n 0) (some []) none) (fun a _ d n=>Bb (Nat.beq n 0) (some []) (oV a (d (Nat.pred n)))) l
def Og(l:List EV)(off n:Nat):Option (List EV):=Bb (Nat.beq off 0) (Bb (Nat.beq (Ga l) n) (some l) (ss l n)) (ss (uB l off) n)
def oW(vs:List EV):List EV->Option (List EV):=@List.rec EV (fun _=>List EV->Option (List EV)) (fun l=>some l) (fun v _ d l=>@List.rec EV (fun _=>Option (List EV)) none (fun _ r _=>oV v (d r)) l) vs
def qi(vs:List EV)(l:List EV):Nat->Option (List EV):=@List.rec EV (fun _=>Nat->Option (List EV)) (fun n=>Bb (Nat.beq n 0) (oW vs []) none) (fun a r d n=>Bb (Nat.beq n 0) (oW vs (a::r)) (oV a (d (Nat.pred n)))) l
def Mv(l:List EV)(off:Nat)(vs:List EV):Option (List EV):=Bb (Nat.beq off 0) (Bb (Nat.beq (Ga l) (Ga vs)) (some vs) (qi vs l 0)) (qi vs l off)
def mA {β:Type}(k:List EV->Nat->Option β)(off:Nat)(x:Option D3):Option β:=
 match x with|some (.cells l _)=>k l off|some (.vec l _ _)=>k l off|some (.view ws _)=>(match mB ws off with|some (o,l)=>k l (Nat.sub off o)|none=>none)|_=>none
def nB(h:Ab)(i:Nat)(f:List EV->Option (List EV))(k:Ab->R):R:=
 match h.get i with
 | some (.cells l t)=>oB (fun l'=>k (h.put i (.cells l' t))) (f l)
 | some (.vec l t s)=>oB (fun l'=>k (h.put i (.vec l' t s))) (f l)
 | _=>none
def Yz(h:Ab)(i off n:Nat):Option (List EV):=mA (fun l o=>Og l o n) off (h.get i)
def O9(h:Ab)(size n:Nat)(x:EV):Option (List EV):=
 match x with
 | .Aq=>Bb (Nat.beq n 0) (some []) none
 | .slice i off _ _ _=>Bb (Nat.beq n 0) (some []) (Yz h i off (Nat.mul n size))
 | .tail ..=>Bb (Nat.beq n 0) (some []) none
 | _=>none
def uC(x y:R)(v:EV):R:=match v with | .bool b=>Bb b x y|_=>none
def k_(k:Nat->Nat->R)(v:EV):R:=match v with | .ptr i off=>k i off|_=>none
def uD(k:Nat->R)(v:EV):R:=match v with | .int _ n=>@Int.rec (fun _=>R) k (fun _=>none) n|_=>none
def OV(k:IntKind->Int->R)(v:EV):R:=match v with | .int c n=>k c n|_=>none
def xK(k:List EV->R)(v:EV):R:=match v with | .agg l=>k l|_=>none
def OW(k:List EV->R)(v:EV):R:=match v with | .tuple l=>k l|_=>none
def uE(a b:Int):Int:=@Int.rec (fun _=>Int) (fun m=>@Int.rec (fun _=>Int) (fun n=>.ofNat (Nat.add m n)) (fun n=>Int.add (.ofNat m) (.negSucc n)) b) (fun m=>Int.add (.negSucc m) b) a
def uF(a b:Int):Int:=@Int.rec (fun _=>Int) (fun m=>@Int.rec (fun _=>Int) (fun n=>Bb (Nat.ble n m) (.ofNat (Nat.sub m n)) (.negSucc (Nat.pred (Nat.sub n m)))) (fun n=>Int.sub (.ofNat m) (.negSucc n)) b) (fun m=>Int.sub (.negSucc m) b) a
def lh(a b:Int):Bool:=@Int.rec (fun _=>Bool) (fun m=>@Int.rec (fun _=>Bool) (fun n=>Nat.ble (Nat.succ m) n) (fun _=>false) b) (fun m=>ko (.negSucc m) b) a
def nJ(a b:Int):Bool:=@Int.rec (fun _=>Bool) (fun m=>@Int.rec (fun _=>Bool) (fun n=>Nat.beq m n) (fun _=>false) b) (fun m=>iN (.negSucc m) b) a
def jk(b:Bool):Bool:=@Bool.rec (fun _=>Bool) true false b
abbrev IG:=IntKind->Int->Int->EV
def kU:IG:=fun k a b=>.int k (Dr k (uE a b))
def oD:IG:=fun k a b=>.int k (Dr k (uF a b))
def pU:IG:=fun k a b=>.int k (Dr k (Int.mul a b))
def I8:IG:=fun _ a b=>.bool (lh a b)
def oF:IG:=fun _ a b=>.bool (jk (lh b a))
def nt:IG:=fun _ a b=>.bool (lh b a)
def oG:IG:=fun _ a b=>.bool (jk (lh a b))
def iW:IG:=fun _ a b=>.bool (nJ a b)
def iX:IG:=fun _ a b=>.bool (jk (nJ a b))
def xL:BinOp->Option IG
 | .add=>some kU | .sub=>some oD | .mul=>some pU | .lss=>some I8 | .leq=>some oF | .gtr=>some nt | .geq=>some oG | .eql=>some iW | .neq=>some iX
 | _=>none
def uG(agg:Bool)(n:Nat)(cs:List EV)(off:Nat)(k:EV->R):R:=Bb agg (oB (fun l=>k (.agg l)) (Og cs off n)) (oB k (kG cs off))
def jh(place:Nat->Option (Nat × Nat))(l:List (Nat × EV)):List EV->Option (List EV):=
 @List.rec (Nat × EV) (fun _=>List EV->Option (List EV)) (fun c=>some c) (fun x _ d c=>oB (ub fun off size=>Bb x.2.plain (Bb (Nat.beq (Ga x.2.cells) size) (oB d (Mv c off x.2.cells)) none) none) (place x.1)) l
def Df(l:List (Nat × Nat)):Nat->Option (Nat × Nat):=@List.rec (Nat × Nat) (fun _=>Nat->Option (Nat × Nat)) (fun _=>none) (fun a _ d i=>Bb (Nat.beq i 0) (some a) (d (Nat.pred i))) l
def Mt(s:Nat):Nat->Option (Nat × Nat):=fun i=>some (Nat.mul i s,s)
def su(a b:List EV):List EV:=@List.rec EV (fun _=>List EV) b (fun x _ d=>x::d) a
def Eo(e:TypeId)(size:Nat)(s x:EV)(h:Ab):R:=
 oB (fun n=>Bb (Nat.beq n 0)
  (match s with
   | .slice _ _ d room _=>Bb (Nat.ble d room) (some (s,h)) none
   | .Aq=>some (s,h)
   | _=>none)
  (Bb (Nat.ble n 65536) (oB (fun new=>
   match s with
   | .Aq=>some (.slice h.next 0 n n true,h.new (.vec new e size))
   | .slice i off d room op=>Bb (Nat.ble d 1048576) (oB (fun Br=>
    Bb op
     (Bb (Nat.beq off 0) (Bb (Nat.beq room d) (match h.get i with
      | some (.vec l e' s')=>Bb (Nat.beq (Ga l) (Nat.mul d size)) (Bb (Nat.beq s' size) (Bb (Nat.beq e' e)
       (some (.slice h.next 0 (Nat.add d n) (Nat.add d n) true,(h.del i).new (.vec (su Br new) e size))) none) none) none
      | _=>none) none) none)
     (Bb (Nat.ble (Nat.add d n) room) none (some (.slice h.next 0 (Nat.add d n) (Nat.add d n) true,h.new (.vec (su Br new) e size)))))
    (O9 h size d s)) none
   | _=>none) (O9 h size n x)) none)) (lenOf x)
def mj(x:Option D3)(off n:Nat):Option (List EV):=mA (fun l o=>Og l o n) off x
def J5(g:IG)(f:EV->EV->Option EV)(x y:EV)(k:EV->R):R:=
 match x,y with
 | .int c x,.int d y=>Bb (Nat.beq (Pc c) (Pc d)) (k (g c x y)) none
 | x,y=>oB k (f x y)
def Hq(x:EV)(h:Ab)(k:EV->R):R:=k_ (fun i off=>oB (fun l=>match l with | [v]=>k v|_=>none) (mj (h.get i) off 1)) x
def Pg(n:Nat)(x:EV)(h:Ab)(k:EV->R):R:=k_ (fun i off=>oB (fun l=>k (.agg l)) (mj (h.get i) off n)) x
def f_(n:Nat)(a v:EV)(h:Ab)(k:Ab->R):R:=k_ (fun i off=>Bb v.plain (Bb (Nat.beq (Ga v.cells) n) (nB h i (fun l=>Mv l off v.cells) k) none) none) a
def ir(s:Nat)(x ix:EV)(k:EV->R):R:=uD (fun j=>match x with | .slice i off len _ _=>Bb (Nat.ble (Nat.succ j) len) (k (.ptr i (Nat.add off (Nat.mul j s)))) none|_=>none) ix
def kE(c a b:EV)(k:EV->R):R:=uC (k a) (k b) c
def iK(f:EV->EV->Option EV)(a b:EV)(k:EV->R):R:=oB k (f a b)
def jj(v:EV)(k:EV->R):R:=uC (k (.bool false)) (k (.bool true)) v
def oI(v:EV)(k:EV->R):R:=match v with | .int c n=>k (.int c (Dr c (Int.sub 0 n)))|_=>none
def jI(v:EV)(k:EV->R):R:=k_ (fun i o=>k (.ptr i o)) v
def iP(c:Nat)(v:EV)(k:EV->R):R:=k_ (fun i o=>k (.ptr i (Nat.add o c))) v
def jW(len s:Nat)(v ix:EV)(k:EV->R):R:=uD (fun j=>k_ (fun i off=>Bb (Nat.ble (Nat.succ j) len) (k (.ptr i (Nat.add off (Nat.mul j s)))) none) v) ix
def kj(len s:Nat)(agg:Bool)(n:Nat)(v ix:EV)(k:EV->R):R:=uD (fun j=>xK (fun cs=>Bb (Nat.ble (Nat.succ j) len) (uG agg n cs (Nat.mul j s) k) none) v) ix
def Vx(off:Nat)(agg:Bool)(n:Nat)(v:EV)(k:EV->R):R:=xK (fun cs=>uG agg n cs off k) v
def So(c:IntKind)(v:EV)(k:EV->R):R:=OV (fun _ n=>k (.int c (Dr c n))) v
def kT(ix:Nat)(v:EV)(k:EV->R):R:=OW (fun l=>oB k (kG l ix)) v
def jT(o:D3)(h:Ab)(k:EV->Ab->R):R:=k (.ptr h.next 0) (h.new o)
def Sl(t:TypeId)(v:EV)(h:Ab)(k:EV->Ab->R):R:=Bb v.plain (k (.ptr h.next 0) (h.new (.cells v.cells t))) none
def Hg(v:EV)(k:EV->R):R:=oB (fun n=>k (.int .i64 (.ofNat n))) (lenOf v)
def Am(x:R)(k:EV->Ab->R):R:=oB (ub k) x
def T5(c r:Ah)(f:EV)(args:List EV)(h:Ab):R:=match f with
 | .func g a cs=>c g (su a (su args cs)) h
 | .Vv l=>r l args h
 | _=>none
def Bo(place:Nat->Option (Nat × Nat))(z:List EV)(ps:List (Nat × EV))(k:EV->R):R:=oB (fun c=>k (.agg c)) (jh place ps z)
def oJ(n:Nat)(v:EV)(k:EV->R):R:=match v with | .slice i off len _ _=>Bb (Nat.ble n len) (k (.ptr i off)) none|_=>none
def iD(s:Nat)(v:EV)(d e o:Option EV)(k:EV->R):R:=oB k (iV v s d e o)
def Nq(n s:Nat)(v:EV)(d e o:Option EV)(k:EV->R):R:=k_ (fun i off=>oB k (iV (.slice i off n n false) s d e o)) v
def Vl(z:List EV)(e:TypeId)(l c:EV)(h:Ab):R:=
 match l,c with
 | .int _ (.ofNat n),.int _ (.ofNat m)=>Bb (Nat.ble n m) (Bb (Nat.ble m 65536) (some (.slice h.next 0 n m false,h.new (.cells (rep z m) e))) none) none
 | _,_=>none
def Bz(z:List EV)(e:TypeId)(s n:Nat)(ps:List (Nat × EV))(h:Ab):R:=
 Bb (Nat.ble (Nat.mul n s) 65536) (oB (fun c=>some (.slice h.next 0 n n false,h.new (.cells c e))) (jh (Mt s) ps (rep z n))) none
def uj(h:Ab):R:=some (.map h.next,h.new (.map []))
def ug(s:EV)(h:Ab):R:=match s with | .int _ (.ofNat n)=>Bb (Nat.ble n 65536) (some (.chan h.next,h.new (.chan n []))) none|_=>none
def p'(T:Ig)(o e:TypeId)(ok:Bool)(m ix:EV)(h:Ab):R:=
 match m with
 | .map i=>Bb (Ot T o ix) (match h.get i with
  | some (.map es)=>match H0 ix es 0 with
   | some (some (_,v))=>some (Bb ok (.tuple [v,.bool true]) v,h)
   | some none=>oB (fun d=>some (Bb ok (.tuple [d,.bool false]) d,h)) (zeroOf T e)
   | none=>none
  | _=>none) none
 | _=>none
def p_(T:Ig)(d:TypeId)(m ix x:EV)(h:Ab):R:=
 match m with
 | .map i=>Bb (Ot T d ix) (match h.get i with
  | some (.map es)=>match H0 ix es 0 with
   | some (some (j,_))=>some (.tuple [],h.put i (.map (es.set j (ix,x))))
   | some none=>some (.tuple [],h.put i (.map (es++[(ix,x)])))
   | none=>none
  | _=>none) none
 | _=>none
def oS(c x:EV)(h:Ab):R:=
 match c with
 | .chan i=>match h.get i with
  | some (.chan cap buf)=>Bb (Nat.ble (Nat.succ (len buf)) cap) (some (.tuple [.int .i64 0,.bool false],h.put i (.chan cap (buf++[x])))) (some (.tuple [.int .i64 (-1),.bool false],h))
  | _=>none
 | _=>none
def oU(d:EV)(c:EV)(h:Ab):R:=
 match c with
 | .chan i=>match h.get i with
  | some (.chan cap buf)=>match buf with
   | v::r=>some (.tuple [.int .i64 0,.bool true,v],h.put i (.chan cap r))
   | []=>some (.tuple [.int .i64 (-1),.bool false,d],h)
  | _=>none
 | _=>none
def uf(c:EV)(h:Ab):R:=match c with | .chan i=>(match h.get i with|some (.chan _ buf)=>some (.int .i64 (.ofNat (len buf)),h)|_=>none)|_=>none
def hQ(v:EV)(x y:R):R:=uC x y v
inductive RV where
 | v (x:EV)
 | c (a:EV) (t:TypeId)
def kg(T:Ig)(h:Ab):List RV->Option (List EV)
 | []=>some []
 | .v x::r=>match kg T h r with|some l=>some (x::l)|none=>none
 | .c a t::r=>match a,kg T h r,T.size t with
  | .ptr i off,some l,some n=>match I6 h i off n with
   | some cs=>match T.agg t with
    | some true=>some (.agg cs::l)
    | some false=>(match cs with | [v]=>some (v::l)|_=>none)
    | none=>none
   | none=>none
  | _,_,_=>none
def Jk(T:Ig)(l:List RV)(h:Ab):R:=match kg T h l with|some [v]=>some (v,h)|some l=>some (.tuple l,h)|none=>none
def Fi(l:Nat)(h:Ab)(k:Ab->R):R:=match h.get l with
 | some (.loop .ready p f o e ps b_ body d)=>k (h.put l (.loop .busy p f o e ps b_ body d))
 | _=>none
def nK(l:Nat)(r:R)(k:Ab->R)(ex:Nat->Ab->R)(ret:Ab->R):R:=match r with
 | none=>none
 | some (_,h)=>match h.get l with
  | some (.loop st p f o e ps b_ body d)=>match st with
   | .busy=>none
   | _=>match p with
    | none=>k (h.put l (.loop .exhausted p f o e ps b_ body d))
    | some (.exit id)=>ex id (h.put l (.loop .exhausted p f o e ps b_ body d))
    | some .ret=>ret (h.put l (.loop .exhausted p f o e ps b_ body d))
    | some _=>none
  | _=>none
def Xh(l:Nat)(v:Bool)(st:LoopState)(jump:Option Code)(h:Ab):R:=match h.get l with
 | some (.loop _ _ f n tm ps b_ body d)=>some (.bool v,h.put l (.loop st jump f n tm ps b_ body d))
 | _=>none
def lj:Code->List (Operand × List Tmp × Code × Code)
 | .seq a b=>lj a++lj b
 | .cond _ a b=>lj a++lj b
 | .block _ c=>lj c
 | .loop c=>lj c
 | .rangeFunc f ps a b=>(f,ps.toList,a,b)::(lj a++lj b)
 | .scope c=>lj c
 | _=>[]
def OX {α:Type}:List α->Nat->Option α
 | [],_=>none
 | a::r,n=>Bb (Nat.beq n 0) (some a) (OX r (Nat.pred n))
def Fk(T:Ig)(g i:Nat):Operand × List Tmp × Code × Code:=match T.fn g with|some { body:=some c,.. }=>(match OX (lj c) i with|some x=>x|none=>(.tmp 0,[],.skip,.skip))|_=>(.tmp 0,[],.skip,.skip)
def X6(c:Ah)(T:Ig)(g n i:Nat)(f:EV)(tm:Ba)(h:Ab)(ds:List Nat)(k:Ab->List Nat->R)(ex:Nat->Ab->List Nat->R)(ret:Ab->List Nat->R):R:=match f with
 | .func q first captured=>nK (Nat.succ h.next) (c q (first++(.Vv (Nat.succ h.next)::captured)) ((h.new (.deferred true)).new (.loop .ready none g n tm (Fk T g i).2.1 (Fk T g i).2.2.1 (Fk T g i).2.2.2 h.next)))
  (fun h'=>k h' (h.next::ds)) (fun id h'=>ex id h' (h.next::ds)) (fun h'=>ret h' (h.next::ds))
 | _=>none
def pQ(c:Ah)(T:Ig)(g n i l0:Nat)(f:EV)(tm:Ba)(h:Ab)(ds:List Nat)(k:Ab->List Nat->R)(ex:Nat->Ab->List Nat->R)(ret:Ab->List Nat->R):R:=match f with
 | .func q first captured=>match h.get l0 with
  | some (.loop _ _ _ _ _ _ _ _ d)=>nK h.next (c q (first++(.Vv h.next::captured)) (h.new (.loop .ready none g n tm (Fk T g i).2.1 (Fk T g i).2.2.1 (Fk T g i).2.2.2 d)))
   (fun h'=>k h' ds) (fun id h'=>ex id h' ds) (fun h'=>ret h' ds)
  | _=>none
 | _=>none
structure DX where
 bg:Nat
 nw:List (Nat × Nat)
 Cw:List (Nat × Nat)
 lou:List (Nat × Nat)
 st:List (Nat × Nat)
def tZ(b base q:Nat)(s:DX):Bool:=Bb (Fm b q s.st) (Bb (Nat.ble (Nat.succ q) base) (Yx b q s.lou) (Bb (within s.bg b) (match loose b s.nw with | []=>true|_=>false) false)) false
def pW(b q:Nat)(s:DX):Bool:=Bb (within s.bg b) (Bb (Fm b q s.st) (Bb (Fm b q s.Cw) (A0g q (loose b s.nw)) false) false) false
def Abu(b:Nat)(s:DX):Bool:=Bb (within s.bg b) (Ay1 b s.st) false
def DX.ld(s:DX)(i q:Nat):DX:=⟨s.bg,s.nw,(Nat.shiftLeft 1 i,q)::s.Cw,s.lou,s.st⟩
def DX.new(s:DX)(i q:Nat):DX:=⟨s.bg,(Nat.shiftLeft 1 i,q)::s.nw,s.Cw,s.lou,s.st⟩
def DX.sto(s:DX)(i q:Nat):DX:=⟨s.bg,s.nw,s.Cw,s.lou,(Nat.shiftLeft 1 i,q)::s.st⟩
def DX.big(s:DX)(i:Nat):DX:=⟨Nat.lor s.bg (Nat.shiftLeft 1 i),s.nw,s.Cw,s.lou,s.st⟩
def DX.iI(s:DX)(i w:Nat):DX:=⟨Nat.lor s.bg (Nat.shiftLeft 1 i),s.nw,s.Cw,(Nat.shiftLeft 1 i,w)::s.lou,s.st⟩
def Mp(i b:Nat)(s:DX)(h h':Ab)(k:DX->Ab->R):R:=
 Bb (Nat.ble h.next h'.mw)
  (k (s.big i) ⟨j_ h.t h'.t (loose b s.nw),h'.next,h.mw⟩)
  (Bb (Se b h'.mw s.Cw)
   (k (s.iI i h'.mw) ⟨j_ h.t h'.t (loose b s.nw),h'.next,Bb (Nat.ble h.mw h'.mw) h.mw h'.mw⟩)
   none)
def Hs(b:Nat)(s:DX)(h:Ab):Ab:=⟨kq h.t (loose b s.nw),h.next,h.next⟩
def oX(T:Ig)(op:Op):Bool:=
 match cls op with
 | .val=>true
 | .load=>true
 | .pur=>match op with
  | .call { callee:=.builtin .len,argTypes,.. }=>match argTypes.toList with
   | [t]=>match T.Tv t with|some (.slice _)=>true|_=>false
   | _=>false
  | .call { callee:=.builtin .min,.. }=>true
  | .call { callee:=.builtin .max,.. }=>true
  | _=>false
 | _=>false
def uH(T:Ig)(l:List Oper):Bool:=match l with | []=>true|o::r=>Bb (oX T o.op) (uH T r) false
def uI(T:Ig)(l:List Oper):Bool:=Bb (uH T l) (Bb (nL l 0) (mC l (Oq l 0 .nil) l 0 []) false) false
def Zy(h:Ab)(k:Nat->DX->R):R:=k h.next ⟨0,[],[],[],[]⟩
def O6(i b base:Nat)(x:EV)(s:DX)(k:DX->R):R:=k_ (fun q _=>Bb (tZ b base q s) (k (s.ld i q)) none) x
def oH(i:Nat)(h:Ab)(s:DX)(k:DX->R):R:=k (s.new i h.next)
def pV(i b:Nat)(x:EV)(s:DX)(k:DX->R):R:=k_ (fun q _=>Bb (pW b q s) (k (s.sto i q)) none) x
def OY(h:Ab)(k:Ab->R):R:=k ⟨.nil,h.next,h.next⟩
def Ld(i b:Nat)(s:DX)(h:Ab)(call:Ab->R)(k:EV->Ab->DX->R):R:=Bb (Abu b s) (Am (call (Hs b s h)) fun v h'=>Mp i b s h h' fun s h=>k v h s) none
def Er(v:EV)(w:Bool):Bool:=match v with | .bool b=>Bb b w (jk w)|_=>false
abbrev VS:=Nat->EV
abbrev CD:=VS->Ba->Ab->List Nat->R
abbrev sv(e:VS)(d:Nat)(v:EV):VS:=fun i=>Bb (Nat.beq d i) v (e i)
abbrev Ep(d:VS)(x:Operand):Option EV:=match x with
 | .tmp t=>some (d t)
 | .const v=>ofV v
 | .global _=>none
 | .func f=>some (.func f [] [])
abbrev o6(d:VS)(l:List Operand):Option (List EV):=@List.rec Operand (fun _=>Option (List EV)) (some []) (fun x _ o=>match Ep d x,o with|some e,some es=>some (e::es)|_,_=>none) l
abbrev uJ(d:VS)(l:List (Nat × Operand)):Option (List (Nat × EV)):=@List.rec (Nat × Operand) (fun _=>Option (List (Nat × EV))) (some []) (fun x _ o=>match Ep d x.2,o with|some e,some es=>some ((x.1,e)::es)|_,_=>none) l
abbrev uK(d:VS)(x:Option Operand):Option (Option EV):=match x with
 | none=>some none
 | some x=>(match Ep d x with|some e=>some (some e)|none=>none)
abbrev hJ(T:Ig)(call a_ round:Ah)(op:Op)(d:VS)(h:Ab)(k:EV->Ab->R):R:=
 match op with
 | .move x=>(match Ep d x with|some e=>k e h|none=>none)
 | .assign x=>(match Ep d x with|some e=>k e h|none=>none)
 | .pick c a b=>(match Ep d c,Ep d a,Ep d b with|some c,some a,some b=>kE c a b fun v=>k v h|_,_,_=>none)
 | .binOp op t x y _=>(match Ep d x,Ep d y with
  | some a,some b=>(match xL op with|some g=>J5 g (bin T op t) a b fun v=>k v h|none=>iK (bin T op t) a b fun v=>k v h)
  | _,_=>none)
 | .unOp .not _ x=>(match Ep d x with|some e=>jj e fun v=>k v h|none=>none)
 | .nilCheck x=>(match Ep d x with|some e=>jI e fun v=>k v h|none=>none)
 | .fieldAddr s x f=>(match Ep d x,T.Tv s with
  | some e,some (.struct fields)=>(match mD fields.toList f with
   | some fd=>(match T.size fd.type with|some n=>Bb (Nat.beq n 0) none (iP fd.offset e fun v=>k v h)|none=>none)
   | none=>none)
  | _,_=>none)
 | .indexAddr t x ix=>(match Ep d x,Ep d ix,T.Tv t with
  | some e,some ix,some (.array len o)=>(match T.size o with|some s=>jW len s e ix fun v=>k v h|none=>none)
  | some e,some ix,some (.slice o)=>(match T.size o with|some s=>ir s e ix fun v=>k v h|none=>none)
  | _,_,_=>none)
 | .index t x ix=>(match Ep d x,Ep d ix,T.Tv t with
  | some e,some B,some (.array len o)=>(match T.size o,T.agg o with|some s,some agg=>kj len s agg s e B fun v=>k v h|_,_=>none)
  | _,_,_=>none)
 | .field t x f=>(match Ep d x,T.Tv t with
  | some e,some (.struct fields)=>(match mD fields.toList f with
   | some fd=>(match T.agg fd.type with
    | some true=>(match T.size fd.type with|some n=>Vx fd.offset true n e fun v=>k v h|none=>none)
    | some false=>Vx fd.offset false 0 e fun v=>k v h
    | none=>none)
   | none=>none)
  | _,_=>none)
 | .convert src dst x=>(match Ep d x,T.Tv src,T.Tv dst with|some e,some _,some (.int c)=>So c e fun v=>k v h|_,_,_=>none)
 | .extract x ix=>(match Ep d x with|some e=>kT ix e fun v=>k v h|none=>none)
 | .load t x=>(match Ep d x,T.agg t with
  | some e,some true=>(match T.size t with|some n=>Pg n e h fun v=>k v h|none=>none)
  | some e,some false=>Hq e h fun v=>k v h
  | _,_=>none)
 | .store t a x=>(match Ep d a,Ep d x,T.size t with|some a,some x,some n=>f_ n a x h fun h=>k (.tuple []) h|_,_,_=>none)
 | .alloc t=>(match T.zero t with|some z=>jT (.cells z t) h k|none=>none)
 | .box t x=>(match Ep d x with|some e=>Sl t e h k|none=>none)
 | .call { callee:=.value (.func g),args,.. }=>(match o6 d args.toList with|some xs=>Am (call g xs h) k|none=>none)
 | .call { callee:=.value f,args,.. }=>(match Ep d f,o6 d args.toList with|some e,some xs=>Am (T5 a_ round e xs h) k|_,_=>none)
 | .call { callee:=.builtin .append,args,argTypes }=>(match args.toList,argTypes.toList with
  | [s,x],[t,u]=>(match Ep d s,Ep d x,T.Tv u,T.Tv t with
   | some a,some b,some (.slice _),some (.slice e)=>(match T.size e,T.zero e with
    | some size,some _=>Am (Eo e size a b h) k
    | _,_=>none)
   | _,_,_,_=>none)
  | _,_=>none)
 | .call { callee:=.builtin .len,args,argTypes }=>(match args.toList,argTypes.toList with
  | [x],[t]=>(match Ep d x,T.Tv t with
   | some e,some (.slice _)=>Hg e fun v=>k v h
   | some e,some (.chan ..)=>Am (uf e h) k
   | some e,_=>Am (builtin T .len argTypes [e] h) k
   | _,_=>none)
  | _,_=>none)
 | .call { callee:=.builtin b,args,argTypes }=>(match o6 d args.toList with|some xs=>Am (builtin T b argTypes xs h) k|none=>none)
 | .unOp .neg _ x=>(match Ep d x with|some e=>oI e fun v=>k v h|none=>none)
 | .build t ps=>(match T.zero t,uJ d ps.toList,T.Tv t with
  | some z,some l,some (.struct fields)=>(match placesOf T fields.toList with
   | some ps=>Bo (Df ps) z l fun v=>k v h
   | none=>none)
  | some z,some l,some (.array _ e)=>(match T.size e with
   | some s=>Bo (Mt s) z l fun v=>k v h
   | none=>none)
  | _,_,_=>none)
 | .buildSlice t n ps=>(match T.Tv t,uJ d ps.toList with
  | some (.slice e),some l=>(match T.size e,T.zero e with
   | some s,some z=>Am (Bz z e s n l h) k
   | _,_=>none)
  | _,_=>none)
 | .makeFunc (.func f) first captured=>(match o6 d first.toList,o6 d captured.toList with|some a,some b=>k (.func f a b) h|_,_=>none)
 | .sliceToArrayPointer t x=>(match Ep d x,T.Tv t with|some e,some (.array n _)=>oJ n e fun v=>k v h|_,_=>none)
 | .slice t x p q A=>(match Ep d x,uK d p,uK d q,uK d A with
  | some e,some p,some q,some A=>(match T.Tv t with
   | some (.array n o)=>(match T.size o with|some s=>Nq n s e p q A fun v=>k v h|none=>none)
   | some (.slice o)=>(match T.size o with|some s=>iD s e p q A fun v=>k v h|none=>none)
   | _=>none)
  | _,_,_,_=>none)
 | .makeSlice t l c=>(match Ep d l,Ep d c,T.Tv t with
  | some l,some c,some (.slice e)=>(match T.zero e with|some z=>Am (Vl z e l c h) k|none=>none)
  | _,_,_=>none)
 | .makeMap _ none=>Am (uj h) k
 | .makeChan t s=>(match Ep d s,T.Tv t with
  | some s,some (.chan _ e)=>(match T.size e with|some _=>Am (ug s h) k|none=>none)
  | _,_=>none)
 | .lookup t x ix ok=>(match Ep d x,Ep d ix,T.Tv t with|some m,some i,some (.map C e)=>Am (p' T C e ok m i h) k|_,_,_=>none)
 | .mapUpdate t m ix x=>(match Ep d m,Ep d ix,Ep d x,T.Tv t with|some m,some i,some x,some (.map C _)=>Am (p_ T C m i x h) k|_,_,_,_=>none)
 | .select cs false=>(match cs.toList with
  | [c]=>(match c.send with
   | some x=>(match Ep d c.chan,Ep d x,zeroOf T c.elem with|some c,some x,some _=>Am (oS c x h) k|_,_,_=>none)
   | none=>(match Ep d c.chan,zeroOf T c.elem with|some c,some D=>Am (oU D c h) k|_,_=>none))
  | _=>none)
 | _=>none
abbrev Mode:=Option ((Nat × Bool) × Bool)
def OZ(a b:Bool):Bool:=Bb a b (jk b)
def qj(m:Mode)(g:Nat × Bool):Option Bool:=match m with|some x=>Bb (Bb (Nat.beq x.1.1 g.1) (OZ x.1.2 g.2) false) (some x.2) none|none=>none
def jQ(ops:List Oper)(g:Nat × Bool)(b:Bool)(dst:Option Tmp):Mode:=
 match kr ops g.1 with
 | some o=>(match o.dst with
  | some d=>(match dst with|some e=>Bb (Nat.beq d e) none (some (g,b))|none=>some (g,b))
  | none=>some (g,b))
 | none=>some (g,b)
abbrev iL(n:Nat)(d:Option Tmp)(e:VS)(v:EV):VS:=match d with|none=>e|some d=>Bb (Nat.ble (Nat.succ d) n) (sv e d v) e
abbrev sA(ops:List Oper)(e:VS)(g:Nat × Bool):Bool:=match kr ops g.1 with
 | some o=>(match o.dst with|some d=>Er (e d) g.2|none=>false)
 | none=>false
abbrev xM(fl:Bool)(n:Nat)(tm:Ba)(d:Option Tmp)(v:EV):Ba:=Bb fl (Po n tm d v) tm
abbrev Buc(n:Nat)(tm:Ba)(d:Option Tmp)(v:EV):Ba:=match d with|none=>tm|some d=>@Bool.rec (fun _=>Ba) tm (tm.put d (some v)) (Nat.ble (Nat.succ d) n)
abbrev iY(fl:Bool)(n:Nat)(tm:Ba)(d:Option Tmp)(v:EV)(F:Ba->R):R:=@Bool.rec (fun _=>R) (F tm) (F (Buc n tm d v)) fl
def jP(c:Code):Bool:=@Code.rec (fun _=>Bool) false (fun _ _ _=>false) (fun _ _ a b=>Bb a true b) (fun _ _ _ a b=>Bb a true b) (fun _ _ a=>a) (fun _ a=>a)
 (fun _ _ _ _ _ _=>true) (fun _=>false) (fun _ a=>a) (fun _=>false) (fun _=>false) false (fun _=>false) c
abbrev qk(fl:Bool)(T:Ig)(call a_ round:Ah)(n:Nat)(ops:List Oper)(fin:CD)(l:List Oper):Mode->CD:=
 @List.rec Oper (fun _=>Mode->CD) (fun _=>fin) (fun o _ e m=>@Option.rec (Nat × Bool) (fun _=>CD) (fun d tm h ds=>hJ T call a_ round o.op d h fun v h=>iY fl n tm o.dst v fun tm=>e none (iL n o.dst d v) tm h ds)
  (fun g d tm h ds=>match qj m g with
   | some true=>hJ T call a_ round o.op d h fun v h=>iY fl n tm o.dst v fun tm=>e (jQ ops g true o.dst) (iL n o.dst d v) tm h ds
   | some false=>iY fl n tm o.dst (.tuple []) fun tm=>e (jQ ops g false o.dst) (iL n o.dst d (.tuple [])) tm h ds
   | none=>Bb (sA ops d g) (hJ T call a_ round o.op d h fun v h=>iY fl n tm o.dst v fun tm=>e (jQ ops g true o.dst) (iL n o.dst d v) tm h ds) (iY fl n tm o.dst (.tuple []) fun tm=>e (jQ ops g false o.dst) (iL n o.dst d (.tuple [])) tm h ds)) o.guard) l
abbrev nM(T:Ig)(call a_ round:Ah)(op:Op)(i b base:Nat)(s:DX)(d:VS)(h:Ab)(k:DX->EV->Ab->R):R:=
 match cls op with
 | .val=>hJ T call a_ round op d h (k s)
 | .load=>(match op with | .load t x=>(match Ep d x with|some e=>O6 i b base e s fun s=>hJ T call a_ round (.load t x) d h (k s)|none=>none)|_=>none)
 | .new=>oH i h s fun s=>hJ T call a_ round op d h (k s)
 | .sto=>(match op with | .store t a x=>(match Ep d a with|some e=>pV i b e s fun s=>hJ T call a_ round (.store t a x) d h (k s)|none=>none)|_=>none)
 | .pur=>OY h fun h0=>hJ T call a_ round op d h0 fun v _=>k s v h
 | .big=>Bb (Abu b s) (hJ T call a_ round op d (Hs b s h) fun v h'=>Mp i b s h h' fun s h=>k s v h) none
abbrev lr(fl:Bool)(T:Ig)(call a_ round:Ah)(n:Nat)(ops:List Oper)(bs:Tr Nat)(base:Nat)(fin:CD)(l:List Oper):Nat->Mode->DX->CD:=
 @List.rec Oper (fun _=>Nat->Mode->DX->CD) (fun _ _ _=>fin) (fun o _ e i m s d tm h ds=>match bs.get i with
  | none=>none
  | some b=>@Option.rec (Nat × Bool) (fun _=>R) (nM T call a_ round o.op i b base s d h fun s v h=>iY fl n tm o.dst v fun tm=>e (Nat.succ i) none s (iL n o.dst d v) tm h ds)
   (fun g=>match qj m g with
    | some true=>nM T call a_ round o.op i b base s d h fun s v h=>iY fl n tm o.dst v fun tm=>e (Nat.succ i) (jQ ops g true o.dst) s (iL n o.dst d v) tm h ds
    | some false=>iY fl n tm o.dst (.tuple []) fun tm=>e (Nat.succ i) (jQ ops g false o.dst) s (iL n o.dst d (.tuple [])) tm h ds
    | none=>Bb (sA ops d g) (nM T call a_ round o.op i b base s d h fun s v h=>iY fl n tm o.dst v fun tm=>e (Nat.succ i) (jQ ops g true o.dst) s (iL n o.dst d v) tm h ds) (iY fl n tm o.dst (.tuple []) fun tm=>e (Nat.succ i) (jQ ops g false o.dst) s (iL n o.dst d (.tuple [])) tm h ds)) o.guard) l
abbrev uL(fl:Bool)(T:Ig)(call a_ round:Ah)(n:Nat)(ops:List Oper)(fin:CD):CD:=fun d tm h ds=>
 @Bool.rec (fun _=>R) none (@Bool.rec (fun _=>R) none (Zy h fun base s=>lr fl T call a_ round n ops (Oq ops 0 .nil) base fin ops 0 none s d tm h ds) (mC ops (Oq ops 0 .nil) ops 0 [])) (nL ops 0)
abbrev iU:=List (Nat × CD)
abbrev o7(out:Nat->CD)(env:iU)(id:Nat):CD:=@List.rec (Nat × CD) (fun _=>CD) (out id) (fun p _ e d tm h ds=>@Prod.rec Nat CD (fun _=>R) (fun j k=>Bb (Nat.beq j id) (k d tm h ds) (e d tm h ds)) p) env
abbrev qa(c:CD->CD)(fuel:Nat):CD:=@Nat.rec (fun _=>CD) (fun _ _ _ _=>none) (fun _ d=>c d) fuel
abbrev xN(call:Ah)(fn n:Nat)(Dt:Option Nat)(f:EV)(ps:List Tmp)(b_ body:Code)(tm:Ba)(h:Ab)(ds:List Nat)(k:Ab->List Nat->R)(ex:Nat->Ab->List Nat->R)(ret:Ab->List Nat->R):R:=match f with
 | .func q first captured=>(match Dt with
  | none=>nK (Nat.succ h.next) (call q (first++(.Vv (Nat.succ h.next)::captured)) ((h.new (.deferred true)).new (.loop .ready none fn n tm ps b_ body h.next))) (fun h'=>k h' (h.next::ds)) (fun id h'=>ex id h' (h.next::ds)) (fun h'=>ret h' (h.next::ds))
  | some l0=>(match h.get l0 with
   | some (.loop _ _ _ _ _ _ _ _ d)=>nK h.next (call q (first++(.Vv h.next::captured)) (h.new (.loop .ready none fn n tm ps b_ body d))) (fun h'=>k h' ds) (fun id h'=>ex id h' ds) (fun h'=>ret h' ds)
   | _=>none))
 | _=>none
abbrev jm(fl:Bool)(T:Ig)(call a_ round:Ah)(fuel fn n:Nat)(Dt:Option Nat)(out:Nat->CD)(ret:CD)(c:Code):iU->CD->CD:=
 @Code.rec (fun _=>iU->CD->CD) (fun _ k=>k)
  (fun _ ops dr _ k=>@Bool.rec (fun _=>CD) (qk fl T call a_ round n ops.toList k ops.toList none) (@Bool.rec (fun _=>CD) (uL fl T call a_ round n ops.toList k) (qk fl T call a_ round n ops.toList k ops.toList none) (uI T ops.toList)) dr)
  (fun _ _ a b env k=>a env (b env k))
  (fun c _ _ a b env k d tm h ds=>match Ep d c with|some e=>hQ e (a env k d tm h ds) (b env k d tm h ds)|none=>none)
  (fun id _ c env k=>c ((id,k)::env) k)
  (fun _ c env _=>qa (fun o=>c env o) fuel)
  (fun f ps b_ body _ _ env k d tm h ds=>@Bool.rec (fun _=>R) none (match Ep d f with|some e=>xN a_ fn n Dt e ps.toList b_ body tm h ds (fun h ds=>k d tm h ds) (fun id h ds=>o7 out env id d tm h ds) (fun h ds=>ret d tm h ds)|none=>none) fl)
  (fun id env _=>o7 out env id) (fun _ _ _ _ _ _ _ _=>none) (fun _ _ k=>k) (fun _ _ _ _ _ _ _=>none) (fun _ _=>ret) (fun _ _ _ _ _ _ _=>none) c
def Fz(ds:List Nat)(h:Ab)(k:Ab->R):R:=
 @List.rec Nat (fun _=>Ab->R) k (fun d _ e h=>match h.get d with|some (.deferred true)=>e (h.put d (.deferred false))|_=>none) ds h
abbrev uM(d:VS):ResultVar->RV
 | .tmp t=>.v (d t)
 | .cell a t=>.c (d a) t
abbrev mE(T:Ig)(res:List ResultVar)(d:VS)(h:Ab):R:=match res with
 | [.tmp t]=>some (d t,h)
 | []=>some (.tuple [],h)
 | [.tmp s,.tmp t]=>some (.tuple [d s,d t],h)
 | res=>Jk T (res.map (uM d)) h
abbrev sC(fl:Bool)(T:Ig)(res:List ResultVar):CD:=fun d _ h ds=>@Bool.rec (fun _=>R) (mE T res d h) (Fz ds h fun h=>mE T res d h) fl
abbrev rY(l:List EV):Nat->VS->VS:=@List.rec EV (fun _=>Nat->VS->VS) (fun _ d=>d) (fun v _ e i d=>e (Nat.succ i) (sv d i v)) l
abbrev u0:VS:=fun _=>.tuple []
abbrev nE:Nat->CD:=fun _ _ _ _ _=>none
def kZ(T:Ig)(call round:Ah)(fuel f:Nat)(args:List EV)(h:Ab):R:=
 match T.fn f with
 | some { ntmps:=n,body:=some c,results:=res,.. }=>Bb (Nat.ble (Ga args) n) (jm (jP c) T call call round fuel f n none nE (sC (jP c) T res.toList) c [] (sC (jP c) T res.toList) (rY args 0 u0) (setArgs args 0 .nil) h []) none
 | _=>none
abbrev rZ(n:Nat)(ps:List Tmp):List EV->VS->VS:=@List.rec Tmp (fun _=>List EV->VS->VS) (fun _ d=>d) (fun p _ e args d=>@List.rec EV (fun _=>VS) d (fun v r _=>e r (iL n (some p) d v)) args) ps
abbrev xv(T:Ig)(call a_ round:Ah)(fuel l f n:Nat)(b_ body:Code):CD:=
 jm true T call a_ round fuel f n (some l) (fun id _ _ h _=>Xh l false .done (some (.exit id)) h) (fun _ _ h _=>Xh l false .done (some .ret) h) b_ []
  fun d tm h ds=>Fi l h fun h=>jm true T call a_ round fuel f n (some l) (fun id _ _ h _=>Xh l false .done (some (.exit id)) h) (fun _ _ h _=>Xh l false .done (some .ret) h) body [] (fun _ _ h _=>Xh l true .ready none h) d tm h ds
def qd(T:Ig)(call round:Ah)(fuel l:Nat)(args:List EV)(h:Ab):R:=
 match h.get l with
 | some (.loop _ _ f n tm ps b_ body _)=>match Wh ps args n tm with
  | some d=>xv T call call round fuel l f n b_ body (rZ n ps args (tmp tm)) d h []
  | none=>none
 | _=>none
end
variable {k:List EV->R}{m:Mode}{cf fin:CD}
section
theorem nN(l:List EV):Ga l=len l:=by
 induction l with
 | nil=>rfl
 | cons a r d=>exact congrArg Nat.succ d
theorem xO:∀(l:List EV) (n:Nat),kG l n=match Zv l n with|v::_=>some v | []=>none
 | [],n=>rfl
 | a::r,n=>by
  have e:kG (a::r) n=Bb (Nat.beq n 0) (some a) (kG r (Nat.pred n)):=rfl;rw[e];simp only[Zv];cases Nat.beq n 0
  ·exact xO r _
  ·rfl
theorem O':∀(l:List EV) (n:Nat),uB l n=Zv l n
 | [],n=>rfl
 | a::r,n=>by
  have e:uB (a::r) n=Bb (Nat.beq n 0) (a::r) (uB r (Nat.pred n)):=rfl;rw[e];simp only[Zv];rw[O' r]
theorem xP(a:EV)(x:Option (List EV)):oV a x=match x with|some x=>some (a::x)|none=>none:=by cases x<;>rfl
theorem xQ:∀(l:List EV) (n:Nat),ss l n=takeN l n
 | [],n=>rfl
 | a::r,n=>by
  have e:ss (a::r) n=Bb (Nat.beq n 0) (some []) (oV a (ss r (Nat.pred n))):=rfl;rw[e];simp only[takeN];rw[xQ r,xP];cases takeN r (Nat.pred n)<;>rfl
theorem O_:∀(l:List EV),takeN l (len l)=some l
 | []=>rfl
 | a::r=>by
  simp only[takeN,len];rw[show Nat.beq (Nat.succ (len r)) 0=false from rfl,Bm,Nat.pred_succ,O_ r]
theorem Bde(l:List EV):Zv l 0=l:=by cases l<;>rfl
theorem nC(l:List EV)(off n:Nat):Og l off n=takeN (Zv l off) n:=by
 unfold Og;rw[O',xQ,xQ,nN];cases h:Nat.beq off 0
 ·rfl
 ·have:=aL h;subst this
  rw[Bde];cases d:Nat.beq (len l) n
  ·rfl
  ·have:=aL d;subst this
   rw[O_];rfl
theorem xR:∀(vs l:List EV),oW vs l=Jr l vs
 | [],l=>by cases l<;>rfl
 | v::vs,[]=>rfl
 | v::vs,a::r=>by
  have e:oW (v::vs) (a::r)=oV v (oW vs r):=rfl;rw[e];simp only[Jr];rw[xR vs r,xP];cases Jr r vs<;>rfl
theorem xS(vs:List EV):∀(l:List EV) (n:Nat),qi vs l n=F0 l n vs
 | [],n=>by
  have e:qi vs [] n=Bb (Nat.beq n 0) (oW vs []) none:=rfl;rw[e];simp only[F0];rw[xR]
 | a::r,n=>by
  have e:qi vs (a::r) n=Bb (Nat.beq n 0) (oW vs (a::r)) (oV a (qi vs r (Nat.pred n))):=rfl;rw[e];simp only[F0];rw[xR,xS vs r,xP];cases F0 r (Nat.pred n) vs<;>rfl
theorem PB:∀(l vs:List EV),len l=len vs->Jr l vs=some vs
 | [],[],_=>rfl
 | a::r,[],h=>by simp[len]at h
 | [],v::vs,h=>by simp[len]at h
 | a::r,v::vs,h=>by
  simp only[Jr];rw[PB r vs (by simpa [len]using h)]
theorem U7(l:List EV)(off:Nat)(vs:List EV):Mv l off vs=F0 l off vs:=by
 unfold Mv;rw[xS,xS,nN,nN];cases h:Nat.beq off 0
 ·rfl
 ·have:=aL h;subst this
  cases d:Nat.beq (len l) (len vs)
  ·rfl
  ·have h2:=aL d
   have:F0 l 0 vs=Jr l vs:=by cases l<;>rfl
   rw[this,PB l vs h2];rfl
theorem G2 {β:Type}(k:α->Option β)(a:α):oB k (some a)=k a:=rfl
theorem Ny {β:Type}{k:α->Option β}{x:Option α}{r:β}(e:oB k x=some r):∃a,x=some a/\k a=some r:=by
 cases x with
 | none=>cases e
 | some a=>exact⟨a,rfl,e⟩
theorem xT {x y:R}{r:EV × Ab}(e:uC x y v=some r):∃b,v=.bool b/\(Bb b x y)=some r:=by
 cases v with
 | bool b=>exact⟨b,rfl,e⟩
 | _=>cases e
theorem Ph {k:Nat->Nat->R}{r:EV × Ab}(e:k_ k v=some r):∃i o,v=.ptr i o/\k i o=some r:=by
 cases v with
 | ptr i o=>exact⟨i,o,rfl,e⟩
 | _=>cases e
theorem Bc0 {k:IntKind->Int->R}{r:EV × Ab}(e:OV k v=some r):∃c n,v=.int c n/\k c n=some r:=by
 cases v with
 | int c n=>exact⟨c,n,rfl,e⟩
 | _=>cases e
theorem xU {k:Nat->R}{r:EV × Ab}(e:uD k v=some r):∃c n,v=.int c (.ofNat n)/\k n=some r:=by
 cases v with
 | int c n=>
  cases n with
  | ofNat n=>exact⟨c,n,rfl,e⟩
  | negSucc n=>cases e
 | _=>cases e
theorem xV{r:EV × Ab}(e:xK k v=some r):∃l,v=.agg l/\k l=some r:=by
 cases v with
 | agg l=>exact⟨l,rfl,e⟩
 | _=>cases e
theorem Bc7{r:EV × Ab}(e:OW k v=some r):∃l,v=.tuple l/\k l=some r:=by
 cases v with
 | tuple l=>exact⟨l,rfl,e⟩
 | _=>cases e
theorem PC(a b:Int):uE a b=Int.add a b:=by cases a<;>cases b<;>rfl
theorem PD(a b:Int):uF a b=Int.sub a b:=by
 cases a with
 | ofNat m=>
  cases b with
  | ofNat n=>
   have e:uF (.ofNat m) (.ofNat n)=Bb (Nat.ble n m) (.ofNat (Nat.sub m n)) (.negSucc (Nat.pred (Nat.sub n m))):=rfl;rw[e,Bq];show _=(Int.ofNat m)-(Int.ofNat n);split
   ·rename_i h
    have:=bL h;show((m-n:Nat):Int)=_;simp only[aZ];omega
   ·rename_i h
    have:¬n<=m:=fun x=>h (aQ x)
    show Int.negSucc ((n-m)-1)=_;simp only[aZ,dK];omega
  | negSucc n=>rfl
 | negSucc m=>rfl
theorem xW(a b:Int):lh a b=ko a b:=by cases a<;>cases b<;>rfl
theorem wW(a b:Int):nJ a b=iN a b:=by cases a<;>cases b<;>rfl
theorem PE(b:Bool):jk b=Bb b false true:=by cases b<;>rfl
theorem Bqh {op:BinOp}{g:IntKind->Int->Int->EV}(h:xL op=some g):uN op=false/\∀k a b,qm op k a b=some (g k a b):=by
 unfold xL at h;split at h<;>cases h<;>refine⟨rfl,fun k a b=>?_⟩<;>simp only[qm,kU,oD,pU,I8,oF,nt,oG,iW,iX,PC,PD,xW,wW,PE]
theorem PF:∀(l:List (Nat × Nat)) (n:Nat),Df l n=lu l n
 | [],n=>rfl
 | a::r,n=>by
  have e:Df (a::r) n=Bb (Nat.beq n 0) (some a) (Df r (Nat.pred n)):=rfl;rw[e];simp only[lu];rw[PF r]
theorem uO(place:Nat->Option (Nat × Nat)):∀(l:List (Nat × EV)) (c:List EV),jh place l c=fill place c l
 | [],c=>rfl
 | (i,v)::l,c=>by
  have e:jh place ((i,v)::l) c=oB (ub fun off size=>Bb v.plain (Bb (Nat.beq (Ga v.cells) size) (oB (jh place l) (Mv c off v.cells)) none) none) (place i):=rfl;rw[e];simp only[fill];cases place i with
  | none=>rfl
  | some x=>
   obtain⟨off,size⟩:=x;simp only;show Bb v.plain (Bb (Nat.beq (Ga v.cells) size) (oB (jh place l) (Mv c off v.cells)) none) none=_;rw[nN,U7];cases F0 c off v.cells with
   | none=>rfl
   | some d=>
    show Bb v.plain (Bb (Nat.beq (len v.cells) size) (jh place l d) none) none=_;rw[uO place l d]
theorem xX(h:Ab)(i off n:Nat):Yz h i off n=I6 h i off n:=by
 unfold Yz I6 mA;cases h.get i with
 | none=>rfl
 | some o=>
  cases o<;>simp only[nC];cases mB _ off<;>rfl
theorem tF(h:Ab)(size n:Nat)(x:EV):O9 h size n x=cellsOf h size n x:=by
 unfold O9 cellsOf;cases x<;>simp only[xX]
theorem q_(a b:List EV):su a b=a++b:=by
 induction a with
 | nil=>rfl
 | cons x r d=>exact congrArg (x :: ·) d
theorem Bee{st e:TypeId}{size:Nat}{z:List EV}(p:T.Tv st=some (.slice e))(h2:T.size e=some size)(q:T.zero e=some z)(s x:EV)(h:Ab):append T st s x h=Eo e size s x h:=by
 unfold append Eo;simp only[p,h2,q];cases lenOf x with
 | none=>rfl
 | some n=>
  simp only[G2];rw[tF];cases cellsOf h size n x with
  | none=>rfl
  | some new=>
   simp only[G2];cases s with
   | slice i off d room op=>
    simp only;rw[tF];cases cellsOf h size d (.slice i off d room op)with
    | none=>rfl
    | some Br=>
     simp only[G2,q_,nN];cases h.get i with
     | none=>rfl
     | some o=>cases o<;>rfl
   | _=>rfl
theorem xY{agg:Bool}(o:T.agg t=some agg)(p:agg=true->T.size t=some n){cs:List EV}{k:EV->R}{r:EV × Ab}(e:uG agg n cs off k=some r):
 ∃v,part T t cs off=some v/\k v=some r:=by
 unfold uG at e;unfold part;rw[o];cases agg with
 | true=>
  rw[Ak]at e;obtain⟨l,d,h2⟩:=Ny e;rw[nC]at d;rw[p rfl];simp only;rw[d];exact⟨_,rfl,h2⟩
 | false=>
  rw[Bm]at e;obtain⟨v,d,h2⟩:=Ny e;rw[xO]at d;exact⟨v,d,h2⟩
theorem Dg(tm:Ba)(x:Operand):Ep (tmp tm) x=Cj tm x:=by cases x<;>rfl
theorem Fw(tm:Ba)(l:List Operand):o6 (tmp tm) l=Mu tm l:=by
 induction l with
 | nil=>rfl
 | cons x r d=>
  show(match Ep (tmp tm) x,o6 (tmp tm) r with|some e,some es=>some (e::es)|_,_=>none)=_;rw[d,Dg];simp only[Mu];cases Cj tm x<;>cases Mu tm r<;>rfl
theorem Fs(tm:Ba)(l:List (Nat × Operand)):uJ (tmp tm) l=Zc tm l:=by
 induction l with
 | nil=>rfl
 | cons x r d=>
  obtain⟨i,x⟩:=x;show(match Ep (tmp tm) x,uJ (tmp tm) r with|some e,some es=>some ((i,e)::es)|_,_=>none)=_;rw[d,Dg];simp only[Zc];cases Cj tm x<;>cases Zc tm r<;>rfl
theorem Hf(tm:Ba)(x:Option Operand):uK (tmp tm) x=jn tm x:=by
 cases x with
 | none=>rfl
 | some x=>show(match Ep (tmp tm) x with|some e=>some (some e)|none=>none)=_;rw[Dg];rfl
theorem Yh {x:R}{k:EV->Ab->R}{r:EV × Ab}(e:Am x k=some r):∃v h,x=some (v,h)/\k v h=some r:=by
 obtain⟨⟨v,h⟩,d,h2⟩:=Ny e;exact⟨v,h,d,h2⟩
section
variable{call:Ah}
theorem H7(d:nO op=true)(e:Fc T tm op=some v):aop T call round tm op h=some (v,h):=by
 unfold aop;rw[d,Ak,e]
theorem A7j{k:Ab->R}{r:EV × Ab}(e:nB h i (fun l=>Mv l off vs) k=some r):∃h',Ml h i off vs=some h'/\k h'=some r:=by
 unfold nB at e;unfold Ml;split at e
 ·rename_i l t o
  obtain⟨l',p,h2⟩:=Ny e;have d:F0 l off vs=some l':=by rw[<-U7];exact p
  simp only[o,d];exact⟨_,rfl,h2⟩
 ·rename_i l t s o
  obtain⟨l',p,h2⟩:=Ny e;have d:F0 l off vs=some l':=by rw[<-U7];exact p
  simp only[o,d];exact⟨_,rfl,h2⟩
 ·cases e
theorem o8{k:EV->Ab->R}{r:EV × Ab}(e:hJ T call call round op (tmp tm) h k=some r):
 ∃v h',aop T call round tm op h=some (v,h')/\k v h'=some r:=by
 cases op with
 | move x=>
  simp only[hJ,Dg,Fw,Fs,Hf]at e;split at e
  ·rename_i e1 he;exact⟨_,_,H7 rfl (he),e⟩
  ·cases e
 | assign x=>
  simp only[hJ,Dg,Fw,Fs,Hf]at e;split at e
  ·rename_i e1 he;exact⟨_,_,H7 rfl (he),e⟩
  ·cases e
 | pick c a b=>
  simp only[hJ,Dg,Fw,Fs,Hf]at e;split at e
  ·rename_i c1 W b1 hc C hb
   obtain⟨bb,d,h2⟩:=xT e;have p:=hc;rw[d]at p;cases bb
   ·exact⟨_,_,H7 rfl (by simp only[Fc];rw[p];exact hb),h2⟩
   ·exact⟨_,_,H7 rfl (by simp only[Fc];rw[p];exact C),h2⟩
  ·cases e
 | binOp op t x y yt=>
  simp only[hJ,Dg,Fw,Fs,Hf]at e;split at e
  ·rename_i W b1 C hb
   have af:=C;have ag:=hb;have key:∀v,bin T op t W b1=some v->aop T call round tm (.binOp op t x y yt) h=some (v,h):=fun v hv=>
    H7 rfl (by simp only[Fc];rw[af];simp only;rw[ag];exact hv)
   split at e
   ·rename_i g O
    obtain⟨s1,s2⟩:=Bqh O;unfold J5 at e;split at e
    ·obtain⟨d,h2⟩:=Ap e
     refine⟨_,_,key _ ?_,h2⟩;simp only[bin];rw[s1,Bm,d,Ak,s2]
    ·obtain⟨v,d,h2⟩:=Ny e
     exact⟨v,h,key v d,h2⟩
   ·obtain⟨v,d,h2⟩:=Ny e
    exact⟨v,h,key v d,h2⟩
  ·cases e
 | unOp u t x=>
  cases u with
  | not=>
   simp only[hJ,Dg,Fw,Fs,Hf]at e;split at e
   ·rename_i e1 he
    obtain⟨b,d,h2⟩:=xT e;have p:=he;rw[d]at p;cases b
    ·exact⟨_,_,H7 rfl (by simp only[Fc];rw[p];rfl),h2⟩
    ·exact⟨_,_,H7 rfl (by simp only[Fc];rw[p];rfl),h2⟩
   ·cases e
  | neg=>
   simp only[hJ,Dg,Fw,Fs,Hf]at e;split at e
   ·rename_i e1 he
    unfold oI at e;split at e
    ·exact⟨_,h,H7 rfl (by simp only[Fc];rw[he]),e⟩
    ·cases e
   ·cases e
  | _=>(cases e)
 | nilCheck x=>
  simp only[hJ,Dg,Fw,Fs,Hf]at e;split at e
  ·rename_i e1 he
   obtain⟨i,o,d,h2⟩:=Ph e;have p:=he;rw[d]at p;exact⟨_,_,H7 rfl (by simp only[Fc];rw[p]),h2⟩
  ·cases e
 | fieldAddr s x f=>
  simp only[hJ,Dg,Fw,Fs,Hf]at e;split at e
  ·rename_i e1 fields he hu
   split at e
   ·rename_i fd H
    split at e
    ·rename_i n S
     cases hb:Nat.beq n 0 with
     | true=>rw[hb,Ak]at e;cases e
     | false=>
      rw[hb,Bm]at e;obtain⟨i,o,d,h2⟩:=Ph e;have p:=he;rw[d]at p;exact⟨_,_,H7 rfl (by simp only[Fc];rw[p];simp only;rw[hu];simp only;rw[H];simp only;rw[S];simp only;rw[hb,Bm]),h2⟩
    ·cases e
   ·cases e
  ·cases e
 | indexAddr t x ix=>
  simp only[hJ,Dg,Fw,Fs,Hf]at e;split at e
  ·rename_i e1 X ln J he M hu
   split at e
   ·rename_i s hs
    obtain⟨c,j,d,h2⟩:=xU e;obtain⟨i,off,p,h4⟩:=Ph h2;obtain⟨D,E⟩:=Ap h4;have A:=M;have B:=he;rw[d]at A;rw[p]at B;exact⟨_,_,H7 rfl (by simp only[Fc];rw[A];simp only;rw[hu,B];simp only;rw[hs];simp only;rw[D,Ak]),E⟩
   ·cases e
  ·rename_i e1 X J he M hu
   split at e
   ·rename_i s hs
    obtain⟨c,j,d,h2⟩:=xU e;split at h2
    ·obtain⟨D,E⟩:=Ap h2
     have A:=M;have B:=he;rw[d]at A;exact⟨_,_,H7 rfl (by simp only[Fc];rw[A];simp only;rw[hu,B];simp only;rw[hs];simp only;rw[D,Ak]),E⟩
    ·cases h2
   ·cases e
  ·cases e
 | index t x ix=>
  simp only[hJ,Dg,Fw,Fs,Hf]at e;split at e
  ·rename_i e1 X ln J he M hu
   split at e
   ·rename_i s agg hs C
    obtain⟨c,j,d,h2⟩:=xU e;obtain⟨cs,p,h4⟩:=xV h2;obtain⟨D,E⟩:=Ap h4;obtain⟨v,U,V⟩:=xY C (fun _=>hs) E;have A:=M;have B:=he;rw[d]at A;rw[p]at B;exact⟨_,_,H7 rfl (by simp only[Fc];rw[A];simp only;rw[hu,B];simp only;rw[hs];simp only;rw[D,Ak,U]),V⟩
   ·cases e
  ·(cases e)
 | field t x f=>
  simp only[hJ,Dg,Fw,Fs,Hf]at e;split at e
  ·rename_i e1 fields he hu
   split at e
   ·rename_i fd H
    have B:=he;split at e
    ·rename_i C
     split at e
     ·rename_i n S
      obtain⟨cs,p,h4⟩:=xV e;obtain⟨v,U,V⟩:=xY C (fun _=>S) h4;rw[p]at B;exact⟨_,_,H7 rfl (by simp only[Fc];rw[hu,B];simp only;rw[H];simp only;rw[U]),V⟩
     ·cases e
    ·rename_i C
     obtain⟨cs,p,h4⟩:=xV e;obtain⟨v,U,V⟩:=xY C (fun x=>by cases x) h4;rw[p]at B;exact⟨_,_,H7 rfl (by simp only[Fc];rw[hu,B];simp only;rw[H];simp only;rw[U]),V⟩
    ·cases e
   ·cases e
  ·cases e
 | convert src dst x=>
  simp only[hJ,Dg,Fw,Fs,Hf]at e;split at e
  ·rename_i e1 _ c he hs hd
   obtain⟨c',n,d,h2⟩:=Bc0 e;have q:=he;rw[d]at q;exact⟨_,_,H7 rfl (by simp only[Fc];rw[hs,hd,q]),h2⟩
  ·cases e
 | extract x ix=>
  simp only[hJ,Dg,Fw,Fs,Hf]at e;split at e
  ·rename_i e1 he
   obtain⟨l,d,h2⟩:=Bc7 e;obtain⟨v,p,h4⟩:=Ny h2;have q:=he;rw[d]at q;rw[xO]at p;exact⟨_,_,H7 rfl (by simp only[Fc];rw[q];exact p),h4⟩
  ·cases e
 | load t x=>
  simp only[hJ,Dg]at e;split at e
  ·rename_i e1 he C
   split at e
   ·rename_i n S
    obtain⟨i,off,d,h2⟩:=Ph e;obtain⟨l',D,E⟩:=Ny h2;rw[d]at he;refine⟨_,_,?_,E⟩;show Dz T tm (.load t x) h=_;simp only[Dz];rw[he];simp only;rw[C];simp only;rw[S];simp only;rw[<-xX];rw[show Yz h i off n=some l' from D]
   ·cases e
  ·rename_i e1 he C
   obtain⟨i,off,d,h2⟩:=Ph e;obtain⟨l',D,E⟩:=Ny h2;rw[d]at he;split at E
   ·refine⟨_,_,?_,E⟩
    show Dz T tm (.load t x) h=_;simp only[Dz];rw[he];simp only;rw[C];simp only;rw[<-xX,show Yz h i off 1=some _ from D]
   ·cases E
  ·cases e
 | store t a x=>
  simp only[hJ,Dg,Fw,Fs,Hf]at e;split at e
  ·rename_i W x1 n C hx S
   obtain⟨i,off,d,h2⟩:=Ph e;obtain⟨p,h4⟩:=Ap h2;obtain⟨D,E⟩:=Ap h4;obtain⟨h',U,V⟩:=A7j E;rw[nN]at D;have A:=C;have B:=hx;rw[d]at A;refine⟨_,_,?_,V⟩;show Dz T tm (.store t a x) h=_;simp only[Dz];rw[A,B,S];simp only;rw[p,Ak,D,Ak,U]
  ·cases e
 | alloc t=>
  simp only[hJ,Dg,Fw,Fs,Hf]at e;split at e
  ·rename_i z F
   refine⟨_,_,?_,e⟩;show Dz T tm (.alloc t) h=_;simp only[Dz];rw[F]
  ·cases e
 | box t x=>
  simp only[hJ,Dg,Fw,Fs,Hf]at e;split at e
  ·rename_i e1 he
   obtain⟨d,h2⟩:=Ap e;refine⟨_,_,?_,h2⟩;show Dz T tm (.box t x) h=_;simp only[Dz];rw[he];simp only;rw[d,Ak]
  ·cases e
 | call c=>
  obtain⟨callee,args,Q⟩:=c;have Y:∀{f:Operand} {e1:EV} {as:List EV},Cj tm f=some e1->Mu tm args.toList=some as->Am (T5 call round e1 as h) k=some r->∃v h',aop T call round tm (.call ⟨.value f,args,Q⟩) h=some (v,h')/\k v h'=some r:=by
   intro f e1 as A B hc;obtain⟨v,h',d,h2⟩:=Yh hc;refine⟨v,h',?_,h2⟩;show(match Cj tm f,Mu tm args.toList with|some (.func g first captured),some as=>call g (first++(as++captured)) h|some (.Vv l),some as=>round l as h|_,_=>none)=_;rw[A,B];unfold T5 at d;split at d
   ·rw[q_,q_]at d;exact d
   ·exact d
   ·cases d
  cases callee with
  | value f=>
   cases f with
   | func g=>
    simp only[hJ,Dg,Fw]at e;split at e
    ·rename_i as C
     obtain⟨v,h',d,h2⟩:=Yh e;refine⟨v,h',?_,h2⟩;show(match Cj tm (.func g),Mu tm args.toList with|some (.func g first captured),some as=>call g (first++(as++captured)) h|some (.Vv l),some as=>round l as h|_,_=>none)=_;rw[C];simp only[Cj,cV,dO];exact d
    ·cases e
   | global g=>cases e
   | _=>
    simp only[hJ,Dg,Fw]at e;split at e
    ·rename_i e1 as H C;exact Y H C e
    ·cases e
  | builtin b=>
   have key:∀{as:List EV},Mu tm args.toList=some as->∀v h',builtin T b Q as h=some (v,h')->aop T call round tm (.call ⟨.builtin b,args,Q⟩) h=some (v,h'):=by
    intro as C v h' hb;show Dz T tm (.call ⟨.builtin b,args,Q⟩) h=_;simp only[Dz];rw[C];exact hb
   cases b with
   | append=>
    simp only[hJ,Dg]at e;split at e
    ·rename_i s x t u G L
     split at e
     ·rename_i W b1 u1 J hs hx hu Z
      split at e
      ·rename_i size z ai F
       obtain⟨v,h',d,h2⟩:=Yh e;refine⟨v,h',key (as:=[W,b1]) (by rw[G];simp only[Mu,hs,hx]) v h' ?_,h2⟩;rw[<-Bee Z ai F]at d;simp only[builtin];rw[L];simp only;rw[hu];exact d
      ·cases e
     ·cases e
    ·cases e
   | len=>
    simp only[hJ,Dg]at e;split at e
    ·rename_i x t G L
     have ka:∀{e1:EV},Cj tm x=some e1->Mu tm args.toList=some [e1]:=by
      intro e1 he;rw[G];simp only[Mu,he]
     split at e
     ·rename_i e1 J he Z
      obtain⟨n,d,h2⟩:=Ny e;refine⟨_,_,key (ka he) _ _ ?_,h2⟩;simp only[builtin];rw[L];simp only;rw[Z];simp only;rw[d]
     ·rename_i e1 dd J he Z
      obtain⟨v,h',d,h2⟩:=Yh e;refine⟨_,_,key (ka he) v h' ?_,h2⟩;simp only[builtin];rw[L];simp only;rw[Z];revert d;unfold uf;cases e1<;>exact id
     ·rename_i e1 _ _ he _ _
      obtain⟨v,h',d,h2⟩:=Yh e;exact⟨_,_,key (ka he) v h' d,h2⟩
     ·cases e
    ·cases e
   | _=>
    simp only[hJ,Fw]at e;split at e
    ·rename_i as C
     obtain⟨v,h',d,h2⟩:=Yh e;exact⟨v,h',key C v h' d,h2⟩
    ·cases e
  | _=>cases e
 | build t ps=>
  simp only[hJ,Fs]at e;split at e
  ·rename_i z l fields F hl hu
   split at e
   ·rename_i pl al
    obtain⟨c,p,h2⟩:=Ny e;refine⟨_,h,H7 rfl ?_,h2⟩;rw[uO,show Df pl=lu pl from funext (PF pl)]at p;simp only[Fc];rw[F,hl,hu];simp only;rw[al];simp only;rw[p]
   ·cases e
  ·rename_i z l n J F hl hu
   split at e
   ·rename_i s hs
    obtain⟨c,p,h2⟩:=Ny e;refine⟨_,h,H7 rfl ?_,h2⟩;rw[uO]at p;simp only[Fc];rw[F,hl,hu];simp only;rw[hs];simp only;have ao:fill (fun i=>some (Nat.mul i s,s)) z l=some c:=p;rw[ao]
   ·cases e
  ·cases e
 | buildSlice t n ps=>
  simp only[hJ,Fs]at e;split at e
  ·rename_i J l hu hl
   split at e
   ·rename_i s z hs F
    obtain⟨v,h',d,h2⟩:=Yh e;refine⟨v,h',?_,h2⟩;unfold Bz at d;obtain⟨p,h4⟩:=Ap d;obtain⟨c,D,E⟩:=Ny h4;rw[uO]at D;have aq:fill (fun i=>some (Nat.mul i s,s)) (rep z n) l=some c:=D;show Dz T tm (.buildSlice t n ps) h=_;simp only[Dz];rw[hu,hl];simp only;rw[hs,F];simp only;rw[p,Ak,aq];exact E
   ·cases e
  ·cases e
 | makeFunc fo first captured=>
  cases fo with
  | func f=>
   simp only[hJ,Fw]at e;split at e
   ·rename_i a b C hb
    exact⟨_,h,H7 rfl (by simp only[Fc];rw[C,hb]),e⟩
   ·cases e
  | _=>cases e
 | sliceToArrayPointer t x=>
  simp only[hJ,Dg]at e;split at e
  ·rename_i e1 n J he hu
   unfold oJ at e;split at e
   ·obtain⟨d,h2⟩:=Ap e
    exact⟨_,h,H7 rfl (by simp only[Fc];rw[hu,he];simp only;rw[d,Ak]),h2⟩
   ·cases e
  ·cases e
 | slice t x lo hi mx=>
  simp only[hJ,Dg,Hf]at e;split at e
  ·rename_i e1 a4 a5 a6 A B q3 q4
   split at e
   ·rename_i n J hu
    split at e
    ·rename_i s hs
     obtain⟨i,o,rfl,d⟩:=Ph e;obtain⟨v,h2,p⟩:=Ny d;exact⟨v,h,H7 rfl (by simp only[Fc];rw[B,q3,q4];simp only;rw[hu,A];simp only[hs];exact h2),p⟩
    ·cases e
   ·rename_i J hu
    split at e
    ·rename_i s hs
     obtain⟨v,d,h2⟩:=Ny e;exact⟨v,h,H7 rfl (by simp only[Fc];rw[B,q3,q4];simp only;rw[hu,A];simp only;rw[hs];exact d),h2⟩
    ·cases e
   ·cases e
  ·cases e
 | makeSlice t l c=>
  simp only[hJ,Dg]at e;split at e
  ·rename_i l1 c1 J A B hu
   split at e
   ·rename_i z F
    obtain⟨v,h',d,h2⟩:=Yh e;refine⟨v,h',?_,h2⟩;unfold Vl at d;split at d
    ·show Dz T tm (.makeSlice t l c) h=_
     simp only[Dz];rw[hu,A,B];simp only;rw[F];exact d
    ·cases d
   ·cases e
  ·cases e
 | makeMap t rs=>
  cases rs with
  | none=>
   obtain⟨v,h',d,h2⟩:=Yh (show Am (uj h) k=some r from e);exact⟨v,h',d,h2⟩
  | some x=>cases e
 | makeChan t s=>
  simp only[hJ,Dg]at e;split at e
  ·rename_i s1 dd J A hu
   split at e
   ·rename_i n0 au
    obtain⟨v,h',d,h2⟩:=Yh e;refine⟨v,h',?_,h2⟩;unfold ug at d;split at d
    ·show Dz T tm (.makeChan t s) h=_
     simp only[Dz];rw[hu,A];simp only;rw[au];exact d
    ·cases d
   ·cases e
  ·cases e
 | lookup t x ix ok=>
  simp only[hJ,Dg]at e;split at e
  ·rename_i m1 i1 kt J A B hu
   obtain⟨v,h',d,h2⟩:=Yh e;refine⟨v,h',?_,h2⟩;unfold p' at d;split at d
   ·show Dz T tm (.lookup t x ix ok) h=_
    simp only[Dz];rw[hu,A,B];simp only;obtain⟨p,h4⟩:=Ap d;rw[p,Ak];split at h4
    ·rename_i es O
     rw[O];simp only;split at h4
     ·rename_i H;rw[H];exact h4
     ·rename_i H;rw[H];simp only
      obtain⟨zv,D,E⟩:=Ny h4;rw[D];exact E
     ·cases h4
    ·cases h4
   ·cases d
  ·cases e
 | mapUpdate t m ix x=>
  simp only[hJ,Dg]at e;split at e
  ·rename_i m1 i1 x1 kt J A B q3 hu
   obtain⟨v,h',d,h2⟩:=Yh e;refine⟨v,h',?_,h2⟩;unfold p_ at d;split at d
   ·show Dz T tm (.mapUpdate t m ix x) h=_
    simp only[Dz];rw[hu,A,B,q3];simp only;obtain⟨p,h4⟩:=Ap d;rw[p,Ak];split at h4
    ·rename_i es O
     rw[O];simp only;split at h4
     ·rename_i H;rw[H];exact h4
     ·rename_i H;rw[H];exact h4
     ·cases h4
    ·cases h4
   ·cases d
  ·cases e
 | select cs bl=>
  cases bl with
  | true=>cases e
  | false=>
   simp only[hJ,Dg]at e;split at e
   ·rename_i c ab
    split at e
    ·rename_i x hsend
     split at e
     ·rename_i c1 x1 zv A B F
      obtain⟨v,h',d,h2⟩:=Yh e;refine⟨v,h',?_,h2⟩;unfold oS at d;split at d
      ·show Dz T tm (.select cs false) h=_
       simp only[Dz];rw[ab];simp only;rw[A,hsend];simp only;split at d
       ·rename_i cap buf O
        rw[O,B];simp only;rw[F];exact d
       ·cases d
      ·cases d
     ·cases e
    ·rename_i hsend
     split at e
     ·rename_i c1 zv A F
      obtain⟨v,h',d,h2⟩:=Yh e;refine⟨v,h',?_,h2⟩;unfold oU at d;split at d
      ·show Dz T tm (.select cs false) h=_
       simp only[Dz];rw[ab];simp only;rw[A,hsend];simp only;split at d
       ·rename_i cap buf O
        rw[O,F];exact d
       ·cases d
      ·cases d
     ·cases e
   ·cases e
 | _=>cases e
theorem It(tm:Ba)(j i:Nat)(v:EV):tmp (tm.put j (some v)) i=if j=i then v else tmp tm i:=by
 unfold tmp;rw[Tr.get_put];by_cases h:j=i<;>simp[h]
theorem qn(n:Nat)(d:Option Tmp)(tm:Ba)(v:EV):iL n d (tmp tm) v=tmp (Po n tm d v):=by
 cases d with
 | none=>rfl
 | some d=>
  show Bb (Nat.ble (Nat.succ d) n) (sv (tmp tm) d v) (tmp tm)=tmp (Bb (Nat.ble (Nat.succ d) n) (tm.put d (some v)) tm);cases Nat.ble (Nat.succ d) n with
  | false=>rfl
  | true=>
   funext i;rw[Ak,Ak,It];show Bb (Nat.beq d i) v (tmp tm i)=_;by_cases e:d=i
   ·subst e;rw[aI rfl,cQ,Ak]
   ·rw[aG e,beq_false e,Bm]
theorem Bmj(ops:List Oper)(g:Nat × Bool)(tm:Ba):sA ops (tmp tm) g=wanted ops tm (some g):=by
 obtain⟨j,want⟩:=g;simp only[wanted,yielded];show(match kr ops j with|some o=>(match o.dst with|some d=>Er (tmp tm d) want|none=>false)|none=>false)=_;cases kr ops j with
 | none=>rfl
 | some o=>
  simp only;cases o.dst with
  | none=>rfl
  | some d=>
   simp only[tmp];cases tm.get d with
   | none=>rfl
   | some v=>cases v<;>first|rfl|(simp only[Er,PE])
def jX(ops:List Oper)(tm:Ba)(m:Mode):Prop:=∀g b,m=some (g,b)->wanted ops tm (some g)=b
theorem jX.none(ops:List Oper)(tm:Ba):jX ops tm none:=fun _ _ h=>by cases h
theorem Blr(h:OZ a b=true):a=b:=by cases a<;>cases b<;>first|rfl|cases h
theorem PG(hm:jX ops tm m){g:Nat × Bool}(h:qj m g=some b):wanted ops tm (some g)=b:=by
 unfold qj at h;cases m with
 | none=>cases h
 | some x=>
  obtain⟨⟨j,w⟩,e⟩:=x;simp only at h;obtain⟨d,h2⟩:=Ap h;cases h2;rw[Bq]at d;split at d
  ·rename_i hj
   have e1:j=g.1:=aL hj;have e2:w=g.2:=Blr d;have:g=(j,w):=by rw[e1,e2]
   rw[this];exact hm _ _ rfl
  ·cases d
theorem uP{g:Nat × Bool}(hw:wanted ops tm (some g)=b)(n:Nat)(dst:Option Tmp)(v:EV):jX ops (Po n tm dst v) (jQ ops g b dst):=by
 intro B C h;obtain⟨j,w⟩:=g;unfold jQ at h;simp only[wanted,yielded]at hw⊢;cases p:kr ops j with
 | none=>
  rw[p]at h hw;simp only at h hw;cases h;simp only[p];exact hw
 | some o=>
  rw[p]at h hw;simp only at h hw;cases hd:o.dst with
  | none=>
   rw[hd]at h hw;simp only at h hw;cases h;simp only[p,hd];exact hw
  | some d=>
   rw[hd]at h hw;simp only at h hw;cases dst with
   | none=>
    simp only at h;cases h;simp only[p,hd,Po];exact hw
   | some u=>
    simp only at h;rw[Bq]at h;split at h
    ·cases h
    ·rename_i y
     cases h;have q:u≠d:=fun e=>y (by rw[e];exact cQ _)
     have A:(Po n tm (some u) v).get d=tm.get d:=by
      show(Bb (Nat.ble (Nat.succ u) n) (tm.put u (some v)) tm).get d=_;rw[Bq];split
      ·rw[Tr.get_put,aG q]
      ·rfl
     simp only[p,hd,A];exact hw
theorem PH(hm:jX ops tm m){g:Nat × Bool}{A B:R}{r:EV × Ab}(e:(match qj m g with|some true=>A|some false=>B|none=>Bb (sA ops (tmp tm) g) A B)=some r):
 (wanted ops tm (some g)=true/\A=some r)\/(wanted ops tm (some g)=false/\B=some r):=by
 split at e
 ·rename_i d;exact .inl ⟨PG hm d,e⟩
 ·rename_i d;exact .inr ⟨PG hm d,e⟩
 ·rw[Bmj]at e
  cases hw:wanted ops tm (some g)with
  | true=>rw[hw,Ak]at e;exact .inl ⟨rfl,e⟩
  | false=>rw[hw,Bm]at e;exact .inr ⟨rfl,e⟩
theorem uQ{d:Option Tmp}(F:Ba->R):iY fl n tm d v F=F (xM fl n tm d v):=by cases fl<;>cases d<;>rfl
theorem xZ:∀{l:List Oper} {m:Mode} {tm t2:Ba} {h:Ab} {ds:List Nat} {r:EV × Ab},(fl=true->t2=tm)->jX ops tm m->qk fl T call call round n ops fin l m (tmp tm) t2 h ds=some r ->
 ∃d h' o,jz T call round n ops l tm h=some (d,h')/\(fl=true->o=d)/\fin (tmp d) o h' ds=some r
 | [],m,tm,t2,h,ds,r,p,_,e=>⟨tm,h,t2,rfl,p,e⟩
 | ⟨dst,op,ty,ps,E,g⟩::l,m,tm,t2,h,ds,r,p,hm,e=>by
  have hp:∀v,fl=true->xM fl n t2 dst v=Po n tm dst v:=fun v e=>by rw[p e];show Bb fl _ _=_;rw[e,Ak]
  have run:∀{q:Mode},(∀v,jX ops (Po n tm dst v) q)->hJ T call call round op (tmp tm) h (fun v h=>iY fl n t2 dst v fun t2=>qk fl T call call round n ops fin l q (iL n dst (tmp tm) v) t2 h ds)=some r ->
   ∃d h' o,(match aop T call round tm op h with|some (v,h')=>jz T call round n ops l (Po n tm dst v) h'|none=>none)=some (d,h')/\(fl=true->o=d)/\fin (tmp d) o h' ds=some r:=by
   intro q u e;obtain⟨v,h',B,h2⟩:=o8 e;rw[uQ,qn]at h2;obtain⟨y,A,t3,C,h4,D⟩:=xZ (hp v) (u v) h2;exact⟨y,A,t3,by rw[B];exact C,h4,D⟩
  simp only[jz];cases g with
  | none=>
   simp only[wanted,Ak];exact run (fun v=>jX.none _ _) e
  | some g=>
   rcases PH hm e with⟨hw,e'⟩|⟨hw,e'⟩
   ·rw[hw,Ak];exact run (fun v=>uP hw n dst v) e'
   ·rw[hw,Bm];rw[uQ,qn]at e';exact xZ (hp _) (uP hw n dst _) e'
end
end
theorem x_(h:Bb a b false=true):a=true/\b=true:=by cases a<;>simp_all [Bq]
theorem PI(h:cls op=.load):∃t x,op=.load t x:=by
 cases op<;>first|exact⟨_,_,rfl⟩|skip
 all_goals (first|(cases h;done)|skip)
 all_goals (simp only[cls,nO,Ak,Bm]at h;first|(cases h;done)|skip)
 all_goals exact absurd h (sD false _).2.1
theorem Boe{call:Ah}(o:oX T op=true)(u:cls op=.pur){h2:Ab}(d:aop T call round tm op h=some (v,h')):
 h'=h/\Dz T tm op h2=some (v,h2):=by
 have hp:=uR u;rw[ya hp]at d;refine⟨PJ hp d,?_⟩;unfold oX at o;rw[u]at o;simp only at o;split at o
 ·rename_i args p
  split at o
  ·rename_i t q
   split at o
   ·rename_i e hu
    simp only[Dz]at d⊢;split at d
    ·rename_i as has
     match as,d with
     | [x],d=>
      simp only[builtin]at d⊢;rw[q]at d⊢;simp only at d⊢;rw[hu]at d⊢;simp only at d⊢;split at d
      ·cases d;first|rfl|(rename_i n y;rw[y])
      ·cases d
     | [],d=>cases d
     | _::_::_,d=>cases d
    ·cases d
   ·cases o
  ·cases o
 ·rename_i args p
  simp only[Dz]at d⊢;split at d
  ·rename_i as has
   match as,d with
   | x::l,d=>
    cases x<;>first|(cases d;done)|skip
    simp only[builtin]at d⊢;split at d
    ·cases d;first|rfl|(rename_i hm;rw[hm])
    ·cases d
   | [],d=>cases d
  ·cases d
 ·rename_i args p
  simp only[Dz]at d⊢;split at d
  ·rename_i as has
   match as,d with
   | x::l,d=>
    cases x<;>first|(cases d;done)|skip
    simp only[builtin]at d⊢;split at d
    ·cases d;first|rfl|(rename_i hm;rw[hm])
    ·cases d
   | [],d=>cases d
  ·cases d
 ·cases o
theorem yb {T:Ig}{call round:Ah}{n:Nat}{ops:List Oper}{bs:Tr Nat}{h:Ab}{base:Nat}:
 ∀(l:List Oper) (i:Nat) (tm y:Ba) (h':Ab) (Cw:List (Nat × Nat)),uH T l=true->(∀k,k<l.length->∃b,bs.get (i+k)=some b)->jz T call round n ops l tm h=some (y,h') ->
  h'=h/\∃o,S7 T call round n ops bs base l i ⟨tm,h,0,[],Cw,[],[]⟩=some ⟨y,h,0,[],o,[],[]⟩
 | [],i,tm,y,h',Cw,_,_,e=>by cases e;exact⟨rfl,Cw,rfl⟩
 | ⟨dst,op,ty,ps,S,g⟩::l,i,tm,y,h',Cw,U,E,e=>by
  obtain⟨p,F⟩:=x_ (show Bb (oX T op) (uH T l) false=true from U);have D:∀k,k<l.length->∃b,bs.get (Nat.succ i+k)=some b:=fun k X=>by
   have:=E (k+1) (by simp;omega);rw[show Nat.succ i+k=i+(k+1) by omega];exact this
  obtain⟨b,B⟩:=E 0 (by simp);rw[dS]at B;simp only[jz]at e;cases hw:wanted ops tm g with
  | false=>
   rw[hw,Bm]at e;obtain⟨G,o,h2⟩:=yb l (Nat.succ i) _ _ _ Cw F D e;refine⟨G,o,?_⟩;simp only[S7,V9,hw,Bm];exact h2
  | true=>
   rw[hw,Ak]at e;split at e
   ·rename_i v G u
    have go:G=h->(∃A,V9 T call round n ops bs base ⟨dst,op,ty,ps,S,g⟩ i ⟨tm,h,0,[],Cw,[],[]⟩=some ⟨Po n tm dst v,h,0,[],A,[],[]⟩) ->
     h'=h/\∃o,S7 T call round n ops bs base (⟨dst,op,ty,ps,S,g⟩::l) i ⟨tm,h,0,[],Cw,[],[]⟩=some ⟨y,h,0,[],o,[],[]⟩:=by
     rintro rfl ⟨A,hd⟩;obtain⟨h2,o,L⟩:=yb l (Nat.succ i) _ _ _ A F D e;exact⟨h2,o,by simp only[S7,hd];exact L⟩
    cases C:cls op with
    | val=>
     have V:=yc C;unfold aop at u;rw[V,Ak]at u;split at u
     ·rename_i Y M
      cases u;refine go rfl ⟨Cw,?_⟩;simp only[V9,hw,Ak,B,C,M]
     ·cases u
    | load=>
     obtain⟨t,x,rfl⟩:=PI C;have d:Dz T tm (.load t x) h=some (v,G):=u;have H:=d;simp only[Dz]at d;split at d
     ·rename_i q off W
      have O:G=h:=by
       split at d
       ·split at d
        ·split at d
         ·cases d;rfl
         ·cases d
        ·cases d
       ·split at d
        ·cases d;rfl
        ·cases d
       ·cases d
      subst O;refine go rfl ⟨(Nat.shiftLeft 1 i,q)::Cw,?_⟩;have Q:within 0 b=true:=by unfold within;rw[show Nat.land 0 b=0 from Nat.zero_and b];rfl
      have J:Bb (Nat.ble (Nat.succ q) base) true (Bb (within 0 b) true false)=true:=by rw[Q];cases Nat.ble (Nat.succ q) base<;>rfl
      simp only[V9,hw,Ak,B,C,W,Fm,Yx,loose,J,H]
     ·cases d
    | pur=>
     obtain⟨h2,L⟩:=Boe (h2:=⟨.nil,h.next,h.next⟩) p C u;refine go h2 ⟨Cw,?_⟩;simp only[V9,hw,Ak,B,C,L]
    | new=>unfold oX at p;rw[C]at p;cases p
    | sto=>unfold oX at p;rw[C]at p;cases p
    | big=>unfold oX at p;rw[C]at p;cases p
   ·cases e
theorem A8j{call:Ah}(o:uI T ops=true){d:Ba}(e:jz T call round n ops ops tm h=some (d,h')):
 ly T call round n ops tm h=some (d,h'):=by
 obtain⟨u,o⟩:=x_ o;obtain⟨y,A⟩:=x_ o;have p:∀k,k<ops.length->∃b,(Oq ops 0 .nil).get (0+k)=some b:=fun k B=>by
  obtain⟨b,hb,_⟩:=yd ops 0 .nil (fun _ _=>rfl) k ops[k] (aD B);exact⟨b,hb⟩
 obtain⟨rfl,q,C⟩:=yb (bs:=Oq ops 0 .nil) (base:=h.next) ops 0 tm d h' [] u p e;unfold ly;rw[y,Ak,A,Ak,C]
theorem Bs2(h:b=true){x y:α}:Bb b x y=x:=by rw[h];rfl
theorem Bkn{call:Ah}:aop T call round tm (.load t x) h=Dz T tm (.load t x) h:=rfl
theorem Bp1{call:Ah}{a:Operand}:aop T call round tm (.store t a x) h=Dz T tm (.store t a x) h:=rfl
theorem Bo5(h:cls op=.sto):∃t a x,op=.store t a x:=by
 cases op<;>first|exact⟨_,_,_,rfl⟩|skip
 all_goals (first|(cases h;done)|skip)
 all_goals (first
  | (rename_i c;exact absurd (show Bb false lC.val (Bb (mF (.call c)) .pur .big)=.sto from h) (sD _ _).2.2)
  | exact absurd h (sD _ _).2.2)
theorem Bbk{call:Ah}(d:cls op=.new):aop T call round tm op h=Dz T tm op h:=by
 rcases ye d with⟨_,rfl⟩|⟨_,_,rfl⟩|⟨_,_,_,rfl⟩|⟨_,_,_,rfl⟩|⟨_,_,rfl⟩|⟨_,_,rfl⟩<;>rfl
def DX.with(s:DX)(tm:Ba)(h:Ab):iZ:=⟨tm,h,s.bg,s.nw,s.Cw,s.lou,s.st⟩
theorem yf{call:Ah}{bs:Tr Nat}{base:Nat}{r:EV × Ab}:∀{l:List Oper} {i:Nat} {m:Mode} {s:DX} {tm t2:Ba} {h:Ab},(fl=true->t2=tm)->jX ops tm m ->
 lr fl T call call round n ops bs base fin l i m s (tmp tm) t2 h ds=some r->∃s' y,S7 T call round n ops bs base l i (s.with tm h)=some s'/\(fl=true->y=s'.tm)/\fin (tmp s'.tm) y s'.h ds=some r
 | [],i,m,s,tm,t2,h,J,_,e=>⟨s.with tm h,t2,rfl,J,e⟩
 | ⟨dst,op,ty,ps,L,g⟩::l,i,m,s,tm,t2,h,J,hm,e=>by
  have hp:∀v,fl=true->xM fl n t2 dst v=Po n tm dst v:=fun v e=>by rw[J e];show Bb fl _ _=_;rw[e,Ak]
  cases hb:bs.get i with
  | none=>simp only[lr,hb]at e;cases e
  | some b=>
   have run:∀{mk:Mode},(∀v,jX ops (Po n tm dst v) mk)->wanted ops tm g=true->nM T call call round op i b base s (tmp tm) h (fun s v h=>iY fl n t2 dst v fun t2=>lr fl T call call round n ops bs base fin l (Nat.succ i) mk s (iL n dst (tmp tm) v) t2 h ds)=some r ->
    ∃s' y,S7 T call round n ops bs base (⟨dst,op,ty,ps,L,g⟩::l) i (s.with tm h)=some s'/\(fl=true->y=s'.tm)/\fin (tmp s'.tm) y s'.h ds=some r:=by
    intro mk M hw e2;have p:∀{v:EV} {B:Ab} {s1:DX},(iY fl n t2 dst v fun t2=>lr fl T call call round n ops bs base fin l (Nat.succ i) mk s1 (iL n dst (tmp tm) v) t2 B ds)=some r ->
     V9 T call round n ops bs base ⟨dst,op,ty,ps,L,g⟩ i (s.with tm h)=some (s1.with (Po n tm dst v) B) ->
     ∃s' y,S7 T call round n ops bs base (⟨dst,op,ty,ps,L,g⟩::l) i (s.with tm h)=some s'/\(fl=true->y=s'.tm)/\fin (tmp s'.tm) y s'.h ds=some r:=by
     intro v B s1 e3 hd;rw[uQ,qn]at e3;obtain⟨s',t3,h2,A,h4⟩:=yf (hp v) (M v) e3;exact⟨s',t3,by simp only[S7,hd];exact h2,A,h4⟩
    unfold nM at e2;cases u:cls op with
    | val=>
     rw[u]at e2;obtain⟨v,B,h2,A⟩:=o8 e2;have U:=yc u;unfold aop at h2;rw[U,Ak]at h2;split at h2
     ·rename_i W O
      cases h2;refine p A ?_;simp only[V9,DX.with,hw,Ak,hb,u,O]
     ·cases h2
    | load=>
     rw[u]at e2;obtain⟨t,x,rfl⟩:=PI u;simp only[Dg]at e2;split at e2
     ·rename_i ex C
      obtain⟨q,o,B,h2⟩:=Ph e2;obtain⟨A,h4⟩:=Ap h2;obtain⟨v,D,E,F⟩:=o8 h4;rw[Bkn]at E;rw[B]at C;have Q:D=h:=by
       have d:=E;simp only[Dz]at d;rw[C]at d;simp only at d;split at d
       ·split at d
        ·split at d
         ·cases d;rfl
         ·cases d
        ·cases d
       ·split at d
        ·cases d;rfl
        ·cases d
       ·cases d
      subst Q;refine p F ?_;unfold tZ at A;simp only[V9,DX.with,hw,Ak,hb,u,C,E,DX.ld];exact Bs2 A
     ·cases e2
    | new=>
     rw[u]at e2;simp only[oH]at e2;obtain⟨v,B,h2,A⟩:=o8 e2;rw[Bbk u]at h2;refine p A ?_;simp only[V9,DX.with,hw,Ak,hb,u,h2,DX.new]
    | sto=>
     rw[u]at e2;obtain⟨t,a,x,rfl⟩:=Bo5 u;simp only[Dg]at e2;split at e2
     ·rename_i ex C
      obtain⟨q,o,B,h2⟩:=Ph e2;obtain⟨A,h4⟩:=Ap h2;obtain⟨v,D,E,F⟩:=o8 h4;rw[Bp1]at E;rw[B]at C;refine p F ?_;unfold pW at A;simp only[V9,DX.with,hw,Ak,hb,u,C,A,E,DX.sto]
     ·cases e2
    | pur=>
     rw[u]at e2;simp only[OY]at e2;obtain⟨v,B,h2,A⟩:=o8 e2;rw[ya (uR u)]at h2;refine p A ?_;simp only[V9,DX.with,hw,Ak,hb,u,h2]
    | big=>
     rw[u]at e2;obtain⟨B,h2⟩:=Ap e2;obtain⟨v,A,h4,D⟩:=o8 h2;obtain⟨t,nx,mw⟩:=h;obtain⟨V,S,G⟩:=A;have H:aop T call round tm op ⟨kq t (loose b s.nw),nx,nx⟩=some (v,⟨V,S,G⟩):=h4;unfold Abu at B;unfold Mp at D;simp only at D;cases hle:Nat.ble nx G with
     | true=>
      rw[hle,Ak]at D;refine p D ?_;simp only[V9,DX.with,hw,Ak,hb,u,B,H,hle,DX.big]
     | false=>
      rw[hle,Bm]at D;obtain⟨E,F⟩:=Ap D;refine p F ?_;simp only[V9,DX.with,hw,Ak,Bm,hb,u,B,H,hle,E,DX.iI]
   have e1:(match bs.get i with|none=>none|some b=>(@Option.rec (Nat × Bool) (fun _=>R) (nM T call call round op i b base s (tmp tm) h (fun s v h=>iY fl n t2 dst v fun t2=>lr fl T call call round n ops bs base fin l (Nat.succ i) none s (iL n dst (tmp tm) v) t2 h ds))
    (fun g=>match qj m g with
     | some true=>nM T call call round op i b base s (tmp tm) h (fun s v h=>iY fl n t2 dst v fun t2=>lr fl T call call round n ops bs base fin l (Nat.succ i) (jQ ops g true dst) s (iL n dst (tmp tm) v) t2 h ds)
     | some false=>iY fl n t2 dst (.tuple []) fun t2=>lr fl T call call round n ops bs base fin l (Nat.succ i) (jQ ops g false dst) s (iL n dst (tmp tm) (.tuple [])) t2 h ds
     | none=>Bb (sA ops (tmp tm) g) (nM T call call round op i b base s (tmp tm) h (fun s v h=>iY fl n t2 dst v fun t2=>lr fl T call call round n ops bs base fin l (Nat.succ i) (jQ ops g true dst) s (iL n dst (tmp tm) v) t2 h ds)) (iY fl n t2 dst (.tuple []) fun t2=>lr fl T call call round n ops bs base fin l (Nat.succ i) (jQ ops g false dst) s (iL n dst (tmp tm) (.tuple [])) t2 h ds)) g:R))=some r:=e
   rw[hb]at e1;cases g with
   | none=>exact run (fun v=>jX.none _ _) rfl e1
   | some g=>
    rcases PH hm e1 with⟨hw,e'⟩|⟨hw,e'⟩
    ·exact run (fun v=>uP hw n dst v) hw e'
    ·rw[uQ,qn]at e'
     obtain⟨s',t3,h2,A,h4⟩:=yf (hp _) (uP hw n dst _) e';refine⟨s',t3,?_,A,h4⟩;simp only[S7,V9,DX.with,hw,Bm];exact h2
theorem Bcn{t2:Ba}{call:Ah}{r:EV × Ab}(q:fl=true->t2=tm)(e:uL fl T call call round n ops fin (tmp tm) t2 h ds=some r):
 ∃d h' o,ly T call round n ops tm h=some (d,h')/\(fl=true->o=d)/\fin (tmp d) o h' ds=some r:=by
 unfold uL at e;obtain⟨u,e⟩:=Ap e;obtain⟨h2,e⟩:=Ap e;obtain⟨⟨d,h',y,A,B,C,D⟩,t3,E,h4,F⟩:=yf q (jX.none _ _) e;refine⟨d,h',t3,?_,h4,F⟩;unfold ly;rw[u,Ak,h2,Ak];have p:S7 T call round n ops (Oq ops 0 .nil) h.next ops 0 ⟨tm,h,0,[],[],[],[]⟩=some ⟨d,h',y,A,B,C,D⟩:=E
 rw[p]
section
inductive Reach (step:Hp->AR):Hp->Hp->Prop where
 | refl (s:Hp):Reach step s s
 | head {s s1 s2:Hp}:step s=.go s1->Reach step s1 s2->Reach step s s2
def Ends(step:Hp->AR)(s:Hp)(r:EV × Ab):Prop:=∃s1,Reach step s s1/\step s1=.done r.1 r.2
theorem Ends.go {step:Hp->AR}{s s1:Hp}{r:EV × Ab}(h:step s=.go s1)(e:Ends step s1 r):Ends step s r:=by
 obtain⟨s2,d,h2⟩:=e;exact⟨s2,.head h d,h2⟩
theorem Ends.done {step:Hp->AR}{s:Hp}{r:EV × Ab}(h:step s=.done r.1 r.2):Ends step s r:=⟨s,.refl s,h⟩
theorem Ends.congr {step:Hp->AR}{s s':Hp}{r:EV × Ab}(h:step s=step s')(e:Ends step s r):Ends step s' r:=by
 obtain⟨s2,d,h2⟩:=e;cases d with
 | refl=>exact⟨s',.refl s',by rw[<-h];exact h2⟩
 | head o h4=>exact⟨s2,.head (by rw[<-h];exact o) h4,h2⟩
section
variable (fl:Bool)(T:Ig)(call round:Ah)(fn n:Nat)(Dt:Option Nat)
def At(cd:CD)(todo:List Item):Prop:=∀tm t2 h ds r,((fl=true->t2=tm)/\(fl=false->ds = []))->cd (tmp tm) t2 h ds=some r->Ends (Cq T call round) ⟨⟨fn,n,tm,todo,ds,false,Dt⟩,h⟩ r
end
section
variable{call:Ah}{fn:Nat}{Dt:Option Nat}
theorem At.bad(todo:List Item):At fl T call round fn n Dt (fun _ _ _ _=>none) todo:=fun _ _ _ _ _ _ e=>(by cases e)
theorem At.step{a b:List Item}(hs:∀tm h ds,Cq T call round ⟨⟨fn,n,tm,a,ds,false,Dt⟩,h⟩=.go ⟨⟨fn,n,tm,b,ds,false,Dt⟩,h⟩)(h:At fl T call round fn n Dt cf b):At fl T call round fn n Dt cf a:=
 fun tm t2 h' ds r d e=>(h tm t2 h' ds r d e).go (hs tm h' ds)
theorem At.exit{id:Nat}{a b:List Item}(hs:exitTo id a=exitTo id b)(h:At fl T call round fn n Dt cf (.code (.exit id)::a)):At fl T call round fn n Dt cf (.code (.exit id)::b):=by
 intro tm t2 h' ds r d e;refine(h tm t2 h' ds r d e).congr ?_;simp only[Cq];rw[hs];cases exitTo id b with
 | some k=>rfl
 | none=>simp only[leave]
theorem Bgc(out:Nat->CD)(id:Nat)(k:CD)(env:iU)(d:Nat):o7 out ((id,k)::env) d=Bb (Nat.beq id d) k (o7 out env d):=by
 funext e tm h ds;show Bb (Nat.beq id d) (k e tm h ds) (o7 out env d e tm h ds)=_;cases Nat.beq id d<;>rfl
theorem PK {k:Ab->R}{ex:Nat->Ab->R}{ret:Ab->R}{o:List Item}{l:Nat}{r:R}{x:EV × Ab}(q:∀h,k h=some x->Ends (Cq T call round) ⟨⟨fn,n,tm,o,ds,false,Dt⟩,h⟩ x)
 (hex:∀id h,ex id h=some x->Ends (Cq T call round) ⟨⟨fn,n,tm,.code (.exit id)::o,ds,false,Dt⟩,h⟩ x) (d:∀h,ret h=some x->Ends (Cq T call round) ⟨⟨fn,n,tm,.code .ret::o,ds,false,Dt⟩,h⟩ x) (e:nK l r k ex ret=some x) :
 ∃s',behind fn n tm ds Dt l o r=.go s'/\Ends (Cq T call round) s' x:=by
 unfold nK at e;unfold behind;split at e
 ·cases e
 ·split at e
  ·rename_i p
   split at e
   ·cases e
   ·rename_i u
    split at e
    ·simp only;rw[p];simp only;exact⟨_,rfl,q _ e⟩
    ·simp only;rw[p];simp only;exact⟨_,rfl,hex _ _ e⟩
    ·simp only;rw[p];simp only;exact⟨_,rfl,d _ e⟩
    ·cases e
  ·cases e
theorem X7 {fuel:Nat}{out:Nat->CD}{ret:CD}(p:∀o,At fl T call round fn n Dt ret (.code .ret::o)):∀(c:Code) (env:iU) (k:CD) (o:List Item),
 At fl T call round fn n Dt k o->(∀id,At fl T call round fn n Dt (o7 out env id) (.code (.exit id)::o))->At fl T call round fn n Dt (jm fl T call call round fuel fn n Dt out ret c env k) (.code c::o)
 | .skip,env,k,o,q,d=>At.step (fun _ _ _=>rfl) q
 | .region id ops dr,env,k,o,q,d=>by
  intro tm t2 h ds r u e;have plain:qk fl T call call round n ops.toList k ops.toList none (tmp tm) t2 h ds=some r->(∀y h',jz T call round n ops.toList ops.toList tm h=some (y,h')->Cq T call round ⟨⟨fn,n,tm,.code (.region id ops dr)::o,ds,false,Dt⟩,h⟩=.go ⟨⟨fn,n,y,o,ds,false,Dt⟩,h'⟩) ->
   Ends (Cq T call round) ⟨⟨fn,n,tm,.code (.region id ops dr)::o,ds,false,Dt⟩,h⟩ r:=fun e hs=>by
   obtain⟨y,h',t3,A,E,h2⟩:=xZ u.1 (jX.none _ _) e;exact(q _ _ _ _ _ ⟨E,u.2⟩ h2).go (hs _ _ A)
  cases dr with
  | false=>exact plain e fun y h' A=>by simp only[Cq];rw[A]
  | true=>
   have e':Bb (uI T ops.toList) (qk fl T call call round n ops.toList k ops.toList none) (uL fl T call call round n ops.toList k) (tmp tm) t2 h ds=some r:=e;cases F:uI T ops.toList with
   | true=>
    rw[F,Ak]at e';exact plain e' fun y h' A=>by simp only[Cq];rw[A8j F A]
   | false=>
    rw[F,Bm]at e';obtain⟨y,h',t3,A,E,h2⟩:=Bcn u.1 e';exact(q _ _ _ _ _ ⟨E,u.2⟩ h2).go (by simp only[Cq];rw[A])
 | .seq a b,env,k,o,q,d=>by
  have hb:=X7 (fuel:=fuel) p b env k o q d;exact At.step (fun _ _ _=>rfl) (X7 (fuel:=fuel) p a env _ (.code b::o) hb fun id=>At.exit (a:=o) (b:=.code b::o) rfl (d id))
 | .cond c a b,env,k,o,q,d=>by
  have J:=X7 (fuel:=fuel) p a env k o q d;have hb:=X7 (fuel:=fuel) p b env k o q d;intro tm t2 h ds r u e;have e':(match Ep (tmp tm) c with|some e=>hQ e (jm fl T call call round fuel fn n Dt out ret a env k (tmp tm) t2 h ds) (jm fl T call call round fuel fn n Dt out ret b env k (tmp tm) t2 h ds)|none=>none)=some r:=e;rw[Dg]at e';split at e'
  ·rename_i e1 he
   obtain⟨b,rfl,h2⟩:=xT e';cases b
   ·exact(hb _ _ _ _ _ u h2).go (by simp only[Cq];rw[he])
   ·exact(J _ _ _ _ _ u h2).go (by simp only[Cq];rw[he])
  ·cases e'
 | .block id c,env,k,o,q,d=>by
  refine At.step (b:=.code c :: .inBlock id::o) (fun _ _ _=>rfl) (X7 p c ((id,k)::env) k (.inBlock id::o) (At.step (fun _ _ _=>rfl) q) fun B=>?_);rw[Bgc,Bq];split
  ·rename_i C
   have:=aL C;subst this;exact At.step (fun _ _ _=>by simp[Cq,exitTo]) q
  ·rename_i C
   refine(d B).exit ?_;have:(id == B)=false:=by
    cases hb:(id == B)with
    | false=>rfl
    | true=>exact absurd (by simpa using hb:id=B) (fun e=>C (by subst e;exact cQ _))
   simp[exitTo,this]
 | .loop c,env,k,o,q,d=>by
  have key:∀m,At fl T call round fn n Dt (qa (fun G=>jm fl T call call round fuel fn n Dt out ret c env G) m) (.code c :: .inLoop c::o):=by
   intro m;induction m with
   | zero=>exact At.bad _
   | succ m G=>exact X7 p c env _ (.inLoop c::o) (At.step (fun _ _ _=>rfl) G) fun id=>At.exit (a:=o) (b:=.inLoop c::o) rfl (d id)
  exact At.step (fun _ _ _=>rfl) (key fuel)
 | .rangeFunc f ps b_ body,env,k,o,q,d=>by
  intro tm t2 h ds r u e;obtain⟨D,e'⟩:=Ap (show Bb fl (match Ep (tmp tm) f with|some e=>xN call fn n Dt e ps.toList b_ body t2 h ds (fun h ds=>k (tmp tm) t2 h ds) (fun id h ds=>o7 out env id (tmp tm) t2 h ds) (fun h ds=>ret (tmp tm) t2 h ds)|none=>none) none=some r from e);have e2:=u.1 D;subst e2;have u:∀{ds:List Nat},((fl=true->t2=t2)/\(fl=false->ds = [])):=fun {_}=>⟨fun _=>rfl,fun x=>by rw[D]at x;cases x⟩
  rw[Dg]at e';split at e'
  ·rename_i e1 H
   unfold xN at e';split at e'
   ·split at e'
    ·obtain⟨s',A,h2⟩:=PK (fun h e=>q _ _ _ _ _ u e) (fun id h e=>d id _ _ _ _ _ u e) (fun h e=>p o _ _ _ _ _ u e) e'
     exact h2.go (by simp only[Cq];rw[H];exact A)
    ·split at e'
     ·rename_i L
      obtain⟨s',A,h2⟩:=PK (fun h e=>q _ _ _ _ _ u e) (fun id h e=>d id _ _ _ _ _ u e) (fun h e=>p o _ _ _ _ _ u e) e';exact h2.go (by simp only[Cq];rw[H];simp only;rw[L];exact A)
     ·cases e'
   ·cases e'
  ·cases e'
 | .exit id,env,k,o,q,d=>d id
 | .scope c,env,k,o,q,d=>At.bad _
 | .label l,env,k,o,q,d=>At.step (fun _ _ _=>rfl) q
 | .goto l,env,k,o,q,d=>At.bad _
 | .ret,env,k,o,q,d=>p o
 | .refuse w,env,k,o,q,d=>At.bad _
theorem Bom(T:Ig)(res:List ResultVar)(tm:Ba)(h:Ab):mE T res (tmp tm) h=match Nb T tm h res with|some [v]=>some (v,h)|some l=>some (.tuple l,h)|none=>none:=by
 have e:∀l:List ResultVar,Nb T tm h l=kg T h (l.map (uM (tmp tm))):=by
  intro l;induction l with
  | nil=>rfl
  | cons a r d=>
   cases a with
   | tmp t=>simp only[Nb,dQ,uM,kg,d];rfl
   | cell a t=>simp only[Nb,dQ,uM,kg,d];cases tmp tm a<;>rfl
 unfold mE;split
 ·rfl
 ·rfl
 ·rfl
 ·rw[e];rfl
theorem yg {f:Func}(q:T.fn fn=some f):∀{ds:List Nat} {h:Ab} {r:EV × Ab},Fz ds h (fun h=>mE T f.results.toList (tmp tm) h)=some r ->
 Ends (Cq T call round) ⟨⟨fn,n,tm,todo,ds,true,Dt⟩,h⟩ r
 | [],h,r,e=>by
  have e':mE T f.results.toList (tmp tm) h=some r:=e;rw[Bom]at e';refine .done ?_;simp only[Cq];rw[q];simp only;split at e'
  ·rename_i v u;cases e';rw[u]
  ·rename_i l p y
   cases e';rw[y];split
   ·rename_i v o;cases o;exact(p v rfl).elim
   ·rename_i o;cases o;rfl
   ·rename_i o;cases o
  ·cases e'
 | d::ds,h,r,e=>by
  have e':(match h.get d with|some (.deferred true)=>Fz ds (h.put d (.deferred false)) (fun h=>mE T f.results.toList (tmp tm) h)|_=>none)=some r:=e;split at e'
  ·rename_i A
   exact(yg q e').go (by simp only[Cq];rw[A])
  ·cases e'
theorem Bpy {f:Func}(o:T.fn fn=some f):(∀p,At fl T call round fn n none (sC fl T f.results.toList) (.code .ret::p))/\At fl T call round fn n none (sC fl T f.results.toList) []:=
 by
 have k:∀{tm:Ba} {h:Ab} {ds:List Nat} {r:EV × Ab} {todo:List Item},(fl=false->ds = [])->Bb fl (Fz ds h fun h=>mE T f.results.toList (tmp tm) h) (mE T f.results.toList (tmp tm) h)=some r->Ends (Cq T call round) ⟨⟨fn,n,tm,todo,ds,true,none⟩,h⟩ r:=fun hd e=>by
  cases fl with
  | true=>exact yg o e
  | false=>rw[hd rfl]at *;exact yg (ds:=[]) o e
 exact⟨fun _ _ _ _ _ _ d e=>(k d.2 e).go rfl,fun _ _ _ _ _ d e=>(k d.2 e).go rfl⟩
theorem Boh(tm:Ba)(d:Nat)(v:EV):sv (tmp tm) d v=tmp (tm.put d (some v)):=by
 have:=qn (Nat.succ d) (some d) tm v;simp only[iL,Po]at this
 rwa [show Nat.ble (Nat.succ d) (Nat.succ d)=true from aQ (aE _),Ak,Ak]at this
theorem PL:∀(l:List EV) (i:Nat) (tm:Ba),rY l i (tmp tm)=tmp (setArgs l i tm)
 | [],_,_=>rfl
 | v::r,i,tm=>by
  show rY r (Nat.succ i) (sv (tmp tm) i v)=_;rw[Boh,PL r];rfl
theorem PM:∀{ps:List Tmp} {args:List EV} {tm d:Ba},Wh ps args n tm=some d->rZ n ps args (tmp tm)=tmp d
 | [],[],tm,d,e=>by cases e;rfl
 | [],_::_,_,_,e=>by cases e
 | _::_,[],_,_,e=>by cases e
 | p::r,v::s,tm,d,e=>by
  show rZ n r s (iL n (some p) (tmp tm) v)=_;rw[qn];exact PM e
theorem Bg1 {f:Nat}{r:EV × Ab}(e:kZ T call round fuel f args h=some r):∃fr,enter T f args=some fr/\Ends (Cq T call round) ⟨fr,h⟩ r:=by
 unfold kZ at e;split at e
 ·rename_i name origin targs params p nfree q res c A ours file el B met C d
  obtain⟨o,h2⟩:=Ap e;rw[nN]at o;rw[show(u0:VS)=tmp .nil from rfl,PL]at h2;obtain⟨u,y⟩:=Bpy (call:=call) (round:=round) (n:=q) d;refine⟨_,by unfold enter;rw[d];simp only;rw[o,Ak],?_⟩;exact X7 u _ [] _ [] y (fun id=>At.bad _) _ _ _ _ _ ⟨fun _=>rfl,fun _=>rfl⟩ h2
 ·cases e
theorem Bif(l:Nat):(∀d,At fl T call round fn n (some l) (fun _ _ h _=>Xh l false .done (some .ret) h) (.code .ret::d)) /\
 (∀id d,exitTo id d=none->At fl T call round fn n (some l) (fun _ _ h _=>Xh l false .done (some (.exit id)) h) (.code (.exit id)::d))/\At fl T call round fn n (some l) (fun _ _ h _=>Xh l true .ready none h) []:=by
 refine⟨?_,?_,?_⟩
 ·intro d tm t2 h ds r _ e
  simp only[Xh]at e;split at e
  ·rename_i o;cases e;exact .done (by simp only[Cq,leave];rw[o])
  ·cases e
 ·intro id d p tm t2 h ds r _ e
  simp only[Xh]at e;split at e
  ·rename_i o;cases e;exact .done (by simp only[Cq];rw[p];simp only[leave];rw[o])
  ·cases e
 ·intro tm t2 h ds r _ e
  simp only[Xh]at e;split at e
  ·rename_i o;cases e;exact .done (by simp only[Cq,leave];rw[o])
  ·cases e
theorem PN {l:Nat}{r:EV × Ab}(e:qd T call round fuel l args h=some r):∃fr,uS l args h=some fr/\Ends (Cq T call round) ⟨fr,h⟩ r:=by
 unfold qd at e;split at e
 ·rename_i st E f u tm ps b_ body d B
  split at e
  ·rename_i p o
   refine⟨⟨f,u,p,[.code b_,.beginRound,.code body],[],false,some l⟩,by unfold uS;rw[B];simp only;rw[o],?_⟩;obtain⟨y,A,C⟩:=Bif (fl:=true) (T:=T) (call:=call) (round:=round) (fn:=f) (n:=u) l;rw[PM o]at e;refine X7 (out:=fun id _ _ h _=>Xh l false .done (some (.exit id)) h) y b_ [] _ [.beginRound,.code body] (fun tm t2 h ds r D e=>?_) (fun id=>A id _ rfl) _ _ _ _ _ ⟨fun _=>rfl,fun x=>by cases x⟩ e;simp only[Fi]at e;split at e
   ·rename_i q
    exact(X7 (fuel:=fuel) (out:=fun id _ _ h _=>Xh l false .done (some (.exit id)) h) y body [] _ [] C (fun id=>A id [] rfl) _ _ _ _ _ D e).go (by simp only[Cq];rw[q])
   ·cases e
  ·cases e
 ·cases e
end
structure Good(P:Program)(g:Nat)(args:List EV)(h:Ab)(v:EV)(h':Ab):Prop where
 fn:∃fn,P.funcs[g]? = some fn/\fn.body.isSome=true/\(fn.name == "runtime.NumGoroutine")=false
 run:∀p f w,T1 p h->T7 f h w->EV.Tx p args->∀cs,∃fr f' w',Steps P (lone (Frame.enter P g (Bw f args).toArray .normal) cs w) (lone fr cs w')/\fr.fn=g /\
  fr.leaving P w' (.returned (Cr f' v))/\Move p f h w f' h' w'/\Wf p h h'/\v.ok (grow p h h')
 wf:AWf h h'
def yh(P:Program)(g:Nat)(F:qb):Prop:=∀args h v h',F args h=some (v,h')->Good P g args h v h'
def Sound(P:Program)(c:Ah):Prop:=∀g,yh P g (c g)
def uT(P:Program)(c:Ah):Prop:=o9 P c/\Wc c
theorem Sound.call{c:Ah}(h:Sound P c):kJ P c:=fun g args d v h' e=>⟨(h g args d v h' e).fn,(h g args d v h' e).run⟩
theorem Sound.w{c:Ah}(h:Sound P c):Wc c:=fun g args d v h' e=>(h g args d v h' e).wf
theorem Sound.of{c:Ah}(d:kJ P c)(h2:Wc c):Sound P c:=fun g args h v h' e=>⟨(d g args h v h' e).1,(d g args h v h' e).2,h2 g args h v h' e⟩
section
variable(hT:Qg P T){call:Ah}(hC:Sound P call)(hR:uT P round)
include hT hC hR
theorem yi {s s':Hp}(h:Reach (Cq T call round) s s'):qo P s s'/\AWf s.h s'.h:=by
 induction h with
 | refl s=>exact⟨fun p f w cs d e o=>im.refl d e o,.refl _⟩
 | @head s s1 s2 q _ u=>
  have a:qo P s s1:=fun p f w cs d e o=>Blx hT hC.call hR.1 hC.w hR.2 q d e o cs
  exact⟨a.trans u.1,(yj hC.w hR.2 (.inl ⟨s1,q,rfl⟩)).trans u.2⟩
theorem Bqn(fuel g:Nat):yh P g (kZ T call round fuel g):=by
 intro args h v h' C;obtain⟨fr,o,s1,D,e⟩:=Bg1 C;obtain⟨A,hw⟩:=yi hT hC hR D;simp only at e;unfold enter at o;split at o
 ·rename_i name origin targs params L nfree n results c U ours file el V met W E
  obtain⟨hle,o⟩:=Ap o;cases o;have u:args.length<=n:=by have:=bL hle;rwa [Ye]at this
  obtain⟨y,B⟩:=hT.fn _ _ E;refine⟨⟨_,y,rfl,B⟩,fun p f w M O Q cs=>?_,hw.trans (yj hC.w hR.2 (.inr ⟨v,e⟩))⟩;have F:Yu p ⟨g,n,setArgs args 0 .nil,[.code c],[],false,none⟩:=⟨Bme u Q,fun d hd=>(by cases hd),fun l S=>(by cases S),fun x=>(by cases x)⟩;obtain⟨f1,w1,hs,hm,hwf,G,e1,e2⟩:=A p f w cs F M O;have q:=PO hT e G hwf.hok hm.rep;unfold Fin at q;rw[e2]at q;obtain⟨rfl,H,J⟩:=q;refine⟨_,f1,w1,?_,e1,H,hm,hwf,J⟩;have he:Frame.enter P g (Bw f args).toArray .normal=Ov f ⟨g,n,setArgs args 0 .nil,[.code c],[],false,none⟩:=by
   unfold Frame.enter Ov;rw[Bcm f u];simp[y]
  rw[he];exact hs
 ·cases o
theorem Bhg(fuel:Nat):uT P (qd T call round fuel):=by
 constructor
 ·intro l args h v h' B
  obtain⟨fr,e,s1,C,o⟩:=PN B;obtain⟨u,hw⟩:=yi hT hC hR C;simp only at o;unfold uS at e;split at e
  ·rename_i st S fn n tm ps b_ body dd F
   split at e
   ·rename_i D E
    cases e;refine⟨st,S,fn,n,tm,ps,b_,body,dd,D,F,E,fun p f w G U V caller cs=>?_⟩;obtain⟨_,H,_⟩:=yk f E V (G.get l _ F).2.1;have J:Yu p ⟨fn,n,D,[.code b_,.beginRound,.code body],[],false,some l⟩:=⟨H,fun d hd=>(by cases hd),fun l' W=>(by cases W;exact(G.get l _ F).1),fun x=>(by cases x)⟩;obtain⟨f1,w1,hs,hm,hwf,L,e1,e2⟩:=u p f w (caller::cs) J G U;have y:=PO hT o L hwf.hok hm.rep;unfold Fin at y;rw[e2]at y;obtain⟨w2,M,O,A,Q⟩:=y caller cs;refine⟨f1,w2,?_,hm.trans O,hwf.trans A,EV.ok.mono (fun q X=>?_) _ Q⟩
    ·exact hs.trans M
    ·rw[<-qp p hwf.next A.next];exact .inl X
   ·cases e
  ·cases e
 ·intro l args h v h' B
  obtain⟨fr,e,s1,C,o⟩:=PN B;obtain⟨u,hw⟩:=yi hT hC hR C;unfold uS at e;split at e
  ·split at e
   ·cases e;exact hw.trans (yj hC.w hR.2 (.inr ⟨v,o⟩))
   ·cases e
  ·cases e
end
end
noncomputable section
abbrev FT:=Ah->Ah->Nat->qb
def o_(P:Program)(g:Nat)(F:FT):Prop:=∀call round K,Sound P call->uT P round->yh P g (F call round K)
def Ag(T:Ig)(disp:Nat->Option FT)(K:Nat):Nat->Bool->Ah:=
 @Nat.rec (fun _=>Bool->Ah) (fun _ _ _ _=>none)
  (fun _ d b=>@Bool.rec (fun _=>Ah) (fun f=>@Option.rec FT (fun _=>qb) (kZ T (d false) (d true) K f) (fun F=>F (d false) (d true) K) (disp f)) (fun l=>qd T (d false) (d true) K l) b)
theorem yl(hT:Qg P T){disp:Nat->Option FT}(p:∀g F,disp g=some F->o_ P g F)(K:Nat):∀d,Sound P (Ag T disp K d false)/\uT P (Ag T disp K d true)
 | 0=>⟨fun _ _ _ _ _ e=>(by cases e),fun _ _ _ _ _ e=>(by cases e),fun _ _ _ _ _ e=>(by cases e)⟩
 | d+1=>by
  obtain⟨c1,o⟩:=yl hT p K d;constructor
  ·intro g
   have e:Ag T disp K (d+1) false g = @Option.rec FT (fun _=>qb) (kZ T (Ag T disp K d false) (Ag T disp K d true) K g) (fun F=>F (Ag T disp K d false) (Ag T disp K d true) K) (disp g):=rfl;rw[e];cases q:disp g with
   | none=>exact Bqn hT c1 o K g
   | some F=>exact p g F q _ _ K c1 o
  ·exact Bhg hT c1 o K
def uU:List UInt8->List UInt8->Bool
 | [],[]=>true
 | a::r,b::s=>Bb (Nat.beq a.toNat b.toNat) (uU r s) false
 | _,_=>false
def ym(a b:Bool):Bool:=Bb a b (jk b)
mutual
def hU:EV->EV->Bool
 | .int k n,.int p q=>Bb (Nat.beq (Pc k) (Pc p)) (nJ n q) false
 | .bool a,.bool b=>ym a b
 | .str a,.str b=>uU a.data.toList b.data.toList
 | .ptr i o,.ptr d o'=>Bb (Nat.beq i d) (Nat.beq o o') false
 | .Ch,.Ch=>true
 | .slice i o l r op,.slice d o' l' u e=>Bb (Nat.beq i d) (Bb (Nat.beq o o') (Bb (Nat.beq l l') (Bb (Nat.beq r u) (ym op e) false) false) false) false
 | .Aq,.Aq=>true
 | .map i,.map d=>Nat.beq i d
 | .Al8,.Al8=>true
 | .chan i,.chan d=>Nat.beq i d
 | .Ae6,.Ae6=>true
 | .func f a c,.func f' y A=>Bb (Nat.beq f f') (Bb (mG a y) (mG c A) false) false
 | .Vv l,.Vv l'=>Nat.beq l l'
 | .Ajg,.Ajg=>true
 | .Acf,.Acf=>true
 | .agg l,.agg l'=>mG l l'
 | .tuple l,.tuple l'=>mG l l'
 | _,_=>false
def mG:List EV->List EV->Bool
 | [],[]=>true
 | a::r,b::s=>Bb (hU a b) (mG r s) false
 | _,_=>false
end
end
variable {disp:Nat->Option FT}
theorem Blv {a b:Int}(h:nJ a b=true):a=b:=by
 cases a<;>cases b
 ·exact congrArg Int.ofNat (aL h)
 ·cases h
 ·cases h
 ·exact congrArg Int.negSucc (aL h)
theorem PQ:∀{a b:List UInt8},uU a b=true->a=b
 | [],[],_=>rfl
 | x::r,y::s,h=>by
  simp only[uU]at h;rw[Bq]at h;split at h
  ·rename_i e
   rw[UInt8.toNat_inj.1 (aL e),PQ h]
  ·cases h
 | [],_::_,h=>by cases h
 | _::_,[],h=>by cases h
theorem PR(h:ym a b=true):a=b:=by cases a<;>cases b<;>first|rfl|cases h
theorem Bid {a b:IntKind}(h:Pc a=Pc b):a=b:=by cases a<;>cases b<;>first|rfl|(simp[Pc]at h)
theorem mH(h:Bb a b false=true):a=true/\b=true:=by cases a<;>simp_all [Bq]
theorem beq_spec {a b:Nat}(h:Nat.beq a b=true):a=b:=aL h
mutual
theorem PS:∀{a b:EV},hU a b=true->a=b
 | .int k n,b,h=>by
  cases b<;>first|(simp[hU]at h;done)|skip
  simp only[hU]at h;obtain⟨d,h2⟩:=mH h;rw[Bid (beq_spec d),Blv h2]
 | .bool a,b,h=>by
  cases b<;>first|(simp[hU]at h;done)|skip
  simp only[hU]at h;rw[PR h]
 | .str a,b,h=>by
  cases b<;>first|(simp[hU]at h;done)|skip
  rename_i b;simp only[hU]at h;obtain⟨⟨a⟩⟩:=a;obtain⟨⟨b⟩⟩:=b;have:a=b:=PQ h;rw[this]
 | .ptr i o,b,h=>by
  cases b<;>first|(simp[hU]at h;done)|skip
  simp only[hU]at h;obtain⟨d,h2⟩:=mH h;rw[beq_spec d,beq_spec h2]
 | .Ch,b,h=>by cases b<;>first|(simp[hU]at h;done)|rfl
 | .slice i o l r op,b,h=>by
  cases b<;>first|(simp[hU]at h;done)|skip
  simp only[hU]at h;obtain⟨d,h⟩:=mH h;obtain⟨h2,h⟩:=mH h;obtain⟨e,h⟩:=mH h;obtain⟨h4,h⟩:=mH h;rw[beq_spec d,beq_spec h2,beq_spec e,beq_spec h4,PR h]
 | .tail i o p,b,h=>by cases b<;>(simp[hU]at h)
 | .odd a,b,h=>by cases b<;>(simp[hU]at h)
 | .Aq,b,h=>by cases b<;>first|(simp[hU]at h;done)|rfl
 | .map i,b,h=>by
  cases b<;>first|(simp[hU]at h;done)|skip
  simp only[hU]at h;rw[beq_spec h]
 | .Al8,b,h=>by cases b<;>first|(simp[hU]at h;done)|rfl
 | .chan i,b,h=>by
  cases b<;>first|(simp[hU]at h;done)|skip
  simp only[hU]at h;rw[beq_spec h]
 | .Ae6,b,h=>by cases b<;>first|(simp[hU]at h;done)|rfl
 | .func f a c,b,h=>by
  cases b<;>first|(simp[hU]at h;done)|skip
  simp only[hU]at h;obtain⟨d,h⟩:=mH h;obtain⟨h2,h⟩:=mH h;rw[beq_spec d,sE h2,sE h]
 | .Vv l,b,h=>by
  cases b<;>first|(simp[hU]at h;done)|skip
  simp only[hU]at h;rw[beq_spec h]
 | .Ajg,b,h=>by cases b<;>first|(simp[hU]at h;done)|rfl
 | .Acf,b,h=>by cases b<;>first|(simp[hU]at h;done)|rfl
 | .agg l,b,h=>by
  cases b<;>first|(simp[hU]at h;done)|skip
  simp only[hU]at h;rw[sE h]
 | .tuple l,b,h=>by
  cases b<;>first|(simp[hU]at h;done)|skip
  simp only[hU]at h;rw[sE h]
theorem sE:∀{a b:List EV},mG a b=true->a=b
 | [],[],_=>rfl
 | x::r,y::s,h=>by
  simp only[mG]at h;obtain⟨d,h2⟩:=mH h;rw[PS d,sE h2]
 | [],_::_,h=>by simp[mG]at h
 | _::_,[],h=>by simp[mG]at h
end
abbrev I(n:Int):EV:=.int .i64 n
abbrev N(n:Nat):EV:=.int .i64 (.ofNat n)
theorem rX(a b:Int):lh a b=decide (a<b):=by
 rw[xW];cases a<;>cases b<;>simp only[ko]
 ·rename_i a b;rw[eR,fP];simp[dN];omega
 ·rename_i a b;symm;rw[cr];simp only[aZ];omega
 ·rename_i a b;symm;rw[fP];simp only[aZ];omega
 ·rename_i a b;rw[eR,fP];simp[dN];omega
theorem tP(a b:Int):nJ a b=decide (a=b):=by
 rw[wW];cases a<;>cases b<;>simp only[iN]
 ·rw[eR,fP];simp[Nat.beq_eq];omega
 ·simp
 ·simp
 ·rw[eR,fP];simp[Nat.beq_eq]
theorem ua(p:Prop)[Decidable p]:jk (decide p)=decide (¬p):=by by_cases h:p<;>simp[h,jk]
theorem Bi2(a b:Int):uE a b=a+b:=PC a b
theorem Bc6(a b:Int):uF a b=a-b:=PD a b
theorem FG {n:Int}(d : -9223372036854775808<=n)(h2:n<9223372036854775808):Dr .i64 n=n:=by
 unfold Dr;split
 ·rename_i m
  have:Nat.ble (Nat.succ m) (uV .i64)=true:=aQ (show m+1<=9223372036854775808 by simp only[aZ]at h2;omega);rw[this,Ak]
 ·rename_i m
  have:Nat.ble (Nat.succ m) (floor .i64)=true:=aQ (show m+1<=9223372036854775808 by simp only[dK]at d;omega);rw[this,Ak]
theorem Ad(h:Ab)(o:D3):(h.new o).get h.next=some o:=by rw[Ab.K7,aI rfl]
theorem Ay(o:D3)(d:i<h.next):(h.new o).get i=h.get i:=by rw[Ab.K7,aG (by omega)]
theorem Ae(h:Ab)(i:Nat)(o:D3):(h.put i o).get i=some o:=by rw[Ab.get_put,aI rfl]
theorem Af(o:D3)(d:i≠j:=by omega):(h.put i o).get j=h.get j:=by rw[Ab.get_put,aG d]
theorem Bcs(d:i≠j):(h.del i).get j=h.get j:=by rw[Ab.kV,aG d]
theorem Bqg(p:Prop)[Decidable p](x y:α):Bb (decide p) x y=if p then x else y:=by by_cases h:p<;>simp[h]
theorem Beg {l:List EV}(h:n<=l.length):takeN l n=some (l.take n):=by
 induction l generalizing n with
 | nil=>
  have:n=0:=by simpa using h
  subst this;rfl
 | cons a r d=>
  cases n with
  | zero=>rfl
  | succ n=>
   simp only[takeN];rw[show Nat.beq (n+1) 0=false from rfl,Bm,Nat.pred_succ,d (by simpa using h)];rfl
theorem Fx {l:List EV}(h:off+n<=l.length):Og l off n=some ((l.drop off).take n):=by
 rw[nC,Ta,Beg (by rw[bB];omega)]
theorem t_:∀(l:List EV) (n:Nat),kG l n=l[n]?
 | [],n=>rfl
 | a::r,0=>rfl
 | a::r,n+1=>by
  have e:kG (a::r) (n+1)=kG r n:=rfl;rw[e,t_ r n];simp
theorem FD(v:EV):∀(l:List EV) (n:Nat),n<l.length->Mv l n [v]=some (l.set n v)
 | [],n,h=>by simp at h
 | a::r,n,h=>by
  rw[U7];cases n with
  | zero=>cases r<;>rfl
  | succ n=>
   have e:F0 (a::r) (n+1) [v]=(match F0 r n [v]with|some x=>some (a::x)|none=>none):=rfl;rw[e,<-U7,FD v r n (by simpa using h)];rfl
theorem Bh(l:List EV):Ga l=l.length:=by rw[nN,Ye]
theorem Bn {l:List EV}(h:l.length=vs.length):Mv l 0 vs=some vs:=by
 unfold Mv;rw[Bh,Bh,h,show Nat.beq 0 0=true from rfl,Ak,show Nat.beq vs.length vs.length=true from cQ _,Ak]
section
variable{s:Nat}{g:IG}
theorem Bp9(c:IntKind)(a b:Int):I8 c a b=.bool (lh a b):=rfl
theorem Bp4(c:IntKind)(a b:Int):oF c a b=.bool (jk (lh b a)):=rfl
theorem Bqt(c:IntKind)(a b:Int):nt c a b=.bool (lh b a):=rfl
theorem Bpk(c:IntKind)(a b:Int):oG c a b=.bool (jk (lh a b)):=rfl
theorem Bpw(c:IntKind)(a b:Int):iW c a b=.bool (nJ a b):=rfl
theorem FH(c:IntKind)(a b:Int):iX c a b=.bool (jk (nJ a b)):=rfl
theorem Bpu(c:IntKind)(a b:Int):kU c a b=.int c (Dr c (uE a b)):=rfl
theorem Cv(b w:Bool):Er (.bool b) w=Bb b w (jk w):=rfl
theorem Brk:jk true=false:=rfl
theorem A3f{l:List EV}(d:h.get i=some (.cells l t))(F:List EV->Option (List EV))(k:Ab->R):nB h i F k=oB (fun l'=>k (h.put i (.cells l' t))) (F l):=by
 unfold nB;rw[d]
theorem Bqr {q d rm:Nat}{op:Bool}(hj:j<d)(k:EV->R)(c:IntKind):ir s (.slice q off d rm op) (.int c (.ofNat j)) k=k (.ptr q (off+j*s)):=by
 show Bb (Nat.ble (Nat.succ j) d) _ none=_;rw[aQ hj,Ak];rfl
end
section
variable{call:Ah}{K:Nat}
theorem Blz{g:Nat}{F:FT}(h:disp g=some F)(d:Nat)(args:List EV)(hp:Ab):
 Ag T disp K (d+1) false g args hp=F (Ag T disp K d false) (Ag T disp K d true) K args hp:=by
 have e:Ag T disp K (d+1) false g args hp = @Option.rec FT (fun _=>qb) (kZ T (Ag T disp K d false) (Ag T disp K d true) K g) (fun F=>F (Ag T disp K d false) (Ag T disp K d true) K) (disp g) args hp:=rfl;rw[e,h]
theorem A97(disp:Nat->Option FT)(d l:Nat)(args:List EV)(hp:Ab):
 Ag T disp K (d+1) true l args hp=qd T (Ag T disp K d false) (Ag T disp K d true) K l args hp:=rfl
theorem lq {m d:Nat}(h:n<=d)(e:Nat.ble m n=true):m<=d:=bQ (bL e) h
end
end Go.Ev


namespace Go.Ev
noncomputable section
inductive Hk where
 | no
 | here (X:CD)
 | two (a b:Hk)
abbrev Hk.l(H:Hk):Hk:=match H with | .two a _=>a|_=>.no
abbrev Hk.r(H:Hk):Hk:=match H with | .two _ b=>b|_=>.no
section
variable (fl:Bool)(T:Ig)(call a_ round:Ah)(fuel fn n:Nat)(Dt:Option Nat)(out:Nat->CD)(ret:CD)
abbrev Qj(H:Hk):Code->iU->CD->CD:=
 @Hk.rec (fun _=>Code->iU->CD->CD) (fun c env k=>jm fl T call a_ round fuel fn n Dt out ret c env k) (fun X _ _ _=>X)
  (fun _ _ a b c env k=>match c with
   | .seq x y=>a x env (b y env k)
   | .cond v x y=>fun d tm h ds=>match Ep d v with|some e=>hQ e (a x env k d tm h ds) (b y env k d tm h ds)|none=>none
   | .block id x=>a x ((id,k)::env) k
   | c=>jm fl T call a_ round fuel fn n Dt out ret c env k) H
abbrev oK(p:List Bool):Hk->Code->iU->CD->CD:=
 @List.rec Bool (fun _=>Hk->Code->iU->CD->CD) (fun _ c env k=>jm fl T call a_ round fuel fn n Dt out ret c env k)
  (fun s _ d H c env k=>match c with
   | .seq x y=>Bb s (d H.r y env k) (d H.l x env (Qj fl T call a_ round fuel fn n Dt out ret H.r y env k))
   | .cond _ x y=>Bb s (d H.r y env k) (d H.l x env k)
   | .block id x=>d H.l x ((id,k)::env) k
   | c=>jm fl T call a_ round fuel fn n Dt out ret c env k) p
end
abbrev kH(p:List Bool)(X:CD):Hk->Hk:=
 @List.rec Bool (fun _=>Hk->Hk) (fun _=>.here X) (fun s _ d H=>Bb s (.two H.l (d H.r)) (.two (d H.l) H.r)) p
def kY(p:List Bool):Hk->Code->Bool:=
 @List.rec Bool (fun _=>Hk->Code->Bool) (fun H _=>match H with | .no=>true|_=>false)
  (fun s _ d H c=>match H with
   | .here _=>false
   | H=>match c with
    | .seq x y=>Bb s (d H.r y) (d H.l x)
    | .cond _ x y=>Bb s (d H.r y) (d H.l x)
    | .block _ x=>Bb s false (d H.l x)
    | _=>false) p
def Bt7(p:List Bool):Code->Code:=
 @List.rec Bool (fun _=>Code->Code) (fun c=>c) (fun s _ d c=>match c with
  | .seq x y=>Bb s (d y) (d x)
  | .cond _ x y=>Bb s (d y) (d x)
  | .block _ x=>d x
  | .loop x=>d x
  | c=>c) p
abbrev Oh(T:Ig)(g:Nat):Code:=match T.fn g with|some { body:=some c,.. }=>c|_=>.skip
abbrev kW(T:Ig)(g:Nat):Nat:=match T.fn g with|some f=>f.ntmps|_=>0
abbrev jJ(q:Bool)(T:Ig)(g:Nat):CD:=match T.fn g with|some f=>sC q T f.results.toList|_=>fun _ _ _ _=>none
abbrev Bt6(T:Ig)(g:Nat)(p:List Bool):Code:=match Bt7 p (Oh T g)with | .loop c=>c|c=>c
end
section
variable {fl:Bool}{T:Ig}{call a_ round:Ah}{fuel fn n:Nat}{Dt:Option Nat}{out:Nat->CD}{ret:CD}
theorem Bjf(H:Hk)(d:∀X,H≠.here X)(c:Code)(env:iU)(k:CD):Qj fl T call a_ round fuel fn n Dt out ret H c env k=Qj fl T call a_ round fuel fn n Dt out ret (.two H.l H.r) c env k:=by
 cases H with
 | no=>cases c<;>rfl
 | here X=>exact(d X rfl).elim
 | two a b=>rfl
theorem oL(X:CD):∀(p:List Bool) (H:Hk) (c:Code) (env:iU) (k:CD),kY p H c=true->oK fl T call a_ round fuel fn n Dt out ret p H c env k=X->Qj fl T call a_ round fuel fn n Dt out ret H c env k=Qj fl T call a_ round fuel fn n Dt out ret (kH p X H) c env k
 | [],H,c,env,k,q,e=>by
  cases H with
  | no=>exact e
  | here _=>cases q
  | two _ _=>cases q
 | s::p,H,c,env,k,q,e=>by
  have u:∀Y,H≠.here Y:=fun Y y=>by subst y;cases q
  have hs:kH (s::p) X H=Bb s (.two H.l (kH p X H.r)) (.two (kH p X H.l) H.r):=rfl;rw[Bjf H u,hs];have A:∃x y id v,c=.seq x y\/c=.cond v x y\/c=.block id x:=by
   cases H with
   | here Y=>exact(u Y rfl).elim
   | no=>cases c<;>first|exact⟨_,_,0,default,.inl rfl⟩|exact⟨_,_,0,_,.inr (.inl rfl)⟩|exact⟨_,.skip,_,default,.inr (.inr rfl)⟩|cases q
   | two a b=>cases c<;>first|exact⟨_,_,0,default,.inl rfl⟩|exact⟨_,_,0,_,.inr (.inl rfl)⟩|exact⟨_,.skip,_,default,.inr (.inr rfl)⟩|cases q
  obtain⟨x,y,id,v,rfl|rfl|rfl⟩:=A
  ·have d:Bb s (kY p H.r y) (kY p H.l x)=true:=by cases H<;>first|exact q|exact(u _ rfl).elim
   have e':Bb s (oK fl T call a_ round fuel fn n Dt out ret p H.r y env k) (oK fl T call a_ round fuel fn n Dt out ret p H.l x env (Qj fl T call a_ round fuel fn n Dt out ret H.r y env k))=X:=e;cases s with
   | true=>show Qj fl T call a_ round fuel fn n Dt out ret H.l x env (Qj fl T call a_ round fuel fn n Dt out ret H.r y env k)=Qj fl T call a_ round fuel fn n Dt out ret H.l x env (Qj fl T call a_ round fuel fn n Dt out ret (kH p X H.r) y env k);rw[oL X p H.r y env k d e']
   | false=>exact oL X p H.l x env _ d e'
  ·have d:Bb s (kY p H.r y) (kY p H.l x)=true:=by cases H<;>first|exact q|exact(u _ rfl).elim
   have e':Bb s (oK fl T call a_ round fuel fn n Dt out ret p H.r y env k) (oK fl T call a_ round fuel fn n Dt out ret p H.l x env k)=X:=e;cases s with
   | true=>
    show(fun o tm h ds=>match Ep o v with|some e=>hQ e (Qj fl T call a_ round fuel fn n Dt out ret H.l x env k o tm h ds) (Qj fl T call a_ round fuel fn n Dt out ret H.r y env k o tm h ds)|none=>none)=fun o tm h ds=>match Ep o v with|some e=>hQ e (Qj fl T call a_ round fuel fn n Dt out ret H.l x env k o tm h ds) (Qj fl T call a_ round fuel fn n Dt out ret (kH p X H.r) y env k o tm h ds)|none=>none
    rw[oL X p H.r y env k d e']
   | false=>
    show(fun o tm h ds=>match Ep o v with|some e=>hQ e (Qj fl T call a_ round fuel fn n Dt out ret H.l x env k o tm h ds) (Qj fl T call a_ round fuel fn n Dt out ret H.r y env k o tm h ds)|none=>none)=fun o tm h ds=>match Ep o v with|some e=>hQ e (Qj fl T call a_ round fuel fn n Dt out ret (kH p X H.l) x env k o tm h ds) (Qj fl T call a_ round fuel fn n Dt out ret H.r y env k o tm h ds)|none=>none
    rw[oL X p H.l x env k d e']
  ·have d:Bb s false (kY p H.l x)=true:=by cases H<;>first|exact q|exact(u _ rfl).elim
   cases s with
   | true=>cases d
   | false=>exact oL X p H.l x _ k d e
theorem cut(p:List Bool){H:Hk}{c:Code}{env:iU}{k X Y Z:CD}(e:Y=X)(d:kY p H c=true)(o:oK fl T call a_ round fuel fn n Dt out ret p H c env k=Y)(rest:Qj fl T call a_ round fuel fn n Dt out ret (kH p X H) c env k=Z):
 Qj fl T call a_ round fuel fn n Dt out ret H c env k=Z:=(oL X p H c env k d (o.trans e)).trans rest
theorem Qf {B:CD->CD}{E:Nat->CD}(h0:E 0=fun _ _ _ _=>none)(hs:∀m,B (E m)=E (m+1)):∀m,qa B m=E m
 | 0=>h0.symm
 | m+1=>by
  show B (qa B m)=_;rw[Qf h0 hs m,hs]
theorem Bts {c:Code}{env:iU}{E e:Nat->CD}(h0:E 0=fun _ _ _ _=>none)(o:∀m,Qj fl T call a_ round fuel fn n Dt out ret .no c env (E m)=e m)(h2:∀m,e m=E (m+1))(m:Nat):qa (fun d=>jm fl T call a_ round fuel fn n Dt out ret c env d) m=E m:=
 Qf (B:=fun d=>jm fl T call a_ round fuel fn n Dt out ret c env d) h0 (fun m=>(o m).trans (h2 m)) m
theorem kI {A B:CD}(e:∀d tm h ds,A d tm h ds=B d tm h ds):A=B:=funext fun d=>funext fun tm=>funext fun h=>funext fun ds=>e d tm h ds
end
noncomputable section
abbrev w0(g:Nat)(f:Ab->R)(c:Ah):Ah:=fun d xs h=>Bb (Nat.beq g d) (@List.rec EV (fun _=>R) (f h) (fun _ _ _=>c d xs h) xs) (c d xs h)
abbrev w1(g:Nat)(f:EV->Ab->R)(c:Ah):Ah:=fun d xs h=>Bb (Nat.beq g d) (match xs with | [a]=>f a h|xs=>c d xs h) (c d xs h)
abbrev w2(g:Nat)(f:EV->EV->Ab->R)(c:Ah):Ah:=fun d xs h=>Bb (Nat.beq g d) (match xs with | [a,b]=>f a b h|xs=>c d xs h) (c d xs h)
abbrev w3(g:Nat)(f:EV->EV->EV->Ab->R)(c:Ah):Ah:=fun e xs h=>Bb (Nat.beq g e) (match xs with | [a,b,d]=>f a b d h|xs=>c e xs h) (c e xs h)
abbrev w4(g:Nat)(f:EV->EV->EV->EV->Ab->R)(c:Ah):Ah:=fun o xs h=>Bb (Nat.beq g o) (match xs with | [a,b,d,e]=>f a b d e h|xs=>c o xs h) (c o xs h)
abbrev w5(g:Nat)(f:EV->EV->EV->EV->EV->Ab->R)(c:Ah):Ah:=fun o xs h=>Bb (Nat.beq g o) (match xs with | [a,b,d,e,i]=>f a b d e i h|xs=>c o xs h) (c o xs h)
abbrev w6(g:Nat)(f:EV->EV->EV->EV->EV->EV->Ab->R)(c:Ah):Ah:=fun o xs h=>Bb (Nat.beq g o) (match xs with | [a,b,d,e,i,j]=>f a b d e i j h|xs=>c o xs h) (c o xs h)
end
section
variable {c x:Ah}{g:Nat}
theorem W0 {f:Ab->R}(e:∀h,c g [] h=f h)(y:c=x):c=w0 g f x:=by
 subst y;funext d xs h;show _=Bb (Nat.beq g d) _ _;cases hb:Nat.beq g d with
 | false=>rfl
 | true=>have:=aL hb;subst this;cases xs<;>first|exact e h|rfl
theorem W1 {f:EV->Ab->R}(e:∀a h,c g [a] h=f a h)(y:c=x):c=w1 g f x:=by
 subst y;funext d xs h;show _=Bb (Nat.beq g d) _ _;cases hb:Nat.beq g d with
 | false=>rfl
 | true=>have:=aL hb;subst this;show c g xs h=(match xs with | [a]=>f a h|xs=>c g xs h);split<;>first|exact e _ h|rfl
theorem W2 {f:EV->EV->Ab->R}(e:∀a b h,c g [a,b] h=f a b h)(y:c=x):c=w2 g f x:=by
 subst y;funext d xs h;show _=Bb (Nat.beq g d) _ _;cases hb:Nat.beq g d with
 | false=>rfl
 | true=>have:=aL hb;subst this;show c g xs h=(match xs with | [a,b]=>f a b h|xs=>c g xs h);split<;>first|exact e _ _ h|rfl
theorem W3 {f:EV->EV->EV->Ab->R}(e:∀a b d h,c g [a,b,d] h=f a b d h)(y:c=x):c=w3 g f x:=by
 subst y;funext o xs h;show _=Bb (Nat.beq g o) _ _;cases hb:Nat.beq g o with
 | false=>rfl
 | true=>have:=aL hb;subst this;show c g xs h=(match xs with | [a,b,d]=>f a b d h|xs=>c g xs h);split<;>first|exact e _ _ _ h|rfl
theorem W4 {f:EV->EV->EV->EV->Ab->R}(e:∀a b d i h,c g [a,b,d,i] h=f a b d i h)(y:c=x):c=w4 g f x:=by
 subst y;funext o xs h;show _=Bb (Nat.beq g o) _ _;cases hb:Nat.beq g o with
 | false=>rfl
 | true=>have:=aL hb;subst this;show c g xs h=(match xs with | [a,b,d,e]=>f a b d e h|xs=>c g xs h);split<;>first|exact e _ _ _ _ h|rfl
theorem W5 {f:EV->EV->EV->EV->EV->Ab->R}(e:∀a b d i j h,c g [a,b,d,i,j] h=f a b d i j h)(y:c=x):c=w5 g f x:=by
 subst y;funext o xs h;show _=Bb (Nat.beq g o) _ _;cases hb:Nat.beq g o with
 | false=>rfl
 | true=>have:=aL hb;subst this;show c g xs h=(match xs with | [a,b,d,e,i]=>f a b d e i h|xs=>c g xs h);split<;>first|exact e _ _ _ _ _ h|rfl
end
noncomputable def nH(T:Ig)(g n:Nat):Bool:=match T.fn g with|some { body:=some _,.. }=>Nat.ble n (kW T g)|_=>false
theorem Bhl {T:Ig}{c r:Ah}{K g:Nat}{args:List EV}(d:nH T g (Ga args)=true)(h:Ab):kZ T c r K g args h=Qj (jP (Oh T g)) T c c r K g (kW T g) none nE (jJ (jP (Oh T g)) T g) .no (Oh T g) [] (jJ (jP (Oh T g)) T g) (rY args 0 u0) (setArgs args 0 .nil) h []:=by
 unfold nH kW at d;unfold kZ kW jJ Oh;cases e:T.fn g with
 | none=>rw[e]at d<;>cases d
 | some fn=>
  rw[e]at d;obtain⟨name,origin,targs,params,o,nfree,n,results,body,p,ours,file,el,q,met,u⟩:=fn;cases body with
  | none=>cases d
  | some c0=>
   show Bb (Nat.ble (Ga args) n) _ none=_;rw[show Nat.ble (Ga args) n=true from d,Ak]
end Go.Ev
