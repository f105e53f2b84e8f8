import Derived.Test.YtoihakbgidodkaaGreatEvThree
set_option linter.all false
namespace Go.Ev
set_option maxRecDepth 100000
variable {α:Type}{x:Operand}{v:EV}{T:Ij}{t:TypeId}{i j n off fuel:Nat}{tm:Ay}{h h':Ab}{vs args:List EV}{a b fl:Bool}{ops:List Oper}{round:Ah}{ds:List Nat}{f:EV->EV->Option EV}{todo:List Item}{P:Program}
noncomputable section
abbrev R:=Option (EV × Ab)
abbrev oQ:=List EV->Ab->R
def Bqy:Nat->Nat->List Bool:=
 @Nat.rec (fun _=>Nat->List Bool) (fun _=>[]) (fun _ d i=>Bc (Nat.beq i 0) [] (Bc (Nat.beq (Nat.land i 1) 1) (true::d (Nat.div i 2)) (false::d (Nat.pred (Nat.div i 2)))))
def pathOf(i:Nat):List Bool:=Bqy (Nat.succ (Nat.log2 (Nat.succ i))) i
def oB {α β:Type}(k:α->Option β)(x:Option α):Option β:=@Option.rec α (fun _=>Option β) none k x
def sM {α β d:Type}(k:α->β->Option d)(p:α × β):Option d:=@Prod.rec α β (fun _=>Option d) k p
def Fp(l:List EV):Nat:=@List.rec EV (fun _=>Nat) 0 (fun _ _ d=>Nat.succ d) l
def kq(l:List EV):Nat->Option EV:=@List.rec EV (fun _=>Nat->Option EV) (fun _=>none) (fun a _ d n=>Bc (Nat.beq n 0) (some a) (d (Nat.pred n))) l
def tc(l:List EV):Nat->List EV:=@List.rec EV (fun _=>Nat->List EV) (fun _=>[]) (fun a r d n=>Bc (Nat.beq n 0) (a::r) (d (Nat.pred n))) l
def nQ(a:EV)(x:Option (List EV)):Option (List EV):=@Option.rec (List EV) (fun _=>Option (List EV)) none (fun l=>some (a::l)) x
def qG(l:List EV):Nat->Option (List EV):=@List.rec EV (fun _=>Nat->Option (List EV)) (fun n=>Bc (Nat.beq n 0) (some []) none) (fun a _ d n=>Bc (Nat.beq n 0) (some []) (nQ a (d (Nat.pred n)))) l
def Ly(l:List EV)(off n:Nat):Option (List EV):=Bc (Nat.beq off 0) (Bc (Nat.beq (Fp l) n) (some l) (qG l n)) (qG (tc l off) n)
def nR(vs:List EV):List EV->Option (List EV):=@List.rec EV (fun _=>List EV->Option (List EV)) (fun l=>some l) (fun v _ d l=>@List.rec EV (fun _=>Option (List EV)) none (fun _ r _=>nQ v (d r)) l) vs
def oZ(vs:List EV)(l:List EV):Nat->Option (List EV):=@List.rec EV (fun _=>Nat->Option (List EV)) (fun n=>Bc (Nat.beq n 0) (nR vs []) none) (fun a r d n=>Bc (Nat.beq n 0) (nR vs (a::r)) (nQ a (d (Nat.pred n)))) l
def Mf(l:List EV)(off:Nat)(vs:List EV):Option (List EV):=Bc (Nat.beq off 0) (Bc (Nat.beq (Fp l) (Fp vs)) (some vs) (oZ vs l 0)) (oZ vs l off)
def lS {β:Type}(k:List EV->Nat->Option β)(off:Nat)(x:Option Ds):Option β:=
 match x with|some (.cells l _)=>k l off|some (.vec l _ _)=>k l off|some (.view ws _)=>(match j5 ws off with|some (o,l)=>k l (Nat.sub off o)|none=>none)|_=>none
def mJ(h:Ab)(i:Nat)(f:List EV->Option (List EV))(k:Ab->R):R:=
 match h.get i with
 | some (.cells l t)=>oB (fun l'=>k (h.put i (.cells l' t))) (f l)
 | some (.vec l t s)=>oB (fun l'=>k (h.put i (.vec l' t s))) (f l)
 | _=>none
def Uw(h:Ab)(i off n:Nat):Option (List EV):=lS (fun l o=>Ly l o n) off (h.get i)
def Lm(h:Ab)(size n:Nat)(x:EV):Option (List EV):=
 match x with
 | .Am=>Bc (Nat.beq n 0) (some []) none
 | .slice i off _ _ _=>Bc (Nat.beq n 0) (some []) (Uw h i off (Nat.mul n size))
 | .tail ..=>Bc (Nat.beq n 0) (some []) none
 | _=>none
def tg(x y:R)(v:EV):R:=match v with | .bool b=>Bc b x y|_=>none
def kP(k:Nat->Nat->R)(v:EV):R:=match v with | .ptr i off=>k i off|_=>none
def th(k:Nat->R)(v:EV):R:=match v with | .int _ n=>@Int.rec (fun _=>R) k (fun _=>none) n|_=>none
def LH(k:IntKind->Int->R)(v:EV):R:=match v with | .int c n=>k c n|_=>none
def wu(k:List EV->R)(v:EV):R:=match v with | .agg l=>k l|_=>none
def LI(k:List EV->R)(v:EV):R:=match v with | .tuple l=>k l|_=>none
def ti(a b:Int):Int:=@Int.rec (fun _=>Int) (fun m=>@Int.rec (fun _=>Int) (fun n=>.ofNat (Nat.add m n)) (fun n=>Int.add (.ofNat m) (.negSucc n)) b) (fun m=>Int.add (.negSucc m) b) a
def tj(a b:Int):Int:=@Int.rec (fun _=>Int) (fun m=>@Int.rec (fun _=>Int) (fun n=>Bc (Nat.ble n m) (.ofNat (Nat.sub m n)) (.negSucc (Nat.pred (Nat.sub n m)))) (fun n=>Int.sub (.ofNat m) (.negSucc n)) b) (fun m=>Int.sub (.negSucc m) b) a
def kQ(a b:Int):Bool:=@Int.rec (fun _=>Bool) (fun m=>@Int.rec (fun _=>Bool) (fun n=>Nat.ble (Nat.succ m) n) (fun _=>false) b) (fun m=>j6 (.negSucc m) b) a
def mO(a b:Int):Bool:=@Int.rec (fun _=>Bool) (fun m=>@Int.rec (fun _=>Bool) (fun n=>Nat.beq m n) (fun _=>false) b) (fun m=>iN (.negSucc m) b) a
def jl(b:Bool):Bool:=@Bool.rec (fun _=>Bool) true false b
abbrev IG:=IntKind->Int->Int->EV
def kJ:IG:=fun k a b=>.int k (Cr k (ti a b))
def nC:IG:=fun k a b=>.int k (Cr k (tj a b))
def oL:IG:=fun k a b=>.int k (Cr k (Int.mul a b))
def Ji:IG:=fun _ a b=>.bool (kQ a b)
def nE:IG:=fun _ a b=>.bool (jl (kQ b a))
def mG:IG:=fun _ a b=>.bool (kQ b a)
def nG:IG:=fun _ a b=>.bool (jl (kQ a b))
def iH:IG:=fun _ a b=>.bool (mO a b)
def iK:IG:=fun _ a b=>.bool (jl (mO a b))
def wv:BinOp->Option IG
 | .add=>some kJ | .sub=>some nC | .mul=>some oL | .lss=>some Ji | .leq=>some nE | .gtr=>some mG | .geq=>some nG | .eql=>some iH | .neq=>some iK
 | _=>none
def tl(agg:Bool)(n:Nat)(cs:List EV)(off:Nat)(k:EV->R):R:=Bc agg (oB (fun l=>k (.agg l)) (Ly cs off n)) (oB k (kq cs off))
def iU(place:Nat->Option (Nat × Nat))(l:List (Nat × EV)):List EV->Option (List EV):=
 @List.rec (Nat × EV) (fun _=>List EV->Option (List EV)) (fun c=>some c) (fun x _ d c=>oB (sM fun off size=>Bc x.2.plain (Bc (Nat.beq (Fp x.2.cells) size) (oB d (Mf c off x.2.cells)) none) none) (place x.1)) l
def D1(l:List (Nat × Nat)):Nat->Option (Nat × Nat):=@List.rec (Nat × Nat) (fun _=>Nat->Option (Nat × Nat)) (fun _=>none) (fun a _ d i=>Bc (Nat.beq i 0) (some a) (d (Nat.pred i))) l
def Mg(s:Nat):Nat->Option (Nat × Nat):=fun i=>some (Nat.mul i s,s)
def qH(a b:List EV):List EV:=@List.rec EV (fun _=>List EV) b (fun x _ d=>x::d) a
def D9(e:TypeId)(size:Nat)(s x:EV)(h:Ab):R:=
 oB (fun n=>Bc (Nat.beq n 0)
  (match s with
   | .slice _ _ d room _=>Bc (Nat.ble d room) (some (s,h)) none
   | .Am=>some (s,h)
   | _=>none)
  (Bc (Nat.ble n 65536) (oB (fun new=>
   match s with
   | .Am=>some (.slice h.next 0 n n true,h.new (.vec new e size))
   | .slice i off d room op=>Bc (Nat.ble d 1048576) (oB (fun By=>
    Bc op
     (Bc (Nat.beq off 0) (Bc (Nat.beq room d) (match h.get i with
      | some (.vec l e' s')=>Bc (Nat.beq (Fp l) (Nat.mul d size)) (Bc (Nat.beq s' size) (Bc (Nat.beq e' e)
       (some (.slice h.next 0 (Nat.add d n) (Nat.add d n) true,(h.del i).new (.vec (qH By new) e size))) none) none) none
      | _=>none) none) none)
     (Bc (Nat.ble (Nat.add d n) room) none (some (.slice h.next 0 (Nat.add d n) (Nat.add d n) true,h.new (.vec (qH By new) e size)))))
    (Lm h size d s)) none
   | _=>none) (Lm h size n x)) none)) (lenOf x)
def jY(x:Option Ds)(off n:Nat):Option (List EV):=lS (fun l o=>Ly l o n) off x
def K1(g:IG)(f:EV->EV->Option EV)(x y:EV)(k:EV->R):R:=
 match x,y with
 | .int c x,.int d y=>Bc (Nat.beq (Ql c) (Ql d)) (k (g c x y)) none
 | x,y=>oB k (f x y)
def Ec(x:EV)(h:Ab)(k:EV->R):R:=kP (fun i off=>oB (fun l=>match l with | [v]=>k v|_=>none) (jY (h.get i) off 1)) x
def Q4(n:Nat)(x:EV)(h:Ab)(k:EV->R):R:=kP (fun i off=>oB (fun l=>k (.agg l)) (jY (h.get i) off n)) x
def f_(n:Nat)(a v:EV)(h:Ab)(k:Ab->R):R:=kP (fun i off=>Bc v.plain (Bc (Nat.beq (Fp v.cells) n) (mJ h i (fun l=>Mf l off v.cells) k) none) none) a
def Wn(s:Nat)(x ix:EV)(k:EV->R):R:=th (fun j=>match x with | .slice i off len _ _=>Bc (Nat.ble (Nat.succ j) len) (k (.ptr i (Nat.add off (Nat.mul j s)))) none|_=>none) ix
def kI(c a b:EV)(k:EV->R):R:=tg (k a) (k b) c
def im(f:EV->EV->Option EV)(a b:EV)(k:EV->R):R:=oB k (f a b)
def i_(v:EV)(k:EV->R):R:=tg (k (.bool false)) (k (.bool true)) v
def nK(v:EV)(k:EV->R):R:=match v with | .int c n=>k (.int c (Cr c (Int.sub 0 n)))|_=>none
def ju(v:EV)(k:EV->R):R:=kP (fun i o=>k (.ptr i o)) v
def iE(c:Nat)(v:EV)(k:EV->R):R:=kP (fun i o=>k (.ptr i (Nat.add o c))) v
def jP(len s:Nat)(v ix:EV)(k:EV->R):R:=th (fun j=>kP (fun i off=>Bc (Nat.ble (Nat.succ j) len) (k (.ptr i (Nat.add off (Nat.mul j s)))) none) v) ix
def jX(len s:Nat)(agg:Bool)(n:Nat)(v ix:EV)(k:EV->R):R:=th (fun j=>wu (fun cs=>Bc (Nat.ble (Nat.succ j) len) (tl agg n cs (Nat.mul j s) k) none) v) ix
def kL(off:Nat)(agg:Bool)(n:Nat)(v:EV)(k:EV->R):R:=wu (fun cs=>tl agg n cs off k) v
def Sh(c:IntKind)(v:EV)(k:EV->R):R:=LH (fun _ n=>k (.int c (Cr c n))) v
def kH(ix:Nat)(v:EV)(k:EV->R):R:=LI (fun l=>oB k (kq l ix)) v
def jN(o:Ds)(h:Ab)(k:EV->Ab->R):R:=k (.ptr h.next 0) (h.new o)
def Sb(t:TypeId)(v:EV)(h:Ab)(k:EV->Ab->R):R:=Bc v.plain (k (.ptr h.next 0) (h.new (.cells v.cells t))) none
def Gi(v:EV)(k:EV->R):R:=oB (fun n=>k (.int .i64 (.ofNat n))) (lenOf v)
def Ao(x:R)(k:EV->Ab->R):R:=oB (sM k) x
def T5(c r:Ah)(f:EV)(args:List EV)(h:Ab):R:=match f with
 | .func g a cs=>c g (qH a (qH args cs)) h
 | .Vh l=>r l args h
 | _=>none
def Bt(place:Nat->Option (Nat × Nat))(z:List EV)(ps:List (Nat × EV))(k:EV->R):R:=oB (fun c=>k (.agg c)) (iU place ps z)
def nL(n:Nat)(v:EV)(k:EV->R):R:=match v with | .slice i off len _ _=>Bc (Nat.ble n len) (k (.ptr i off)) none|_=>none
def h_(s:Nat)(v:EV)(d hi e:Option EV)(k:EV->R):R:=oB k (iJ v s d hi e)
def Oz(n s:Nat)(v:EV)(d hi e:Option EV)(k:EV->R):R:=kP (fun i off=>oB k (iJ (.slice i off n n false) s d hi e)) v
def Pr(z:List EV)(e:TypeId)(l c:EV)(h:Ab):R:=
 match l,c with
 | .int _ (.ofNat n),.int _ (.ofNat m)=>Bc (Nat.ble n m) (Bc (Nat.ble m 65536) (some (.slice h.next 0 n m false,h.new (.cells (rep z m) e))) none) none
 | _,_=>none
def Bv(z:List EV)(e:TypeId)(s n:Nat)(ps:List (Nat × EV))(h:Ab):R:=
 Bc (Nat.ble (Nat.mul n s) 65536) (oB (fun c=>some (.slice h.next 0 n n false,h.new (.cells c e))) (iU (Mg s) ps (rep z n))) none
def sU(h:Ab):R:=some (.map h.next,h.new (.map []))
def sP(s:EV)(h:Ab):R:=match s with | .int _ (.ofNat n)=>Bc (Nat.ble n 65536) (some (.chan h.next,h.new (.chan n []))) none|_=>none
def oO(T:Ij)(o e:TypeId)(ok:Bool)(m ix:EV)(h:Ab):R:=
 match m with
 | .map i=>Bc (Oe T o ix) (match h.get i with
  | some (.map es)=>match Hy ix es 0 with
   | some (some (_,v))=>some (Bc ok (.tuple [v,.bool true]) v,h)
   | some none=>oB (fun d=>some (Bc ok (.tuple [d,.bool false]) d,h)) (zeroOf T e)
   | none=>none
  | _=>none) none
 | _=>none
def Zr(T:Ij)(d:TypeId)(m ix x:EV)(h:Ab):R:=
 match m with
 | .map i=>Bc (Oe T d ix) (match h.get i with
  | some (.map es)=>match Hy ix es 0 with
   | some (some (j,_))=>some (.tuple [],h.put i (.map (es.set j (ix,x))))
   | some none=>some (.tuple [],h.put i (.map (es++[(ix,x)])))
   | none=>none
  | _=>none) none
 | _=>none
def nN(c x:EV)(h:Ab):R:=
 match c with
 | .chan i=>match h.get i with
  | some (.chan cap buf)=>Bc (Nat.ble (Nat.succ (len buf)) cap) (some (.tuple [.int .i64 0,.bool false],h.put i (.chan cap (buf++[x])))) (some (.tuple [.int .i64 (-1),.bool false],h))
  | _=>none
 | _=>none
def nO(d:EV)(c:EV)(h:Ab):R:=
 match c with
 | .chan i=>match h.get i with
  | some (.chan cap buf)=>match buf with
   | v::r=>some (.tuple [.int .i64 0,.bool true,v],h.put i (.chan cap r))
   | []=>some (.tuple [.int .i64 (-1),.bool false,d],h)
  | _=>none
 | _=>none
def sR(c:EV)(h:Ab):R:=match c with | .chan i=>(match h.get i with|some (.chan _ buf)=>some (.int .i64 (.ofNat (len buf)),h)|_=>none)|_=>none
def gQ(v:EV)(x y:R):R:=tg x y v
inductive RV where
 | v (x:EV)
 | c (a:EV) (t:TypeId)
def jV(T:Ij)(h:Ab):List RV->Option (List EV)
 | []=>some []
 | .v x::r=>match jV T h r with|some l=>some (x::l)|none=>none
 | .c a t::r=>match a,jV T h r,T.size t with
  | .ptr i off,some l,some n=>match I6 h i off n with
   | some cs=>match T.agg t with
    | some true=>some (.agg cs::l)
    | some false=>(match cs with | [v]=>some (v::l)|_=>none)
    | none=>none
   | none=>none
  | _,_,_=>none
def Iq(T:Ij)(l:List RV)(h:Ab):R:=match jV T h l with|some [v]=>some (v,h)|some l=>some (.tuple l,h)|none=>none
def D8(l:Nat)(h:Ab)(k:Ab->R):R:=match h.get l with
 | some (.loop .ready p f o e ps d' body d)=>k (h.put l (.loop .busy p f o e ps d' body d))
 | _=>none
def mP(l:Nat)(r:R)(k:Ab->R)(ex:Nat->Ab->R)(ret:Ab->R):R:=match r with
 | none=>none
 | some (_,h)=>match h.get l with
  | some (.loop st p f o e ps d' body d)=>match st with
   | .busy=>none
   | _=>match p with
    | none=>k (h.put l (.loop .exhausted p f o e ps d' body d))
    | some (.exit id)=>ex id (h.put l (.loop .exhausted p f o e ps d' body d))
    | some .ret=>ret (h.put l (.loop .exhausted p f o e ps d' body d))
    | some _=>none
  | _=>none
def X5(l:Nat)(v:Bool)(st:LoopState)(jump:Option Code)(h:Ab):R:=match h.get l with
 | some (.loop _ _ f n tm ps d' body d)=>some (.bool v,h.put l (.loop st jump f n tm ps d' body d))
 | _=>none
def kR:Code->List (Operand × List Tmp × Code × Code)
 | .seq a b=>kR a++kR b
 | .cond _ a b=>kR a++kR b
 | .block _ c=>kR c
 | .loop c=>kR c
 | .rangeFunc f ps a b=>(f,ps.toList,a,b)::(kR a++kR b)
 | .scope c=>kR c
 | _=>[]
def LJ {α:Type}:List α->Nat->Option α
 | [],_=>none
 | a::r,n=>Bc (Nat.beq n 0) (some a) (LJ r (Nat.pred n))
def Fa(T:Ij)(g i:Nat):Operand × List Tmp × Code × Code:=match T.fn g with|some { body:=some c,.. }=>(match LJ (kR c) i with|some x=>x|none=>(.tmp 0,[],.skip,.skip))|_=>(.tmp 0,[],.skip,.skip)
def Yk(c:Ah)(T:Ij)(g n i:Nat)(f:EV)(tm:Ay)(h:Ab)(ds:List Nat)(k:Ab->List Nat->R)(ex:Nat->Ab->List Nat->R)(ret:Ab->List Nat->R):R:=match f with
 | .func q first captured=>mP (Nat.succ h.next) (c q (first++(.Vh (Nat.succ h.next)::captured)) ((h.new (.deferred true)).new (.loop .ready none g n tm (Fa T g i).2.1 (Fa T g i).2.2.1 (Fa T g i).2.2.2 h.next)))
  (fun h'=>k h' (h.next::ds)) (fun id h'=>ex id h' (h.next::ds)) (fun h'=>ret h' (h.next::ds))
 | _=>none
def oJ(c:Ah)(T:Ij)(g n i l0:Nat)(f:EV)(tm:Ay)(h:Ab)(ds:List Nat)(k:Ab->List Nat->R)(ex:Nat->Ab->List Nat->R)(ret:Ab->List Nat->R):R:=match f with
 | .func q first captured=>match h.get l0 with
  | some (.loop _ _ _ _ _ _ _ _ d)=>mP h.next (c q (first++(.Vh h.next::captured)) (h.new (.loop .ready none g n tm (Fa T g i).2.1 (Fa T g i).2.2.1 (Fa T g i).2.2.2 d)))
   (fun h'=>k h' ds) (fun id h'=>ex id h' ds) (fun h'=>ret h' ds)
  | _=>none
 | _=>none
structure DX where
 bg:Nat
 nw:List (Nat × Nat)
 Cx:List (Nat × Nat)
 lou:List (Nat × Nat)
 st:List (Nat × Nat)
def sI(b base q:Nat)(s:DX):Bool:=Bc (Fc b q s.st) (Bc (Nat.ble (Nat.succ q) base) (Yl b q s.lou) (Bc (within s.bg b) (match loose b s.nw with | []=>true|_=>false) false)) false
def sJ(b q:Nat)(s:DX):Bool:=Bc (within s.bg b) (Bc (Fc b q s.st) (Bc (Fc b q s.Cx) (Az6 q (loose b s.nw)) false) false) false
def Afc(b:Nat)(s:DX):Bool:=Bc (within s.bg b) (Axm b s.st) false
def DX.ld(s:DX)(i q:Nat):DX:=⟨s.bg,s.nw,(Nat.shiftLeft 1 i,q)::s.Cx,s.lou,s.st⟩
def DX.new(s:DX)(i q:Nat):DX:=⟨s.bg,(Nat.shiftLeft 1 i,q)::s.nw,s.Cx,s.lou,s.st⟩
def DX.sto(s:DX)(i q:Nat):DX:=⟨s.bg,s.nw,s.Cx,s.lou,(Nat.shiftLeft 1 i,q)::s.st⟩
def DX.big(s:DX)(i:Nat):DX:=⟨Nat.lor s.bg (Nat.shiftLeft 1 i),s.nw,s.Cx,s.lou,s.st⟩
def DX.iC(s:DX)(i w:Nat):DX:=⟨Nat.lor s.bg (Nat.shiftLeft 1 i),s.nw,s.Cx,(Nat.shiftLeft 1 i,w)::s.lou,s.st⟩
def Pe(i b:Nat)(s:DX)(h h':Ab)(k:DX->Ab->R):R:=
 Bc (Nat.ble h.next h'.mw)
  (k (s.big i) ⟨jU h.t h'.t (loose b s.nw),h'.next,h.mw⟩)
  (Bc (Yj b h'.mw s.Cx)
   (k (s.iC i h'.mw) ⟨jU h.t h'.t (loose b s.nw),h'.next,Bc (Nat.ble h.mw h'.mw) h.mw h'.mw⟩)
   none)
def Ks(b:Nat)(s:DX)(h:Ab):Ab:=⟨j7 h.t (loose b s.nw),h.next,h.next⟩
def nS(T:Ij)(op:Op):Bool:=
 match cls op with
 | .val=>true
 | .load=>true
 | .pur=>match op with
  | .call { callee:=.builtin .len,argTypes,.. }=>match argTypes.toList with
   | [t]=>match T.T6 t with|some (.slice _)=>true|_=>false
   | _=>false
  | .call { callee:=.builtin .min,.. }=>true
  | .call { callee:=.builtin .max,.. }=>true
  | _=>false
 | _=>false
def tn(T:Ij)(l:List Oper):Bool:=match l with | []=>true|o::r=>Bc (nS T o.op) (tn T r) false
def tp(T:Ij)(l:List Oper):Bool:=Bc (tn T l) (Bc (mQ l 0) (lT l (Oj l 0 .nil) l 0 []) false) false
def jc(h:Ab)(k:Nat->DX->R):R:=k h.next ⟨0,[],[],[],[]⟩
def O0(i b base:Nat)(x:EV)(s:DX)(k:DX->R):R:=kP (fun q _=>Bc (sI b base q s) (k (s.ld i q)) none) x
def nJ(i:Nat)(h:Ab)(s:DX)(k:DX->R):R:=k (s.new i h.next)
def oM(i b:Nat)(x:EV)(s:DX)(k:DX->R):R:=kP (fun q _=>Bc (sJ b q s) (k (s.sto i q)) none) x
def LK(h:Ab)(k:Ab->R):R:=k ⟨.nil,h.next,h.next⟩
def Mc(i b:Nat)(s:DX)(h:Ab)(call:Ab->R)(k:EV->Ab->DX->R):R:=Bc (Afc b s) (Ao (call (Ks b s h)) fun v h'=>Pe i b s h h' fun s h=>k v h s) none
def E4(v:EV)(w:Bool):Bool:=match v with | .bool b=>Bc b w (jl w)|_=>false
abbrev VS:=Nat->EV
abbrev CD:=VS->Ay->Ab->List Nat->R
abbrev qI(e:VS)(d:Nat)(v:EV):VS:=fun i=>Bc (Nat.beq d i) v (e i)
abbrev Eb(d:VS)(x:Operand):Option EV:=match x with
 | .tmp t=>some (d t)
 | .const v=>ofV v
 | .global _=>none
 | .func f=>some (.func f [] [])
abbrev nT(d:VS)(l:List Operand):Option (List EV):=@List.rec Operand (fun _=>Option (List EV)) (some []) (fun x _ o=>match Eb d x,o with|some e,some es=>some (e::es)|_,_=>none) l
abbrev tq(d:VS)(l:List (Nat × Operand)):Option (List (Nat × EV)):=@List.rec (Nat × Operand) (fun _=>Option (List (Nat × EV))) (some []) (fun x _ o=>match Eb d x.2,o with|some e,some es=>some ((x.1,e)::es)|_,_=>none) l
abbrev tt(d:VS)(x:Option Operand):Option (Option EV):=match x with
 | none=>some none
 | some x=>(match Eb d x with|some e=>some (some e)|none=>none)
abbrev gO(T:Ij)(call b_ round:Ah)(op:Op)(d:VS)(h:Ab)(k:EV->Ab->R):R:=
 match op with
 | .move x=>(match Eb d x with|some e=>k e h|none=>none)
 | .assign x=>(match Eb d x with|some e=>k e h|none=>none)
 | .pick c a b=>(match Eb d c,Eb d a,Eb d b with|some c,some a,some b=>kI c a b fun v=>k v h|_,_,_=>none)
 | .binOp op t x y _=>(match Eb d x,Eb d y with
  | some a,some b=>(match wv op with|some g=>K1 g (bin T op t) a b fun v=>k v h|none=>im (bin T op t) a b fun v=>k v h)
  | _,_=>none)
 | .unOp .not _ x=>(match Eb d x with|some e=>i_ e fun v=>k v h|none=>none)
 | .nilCheck x=>(match Eb d x with|some e=>ju e fun v=>k v h|none=>none)
 | .fieldAddr s x f=>(match Eb d x,T.T6 s with
  | some e,some (.struct fields)=>(match lU fields.toList f with
   | some fd=>(match T.size fd.type with|some n=>Bc (Nat.beq n 0) none (iE fd.offset e fun v=>k v h)|none=>none)
   | none=>none)
  | _,_=>none)
 | .indexAddr t x ix=>(match Eb d x,Eb d ix,T.T6 t with
  | some e,some ix,some (.array len o)=>(match T.size o with|some s=>jP len s e ix fun v=>k v h|none=>none)
  | some e,some ix,some (.slice o)=>(match T.size o with|some s=>Wn s e ix fun v=>k v h|none=>none)
  | _,_,_=>none)
 | .index t x ix=>(match Eb d x,Eb d ix,T.T6 t with
  | some e,some A,some (.array len o)=>(match T.size o,T.agg o with|some s,some agg=>jX len s agg s e A fun v=>k v h|_,_=>none)
  | _,_,_=>none)
 | .field t x f=>(match Eb d x,T.T6 t with
  | some e,some (.struct fields)=>(match lU fields.toList f with
   | some fd=>(match T.agg fd.type with
    | some true=>(match T.size fd.type with|some n=>kL fd.offset true n e fun v=>k v h|none=>none)
    | some false=>kL fd.offset false 0 e fun v=>k v h
    | none=>none)
   | none=>none)
  | _,_=>none)
 | .convert src dst x=>(match Eb d x,T.T6 src,T.T6 dst with|some e,some _,some (.int c)=>Sh c e fun v=>k v h|_,_,_=>none)
 | .extract x ix=>(match Eb d x with|some e=>kH ix e fun v=>k v h|none=>none)
 | .load t x=>(match Eb d x,T.agg t with
  | some e,some true=>(match T.size t with|some n=>Q4 n e h fun v=>k v h|none=>none)
  | some e,some false=>Ec e h fun v=>k v h
  | _,_=>none)
 | .store t a x=>(match Eb d a,Eb d x,T.size t with|some a,some x,some n=>f_ n a x h fun h=>k (.tuple []) h|_,_,_=>none)
 | .alloc t=>(match T.zero t with|some z=>jN (.cells z t) h k|none=>none)
 | .box t x=>(match Eb d x with|some e=>Sb t e h k|none=>none)
 | .call { callee:=.value (.func g),args,.. }=>(match nT d args.toList with|some xs=>Ao (call g xs h) k|none=>none)
 | .call { callee:=.value f,args,.. }=>(match Eb d f,nT d args.toList with|some e,some xs=>Ao (T5 b_ round e xs h) k|_,_=>none)
 | .call { callee:=.builtin .append,args,argTypes }=>(match args.toList,argTypes.toList with
  | [s,x],[t,u]=>(match Eb d s,Eb d x,T.T6 u,T.T6 t with
   | some a,some b,some (.slice _),some (.slice e)=>(match T.size e,T.zero e with
    | some size,some _=>Ao (D9 e size a b h) k
    | _,_=>none)
   | _,_,_,_=>none)
  | _,_=>none)
 | .call { callee:=.builtin .len,args,argTypes }=>(match args.toList,argTypes.toList with
  | [x],[t]=>(match Eb d x,T.T6 t with
   | some e,some (.slice _)=>Gi e fun v=>k v h
   | some e,some (.chan ..)=>Ao (sR e h) k
   | some e,_=>Ao (builtin T .len argTypes [e] h) k
   | _,_=>none)
  | _,_=>none)
 | .call { callee:=.builtin b,args,argTypes }=>(match nT d args.toList with|some xs=>Ao (builtin T b argTypes xs h) k|none=>none)
 | .unOp .neg _ x=>(match Eb d x with|some e=>nK e fun v=>k v h|none=>none)
 | .build t ps=>(match T.zero t,tq d ps.toList,T.T6 t with
  | some z,some l,some (.struct fields)=>(match placesOf T fields.toList with
   | some ps=>Bt (D1 ps) z l fun v=>k v h
   | none=>none)
  | some z,some l,some (.array _ e)=>(match T.size e with
   | some s=>Bt (Mg s) z l fun v=>k v h
   | none=>none)
  | _,_,_=>none)
 | .buildSlice t n ps=>(match T.T6 t,tq d ps.toList with
  | some (.slice e),some l=>(match T.size e,T.zero e with
   | some s,some z=>Ao (Bv z e s n l h) k
   | _,_=>none)
  | _,_=>none)
 | .makeFunc (.func f) first captured=>(match nT d first.toList,nT d captured.toList with|some a,some b=>k (.func f a b) h|_,_=>none)
 | .sliceToArrayPointer t x=>(match Eb d x,T.T6 t with|some e,some (.array n _)=>nL n e fun v=>k v h|_,_=>none)
 | .slice t x p hi q=>(match Eb d x,tt d p,tt d hi,tt d q with
  | some e,some p,some hi,some q=>(match T.T6 t with
   | some (.array n o)=>(match T.size o with|some s=>Oz n s e p hi q fun v=>k v h|none=>none)
   | some (.slice o)=>(match T.size o with|some s=>h_ s e p hi q fun v=>k v h|none=>none)
   | _=>none)
  | _,_,_,_=>none)
 | .makeSlice t l c=>(match Eb d l,Eb d c,T.T6 t with
  | some l,some c,some (.slice e)=>(match T.zero e with|some z=>Ao (Pr z e l c h) k|none=>none)
  | _,_,_=>none)
 | .makeMap _ none=>Ao (sU h) k
 | .makeChan t s=>(match Eb d s,T.T6 t with
  | some s,some (.chan _ e)=>(match T.size e with|some _=>Ao (sP s h) k|none=>none)
  | _,_=>none)
 | .lookup t x ix ok=>(match Eb d x,Eb d ix,T.T6 t with|some m,some i,some (.map B e)=>Ao (oO T B e ok m i h) k|_,_,_=>none)
 | .mapUpdate t m ix x=>(match Eb d m,Eb d ix,Eb d x,T.T6 t with|some m,some i,some x,some (.map B _)=>Ao (Zr T B m i x h) k|_,_,_,_=>none)
 | .select cs false=>(match cs.toList with
  | [c]=>(match c.send with
   | some x=>(match Eb d c.chan,Eb d x,zeroOf T c.elem with|some c,some x,some _=>Ao (nN c x h) k|_,_,_=>none)
   | none=>(match Eb d c.chan,zeroOf T c.elem with|some c,some C=>Ao (nO C c h) k|_,_=>none))
  | _=>none)
 | _=>none
abbrev Mode:=Option ((Nat × Bool) × Bool)
def LL(a b:Bool):Bool:=Bc a b (jl b)
def o6(m:Mode)(g:Nat × Bool):Option Bool:=match m with|some x=>Bc (Bc (Nat.beq x.1.1 g.1) (LL x.1.2 g.2) false) (some x.2) none|none=>none
def jG(ops:List Oper)(g:Nat × Bool)(b:Bool)(dst:Option Tmp):Mode:=
 match j8 ops g.1 with
 | some o=>(match o.dst with
  | some d=>(match dst with|some e=>Bc (Nat.beq d e) none (some (g,b))|none=>some (g,b))
  | none=>some (g,b))
 | none=>some (g,b)
abbrev ir(n:Nat)(d:Option Tmp)(e:VS)(v:EV):VS:=match d with|none=>e|some d=>Bc (Nat.ble (Nat.succ d) n) (qI e d v) e
abbrev qJ(ops:List Oper)(e:VS)(g:Nat × Bool):Bool:=match j8 ops g.1 with
 | some o=>(match o.dst with|some d=>E4 (e d) g.2|none=>false)
 | none=>false
abbrev wx(fl:Bool)(n:Nat)(tm:Ay)(d:Option Tmp)(v:EV):Ay:=Bc fl (O9 n tm d v) tm
abbrev Brs(n:Nat)(tm:Ay)(d:Option Tmp)(v:EV):Ay:=match d with|none=>tm|some d=>@Bool.rec (fun _=>Ay) tm (tm.put d (some v)) (Nat.ble (Nat.succ d) n)
abbrev iL(fl:Bool)(n:Nat)(tm:Ay)(d:Option Tmp)(v:EV)(F:Ay->R):R:=@Bool.rec (fun _=>R) (F tm) (F (Brs n tm d v)) fl
def jF(c:Code):Bool:=@Code.rec (fun _=>Bool) false (fun _ _ _=>false) (fun _ _ a b=>Bc a true b) (fun _ _ _ a b=>Bc a true b) (fun _ _ a=>a) (fun _ a=>a)
 (fun _ _ _ _ _ _=>true) (fun _=>false) (fun _ a=>a) (fun _=>false) (fun _=>false) false (fun _=>false) c
abbrev o7(fl:Bool)(T:Ij)(call b_ round:Ah)(n:Nat)(ops:List Oper)(fin:CD)(l:List Oper):Mode->CD:=
 @List.rec Oper (fun _=>Mode->CD) (fun _=>fin) (fun o _ e m=>@Option.rec (Nat × Bool) (fun _=>CD) (fun d tm h ds=>gO T call b_ round o.op d h fun v h=>iL fl n tm o.dst v fun tm=>e none (ir n o.dst d v) tm h ds)
  (fun g d tm h ds=>match o6 m g with
   | some true=>gO T call b_ round o.op d h fun v h=>iL fl n tm o.dst v fun tm=>e (jG ops g true o.dst) (ir n o.dst d v) tm h ds
   | some false=>iL fl n tm o.dst (.tuple []) fun tm=>e (jG ops g false o.dst) (ir n o.dst d (.tuple [])) tm h ds
   | none=>Bc (qJ ops d g) (gO T call b_ round o.op d h fun v h=>iL fl n tm o.dst v fun tm=>e (jG ops g true o.dst) (ir n o.dst d v) tm h ds) (iL fl n tm o.dst (.tuple []) fun tm=>e (jG ops g false o.dst) (ir n o.dst d (.tuple [])) tm h ds)) o.guard) l
abbrev mR(T:Ij)(call b_ round:Ah)(op:Op)(i b base:Nat)(s:DX)(d:VS)(h:Ab)(k:DX->EV->Ab->R):R:=
 match cls op with
 | .val=>gO T call b_ round op d h (k s)
 | .load=>(match op with | .load t x=>(match Eb d x with|some e=>O0 i b base e s fun s=>gO T call b_ round (.load t x) d h (k s)|none=>none)|_=>none)
 | .new=>nJ i h s fun s=>gO T call b_ round op d h (k s)
 | .sto=>(match op with | .store t a x=>(match Eb d a with|some e=>oM i b e s fun s=>gO T call b_ round (.store t a x) d h (k s)|none=>none)|_=>none)
 | .pur=>LK h fun h0=>gO T call b_ round op d h0 fun v _=>k s v h
 | .big=>Bc (Afc b s) (gO T call b_ round op d (Ks b s h) fun v h'=>Pe i b s h h' fun s h=>k s v h) none
abbrev kS(fl:Bool)(T:Ij)(call b_ round:Ah)(n:Nat)(ops:List Oper)(bs:Tr Nat)(base:Nat)(fin:CD)(l:List Oper):Nat->Mode->DX->CD:=
 @List.rec Oper (fun _=>Nat->Mode->DX->CD) (fun _ _ _=>fin) (fun o _ e i m s d tm h ds=>match bs.get i with
  | none=>none
  | some b=>@Option.rec (Nat × Bool) (fun _=>R) (mR T call b_ round o.op i b base s d h fun s v h=>iL fl n tm o.dst v fun tm=>e (Nat.succ i) none s (ir n o.dst d v) tm h ds)
   (fun g=>match o6 m g with
    | some true=>mR T call b_ round o.op i b base s d h fun s v h=>iL fl n tm o.dst v fun tm=>e (Nat.succ i) (jG ops g true o.dst) s (ir n o.dst d v) tm h ds
    | some false=>iL fl n tm o.dst (.tuple []) fun tm=>e (Nat.succ i) (jG ops g false o.dst) s (ir n o.dst d (.tuple [])) tm h ds
    | none=>Bc (qJ ops d g) (mR T call b_ round o.op i b base s d h fun s v h=>iL fl n tm o.dst v fun tm=>e (Nat.succ i) (jG ops g true o.dst) s (ir n o.dst d v) tm h ds) (iL fl n tm o.dst (.tuple []) fun tm=>e (Nat.succ i) (jG ops g false o.dst) s (ir n o.dst d (.tuple [])) tm h ds)) o.guard) l
abbrev tu(fl:Bool)(T:Ij)(call b_ round:Ah)(n:Nat)(ops:List Oper)(fin:CD):CD:=fun d tm h ds=>
 @Bool.rec (fun _=>R) none (@Bool.rec (fun _=>R) none (jc h fun base s=>kS fl T call b_ round n ops (Oj ops 0 .nil) base fin ops 0 none s d tm h ds) (lT ops (Oj ops 0 .nil) ops 0 [])) (mQ ops 0)
abbrev iI:=List (Nat × CD)
abbrev nU(out:Nat->CD)(env:iI)(id:Nat):CD:=@List.rec (Nat × CD) (fun _=>CD) (out id) (fun p _ e d tm h ds=>@Prod.rec Nat CD (fun _=>R) (fun j k=>Bc (Nat.beq j id) (k d tm h ds) (e d tm h ds)) p) env
abbrev oP(c:CD->CD)(fuel:Nat):CD:=@Nat.rec (fun _=>CD) (fun _ _ _ _=>none) (fun _ d=>c d) fuel
abbrev wy(call:Ah)(fn n:Nat)(Dl:Option Nat)(f:EV)(ps:List Tmp)(d' body:Code)(tm:Ay)(h:Ab)(ds:List Nat)(k:Ab->List Nat->R)(ex:Nat->Ab->List Nat->R)(ret:Ab->List Nat->R):R:=match f with
 | .func q first captured=>(match Dl with
  | none=>mP (Nat.succ h.next) (call q (first++(.Vh (Nat.succ h.next)::captured)) ((h.new (.deferred true)).new (.loop .ready none fn n tm ps d' body h.next))) (fun h'=>k h' (h.next::ds)) (fun id h'=>ex id h' (h.next::ds)) (fun h'=>ret h' (h.next::ds))
  | some l0=>(match h.get l0 with
   | some (.loop _ _ _ _ _ _ _ _ d)=>mP h.next (call q (first++(.Vh h.next::captured)) (h.new (.loop .ready none fn n tm ps d' body d))) (fun h'=>k h' ds) (fun id h'=>ex id h' ds) (fun h'=>ret h' ds)
   | _=>none))
 | _=>none
abbrev jd(fl:Bool)(T:Ij)(call b_ round:Ah)(fuel fn n:Nat)(Dl:Option Nat)(out:Nat->CD)(ret:CD)(c:Code):iI->CD->CD:=
 @Code.rec (fun _=>iI->CD->CD) (fun _ k=>k)
  (fun _ ops dr _ k=>@Bool.rec (fun _=>CD) (o7 fl T call b_ round n ops.toList k ops.toList none) (@Bool.rec (fun _=>CD) (tu fl T call b_ round n ops.toList k) (o7 fl T call b_ round n ops.toList k ops.toList none) (tp T ops.toList)) dr)
  (fun _ _ a b env k=>a env (b env k))
  (fun c _ _ a b env k d tm h ds=>match Eb d c with|some e=>gQ e (a env k d tm h ds) (b env k d tm h ds)|none=>none)
  (fun id _ c env k=>c ((id,k)::env) k)
  (fun _ c env _=>oP (fun o=>c env o) fuel)
  (fun f ps d' body _ _ env k d tm h ds=>@Bool.rec (fun _=>R) none (match Eb d f with|some e=>wy b_ fn n Dl e ps.toList d' body tm h ds (fun h ds=>k d tm h ds) (fun id h ds=>nU out env id d tm h ds) (fun h ds=>ret d tm h ds)|none=>none) fl)
  (fun id env _=>nU out env id) (fun _ _ _ _ _ _ _ _=>none) (fun _ _ k=>k) (fun _ _ _ _ _ _ _=>none) (fun _ _=>ret) (fun _ _ _ _ _ _ _=>none) c
def Fv(ds:List Nat)(h:Ab)(k:Ab->R):R:=
 @List.rec Nat (fun _=>Ab->R) k (fun d _ e h=>match h.get d with|some (.deferred true)=>e (h.put d (.deferred false))|_=>none) ds h
abbrev tw(d:VS):ResultVar->RV
 | .tmp t=>.v (d t)
 | .cell a t=>.c (d a) t
abbrev lW(T:Ij)(res:List ResultVar)(d:VS)(h:Ab):R:=match res with
 | [.tmp t]=>some (d t,h)
 | []=>some (.tuple [],h)
 | [.tmp s,.tmp t]=>some (.tuple [d s,d t],h)
 | res=>Iq T (res.map (tw d)) h
abbrev qK(fl:Bool)(T:Ij)(res:List ResultVar):CD:=fun d _ h ds=>@Bool.rec (fun _=>R) (lW T res d h) (Fv ds h fun h=>lW T res d h) fl
abbrev qy(l:List EV):Nat->VS->VS:=@List.rec EV (fun _=>Nat->VS->VS) (fun _ d=>d) (fun v _ e i d=>e (Nat.succ i) (qI d i v)) l
abbrev u0:VS:=fun _=>.tuple []
abbrev mL:Nat->CD:=fun _ _ _ _ _=>none
def kO(T:Ij)(call round:Ah)(fuel f:Nat)(args:List EV)(h:Ab):R:=
 match T.fn f with
 | some { ntmps:=n,body:=some c,results:=res,.. }=>Bc (Nat.ble (Fp args) n) (jd (jF c) T call call round fuel f n none mL (qK (jF c) T res.toList) c [] (qK (jF c) T res.toList) (qy args 0 u0) (setArgs args 0 .nil) h []) none
 | _=>none
abbrev qz(n:Nat)(ps:List Tmp):List EV->VS->VS:=@List.rec Tmp (fun _=>List EV->VS->VS) (fun _ d=>d) (fun p _ e args d=>@List.rec EV (fun _=>VS) d (fun v r _=>e r (ir n (some p) d v)) args) ps
abbrev v_(T:Ij)(call b_ round:Ah)(fuel l f n:Nat)(d' body:Code):CD:=
 jd true T call b_ round fuel f n (some l) (fun id _ _ h _=>X5 l false .done (some (.exit id)) h) (fun _ _ h _=>X5 l false .done (some .ret) h) d' []
  fun d tm h ds=>D8 l h fun h=>jd true T call b_ round fuel f n (some l) (fun id _ _ h _=>X5 l false .done (some (.exit id)) h) (fun _ _ h _=>X5 l false .done (some .ret) h) body [] (fun _ _ h _=>X5 l true .ready none h) d tm h ds
def oR(T:Ij)(call round:Ah)(fuel l:Nat)(args:List EV)(h:Ab):R:=
 match h.get l with
 | some (.loop _ _ f n tm ps d' body _)=>match Vy ps args n tm with
  | some d=>v_ T call call round fuel l f n d' body (qz n ps args (tmp tm)) d h []
  | none=>none
 | _=>none
end
variable {k:List EV->R}{m:Mode}{cf fin:CD}
section
theorem mS(l:List EV):Fp l=len l:=by
 induction l with
 | nil=>rfl
 | cons a r d=>exact congrArg Nat.succ d
theorem wA:∀(l:List EV) (n:Nat),kq l n=match Zb l n with|v::_=>some v | []=>none
 | [],n=>rfl
 | a::r,n=>by
  have e:kq (a::r) n=Bc (Nat.beq n 0) (some a) (kq r (Nat.pred n)):=rfl;rw[e];simp only[Zb];cases Nat.beq n 0
  ·exact wA r _
  ·rfl
theorem LM:∀(l:List EV) (n:Nat),tc l n=Zb l n
 | [],n=>rfl
 | a::r,n=>by
  have e:tc (a::r) n=Bc (Nat.beq n 0) (a::r) (tc r (Nat.pred n)):=rfl;rw[e];simp only[Zb];rw[LM r]
theorem wB(a:EV)(x:Option (List EV)):nQ a x=match x with|some x=>some (a::x)|none=>none:=by cases x<;>rfl
theorem wD:∀(l:List EV) (n:Nat),qG l n=takeN l n
 | [],n=>rfl
 | a::r,n=>by
  have e:qG (a::r) n=Bc (Nat.beq n 0) (some []) (nQ a (qG r (Nat.pred n))):=rfl;rw[e];simp only[takeN];rw[wD r,wB];cases takeN r (Nat.pred n)<;>rfl
theorem LN:∀(l:List EV),takeN l (len l)=some l
 | []=>rfl
 | a::r=>by
  simp only[takeN,len];rw[show Nat.beq (Nat.succ (len r)) 0=false from rfl,Bo,Nat.pred_succ,LN r]
theorem Ba5(l:List EV):Zb l 0=l:=by cases l<;>rfl
theorem mK(l:List EV)(off n:Nat):Ly l off n=takeN (Zb l off) n:=by
 unfold Ly;rw[LM,wD,wD,mS];cases h:Nat.beq off 0
 ·rfl
 ·have:=aJ h;subst this
  rw[Ba5];cases d:Nat.beq (len l) n
  ·rfl
  ·have:=aJ d;subst this
   rw[LN];rfl
theorem wE:∀(vs l:List EV),nR vs l=Jf l vs
 | [],l=>by cases l<;>rfl
 | v::vs,[]=>rfl
 | v::vs,a::r=>by
  have e:nR (v::vs) (a::r)=nQ v (nR vs r):=rfl;rw[e];simp only[Jf];rw[wE vs r,wB];cases Jf r vs<;>rfl
theorem wF(vs:List EV):∀(l:List EV) (n:Nat),oZ vs l n=Fw l n vs
 | [],n=>by
  have e:oZ vs [] n=Bc (Nat.beq n 0) (nR vs []) none:=rfl;rw[e];simp only[Fw];rw[wE]
 | a::r,n=>by
  have e:oZ vs (a::r) n=Bc (Nat.beq n 0) (nR vs (a::r)) (nQ a (oZ vs r (Nat.pred n))):=rfl;rw[e];simp only[Fw];rw[wE,wF vs r,wB];cases Fw r (Nat.pred n) vs<;>rfl
theorem LO:∀(l vs:List EV),len l=len vs->Jf l vs=some vs
 | [],[],_=>rfl
 | a::r,[],h=>by simp[len]at h
 | [],v::vs,h=>by simp[len]at h
 | a::r,v::vs,h=>by
  simp only[Jf];rw[LO r vs (by simpa [len]using h)]
theorem Un(l:List EV)(off:Nat)(vs:List EV):Mf l off vs=Fw l off vs:=by
 unfold Mf;rw[wF,wF,mS,mS];cases h:Nat.beq off 0
 ·rfl
 ·have:=aJ h;subst this
  cases d:Nat.beq (len l) (len vs)
  ·rfl
  ·have h2:=aJ d
   have:Fw l 0 vs=Jf l vs:=by cases l<;>rfl
   rw[this,LO l vs h2];rfl
theorem G1 {β:Type}(k:α->Option β)(a:α):oB k (some a)=k a:=rfl
theorem Mv {β:Type}{k:α->Option β}{x:Option α}{r:β}(e:oB k x=some r):∃a,x=some a/\k a=some r:=by
 cases x with
 | none=>cases e
 | some a=>exact⟨a,rfl,e⟩
theorem wG {x y:R}{r:EV × Ab}(e:tg x y v=some r):∃b,v=.bool b/\(Bc b x y)=some r:=by
 cases v with
 | bool b=>exact⟨b,rfl,e⟩
 | _=>cases e
theorem Pw {k:Nat->Nat->R}{r:EV × Ab}(e:kP k v=some r):∃i o,v=.ptr i o/\k i o=some r:=by
 cases v with
 | ptr i o=>exact⟨i,o,rfl,e⟩
 | _=>cases e
theorem Bbc {k:IntKind->Int->R}{r:EV × Ab}(e:LH k v=some r):∃c n,v=.int c n/\k c n=some r:=by
 cases v with
 | int c n=>exact⟨c,n,rfl,e⟩
 | _=>cases e
theorem wH {k:Nat->R}{r:EV × Ab}(e:th k v=some r):∃c n,v=.int c (.ofNat n)/\k n=some r:=by
 cases v with
 | int c n=>
  cases n with
  | ofNat n=>exact⟨c,n,rfl,e⟩
  | negSucc n=>cases e
 | _=>cases e
theorem wI{r:EV × Ab}(e:wu k v=some r):∃l,v=.agg l/\k l=some r:=by
 cases v with
 | agg l=>exact⟨l,rfl,e⟩
 | _=>cases e
theorem A93{r:EV × Ab}(e:LI k v=some r):∃l,v=.tuple l/\k l=some r:=by
 cases v with
 | tuple l=>exact⟨l,rfl,e⟩
 | _=>cases e
theorem LP(a b:Int):ti a b=Int.add a b:=by cases a<;>cases b<;>rfl
theorem LQ(a b:Int):tj a b=Int.sub a b:=by
 cases a with
 | ofNat m=>
  cases b with
  | ofNat n=>
   have e:tj (.ofNat m) (.ofNat n)=Bc (Nat.ble n m) (.ofNat (Nat.sub m n)) (.negSucc (Nat.pred (Nat.sub n m))):=rfl;rw[e,Bq];show _=(Int.ofNat m)-(Int.ofNat n);split
   next h=>
    have:=bL h;show((m-n:Nat):Int)=_;simp only[aY];omega
   next h=>
    have:¬n<=m:=fun x=>h (aO x)
    show Int.negSucc ((n-m)-1)=_;simp only[aY,cn];omega
  | negSucc n=>rfl
 | negSucc m=>rfl
theorem wJ(a b:Int):kQ a b=j6 a b:=by cases a<;>cases b<;>rfl
theorem vF(a b:Int):mO a b=iN a b:=by cases a<;>cases b<;>rfl
theorem LR(b:Bool):jl b=Bc b false true:=by cases b<;>rfl
theorem Bme {op:BinOp}{g:IntKind->Int->Int->EV}(h:wv op=some g):tx op=false/\∀k a b,o8 op k a b=some (g k a b):=by
 unfold wv at h;split at h<;>cases h<;>refine⟨rfl,fun k a b=>?_⟩<;>simp only[o8,kJ,nC,oL,Ji,nE,mG,nG,iH,iK,LP,LQ,wJ,vF,LR]
theorem LS:∀(l:List (Nat × Nat)) (n:Nat),D1 l n=kT l n
 | [],n=>rfl
 | a::r,n=>by
  have e:D1 (a::r) n=Bc (Nat.beq n 0) (some a) (D1 r (Nat.pred n)):=rfl;rw[e];simp only[kT];rw[LS r]
theorem tz(place:Nat->Option (Nat × Nat)):∀(l:List (Nat × EV)) (c:List EV),iU place l c=fill place c l
 | [],c=>rfl
 | (i,v)::l,c=>by
  have e:iU place ((i,v)::l) c=oB (sM fun off size=>Bc v.plain (Bc (Nat.beq (Fp v.cells) size) (oB (iU place l) (Mf c off v.cells)) none) none) (place i):=rfl;rw[e];simp only[fill];cases place i with
  | none=>rfl
  | some x=>
   obtain⟨off,size⟩:=x;simp only;show Bc v.plain (Bc (Nat.beq (Fp v.cells) size) (oB (iU place l) (Mf c off v.cells)) none) none=_;rw[mS,Un];cases Fw c off v.cells with
   | none=>rfl
   | some d=>
    show Bc v.plain (Bc (Nat.beq (len v.cells) size) (iU place l d) none) none=_;rw[tz place l d]
theorem wK(h:Ab)(i off n:Nat):Uw h i off n=I6 h i off n:=by
 unfold Uw I6 lS;cases h.get i with
 | none=>rfl
 | some o=>
  cases o<;>simp only[mK];cases j5 _ off<;>rfl
theorem rK(h:Ab)(size n:Nat)(x:EV):Lm h size n x=cellsOf h size n x:=by
 unfold Lm cellsOf;cases x<;>simp only[wK]
theorem pO(a b:List EV):qH a b=a++b:=by
 induction a with
 | nil=>rfl
 | cons x r d=>exact congrArg (x :: ·) d
theorem Ba7{st e:TypeId}{size:Nat}{z:List EV}(p:T.T6 st=some (.slice e))(h2:T.size e=some size)(q:T.zero e=some z)(s x:EV)(h:Ab):append T st s x h=D9 e size s x h:=by
 unfold append D9;simp only[p,h2,q];cases lenOf x with
 | none=>rfl
 | some n=>
  simp only[G1];rw[rK];cases cellsOf h size n x with
  | none=>rfl
  | some new=>
   simp only[G1];cases s with
   | slice i off d room op=>
    simp only;rw[rK];cases cellsOf h size d (.slice i off d room op)with
    | none=>rfl
    | some By=>
     simp only[G1,pO,mS];cases h.get i with
     | none=>rfl
     | some o=>cases o<;>rfl
   | _=>rfl
theorem wL{agg:Bool}(o:T.agg t=some agg)(p:agg=true->T.size t=some n){cs:List EV}{k:EV->R}{r:EV × Ab}(e:tl agg n cs off k=some r):
 ∃v,part T t cs off=some v/\k v=some r:=by
 unfold tl at e;unfold part;rw[o];cases agg with
 | true=>
  rw[Aj]at e;obtain⟨l,d,h2⟩:=Mv e;rw[mK]at d;rw[p rfl];simp only;rw[d];exact⟨_,rfl,h2⟩
 | false=>
  rw[Bo]at e;obtain⟨v,d,h2⟩:=Mv e;rw[wA]at d;exact⟨v,d,h2⟩
theorem Db(tm:Ay)(x:Operand):Eb (tmp tm) x=Cg tm x:=by cases x<;>rfl
theorem Ft(tm:Ay)(l:List Operand):nT (tmp tm) l=Md tm l:=by
 induction l with
 | nil=>rfl
 | cons x r d=>
  show(match Eb (tmp tm) x,nT (tmp tm) r with|some e,some es=>some (e::es)|_,_=>none)=_;rw[d,Db];simp only[Md];cases Cg tm x<;>cases Md tm r<;>rfl
theorem Fh(tm:Ay)(l:List (Nat × Operand)):tq (tmp tm) l=Yt tm l:=by
 induction l with
 | nil=>rfl
 | cons x r d=>
  obtain⟨i,x⟩:=x;show(match Eb (tmp tm) x,tq (tmp tm) r with|some e,some es=>some ((i,e)::es)|_,_=>none)=_;rw[d,Db];simp only[Yt];cases Cg tm x<;>cases Yt tm r<;>rfl
theorem Hf(tm:Ay)(x:Option Operand):tt (tmp tm) x=je tm x:=by
 cases x with
 | none=>rfl
 | some x=>show(match Eb (tmp tm) x with|some e=>some (some e)|none=>none)=_;rw[Db];rfl
theorem X8 {x:R}{k:EV->Ab->R}{r:EV × Ab}(e:Ao x k=some r):∃v h,x=some (v,h)/\k v h=some r:=by
 obtain⟨⟨v,h⟩,d,h2⟩:=Mv e;exact⟨v,h,d,h2⟩
section
variable{call:Ah}
theorem Hr{op:Op}(hi:mT op=true)(d:E2 T tm op=some v):aop T call round tm op h=some (v,h):=by
 unfold aop;rw[hi,Aj,d]
theorem A3l{k:Ab->R}{r:EV × Ab}(e:mJ h i (fun l=>Mf l off vs) k=some r):∃h',L9 h i off vs=some h'/\k h'=some r:=by
 unfold mJ at e;unfold L9;split at e
 next l t o=>
  obtain⟨l',p,h2⟩:=Mv e;have d:Fw l off vs=some l':=by rw[<-Un];exact p
  simp only[o,d];exact⟨_,rfl,h2⟩
 next l t s o=>
  obtain⟨l',p,h2⟩:=Mv e;have d:Fw l off vs=some l':=by rw[<-Un];exact p
  simp only[o,d];exact⟨_,rfl,h2⟩
 ·cases e
theorem nV {op:Op}{k:EV->Ab->R}{r:EV × Ab}(e:gO T call call round op (tmp tm) h k=some r):
 ∃v h',aop T call round tm op h=some (v,h')/\k v h'=some r:=by
 cases op with
 | move x=>
  simp only[gO,Db,Ft,Fh,Hf]at e;split at e
  next e1 he=>exact⟨_,_,Hr rfl (he),e⟩
  ·cases e
 | assign x=>
  simp only[gO,Db,Ft,Fh,Hf]at e;split at e
  next e1 he=>exact⟨_,_,Hr rfl (he),e⟩
  ·cases e
 | pick c a b=>
  simp only[gO,Db,Ft,Fh,Hf]at e;split at e
  next c1 W b1 hc C hb=>
   obtain⟨bb,d,h2⟩:=wG e;have p:=hc;rw[d]at p;cases bb
   ·exact⟨_,_,Hr rfl (by simp only[E2];rw[p];exact hb),h2⟩
   ·exact⟨_,_,Hr rfl (by simp only[E2];rw[p];exact C),h2⟩
  ·cases e
 | binOp op t x y yt=>
  simp only[gO,Db,Ft,Fh,Hf]at e;split at e
  next W b1 C hb=>
   have ag:=C;have ah:=hb;have key:∀v,bin T op t W b1=some v->aop T call round tm (.binOp op t x y yt) h=some (v,h):=fun v hv=>
    Hr rfl (by simp only[E2];rw[ag];simp only;rw[ah];exact hv)
   split at e
   next g O=>
    obtain⟨s1,s2⟩:=Bme O;unfold K1 at e;split at e
    ·obtain⟨d,h2⟩:=An e
     refine⟨_,_,key _ ?_,h2⟩;simp only[bin];rw[s1,Bo,d,Aj,s2]
    ·obtain⟨v,d,h2⟩:=Mv e
     exact⟨v,h,key v d,h2⟩
   ·obtain⟨v,d,h2⟩:=Mv e
    exact⟨v,h,key v d,h2⟩
  ·cases e
 | unOp u t x=>
  cases u with
  | not=>
   simp only[gO,Db,Ft,Fh,Hf]at e;split at e
   next e1 he=>
    obtain⟨b,d,h2⟩:=wG e;have p:=he;rw[d]at p;cases b
    ·exact⟨_,_,Hr rfl (by simp only[E2];rw[p];rfl),h2⟩
    ·exact⟨_,_,Hr rfl (by simp only[E2];rw[p];rfl),h2⟩
   ·cases e
  | neg=>
   simp only[gO,Db,Ft,Fh,Hf]at e;split at e
   next e1 he=>
    unfold nK at e;split at e
    ·exact⟨_,h,Hr rfl (by simp only[E2];rw[he]),e⟩
    ·cases e
   ·cases e
  | _=>(cases e)
 | nilCheck x=>
  simp only[gO,Db,Ft,Fh,Hf]at e;split at e
  next e1 he=>
   obtain⟨i,o,d,h2⟩:=Pw e;have p:=he;rw[d]at p;exact⟨_,_,Hr rfl (by simp only[E2];rw[p]),h2⟩
  ·cases e
 | fieldAddr s x f=>
  simp only[gO,Db,Ft,Fh,Hf]at e;split at e
  next e1 fields he hu=>
   split at e
   next fd H=>
    split at e
    next n S=>
     cases hb:Nat.beq n 0 with
     | true=>rw[hb,Aj]at e;cases e
     | false=>
      rw[hb,Bo]at e;obtain⟨i,o,d,h2⟩:=Pw e;have p:=he;rw[d]at p;exact⟨_,_,Hr rfl (by simp only[E2];rw[p];simp only;rw[hu];simp only;rw[H];simp only;rw[S];simp only;rw[hb,Bo]),h2⟩
    ·cases e
   ·cases e
  ·cases e
 | indexAddr t x ix=>
  simp only[gO,Db,Ft,Fh,Hf]at e;split at e
  next e1 X ln J he M hu=>
   split at e
   next s hs=>
    obtain⟨c,j,d,h2⟩:=wH e;obtain⟨i,off,p,h4⟩:=Pw h2;obtain⟨D,E⟩:=An h4;have A:=M;have B:=he;rw[d]at A;rw[p]at B;exact⟨_,_,Hr rfl (by simp only[E2];rw[A];simp only;rw[hu,B];simp only;rw[hs];simp only;rw[D,Aj]),E⟩
   ·cases e
  next e1 X J he M hu=>
   split at e
   next s hs=>
    obtain⟨c,j,d,h2⟩:=wH e;split at h2
    ·obtain⟨D,E⟩:=An h2
     have A:=M;have B:=he;rw[d]at A;exact⟨_,_,Hr rfl (by simp only[E2];rw[A];simp only;rw[hu,B];simp only;rw[hs];simp only;rw[D,Aj]),E⟩
    ·cases h2
   ·cases e
  ·cases e
 | index t x ix=>
  simp only[gO,Db,Ft,Fh,Hf]at e;split at e
  next e1 X ln J he M hu=>
   split at e
   next s agg hs C=>
    obtain⟨c,j,d,h2⟩:=wH e;obtain⟨cs,p,h4⟩:=wI h2;obtain⟨D,E⟩:=An h4;obtain⟨v,U,V⟩:=wL C (fun _=>hs) E;have A:=M;have B:=he;rw[d]at A;rw[p]at B;exact⟨_,_,Hr rfl (by simp only[E2];rw[A];simp only;rw[hu,B];simp only;rw[hs];simp only;rw[D,Aj,U]),V⟩
   ·cases e
  ·(cases e)
 | field t x f=>
  simp only[gO,Db,Ft,Fh,Hf]at e;split at e
  next e1 fields he hu=>
   split at e
   next fd H=>
    have B:=he;split at e
    next C=>
     split at e
     next n S=>
      obtain⟨cs,p,h4⟩:=wI e;obtain⟨v,U,V⟩:=wL C (fun _=>S) h4;rw[p]at B;exact⟨_,_,Hr rfl (by simp only[E2];rw[hu,B];simp only;rw[H];simp only;rw[U]),V⟩
     ·cases e
    next C=>
     obtain⟨cs,p,h4⟩:=wI e;obtain⟨v,U,V⟩:=wL C (fun x=>by cases x) h4;rw[p]at B;exact⟨_,_,Hr rfl (by simp only[E2];rw[hu,B];simp only;rw[H];simp only;rw[U]),V⟩
    ·cases e
   ·cases e
  ·cases e
 | convert src dst x=>
  simp only[gO,Db,Ft,Fh,Hf]at e;split at e
  next e1 _ c he hs hd=>
   obtain⟨c',n,d,h2⟩:=Bbc e;have q:=he;rw[d]at q;exact⟨_,_,Hr rfl (by simp only[E2];rw[hs,hd,q]),h2⟩
  ·cases e
 | extract x ix=>
  simp only[gO,Db,Ft,Fh,Hf]at e;split at e
  next e1 he=>
   obtain⟨l,d,h2⟩:=A93 e;obtain⟨v,p,h4⟩:=Mv h2;have q:=he;rw[d]at q;rw[wA]at p;exact⟨_,_,Hr rfl (by simp only[E2];rw[q];exact p),h4⟩
  ·cases e
 | load t x=>
  simp only[gO,Db]at e;split at e
  next e1 he C=>
   split at e
   next n S=>
    obtain⟨i,off,d,h2⟩:=Pw e;obtain⟨l',D,E⟩:=Mv h2;rw[d]at he;refine⟨_,_,?_,E⟩;show Dr T tm (.load t x) h=_;simp only[Dr];rw[he];simp only;rw[C];simp only;rw[S];simp only;rw[<-wK];rw[show Uw h i off n=some l' from D]
   ·cases e
  next e1 he C=>
   obtain⟨i,off,d,h2⟩:=Pw e;obtain⟨l',D,E⟩:=Mv h2;rw[d]at he;split at E
   ·refine⟨_,_,?_,E⟩
    show Dr T tm (.load t x) h=_;simp only[Dr];rw[he];simp only;rw[C];simp only;rw[<-wK,show Uw h i off 1=some _ from D]
   ·cases E
  ·cases e
 | store t a x=>
  simp only[gO,Db,Ft,Fh,Hf]at e;split at e
  next W x1 n C hx S=>
   obtain⟨i,off,d,h2⟩:=Pw e;obtain⟨p,h4⟩:=An h2;obtain⟨D,E⟩:=An h4;obtain⟨h',U,V⟩:=A3l E;rw[mS]at D;have A:=C;have B:=hx;rw[d]at A;refine⟨_,_,?_,V⟩;show Dr T tm (.store t a x) h=_;simp only[Dr];rw[A,B,S];simp only;rw[p,Aj,D,Aj,U]
  ·cases e
 | alloc t=>
  simp only[gO,Db,Ft,Fh,Hf]at e;split at e
  next z F=>
   refine⟨_,_,?_,e⟩;show Dr T tm (.alloc t) h=_;simp only[Dr];rw[F]
  ·cases e
 | box t x=>
  simp only[gO,Db,Ft,Fh,Hf]at e;split at e
  next e1 he=>
   obtain⟨d,h2⟩:=An e;refine⟨_,_,?_,h2⟩;show Dr T tm (.box t x) h=_;simp only[Dr];rw[he];simp only;rw[d,Aj]
  ·cases e
 | call c=>
  obtain⟨callee,args,Q⟩:=c;have Y:∀{f:Operand} {e1:EV} {as:List EV},Cg tm f=some e1->Md tm args.toList=some as->Ao (T5 call round e1 as h) k=some r->∃v h',aop T call round tm (.call ⟨.value f,args,Q⟩) h=some (v,h')/\k v h'=some r:=by
   intro f e1 as A B hc;obtain⟨v,h',d,h2⟩:=X8 hc;refine⟨v,h',?_,h2⟩;show(match Cg tm f,Md tm args.toList with|some (.func g first captured),some as=>call g (first++(as++captured)) h|some (.Vh l),some as=>round l as h|_,_=>none)=_;rw[A,B];unfold T5 at d;split at d
   ·rw[pO,pO]at d;exact d
   ·exact d
   ·cases d
  cases callee with
  | value f=>
   cases f with
   | func g=>
    simp only[gO,Db,Ft]at e;split at e
    next as C=>
     obtain⟨v,h',d,h2⟩:=X8 e;refine⟨v,h',?_,h2⟩;show(match Cg tm (.func g),Md tm args.toList with|some (.func g first captured),some as=>call g (first++(as++captured)) h|some (.Vh l),some as=>round l as h|_,_=>none)=_;rw[C];simp only[Cg,dN,cT];exact d
    ·cases e
   | global g=>cases e
   | _=>
    simp only[gO,Db,Ft]at e;split at e
    next e1 as H C=>exact Y H C e
    ·cases e
  | builtin b=>
   have key:∀{as:List EV},Md tm args.toList=some as->∀v h',builtin T b Q as h=some (v,h')->aop T call round tm (.call ⟨.builtin b,args,Q⟩) h=some (v,h'):=by
    intro as C v h' hb;show Dr T tm (.call ⟨.builtin b,args,Q⟩) h=_;simp only[Dr];rw[C];exact hb
   cases b with
   | append=>
    simp only[gO,Db]at e;split at e
    next s x t u G L=>
     split at e
     next W b1 u1 J hs hx hu Z=>
      split at e
      next size z aj F=>
       obtain⟨v,h',d,h2⟩:=X8 e;refine⟨v,h',key (as:=[W,b1]) (by rw[G];simp only[Md,hs,hx]) v h' ?_,h2⟩;rw[<-Ba7 Z aj F]at d;simp only[builtin];rw[L];simp only;rw[hu];exact d
      ·cases e
     ·cases e
    ·cases e
   | len=>
    simp only[gO,Db]at e;split at e
    next x t G L=>
     have ka:∀{e1:EV},Cg tm x=some e1->Md tm args.toList=some [e1]:=by
      intro e1 he;rw[G];simp only[Md,he]
     split at e
     next e1 J he Z=>
      obtain⟨n,d,h2⟩:=Mv e;refine⟨_,_,key (ka he) _ _ ?_,h2⟩;simp only[builtin];rw[L];simp only;rw[Z];simp only;rw[d]
     next e1 dd J he Z=>
      obtain⟨v,h',d,h2⟩:=X8 e;refine⟨_,_,key (ka he) v h' ?_,h2⟩;simp only[builtin];rw[L];simp only;rw[Z];revert d;unfold sR;cases e1<;>exact id
     next e1 _ _ he _ _=>
      obtain⟨v,h',d,h2⟩:=X8 e;exact⟨_,_,key (ka he) v h' d,h2⟩
     ·cases e
    ·cases e
   | _=>
    simp only[gO,Ft]at e;split at e
    next as C=>
     obtain⟨v,h',d,h2⟩:=X8 e;exact⟨v,h',key C v h' d,h2⟩
    ·cases e
  | _=>cases e
 | build t ps=>
  simp only[gO,Fh]at e;split at e
  next z l fields F hl hu=>
   split at e
   next pl ao=>
    obtain⟨c,p,h2⟩:=Mv e;refine⟨_,h,Hr rfl ?_,h2⟩;rw[tz,show D1 pl=kT pl from funext (LS pl)]at p;simp only[E2];rw[F,hl,hu];simp only;rw[ao];simp only;rw[p]
   ·cases e
  next z l n J F hl hu=>
   split at e
   next s hs=>
    obtain⟨c,p,h2⟩:=Mv e;refine⟨_,h,Hr rfl ?_,h2⟩;rw[tz]at p;simp only[E2];rw[F,hl,hu];simp only;rw[hs];simp only;have aq:fill (fun i=>some (Nat.mul i s,s)) z l=some c:=p;rw[aq]
   ·cases e
  ·cases e
 | buildSlice t n ps=>
  simp only[gO,Fh]at e;split at e
  next J l hu hl=>
   split at e
   next s z hs F=>
    obtain⟨v,h',d,h2⟩:=X8 e;refine⟨v,h',?_,h2⟩;unfold Bv at d;obtain⟨p,h4⟩:=An d;obtain⟨c,D,E⟩:=Mv h4;rw[tz]at D;have au:fill (fun i=>some (Nat.mul i s,s)) (rep z n) l=some c:=D;show Dr T tm (.buildSlice t n ps) h=_;simp only[Dr];rw[hu,hl];simp only;rw[hs,F];simp only;rw[p,Aj,au];exact E
   ·cases e
  ·cases e
 | makeFunc fo first captured=>
  cases fo with
  | func f=>
   simp only[gO,Ft]at e;split at e
   next a b C hb=>
    exact⟨_,h,Hr rfl (by simp only[E2];rw[C,hb]),e⟩
   ·cases e
  | _=>cases e
 | sliceToArrayPointer t x=>
  simp only[gO,Db]at e;split at e
  next e1 n J he hu=>
   unfold nL at e;split at e
   ·obtain⟨d,h2⟩:=An e
    exact⟨_,h,Hr rfl (by simp only[E2];rw[hu,he];simp only;rw[d,Aj]),h2⟩
   ·cases e
  ·cases e
 | slice t x lo hi mx=>
  simp only[gO,Db,Hf]at e;split at e
  next e1 ba bf bj A B q3 q4=>
   split at e
   next n J hu=>
    split at e
    next s hs=>
     obtain⟨i,o,rfl,d⟩:=Pw e;obtain⟨v,h2,p⟩:=Mv d;exact⟨v,h,Hr rfl (by simp only[E2];rw[B,q3,q4];simp only;rw[hu,A];simp only[hs];exact h2),p⟩
    ·cases e
   next J hu=>
    split at e
    next s hs=>
     obtain⟨v,d,h2⟩:=Mv e;exact⟨v,h,Hr rfl (by simp only[E2];rw[B,q3,q4];simp only;rw[hu,A];simp only;rw[hs];exact d),h2⟩
    ·cases e
   ·cases e
  ·cases e
 | makeSlice t l c=>
  simp only[gO,Db]at e;split at e
  next l1 c1 J A B hu=>
   split at e
   next z F=>
    obtain⟨v,h',d,h2⟩:=X8 e;refine⟨v,h',?_,h2⟩;unfold Pr at d;split at d
    ·show Dr T tm (.makeSlice t l c) h=_
     simp only[Dr];rw[hu,A,B];simp only;rw[F];exact d
    ·cases d
   ·cases e
  ·cases e
 | makeMap t rs=>
  cases rs with
  | none=>
   obtain⟨v,h',d,h2⟩:=X8 (show Ao (sU h) k=some r from e);exact⟨v,h',d,h2⟩
  | some x=>cases e
 | makeChan t s=>
  simp only[gO,Db]at e;split at e
  next s1 dd J A hu=>
   split at e
   next n0 aw=>
    obtain⟨v,h',d,h2⟩:=X8 e;refine⟨v,h',?_,h2⟩;unfold sP at d;split at d
    ·show Dr T tm (.makeChan t s) h=_
     simp only[Dr];rw[hu,A];simp only;rw[aw];exact d
    ·cases d
   ·cases e
  ·cases e
 | lookup t x ix ok=>
  simp only[gO,Db]at e;split at e
  next m1 i1 kt J A B hu=>
   obtain⟨v,h',d,h2⟩:=X8 e;refine⟨v,h',?_,h2⟩;unfold oO at d;split at d
   ·show Dr T tm (.lookup t x ix ok) h=_
    simp only[Dr];rw[hu,A,B];simp only;obtain⟨p,h4⟩:=An d;rw[p,Aj];split at h4
    next es O=>
     rw[O];simp only;split at h4
     next H=>rw[H];exact h4
     next H=>
      rw[H];simp only
      obtain⟨zv,D,E⟩:=Mv h4;rw[D];exact E
     ·cases h4
    ·cases h4
   ·cases d
  ·cases e
 | mapUpdate t m ix x=>
  simp only[gO,Db]at e;split at e
  next m1 i1 x1 kt J A B q3 hu=>
   obtain⟨v,h',d,h2⟩:=X8 e;refine⟨v,h',?_,h2⟩;unfold Zr at d;split at d
   ·show Dr T tm (.mapUpdate t m ix x) h=_
    simp only[Dr];rw[hu,A,B,q3];simp only;obtain⟨p,h4⟩:=An d;rw[p,Aj];split at h4
    next es O=>
     rw[O];simp only;split at h4
     next H=>rw[H];exact h4
     next H=>rw[H];exact h4
     ·cases h4
    ·cases h4
   ·cases d
  ·cases e
 | select cs bl=>
  cases bl with
  | true=>cases e
  | false=>
   simp only[gO,Db]at e;split at e
   next c ad=>
    split at e
    next x hsend=>
     split at e
     next c1 x1 zv A B F=>
      obtain⟨v,h',d,h2⟩:=X8 e;refine⟨v,h',?_,h2⟩;unfold nN at d;split at d
      ·show Dr T tm (.select cs false) h=_
       simp only[Dr];rw[ad];simp only;rw[A,hsend];simp only;split at d
       next cap buf O=>
        rw[O,B];simp only;rw[F];exact d
       ·cases d
      ·cases d
     ·cases e
    next hsend=>
     split at e
     next c1 zv A F=>
      obtain⟨v,h',d,h2⟩:=X8 e;refine⟨v,h',?_,h2⟩;unfold nO at d;split at d
      ·show Dr T tm (.select cs false) h=_
       simp only[Dr];rw[ad];simp only;rw[A,hsend];simp only;split at d
       next cap buf O=>
        rw[O,F];exact d
       ·cases d
      ·cases d
     ·cases e
   ·cases e
 | _=>cases e
theorem Iu(tm:Ay)(j i:Nat)(v:EV):tmp (tm.put j (some v)) i=if j=i then v else tmp tm i:=by
 unfold tmp;rw[Tr.get_put];by_cases h:j=i<;>simp[h]
theorem o9(n:Nat)(d:Option Tmp)(tm:Ay)(v:EV):ir n d (tmp tm) v=tmp (O9 n tm d v):=by
 cases d with
 | none=>rfl
 | some d=>
  show Bc (Nat.ble (Nat.succ d) n) (qI (tmp tm) d v) (tmp tm)=tmp (Bc (Nat.ble (Nat.succ d) n) (tm.put d (some v)) tm);cases Nat.ble (Nat.succ d) n with
  | false=>rfl
  | true=>
   funext i;rw[Aj,Aj,Iu];show Bc (Nat.beq d i) v (tmp tm i)=_;by_cases e:d=i
   ·subst e;rw[aK rfl,cO,Aj]
   ·rw[aH e,beq_false e,Bo]
theorem Bjh(ops:List Oper)(g:Nat × Bool)(tm:Ay):qJ ops (tmp tm) g=wanted ops tm (some g):=by
 obtain⟨j,want⟩:=g;simp only[wanted,yielded];show(match j8 ops j with|some o=>(match o.dst with|some d=>E4 (tmp tm d) want|none=>false)|none=>false)=_;cases j8 ops j with
 | none=>rfl
 | some o=>
  simp only;cases o.dst with
  | none=>rfl
  | some d=>
   simp only[tmp];cases tm.get d with
   | none=>rfl
   | some v=>cases v<;>first|rfl|(simp only[E4,LR])
def Zk(ops:List Oper)(tm:Ay)(m:Mode):Prop:=∀g b,m=some (g,b)->wanted ops tm (some g)=b
theorem Zk.none(ops:List Oper)(tm:Ay):Zk ops tm none:=fun _ _ h=>by cases h
theorem Blu(h:LL a b=true):a=b:=by cases a<;>cases b<;>first|rfl|cases h
theorem LU(hm:Zk ops tm m){g:Nat × Bool}(h:o6 m g=some b):wanted ops tm (some g)=b:=by
 unfold o6 at h;cases m with
 | none=>cases h
 | some x=>
  obtain⟨⟨j,w⟩,e⟩:=x;simp only at h;obtain⟨d,h2⟩:=An h;cases h2;rw[Bq]at d;split at d
  next hj=>
   have e1:j=g.1:=aJ hj;have e2:w=g.2:=Blu d;have:g=(j,w):=by rw[e1,e2]
   rw[this];exact hm _ _ rfl
  ·cases d
theorem tA{g:Nat × Bool}(hw:wanted ops tm (some g)=b)(n:Nat)(dst:Option Tmp)(v:EV):Zk ops (O9 n tm dst v) (jG ops g b dst):=by
 intro B C h;obtain⟨j,w⟩:=g;unfold jG at h;simp only[wanted,yielded]at hw⊢;cases p:j8 ops j with
 | none=>
  rw[p]at h hw;simp only at h hw;cases h;simp only[p];exact hw
 | some o=>
  rw[p]at h hw;simp only at h hw;cases hd:o.dst with
  | none=>
   rw[hd]at h hw;simp only at h hw;cases h;simp only[p,hd];exact hw
  | some d=>
   rw[hd]at h hw;simp only at h hw;cases dst with
   | none=>
    simp only at h;cases h;simp only[p,hd,O9];exact hw
   | some u=>
    simp only at h;rw[Bq]at h;split at h
    ·cases h
    next y=>
     cases h;have q:u≠d:=fun e=>y (by rw[e];exact cO _)
     have A:(O9 n tm (some u) v).get d=tm.get d:=by
      show(Bc (Nat.ble (Nat.succ u) n) (tm.put u (some v)) tm).get d=_;rw[Bq];split
      ·rw[Tr.get_put,aH q]
      ·rfl
     simp only[p,hd,A];exact hw
theorem LV(hm:Zk ops tm m){g:Nat × Bool}{A B:R}{r:EV × Ab}(e:(match o6 m g with|some true=>A|some false=>B|none=>Bc (qJ ops (tmp tm) g) A B)=some r):
 (wanted ops tm (some g)=true/\A=some r)\/(wanted ops tm (some g)=false/\B=some r):=by
 split at e
 next hk=>exact .inl ⟨LU hm hk,e⟩
 next hk=>exact .inr ⟨LU hm hk,e⟩
 ·rw[Bjh]at e
  cases hw:wanted ops tm (some g)with
  | true=>rw[hw,Aj]at e;exact .inl ⟨rfl,e⟩
  | false=>rw[hw,Bo]at e;exact .inr ⟨rfl,e⟩
theorem tB{d:Option Tmp}(F:Ay->R):iL fl n tm d v F=F (wx fl n tm d v):=by cases fl<;>cases d<;>rfl
theorem wM:∀{l:List Oper} {m:Mode} {tm t2:Ay} {h:Ab} {ds:List Nat} {r:EV × Ab},(fl=true->t2=tm)->Zk ops tm m->o7 fl T call call round n ops fin l m (tmp tm) t2 h ds=some r ->
 ∃d h' o,jm T call round n ops l tm h=some (d,h')/\(fl=true->o=d)/\fin (tmp d) o h' ds=some r
 | [],m,tm,t2,h,ds,r,p,_,e=>⟨tm,h,t2,rfl,p,e⟩
 | ⟨dst,op,ty,ps,F,g⟩::l,m,tm,t2,h,ds,r,p,hm,e=>by
  have B:∀v,fl=true->wx fl n t2 dst v=O9 n tm dst v:=fun v e=>by rw[p e];show Bc fl _ _=_;rw[e,Aj]
  have run:∀{q:Mode},(∀v,Zk ops (O9 n tm dst v) q)->gO T call call round op (tmp tm) h (fun v h=>iL fl n t2 dst v fun t2=>o7 fl T call call round n ops fin l q (ir n dst (tmp tm) v) t2 h ds)=some r ->
   ∃d h' o,(match aop T call round tm op h with|some (v,h')=>jm T call round n ops l (O9 n tm dst v) h'|none=>none)=some (d,h')/\(fl=true->o=d)/\fin (tmp d) o h' ds=some r:=by
   intro q u e;obtain⟨v,h',C,h2⟩:=nV e;rw[tB,o9]at h2;obtain⟨y,A,t3,D,h4,E⟩:=wM (B v) (u v) h2;exact⟨y,A,t3,by rw[C];exact D,h4,E⟩
  simp only[jm];cases g with
  | none=>
   simp only[wanted,Aj];exact run (fun v=>Zk.none _ _) e
  | some g=>
   rcases LV hm e with⟨hw,e'⟩|⟨hw,e'⟩
   ·rw[hw,Aj];exact run (fun v=>tA hw n dst v) e'
   ·rw[hw,Bo];rw[tB,o9]at e';exact wM (B _) (tA hw n dst _) e'
end
end
theorem wN(h:Bc a b false=true):a=true/\b=true:=by cases a<;>simp_all [Bq]
theorem LW {op:Op}(h:cls op=.load):∃t x,op=.load t x:=by
 cases op<;>first|exact⟨_,_,rfl⟩|skip
 all_goals (first|(cases h;done)|skip)
 all_goals (simp only[cls,mT,Aj,Bo]at h;first|(cases h;done)|skip)
 all_goals exact absurd h (qL false _).2.1
theorem Bmb{call:Ah}{op:Op}(o:nS T op=true)(u:cls op=.pur){h2:Ab}(d:aop T call round tm op h=some (v,h')):
 h'=h/\Dr T tm op h2=some (v,h2):=by
 have y:=tC u;rw[wO y]at d;refine⟨LX y d,?_⟩;unfold nS at o;rw[u]at o;simp only at o;split at o
 next args p=>
  split at o
  next t q=>
   split at o
   next e hu=>
    simp only[Dr]at d⊢;split at d
    next as has=>
     match as,d with
     | [x],d=>
      simp only[builtin]at d⊢;rw[q]at d⊢;simp only at d⊢;rw[hu]at d⊢;simp only at d⊢;split at d
      ·cases d;first|rfl|(rename_i n A;rw[A])
      ·cases d
     | [],d=>cases d
     | _::_::_,d=>cases d
    ·cases d
   ·cases o
  ·cases o
 next args p=>
  simp only[Dr]at d⊢;split at d
  next as has=>
   match as,d with
   | x::l,d=>
    cases x<;>first|(cases d;done)|skip
    simp only[builtin]at d⊢;split at d
    ·cases d;first|rfl|(rename_i hm;rw[hm])
    ·cases d
   | [],d=>cases d
  ·cases d
 next args p=>
  simp only[Dr]at d⊢;split at d
  next as has=>
   match as,d with
   | x::l,d=>
    cases x<;>first|(cases d;done)|skip
    simp only[builtin]at d⊢;split at d
    ·cases d;first|rfl|(rename_i hm;rw[hm])
    ·cases d
   | [],d=>cases d
  ·cases d
 ·cases o
theorem wP {T:Ij}{call round:Ah}{n:Nat}{ops:List Oper}{bs:Tr Nat}{h:Ab}{base:Nat}:
 ∀(l:List Oper) (i:Nat) (tm fh:Ay) (h':Ab) (Cx:List (Nat × Nat)),tn T l=true->(∀k,k<l.length->∃b,bs.get (i+k)=some b)->jm T call round n ops l tm h=some (fh,h') ->
  h'=h/\∃lds',Sp T call round n ops bs base l i ⟨tm,h,0,[],Cx,[],[]⟩=some ⟨fh,h,0,[],lds',[],[]⟩
 | [],i,tm,fh,h',Cx,_,_,e=>by cases e;exact⟨rfl,Cx,rfl⟩
 | ⟨dst,op,ty,ps,af,g⟩::l,i,tm,fh,h',Cx,hq,hbs,e=>by
  obtain⟨hq1,hq2⟩:=wN (show Bc (nS T op) (tn T l) false=true from hq);have hbs':∀k,k<l.length->∃b,bs.get (Nat.succ i+k)=some b:=fun k hk=>by
   have:=hbs (k+1) (by simp;omega);rw[show Nat.succ i+k=i+(k+1) from a_];exact this
  obtain⟨b,gR⟩:=hbs 0 (by simp);rw[dA]at gR;simp only[jm]at e;cases hw:wanted ops tm g with
  | false=>
   rw[hw,Bo]at e;obtain⟨h1,lds',h2⟩:=wP l (Nat.succ i) _ _ _ Cx hq2 hbs' e;refine⟨h1,lds',?_⟩;simp only[Sp,Wa,hw,Bo];exact h2
  | true=>
   rw[hw,Aj]at e;split at e
   next v h1 hop=>
    have go:h1=h->(∃lds1,Wa T call round n ops bs base ⟨dst,op,ty,ps,af,g⟩ i ⟨tm,h,0,[],Cx,[],[]⟩=some ⟨O9 n tm dst v,h,0,[],lds1,[],[]⟩) ->
     h'=h/\∃lds',Sp T call round n ops bs base (⟨dst,op,ty,ps,af,g⟩::l) i ⟨tm,h,0,[],Cx,[],[]⟩=some ⟨fh,h,0,[],lds',[],[]⟩:=by
     rintro rfl ⟨lds1,hd⟩;obtain⟨h2,lds',h3⟩:=wP l (Nat.succ i) _ _ _ lds1 hq2 hbs' e;exact⟨h2,lds',by simp only[Sp,hd];exact h3⟩
    cases hc:cls op with
    | val=>
     have hv:=wQ hc;unfold aop at hop;rw[hv,Aj]at hop;split at hop
     next v' hv'=>
      cases hop;refine go rfl ⟨Cx,?_⟩;simp only[Wa,hw,Aj,gR,hc,hv']
     ·cases hop
    | load=>
     obtain⟨t,x,rfl⟩:=LW hc;have hop':Dr T tm (.load t x) h=some (v,h1):=hop;have hop2:=hop';simp only[Dr]at hop';split at hop'
     next q off hx=>
      have hh1:h1=h:=by
       split at hop'
       ·split at hop'
        ·split at hop'
         ·cases hop';rfl
         ·cases hop'
        ·cases hop'
       ·split at hop'
        ·cases hop';rfl
        ·cases hop'
       ·cases hop'
      subst hh1;refine go rfl ⟨(Nat.shiftLeft 1 i,q)::Cx,?_⟩;have hst:within 0 b=true:=by unfold within;rw[show Nat.land 0 b=0 from Nat.zero_and b];rfl
      have hall:Bc (Nat.ble (Nat.succ q) base) true (Bc (within 0 b) true false)=true:=by rw[hst];cases Nat.ble (Nat.succ q) base<;>rfl
      simp only[Wa,hw,Aj,gR,hc,hx,Fc,Yl,loose,hall,hop2]
     ·cases hop'
    | pur=>
     obtain⟨h2,h3⟩:=Bmb (h2:=⟨.nil,h.next,h.next⟩) hq1 hc hop;refine go h2 ⟨Cx,?_⟩;simp only[Wa,hw,Aj,gR,hc,h3]
    | new=>unfold nS at hq1;rw[hc]at hq1;cases hq1
    | sto=>unfold nS at hq1;rw[hc]at hq1;cases hq1
    | big=>unfold nS at hq1;rw[hc]at hq1;cases hq1
   ·cases e
theorem A6x{call:Ah}(o:tp T ops=true){d:Ay}(e:jm T call round n ops ops tm h=some (d,h')):
 kU T call round n ops tm h=some (d,h'):=by
 obtain⟨u,o⟩:=wN o;obtain⟨y,A⟩:=wN o;have p:∀k,k<ops.length->∃b,(Oj ops 0 .nil).get (0+k)=some b:=fun k hk=>by
  obtain⟨b,hb,_⟩:=wS ops 0 .nil (fun _ _=>rfl) k ops[k] (aE hk);exact⟨b,hb⟩
 obtain⟨rfl,q,B⟩:=wP (bs:=Oj ops 0 .nil) (base:=h.next) ops 0 tm d h' [] u p e;unfold kU;rw[y,Aj,A,Aj,B]
theorem Bqi(h:b=true){x y:α}:Bc b x y=x:=by rw[h];rfl
theorem Bi3{call:Ah}:aop T call round tm (.load t x) h=Dr T tm (.load t x) h:=rfl
theorem Bmr{call:Ah}{a:Operand}:aop T call round tm (.store t a x) h=Dr T tm (.store t a x) h:=rfl
theorem Bnk {op:Op}(h:cls op=.sto):∃t a x,op=.store t a x:=by
 cases op<;>first|exact⟨_,_,_,rfl⟩|skip
 all_goals (first|(cases h;done)|skip)
 all_goals (first
  | (rename_i c;exact absurd (show Bc false kV.val (Bc (lX (.call c)) .pur .big)=.sto from h) (qL _ _).2.2)
  | exact absurd h (qL _ _).2.2)
theorem A8x{call:Ah}{op:Op}(d:cls op=.new):aop T call round tm op h=Dr T tm op h:=by
 rcases wT d with⟨_,rfl⟩|⟨_,_,rfl⟩|⟨_,_,_,rfl⟩|⟨_,_,_,rfl⟩|⟨_,_,rfl⟩|⟨_,_,rfl⟩<;>rfl
def DX.with(s:DX)(tm:Ay)(h:Ab):iP:=⟨tm,h,s.bg,s.nw,s.Cx,s.lou,s.st⟩
theorem wU{call:Ah}{bs:Tr Nat}{base:Nat}{r:EV × Ab}:∀{l:List Oper} {i:Nat} {m:Mode} {s:DX} {tm t2:Ay} {h:Ab},(fl=true->t2=tm)->Zk ops tm m ->
 kS fl T call call round n ops bs base fin l i m s (tmp tm) t2 h ds=some r->∃s' y,Sp T call round n ops bs base l i (s.with tm h)=some s'/\(fl=true->y=s'.tm)/\fin (tmp s'.tm) y s'.h ds=some r
 | [],i,m,s,tm,t2,h,J,_,e=>⟨s.with tm h,t2,rfl,J,e⟩
 | ⟨dst,op,ty,ps,L,g⟩::l,i,m,s,tm,t2,h,J,hm,e=>by
  have U:∀v,fl=true->wx fl n t2 dst v=O9 n tm dst v:=fun v e=>by rw[J e];show Bc fl _ _=_;rw[e,Aj]
  cases hb:bs.get i with
  | none=>simp only[kS,hb]at e;cases e
  | some b=>
   have run:∀{mk:Mode},(∀v,Zk ops (O9 n tm dst v) mk)->wanted ops tm g=true->mR T call call round op i b base s (tmp tm) h (fun s v h=>iL fl n t2 dst v fun t2=>kS fl T call call round n ops bs base fin l (Nat.succ i) mk s (ir n dst (tmp tm) v) t2 h ds)=some r ->
    ∃s' y,Sp T call round n ops bs base (⟨dst,op,ty,ps,L,g⟩::l) i (s.with tm h)=some s'/\(fl=true->y=s'.tm)/\fin (tmp s'.tm) y s'.h ds=some r:=by
    intro mk M hw e2;have p:∀{v:EV} {B:Ab} {s1:DX},(iL fl n t2 dst v fun t2=>kS fl T call call round n ops bs base fin l (Nat.succ i) mk s1 (ir n dst (tmp tm) v) t2 B ds)=some r ->
     Wa T call round n ops bs base ⟨dst,op,ty,ps,L,g⟩ i (s.with tm h)=some (s1.with (O9 n tm dst v) B) ->
     ∃s' y,Sp T call round n ops bs base (⟨dst,op,ty,ps,L,g⟩::l) i (s.with tm h)=some s'/\(fl=true->y=s'.tm)/\fin (tmp s'.tm) y s'.h ds=some r:=by
     intro v B s1 e3 hd;rw[tB,o9]at e3;obtain⟨s',t3,h2,A,h4⟩:=wU (U v) (M v) e3;exact⟨s',t3,by simp only[Sp,hd];exact h2,A,h4⟩
    unfold mR at e2;cases u:cls op with
    | val=>
     rw[u]at e2;obtain⟨v,B,h2,A⟩:=nV e2;have V:=wQ u;unfold aop at h2;rw[V,Aj]at h2;split at h2
     next X O=>
      cases h2;refine p A ?_;simp only[Wa,DX.with,hw,Aj,hb,u,O]
     ·cases h2
    | load=>
     rw[u]at e2;obtain⟨t,x,rfl⟩:=LW u;simp only[Db]at e2;split at e2
     next ex C=>
      obtain⟨q,o,B,h2⟩:=Pw e2;obtain⟨A,h4⟩:=An h2;obtain⟨v,D,E,F⟩:=nV h4;rw[Bi3]at E;rw[B]at C;have Q:D=h:=by
       have d:=E;simp only[Dr]at d;rw[C]at d;simp only at d;split at d
       ·split at d
        ·split at d
         ·cases d;rfl
         ·cases d
        ·cases d
       ·split at d
        ·cases d;rfl
        ·cases d
       ·cases d
      subst Q;refine p F ?_;unfold sI at A;simp only[Wa,DX.with,hw,Aj,hb,u,C,E,DX.ld];exact Bqi A
     ·cases e2
    | new=>
     rw[u]at e2;simp only[nJ]at e2;obtain⟨v,B,h2,A⟩:=nV e2;rw[A8x u]at h2;refine p A ?_;simp only[Wa,DX.with,hw,Aj,hb,u,h2,DX.new]
    | sto=>
     rw[u]at e2;obtain⟨t,a,x,rfl⟩:=Bnk u;simp only[Db]at e2;split at e2
     next ex C=>
      obtain⟨q,o,B,h2⟩:=Pw e2;obtain⟨A,h4⟩:=An h2;obtain⟨v,D,E,F⟩:=nV h4;rw[Bmr]at E;rw[B]at C;refine p F ?_;unfold sJ at A;simp only[Wa,DX.with,hw,Aj,hb,u,C,A,E,DX.sto]
     ·cases e2
    | pur=>
     rw[u]at e2;simp only[LK]at e2;obtain⟨v,B,h2,A⟩:=nV e2;rw[wO (tC u)]at h2;refine p A ?_;simp only[Wa,DX.with,hw,Aj,hb,u,h2]
    | big=>
     rw[u]at e2;obtain⟨B,h2⟩:=An e2;obtain⟨v,A,h4,D⟩:=nV h2;obtain⟨t,nx,mw⟩:=h;obtain⟨W,S,G⟩:=A;have H:aop T call round tm op ⟨j7 t (loose b s.nw),nx,nx⟩=some (v,⟨W,S,G⟩):=h4;unfold Afc at B;unfold Pe at D;simp only at D;cases hle:Nat.ble nx G with
     | true=>
      rw[hle,Aj]at D;refine p D ?_;simp only[Wa,DX.with,hw,Aj,hb,u,B,H,hle,DX.big]
     | false=>
      rw[hle,Bo]at D;obtain⟨E,F⟩:=An D;refine p F ?_;simp only[Wa,DX.with,hw,Aj,Bo,hb,u,B,H,hle,E,DX.iC]
   have e1:(match bs.get i with|none=>none|some b=>(@Option.rec (Nat × Bool) (fun _=>R) (mR T call call round op i b base s (tmp tm) h (fun s v h=>iL fl n t2 dst v fun t2=>kS fl T call call round n ops bs base fin l (Nat.succ i) none s (ir n dst (tmp tm) v) t2 h ds))
    (fun g=>match o6 m g with
     | some true=>mR T call call round op i b base s (tmp tm) h (fun s v h=>iL fl n t2 dst v fun t2=>kS fl T call call round n ops bs base fin l (Nat.succ i) (jG ops g true dst) s (ir n dst (tmp tm) v) t2 h ds)
     | some false=>iL fl n t2 dst (.tuple []) fun t2=>kS fl T call call round n ops bs base fin l (Nat.succ i) (jG ops g false dst) s (ir n dst (tmp tm) (.tuple [])) t2 h ds
     | none=>Bc (qJ ops (tmp tm) g) (mR T call call round op i b base s (tmp tm) h (fun s v h=>iL fl n t2 dst v fun t2=>kS fl T call call round n ops bs base fin l (Nat.succ i) (jG ops g true dst) s (ir n dst (tmp tm) v) t2 h ds)) (iL fl n t2 dst (.tuple []) fun t2=>kS fl T call call round n ops bs base fin l (Nat.succ i) (jG ops g false dst) s (ir n dst (tmp tm) (.tuple [])) t2 h ds)) g:R))=some r:=e
   rw[hb]at e1;cases g with
   | none=>exact run (fun v=>Zk.none _ _) rfl e1
   | some g=>
    rcases LV hm e1 with⟨hw,e'⟩|⟨hw,e'⟩
    ·exact run (fun v=>tA hw n dst v) hw e'
    ·rw[tB,o9]at e'
     obtain⟨s',t3,h2,A,h4⟩:=wU (U _) (tA hw n dst _) e';refine⟨s',t3,?_,A,h4⟩;simp only[Sp,Wa,DX.with,hw,Bo];exact h2
theorem Bbj{t2:Ay}{call:Ah}{r:EV × Ab}(q:fl=true->t2=tm)(e:tu fl T call call round n ops fin (tmp tm) t2 h ds=some r):
 ∃d h' o,kU T call round n ops tm h=some (d,h')/\(fl=true->o=d)/\fin (tmp d) o h' ds=some r:=by
 unfold tu at e;obtain⟨u,e⟩:=An e;obtain⟨h2,e⟩:=An e;obtain⟨⟨d,h',y,A,a3,a4,B⟩,t3,C,h4,D⟩:=wU q (Zk.none _ _) e;refine⟨d,h',t3,?_,h4,D⟩;unfold kU;rw[u,Aj,h2,Aj];have p:Sp T call round n ops (Oj ops 0 .nil) h.next ops 0 ⟨tm,h,0,[],[],[],[]⟩=some ⟨d,h',y,A,a3,a4,B⟩:=C
 rw[p]
section
inductive Reach (step:Hl->AR):Hl->Hl->Prop where
 | refl (s:Hl):Reach step s s
 | head {s s1 s2:Hl}:step s=.go s1->Reach step s1 s2->Reach step s s2
def Ends(step:Hl->AR)(s:Hl)(r:EV × Ab):Prop:=∃s1,Reach step s s1/\step s1=.done r.1 r.2
theorem Ends.go {step:Hl->AR}{s s1:Hl}{r:EV × Ab}(h:step s=.go s1)(e:Ends step s1 r):Ends step s r:=by
 obtain⟨s2,d,h2⟩:=e;exact⟨s2,.head h d,h2⟩
theorem Ends.done {step:Hl->AR}{s:Hl}{r:EV × Ab}(h:step s=.done r.1 r.2):Ends step s r:=⟨s,.refl s,h⟩
theorem Ends.congr {step:Hl->AR}{s s':Hl}{r:EV × Ab}(h:step s=step s')(e:Ends step s r):Ends step s' r:=by
 obtain⟨s2,d,h2⟩:=e;cases d with
 | refl=>exact⟨s',.refl s',by rw[<-h];exact h2⟩
 | head o h4=>exact⟨s2,.head (by rw[<-h];exact o) h4,h2⟩
section
variable (fl:Bool)(T:Ij)(call round:Ah)(fn n:Nat)(Dl:Option Nat)
def At(cd:CD)(todo:List Item):Prop:=∀tm t2 h ds r,((fl=true->t2=tm)/\(fl=false->ds = []))->cd (tmp tm) t2 h ds=some r->Ends (Cq T call round) ⟨⟨fn,n,tm,todo,ds,false,Dl⟩,h⟩ r
end
section
variable{call:Ah}{fn:Nat}{Dl:Option Nat}
theorem At.bad(todo:List Item):At fl T call round fn n Dl (fun _ _ _ _=>none) todo:=fun _ _ _ _ _ _ e=>(by cases e)
theorem At.step{a b:List Item}(hs:∀tm h ds,Cq T call round ⟨⟨fn,n,tm,a,ds,false,Dl⟩,h⟩=.go ⟨⟨fn,n,tm,b,ds,false,Dl⟩,h⟩)(h:At fl T call round fn n Dl cf b):At fl T call round fn n Dl cf a:=
 fun tm t2 h' ds r d e=>(h tm t2 h' ds r d e).go (hs tm h' ds)
theorem At.exit{id:Nat}{a b:List Item}(hs:exitTo id a=exitTo id b)(h:At fl T call round fn n Dl cf (.code (.exit id)::a)):At fl T call round fn n Dl cf (.code (.exit id)::b):=by
 intro tm t2 h' ds r d e;refine(h tm t2 h' ds r d e).congr ?_;simp only[Cq];rw[hs];cases exitTo id b with
 | some k=>rfl
 | none=>simp only[leave]
theorem Beb(out:Nat->CD)(id:Nat)(k:CD)(env:iI)(d:Nat):nU out ((id,k)::env) d=Bc (Nat.beq id d) k (nU out env d):=by
 funext e tm h ds;show Bc (Nat.beq id d) (k e tm h ds) (nU out env d e tm h ds)=_;cases Nat.beq id d<;>rfl
theorem LY {k:Ab->R}{ex:Nat->Ab->R}{ret:Ab->R}{kk:List Item}{l:Nat}{r:R}{x:EV × Ab}(hk:∀h,k h=some x->Ends (Cq T call round) ⟨⟨fn,n,tm,kk,ds,false,Dl⟩,h⟩ x)
 (hex:∀id h,ex id h=some x->Ends (Cq T call round) ⟨⟨fn,n,tm,.code (.exit id)::kk,ds,false,Dl⟩,h⟩ x) (d:∀h,ret h=some x->Ends (Cq T call round) ⟨⟨fn,n,tm,.code .ret::kk,ds,false,Dl⟩,h⟩ x) (e:mP l r k ex ret=some x) :
 ∃s',behind fn n tm ds Dl l kk r=.go s'/\Ends (Cq T call round) s' x:=by
 unfold mP at e;unfold behind;split at e
 ·cases e
 ·split at e
  next o=>
   split at e
   ·cases e
   next p=>
    split at e
    ·simp only;rw[o];simp only;exact⟨_,rfl,hk _ e⟩
    ·simp only;rw[o];simp only;exact⟨_,rfl,hex _ _ e⟩
    ·simp only;rw[o];simp only;exact⟨_,rfl,d _ e⟩
    ·cases e
  ·cases e
theorem W8 {fuel:Nat}{out:Nat->CD}{ret:CD}(hret:∀kk,At fl T call round fn n Dl ret (.code .ret::kk)):∀(c:Code) (env:iI) (k:CD) (kk:List Item),
 At fl T call round fn n Dl k kk->(∀id,At fl T call round fn n Dl (nU out env id) (.code (.exit id)::kk))->At fl T call round fn n Dl (jd fl T call call round fuel fn n Dl out ret c env k) (.code c::kk)
 | .skip,env,k,kk,hk,henv=>At.step (fun _ _ _=>rfl) hk
 | .region id ops dr,env,k,kk,hk,henv=>by
  intro tm t2 h ds r ht e;have plain:o7 fl T call call round n ops.toList k ops.toList none (tmp tm) t2 h ds=some r->(∀fh h',jm T call round n ops.toList ops.toList tm h=some (fh,h')->Cq T call round ⟨⟨fn,n,tm,.code (.region id ops dr)::kk,ds,false,Dl⟩,h⟩=.go ⟨⟨fn,n,fh,kk,ds,false,Dl⟩,h'⟩) ->
   Ends (Cq T call round) ⟨⟨fn,n,tm,.code (.region id ops dr)::kk,ds,false,Dl⟩,h⟩ r:=fun e hs=>by
   obtain⟨fh,h',t3,h1,h3,h2⟩:=wM ht.1 (Zk.none _ _) e;exact(hk _ _ _ _ _ ⟨h3,ht.2⟩ h2).go (hs _ _ h1)
  cases dr with
  | false=>exact plain e fun fh h' h1=>by simp only[Cq];rw[h1]
  | true=>
   have e':Bc (tp T ops.toList) (o7 fl T call call round n ops.toList k ops.toList none) (tu fl T call call round n ops.toList k) (tmp tm) t2 h ds=some r:=e;cases hq:tp T ops.toList with
   | true=>
    rw[hq,Aj]at e';exact plain e' fun fh h' h1=>by simp only[Cq];rw[A6x hq h1]
   | false=>
    rw[hq,Bo]at e';obtain⟨fh,h',t3,h1,h3,h2⟩:=Bbj ht.1 e';exact(hk _ _ _ _ _ ⟨h3,ht.2⟩ h2).go (by simp only[Cq];rw[h1])
 | .seq a b,env,k,kk,hk,henv=>by
  have hb:=W8 (fuel:=fuel) hret b env k kk hk henv;exact At.step (fun _ _ _=>rfl) (W8 (fuel:=fuel) hret a env _ (.code b::kk) hb fun id=>At.exit (a:=kk) (b:=.code b::kk) rfl (henv id))
 | .cond c a b,env,k,kk,hk,henv=>by
  have ha:=W8 (fuel:=fuel) hret a env k kk hk henv;have hb:=W8 (fuel:=fuel) hret b env k kk hk henv;intro tm t2 h ds r ht e;have e':(match Eb (tmp tm) c with|some e=>gQ e (jd fl T call call round fuel fn n Dl out ret a env k (tmp tm) t2 h ds) (jd fl T call call round fuel fn n Dl out ret b env k (tmp tm) t2 h ds)|none=>none)=some r:=e;rw[Db]at e';split at e'
  next e1 he=>
   obtain⟨b,rfl,h2⟩:=wG e';cases b
   ·exact(hb _ _ _ _ _ ht h2).go (by simp only[Cq];rw[he])
   ·exact(ha _ _ _ _ _ ht h2).go (by simp only[Cq];rw[he])
  ·cases e'
 | .block id c,env,k,kk,hk,henv=>by
  refine At.step (b:=.code c :: .inBlock id::kk) (fun _ _ _=>rfl) (W8 hret c ((id,k)::env) k (.inBlock id::kk) (At.step (fun _ _ _=>rfl) hk) fun id'=>?_);rw[Beb,Bq];split
  next hid=>
   have:=aJ hid;subst this;exact At.step (fun _ _ _=>by simp[Cq,exitTo]) hk
  next hid=>
   refine(henv id').exit ?_;have:(id == id')=false:=by
    cases hb:(id == id')with
    | false=>rfl
    | true=>exact absurd (by simpa using hb:id=id') (fun e=>hid (by subst e;exact cO _))
   simp[exitTo,this]
 | .loop c,env,k,kk,hk,henv=>by
  have key:∀m,At fl T call round fn n Dl (oP (fun ih=>jd fl T call call round fuel fn n Dl out ret c env ih) m) (.code c :: .inLoop c::kk):=by
   intro m;induction m with
   | zero=>exact At.bad _
   | succ m ih=>exact W8 hret c env _ (.inLoop c::kk) (At.step (fun _ _ _=>rfl) ih) fun id=>At.exit (a:=kk) (b:=.inLoop c::kk) rfl (henv id)
  exact At.step (fun _ _ _=>rfl) (key fuel)
 | .rangeFunc f ps d' body,env,k,kk,hk,henv=>by
  intro tm t2 h ds r ht e;obtain⟨hfl,e'⟩:=An (show Bc fl (match Eb (tmp tm) f with|some e=>wy call fn n Dl e ps.toList d' body t2 h ds (fun h ds=>k (tmp tm) t2 h ds) (fun id h ds=>nU out env id (tmp tm) t2 h ds) (fun h ds=>ret (tmp tm) t2 h ds)|none=>none) none=some r from e);have e2:=ht.1 hfl;subst e2;have ht:∀{ds:List Nat},((fl=true->t2=t2)/\(fl=false->ds = [])):=fun {_}=>⟨fun _=>rfl,fun x=>by rw[hfl]at x;cases x⟩
  rw[Db]at e';split at e'
  next e1 hf=>
   unfold wy at e';split at e'
   ·split at e'
    ·obtain⟨s',h1,h2⟩:=LY (fun h e=>hk _ _ _ _ _ ht e) (fun id h e=>henv id _ _ _ _ _ ht e) (fun h e=>hret kk _ _ _ _ _ ht e) e'
     exact h2.go (by simp only[Cq];rw[hf];exact h1)
    ·split at e'
     next hg=>
      obtain⟨s',h1,h2⟩:=LY (fun h e=>hk _ _ _ _ _ ht e) (fun id h e=>henv id _ _ _ _ _ ht e) (fun h e=>hret kk _ _ _ _ _ ht e) e';exact h2.go (by simp only[Cq];rw[hf];simp only;rw[hg];exact h1)
     ·cases e'
   ·cases e'
  ·cases e'
 | .exit id,env,k,kk,hk,henv=>henv id
 | .scope c,env,k,kk,hk,henv=>At.bad _
 | .label l,env,k,kk,hk,henv=>At.step (fun _ _ _=>rfl) hk
 | .goto l,env,k,kk,hk,henv=>At.bad _
 | .ret,env,k,kk,hk,henv=>hret kk
 | .refuse w,env,k,kk,hk,henv=>At.bad _
theorem Bmx(T:Ij)(res:List ResultVar)(tm:Ay)(h:Ab):lW T res (tmp tm) h=match Mr T tm h res with|some [v]=>some (v,h)|some l=>some (.tuple l,h)|none=>none:=by
 have e:∀l:List ResultVar,Mr T tm h l=jV T h (l.map (tw (tmp tm))):=by
  intro l;induction l with
  | nil=>rfl
  | cons a r d=>
   cases a with
   | tmp t=>simp only[Mr,dH,tw,jV,d];rfl
   | cell a t=>simp only[Mr,dH,tw,jV,d];cases tmp tm a<;>rfl
 unfold lW;split
 ·rfl
 ·rfl
 ·rfl
 ·rw[e];rfl
theorem wV {f:Func}(q:T.fn fn=some f):∀{ds:List Nat} {h:Ab} {r:EV × Ab},Fv ds h (fun h=>lW T f.results.toList (tmp tm) h)=some r ->
 Ends (Cq T call round) ⟨⟨fn,n,tm,todo,ds,true,Dl⟩,h⟩ r
 | [],h,r,e=>by
  have e':lW T f.results.toList (tmp tm) h=some r:=e;rw[Bmx]at e';refine .done ?_;simp only[Cq];rw[q];simp only;split at e'
  next v u=>cases e';rw[u]
  next l p y=>
   cases e';rw[y];split
   next v o=>cases o;exact(p v rfl).elim
   next o=>cases o;rfl
   next o=>cases o
  ·cases e'
 | d::ds,h,r,e=>by
  have e':(match h.get d with|some (.deferred true)=>Fv ds (h.put d (.deferred false)) (fun h=>lW T f.results.toList (tmp tm) h)|_=>none)=some r:=e;split at e'
  next A=>
   exact(wV q e').go (by simp only[Cq];rw[A])
  ·cases e'
theorem Bnx {f:Func}(o:T.fn fn=some f):(∀kk,At fl T call round fn n none (qK fl T f.results.toList) (.code .ret::kk))/\At fl T call round fn n none (qK fl T f.results.toList) []:=
 by
 have k:∀{tm:Ay} {h:Ab} {ds:List Nat} {r:EV × Ab} {todo:List Item},(fl=false->ds = [])->Bc fl (Fv ds h fun h=>lW T f.results.toList (tmp tm) h) (lW T f.results.toList (tmp tm) h)=some r->Ends (Cq T call round) ⟨⟨fn,n,tm,todo,ds,true,none⟩,h⟩ r:=fun hd e=>by
  cases fl with
  | true=>exact wV o e
  | false=>rw[hd rfl]at *;exact wV (ds:=[]) o e
 exact⟨fun _ _ _ _ _ _ d e=>(k d.2 e).go rfl,fun _ _ _ _ _ d e=>(k d.2 e).go rfl⟩
theorem Bnw(tm:Ay)(d:Nat)(v:EV):qI (tmp tm) d v=tmp (tm.put d (some v)):=by
 have:=o9 (Nat.succ d) (some d) tm v;simp only[ir,O9]at this
 rwa [show Nat.ble (Nat.succ d) (Nat.succ d)=true from aO (aD _),Aj,Aj]at this
theorem LZ:∀(l:List EV) (i:Nat) (tm:Ay),qy l i (tmp tm)=tmp (setArgs l i tm)
 | [],_,_=>rfl
 | v::r,i,tm=>by
  show qy r (Nat.succ i) (qI (tmp tm) i v)=_;rw[Bnw,LZ r];rfl
theorem L_:∀{ps:List Tmp} {args:List EV} {tm d:Ay},Vy ps args n tm=some d->qz n ps args (tmp tm)=tmp d
 | [],[],tm,d,e=>by cases e;rfl
 | [],_::_,_,_,e=>by cases e
 | _::_,[],_,_,e=>by cases e
 | p::r,v::s,tm,d,e=>by
  show qz n r s (ir n (some p) (tmp tm) v)=_;rw[o9];exact L_ e
theorem Bhh {f:Nat}{r:EV × Ab}(e:kO T call round fuel f args h=some r):∃fr,enter T f args=some fr/\Ends (Cq T call round) ⟨fr,h⟩ r:=by
 unfold kO at e;split at e
 next name origin targs params p nfree q res c A ours file el B met C d=>
  obtain⟨o,h2⟩:=An e;rw[mS]at o;rw[show(u0:VS)=tmp .nil from rfl,LZ]at h2;obtain⟨u,y⟩:=Bnx (call:=call) (round:=round) (n:=q) d;refine⟨_,by unfold enter;rw[d];simp only;rw[o,Aj],?_⟩;exact W8 u _ [] _ [] y (fun id=>At.bad _) _ _ _ _ _ ⟨fun _=>rfl,fun _=>rfl⟩ h2
 ·cases e
theorem Bfq(l:Nat):(∀kk,At fl T call round fn n (some l) (fun _ _ h _=>X5 l false .done (some .ret) h) (.code .ret::kk)) /\
 (∀id kk,exitTo id kk=none->At fl T call round fn n (some l) (fun _ _ h _=>X5 l false .done (some (.exit id)) h) (.code (.exit id)::kk))/\At fl T call round fn n (some l) (fun _ _ h _=>X5 l true .ready none h) []:=by
 refine⟨?_,?_,?_⟩
 ·intro kk tm t2 h ds r _ e
  simp only[X5]at e;split at e
  next d=>cases e;exact .done (by simp only[Cq,leave];rw[d])
  ·cases e
 ·intro id kk o tm t2 h ds r _ e
  simp only[X5]at e;split at e
  next d=>cases e;exact .done (by simp only[Cq];rw[o];simp only[leave];rw[d])
  ·cases e
 ·intro tm t2 h ds r _ e
  simp only[X5]at e;split at e
  next d=>cases e;exact .done (by simp only[Cq,leave];rw[d])
  ·cases e
theorem MB {l:Nat}{r:EV × Ab}(e:oR T call round fuel l args h=some r):∃fr,tD l args h=some fr/\Ends (Cq T call round) ⟨fr,h⟩ r:=by
 unfold oR at e;split at e
 next st E f u tm ps d' body d B=>
  split at e
  next p o=>
   refine⟨⟨f,u,p,[.code d',.beginRound,.code body],[],false,some l⟩,by unfold tD;rw[B];simp only;rw[o],?_⟩;obtain⟨y,A,C⟩:=Bfq (fl:=true) (T:=T) (call:=call) (round:=round) (fn:=f) (n:=u) l;rw[L_ o]at e;refine W8 (out:=fun id _ _ h _=>X5 l false .done (some (.exit id)) h) y d' [] _ [.beginRound,.code body] (fun tm t2 h ds r D e=>?_) (fun id=>A id _ rfl) _ _ _ _ _ ⟨fun _=>rfl,fun x=>by cases x⟩ e;simp only[D8]at e;split at e
   next q=>
    exact(W8 (fuel:=fuel) (out:=fun id _ _ h _=>X5 l false .done (some (.exit id)) h) y body [] _ [] C (fun id=>A id [] rfl) _ _ _ _ _ D e).go (by simp only[Cq];rw[q])
   ·cases e
  ·cases e
 ·cases e
end
structure Good(P:Program)(g:Nat)(args:List EV)(h:Ab)(v:EV)(h':Ab):Prop where
 fn:∃fn,P.funcs[g]? = some fn/\fn.body.isSome=true/\(fn.name == "runtime.NumGoroutine")=false
 run:∀p f w,Tg p h->Tt f h w->EV.Tp p args->∀cs,∃fr f' w',Steps P (lone (Frame.enter P g (Bp f args).toArray .normal) cs w) (lone fr cs w')/\fr.fn=g /\
  fr.leaving P w' (.returned (Cm f' v))/\Move p f h w f' h' w'/\Wf p h h'/\v.ok (grow p h h')
 wf:AWf h h'
def wW(P:Program)(g:Nat)(F:oQ):Prop:=∀args h v h',F args h=some (v,h')->Good P g args h v h'
def Sound(P:Program)(c:Ah):Prop:=∀g,wW P g (c g)
def tE(P:Program)(c:Ah):Prop:=nX P c/\Vu c
theorem Sound.call{c:Ah}(h:Sound P c):ks P c:=fun g args d v h' e=>⟨(h g args d v h' e).fn,(h g args d v h' e).run⟩
theorem Sound.w{c:Ah}(h:Sound P c):Vu c:=fun g args d v h' e=>(h g args d v h' e).wf
theorem Sound.of{c:Ah}(d:ks P c)(h2:Vu c):Sound P c:=fun g args h v h' e=>⟨(d g args h v h' e).1,(d g args h v h' e).2,h2 g args h v h' e⟩
section
variable(hT:Qc P T){call:Ah}(hC:Sound P call)(hR:tE P round)
include hT hC hR
theorem wX {s s':Hl}(h:Reach (Cq T call round) s s'):o_ P s s'/\AWf s.h s'.h:=by
 induction h with
 | refl s=>exact⟨fun p f w cs d e o=>g_.refl d e o,.refl _⟩
 | @head s s1 s2 q _ u=>
  have a:o_ P s s1:=fun p f w cs d e o=>Bkp hT hC.call hR.1 hC.w hR.2 q d e o cs
  exact⟨a.trans u.1,(wY hC.w hR.2 (.inl ⟨s1,q,rfl⟩)).trans u.2⟩
theorem Bod(fuel g:Nat):wW P g (kO T call round fuel g):=by
 intro args h v h' C;obtain⟨fr,o,s1,D,e⟩:=Bhh C;obtain⟨A,hw⟩:=wX hT hC hR D;simp only at e;unfold enter at o;split at o
 next name origin targs params L nfree n results c U ours file el V met W E=>
  obtain⟨hle,o⟩:=An o;cases o;have u:args.length<=n:=by have:=bL hle;rwa [Ue]at this
  obtain⟨y,B⟩:=hT.fn _ _ E;refine⟨⟨_,y,rfl,B⟩,fun p f w M O Q cs=>?_,hw.trans (wY hC.w hR.2 (.inr ⟨v,e⟩))⟩;have F:Xy p ⟨g,n,setArgs args 0 .nil,[.code c],[],false,none⟩:=⟨Blq u Q,fun d hd=>(by cases hd),fun l S=>(by cases S),fun x=>(by cases x)⟩;obtain⟨f1,w1,hs,hm,hwf,G,e1,e2⟩:=A p f w cs F M O;have q:=MC hT e G hwf.hok hm.rep;unfold Fin at q;rw[e2]at q;obtain⟨rfl,H,J⟩:=q;refine⟨_,f1,w1,?_,e1,H,hm,hwf,J⟩;have he:Frame.enter P g (Bp f args).toArray .normal=Ob f ⟨g,n,setArgs args 0 .nil,[.code c],[],false,none⟩:=by
   unfold Frame.enter Ob;rw[Ba8 f u];simp[y]
  rw[he];exact hs
 ·cases o
theorem Bgl(fuel:Nat):tE P (oR T call round fuel):=by
 constructor
 ·intro l args h v h' B
  obtain⟨fr,e,s1,C,o⟩:=MB B;obtain⟨u,hw⟩:=wX hT hC hR C;simp only at o;unfold tD at e;split at e
  next st S fn n tm ps d' body dd F=>
   split at e
   next D E=>
    cases e;refine⟨st,S,fn,n,tm,ps,d',body,dd,D,F,E,fun p f w G U V caller cs=>?_⟩;obtain⟨_,H,_⟩:=wZ f E V (G.get l _ F).2.1;have J:Xy p ⟨fn,n,D,[.code d',.beginRound,.code body],[],false,some l⟩:=⟨H,fun d hd=>(by cases hd),fun l' W=>(by cases W;exact(G.get l _ F).1),fun x=>(by cases x)⟩;obtain⟨f1,w1,hs,hm,hwf,L,e1,e2⟩:=u p f w (caller::cs) J G U;have y:=MC hT o L hwf.hok hm.rep;unfold Fin at y;rw[e2]at y;obtain⟨w2,M,O,A,Q⟩:=y caller cs;refine⟨f1,w2,?_,hm.trans O,hwf.trans A,EV.ok.mono (fun q X=>?_) _ Q⟩
    ·exact hs.trans M
    ·rw[<-pa p hwf.next A.next];exact .inl X
   ·cases e
  ·cases e
 ·intro l args h v h' B
  obtain⟨fr,e,s1,C,o⟩:=MB B;obtain⟨u,hw⟩:=wX hT hC hR C;unfold tD at e;split at e
  ·split at e
   ·cases e;exact hw.trans (wY hC.w hR.2 (.inr ⟨v,o⟩))
   ·cases e
  ·cases e
end
end
noncomputable section
abbrev FT:=Ah->Ah->Nat->oQ
def j9(P:Program)(g:Nat)(F:FT):Prop:=∀call round K,Sound P call->tE P round->wW P g (F call round K)
def Ag(T:Ij)(disp:Nat->Option FT)(K:Nat):Nat->Bool->Ah:=
 @Nat.rec (fun _=>Bool->Ah) (fun _ _ _ _=>none)
  (fun _ d b=>@Bool.rec (fun _=>Ah) (fun f=>@Option.rec FT (fun _=>oQ) (kO T (d false) (d true) K f) (fun F=>F (d false) (d true) K) (disp f)) (fun l=>oR T (d false) (d true) K l) b)
theorem tF(hT:Qc P T){disp:Nat->Option FT}(p:∀g F,disp g=some F->j9 P g F)(K:Nat):∀d,Sound P (Ag T disp K d false)/\tE P (Ag T disp K d true)
 | 0=>⟨fun _ _ _ _ _ e=>(by cases e),fun _ _ _ _ _ e=>(by cases e),fun _ _ _ _ _ e=>(by cases e)⟩
 | d+1=>by
  obtain⟨c1,o⟩:=tF hT p K d;constructor
  ·intro g
   have e:Ag T disp K (d+1) false g = @Option.rec FT (fun _=>oQ) (kO T (Ag T disp K d false) (Ag T disp K d true) K g) (fun F=>F (Ag T disp K d false) (Ag T disp K d true) K) (disp g):=rfl;rw[e];cases q:disp g with
   | none=>exact Bod hT c1 o K g
   | some F=>exact p g F q _ _ K c1 o
  ·exact Bgl hT c1 o K
def tG:List UInt8->List UInt8->Bool
 | [],[]=>true
 | a::r,b::s=>Bc (Nat.beq a.toNat b.toNat) (tG r s) false
 | _,_=>false
def w6(a b:Bool):Bool:=Bc a b (jl b)
mutual
def gW:EV->EV->Bool
 | .int k n,.int p q=>Bc (Nat.beq (Ql k) (Ql p)) (mO n q) false
 | .bool a,.bool b=>w6 a b
 | .str a,.str b=>tG a.data.toList b.data.toList
 | .ptr i o,.ptr d o'=>Bc (Nat.beq i d) (Nat.beq o o') false
 | .F7,.F7=>true
 | .slice i o l r op,.slice d o' l' u e=>Bc (Nat.beq i d) (Bc (Nat.beq o o') (Bc (Nat.beq l l') (Bc (Nat.beq r u) (w6 op e) false) false) false) false
 | .Am,.Am=>true
 | .map i,.map d=>Nat.beq i d
 | .Aku,.Aku=>true
 | .chan i,.chan d=>Nat.beq i d
 | .Aea,.Aea=>true
 | .func f a c,.func f' y A=>Bc (Nat.beq f f') (Bc (lY a y) (lY c A) false) false
 | .Vh l,.Vh l'=>Nat.beq l l'
 | .Aib,.Aib=>true
 | .Aan,.Aan=>true
 | .agg l,.agg l'=>lY l l'
 | .tuple l,.tuple l'=>lY l l'
 | _,_=>false
def lY:List EV->List EV->Bool
 | [],[]=>true
 | a::r,b::s=>Bc (gW a b) (lY r s) false
 | _,_=>false
end
end
variable {disp:Nat->Option FT}
theorem Bjr {a b:Int}(h:mO a b=true):a=b:=by
 cases a<;>cases b
 ·exact congrArg Int.ofNat (aJ h)
 ·cases h
 ·cases h
 ·exact congrArg Int.negSucc (aJ h)
theorem MD:∀{a b:List UInt8},tG a b=true->a=b
 | [],[],_=>rfl
 | x::r,y::s,h=>by
  simp only[tG]at h;rw[Bq]at h;split at h
  next e=>
   rw[UInt8.toNat_inj.1 (aJ e),MD h]
  ·cases h
 | [],_::_,h=>by cases h
 | _::_,[],h=>by cases h
theorem ME(h:w6 a b=true):a=b:=by cases a<;>cases b<;>first|rfl|cases h
theorem Bhb {a b:IntKind}(h:Ql a=Ql b):a=b:=by cases a<;>cases b<;>first|rfl|(simp[Ql]at h)
theorem lZ(h:Bc a b false=true):a=true/\b=true:=by cases a<;>simp_all [Bq]
theorem beq_spec {a b:Nat}(h:Nat.beq a b=true):a=b:=aJ h
mutual
theorem MF:∀{a b:EV},gW a b=true->a=b
 | .int k n,b,h=>by
  cases b<;>first|(simp[gW]at h;done)|skip
  simp only[gW]at h;obtain⟨d,h2⟩:=lZ h;rw[Bhb (beq_spec d),Bjr h2]
 | .bool a,b,h=>by
  cases b<;>first|(simp[gW]at h;done)|skip
  simp only[gW]at h;rw[ME h]
 | .str a,b,h=>by
  cases b<;>first|(simp[gW]at h;done)|skip
  rename_i b;simp only[gW]at h;obtain⟨⟨a⟩⟩:=a;obtain⟨⟨b⟩⟩:=b;have:a=b:=MD h;rw[this]
 | .ptr i o,b,h=>by
  cases b<;>first|(simp[gW]at h;done)|skip
  simp only[gW]at h;obtain⟨d,h2⟩:=lZ h;rw[beq_spec d,beq_spec h2]
 | .F7,b,h=>by cases b<;>first|(simp[gW]at h;done)|rfl
 | .slice i o l r op,b,h=>by
  cases b<;>first|(simp[gW]at h;done)|skip
  simp only[gW]at h;obtain⟨d,h⟩:=lZ h;obtain⟨h2,h⟩:=lZ h;obtain⟨e,h⟩:=lZ h;obtain⟨h4,h⟩:=lZ h;rw[beq_spec d,beq_spec h2,beq_spec e,beq_spec h4,ME h]
 | .tail i o p,b,h=>by cases b<;>(simp[gW]at h)
 | .odd a,b,h=>by cases b<;>(simp[gW]at h)
 | .Am,b,h=>by cases b<;>first|(simp[gW]at h;done)|rfl
 | .map i,b,h=>by
  cases b<;>first|(simp[gW]at h;done)|skip
  simp only[gW]at h;rw[beq_spec h]
 | .Aku,b,h=>by cases b<;>first|(simp[gW]at h;done)|rfl
 | .chan i,b,h=>by
  cases b<;>first|(simp[gW]at h;done)|skip
  simp only[gW]at h;rw[beq_spec h]
 | .Aea,b,h=>by cases b<;>first|(simp[gW]at h;done)|rfl
 | .func f a c,b,h=>by
  cases b<;>first|(simp[gW]at h;done)|skip
  simp only[gW]at h;obtain⟨d,h⟩:=lZ h;obtain⟨h2,h⟩:=lZ h;rw[beq_spec d,qM h2,qM h]
 | .Vh l,b,h=>by
  cases b<;>first|(simp[gW]at h;done)|skip
  simp only[gW]at h;rw[beq_spec h]
 | .Aib,b,h=>by cases b<;>first|(simp[gW]at h;done)|rfl
 | .Aan,b,h=>by cases b<;>first|(simp[gW]at h;done)|rfl
 | .agg l,b,h=>by
  cases b<;>first|(simp[gW]at h;done)|skip
  simp only[gW]at h;rw[qM h]
 | .tuple l,b,h=>by
  cases b<;>first|(simp[gW]at h;done)|skip
  simp only[gW]at h;rw[qM h]
theorem qM:∀{a b:List EV},lY a b=true->a=b
 | [],[],_=>rfl
 | x::r,y::s,h=>by
  simp only[lY]at h;obtain⟨d,h2⟩:=lZ h;rw[MF d,qM h2]
 | [],_::_,h=>by simp[lY]at h
 | _::_,[],h=>by simp[lY]at h
end
abbrev I(n:Int):EV:=.int .i64 n
abbrev N(n:Nat):EV:=.int .i64 (.ofNat n)
theorem qx(a b:Int):kQ a b=decide (a<b):=by
 rw[wJ];cases a<;>cases b<;>simp only[j6]
 next a b=>rw[fH,ek];simp[cv];omega
 next a b=>symm;rw[dI];simp only[aY];omega
 next a b=>symm;rw[ek];simp only[aY];omega
 next a b=>rw[fH,ek];simp[cv];omega
theorem pY(a b:Int):mO a b=decide (a=b):=by
 rw[vF];cases a<;>cases b<;>simp only[iN]
 ·rw[fH,ek];simp[Nat.beq_eq];omega
 ·simp
 ·simp
 ·rw[fH,ek];simp[Nat.beq_eq]
theorem sL(p:Prop)[Decidable p]:jl (decide p)=decide (¬p):=by by_cases h:p<;>simp[h,jl]
theorem χ(a b:Int):ti a b=a+b:=LP a b
theorem ψ(a b:Int):tj a b=a-b:=LQ a b
theorem FW {n:Int}(d : -9223372036854775808<=n)(h2:n<9223372036854775808):Cr .i64 n=n:=by
 unfold Cr;split
 next m=>
  have:Nat.ble (Nat.succ m) (tH .i64)=true:=aO (show m+1<=9223372036854775808 by simp only[aY]at h2;omega);rw[this,Aj]
 next m=>
  have:Nat.ble (Nat.succ m) (floor .i64)=true:=aO (show m+1<=9223372036854775808 by simp only[cn]at d;omega);rw[this,Aj]
theorem Ad(h:Ab)(o:Ds):(h.new o).get h.next=some o:=by rw[Ab.Kz,aK rfl]
theorem Ba(o:Ds)(hi:i<h.next):(h.new o).get i=h.get i:=by rw[Ab.Kz,aH a_]
theorem Ae(h:Ab)(i:Nat)(o:Ds):(h.put i o).get i=some o:=by rw[Ab.get_put,aK rfl]
theorem Af(o:Ds)(hi:i≠j:=by omega):(h.put i o).get j=h.get j:=by rw[Ab.get_put,aH hi]
theorem κ(hi:i≠j):(h.del i).get j=h.get j:=by rw[Ab.kK,aH hi]
theorem Bnt(p:Prop)[Decidable p](x y:α):Bc (decide p) x y=if p then x else y:=by by_cases h:p<;>simp[h]
theorem Bbr {l:List EV}(h:n<=l.length):takeN l n=some (l.take n):=by
 induction l generalizing n with
 | nil=>
  have:n=0:=by simpa using h
  subst this;rfl
 | cons a r d=>
  cases n with
  | zero=>rfl
  | succ n=>
   simp only[takeN];rw[show Nat.beq (n+1) 0=false from rfl,Bo,Nat.pred_succ,d (by simpa using h)];rfl
theorem Eg {l:List EV}(h:off+n<=l.length):Ly l off n=some ((l.drop off).take n):=by
 rw[mK,Sy,Bbr (by rw[av];omega)]
theorem sK:∀(l:List EV) (n:Nat),kq l n=l[n]?
 | [],n=>rfl
 | a::r,0=>rfl
 | a::r,n+1=>by
  have e:kq (a::r) (n+1)=kq r n:=rfl;rw[e,sK r n];simp
theorem FU(v:EV):∀(l:List EV) (n:Nat),n<l.length->Mf l n [v]=some (l.set n v)
 | [],n,h=>by simp at h
 | a::r,n,h=>by
  rw[Un];cases n with
  | zero=>cases r<;>rfl
  | succ n=>
   have e:Fw (a::r) (n+1) [v]=(match Fw r n [v]with|some x=>some (a::x)|none=>none):=rfl;rw[e,<-Un,FU v r n (by simpa using h)];rfl
theorem Bb(l:List EV):Fp l=l.length:=by rw[mS,Ue]
theorem Bn {l:List EV}(h:l.length=vs.length):Mf l 0 vs=some vs:=by
 unfold Mf;rw[Bb,Bb,h,show Nat.beq 0 0=true from rfl,Aj,show Nat.beq vs.length vs.length=true from cO _,Aj]
section
variable{s:Nat}{g:IG}
theorem ο(c:IntKind)(a b:Int):Ji c a b=.bool (kQ a b):=rfl
theorem π(c:IntKind)(a b:Int):nE c a b=.bool (jl (kQ b a)):=rfl
theorem ς(c:IntKind)(a b:Int):mG c a b=.bool (kQ b a):=rfl
theorem τ(c:IntKind)(a b:Int):nG c a b=.bool (jl (kQ a b)):=rfl
theorem υ(c:IntKind)(a b:Int):iH c a b=.bool (mO a b):=rfl
theorem FX(c:IntKind)(a b:Int):iK c a b=.bool (jl (mO a b)):=rfl
theorem φ(c:IntKind)(a b:Int):kJ c a b=.int c (Cr c (ti a b)):=rfl
theorem Bqp:jl true=false:=rfl
theorem ν{l:List EV}(d:h.get i=some (.cells l t))(F:List EV->Option (List EV))(k:Ab->R):mJ h i F k=oB (fun l'=>k (h.put i (.cells l' t))) (F l):=by
 unfold mJ;rw[d]
theorem μ {q d rm:Nat}{op:Bool}(hj:j<d)(k:EV->R)(c:IntKind):Wn s (.slice q off d rm op) (.int c (.ofNat j)) k=k (.ptr q (off+j*s)):=by
 show Bc (Nat.ble (Nat.succ j) d) _ none=_;rw[aO hj,Aj];rfl
end
section
variable{call:Ah}{K:Nat}
theorem vY{g:Nat}{F:FT}(h:disp g=some F)(d:Nat)(args:List EV)(o:Ab):
 Ag T disp K (d+1) false g args o=F (Ag T disp K d false) (Ag T disp K d true) K args o:=by
 have e:Ag T disp K (d+1) false g args o = @Option.rec FT (fun _=>oQ) (kO T (Ag T disp K d false) (Ag T disp K d true) K g) (fun F=>F (Ag T disp K d false) (Ag T disp K d true) K) (disp g) args o:=rfl;rw[e,h]
theorem Β(disp:Nat->Option FT)(d l:Nat)(args:List EV)(e:Ab):
 Ag T disp K (d+1) true l args e=oR T (Ag T disp K d false) (Ag T disp K d true) K l args e:=rfl
theorem lq {m d:Nat}(h:n<=d)(e:Nat.ble m n=true):m<=d:=bS (bL e) h
end
end Go.Ev


namespace Go.Ev
noncomputable section
inductive Hk where
 | no
 | here (X:CD)
 | two (a b:Hk)
abbrev Hk.l(H:Hk):Hk:=match H with | .two a _=>a|_=>.no
abbrev Hk.r(H:Hk):Hk:=match H with | .two _ b=>b|_=>.no
section
variable (fl:Bool)(T:Ij)(call b_ round:Ah)(fuel fn n:Nat)(Dl:Option Nat)(out:Nat->CD)(ret:CD)
abbrev P8(H:Hk):Code->iI->CD->CD:=
 @Hk.rec (fun _=>Code->iI->CD->CD) (fun c env k=>jd fl T call b_ round fuel fn n Dl out ret c env k) (fun X _ _ _=>X)
  (fun _ _ a b c env k=>match c with
   | .seq x y=>a x env (b y env k)
   | .cond v x y=>fun d tm h ds=>match Eb d v with|some e=>gQ e (a x env k d tm h ds) (b y env k d tm h ds)|none=>none
   | .block id x=>a x ((id,k)::env) k
   | c=>jd fl T call b_ round fuel fn n Dl out ret c env k) H
abbrev nM(p:List Bool):Hk->Code->iI->CD->CD:=
 @List.rec Bool (fun _=>Hk->Code->iI->CD->CD) (fun _ c env k=>jd fl T call b_ round fuel fn n Dl out ret c env k)
  (fun s _ d H c env k=>match c with
   | .seq x y=>Bc s (d H.r y env k) (d H.l x env (P8 fl T call b_ round fuel fn n Dl out ret H.r y env k))
   | .cond _ x y=>Bc s (d H.r y env k) (d H.l x env k)
   | .block id x=>d H.l x ((id,k)::env) k
   | c=>jd fl T call b_ round fuel fn n Dl out ret c env k) p
end
abbrev kr(p:List Bool)(X:CD):Hk->Hk:=
 @List.rec Bool (fun _=>Hk->Hk) (fun _=>.here X) (fun s _ d H=>Bc s (.two H.l (d H.r)) (.two (d H.l) H.r)) p
def kN(p:List Bool):Hk->Code->Bool:=
 @List.rec Bool (fun _=>Hk->Code->Bool) (fun H _=>match H with | .no=>true|_=>false)
  (fun s _ d H c=>match H with
   | .here _=>false
   | H=>match c with
    | .seq x y=>Bc s (d H.r y) (d H.l x)
    | .cond _ x y=>Bc s (d H.r y) (d H.l x)
    | .block _ x=>Bc s false (d H.l x)
    | _=>false) p
def Brt(p:List Bool):Code->Code:=
 @List.rec Bool (fun _=>Code->Code) (fun c=>c) (fun s _ d c=>match c with
  | .seq x y=>Bc s (d y) (d x)
  | .cond _ x y=>Bc s (d y) (d x)
  | .block _ x=>d x
  | .loop x=>d x
  | c=>c) p
abbrev N0(T:Ij)(g:Nat):Code:=match T.fn g with|some { body:=some c,.. }=>c|_=>.skip
abbrev kM(T:Ij)(g:Nat):Nat:=match T.fn g with|some f=>f.ntmps|_=>0
abbrev jz(q:Bool)(T:Ij)(g:Nat):CD:=match T.fn g with|some f=>qK q T f.results.toList|_=>fun _ _ _ _=>none
abbrev ω(T:Ij)(g:Nat)(p:List Bool):Code:=match Brt p (N0 T g)with | .loop c=>c|c=>c
end
section
variable {fl:Bool}{T:Ij}{call b_ round:Ah}{fuel fn n:Nat}{Dl:Option Nat}{out:Nat->CD}{ret:CD}
theorem Bg3(H:Hk)(d:∀X,H≠.here X)(c:Code)(env:iI)(k:CD):P8 fl T call b_ round fuel fn n Dl out ret H c env k=P8 fl T call b_ round fuel fn n Dl out ret (.two H.l H.r) c env k:=by
 cases H with
 | no=>cases c<;>rfl
 | here X=>exact(d X rfl).elim
 | two a b=>rfl
theorem Z0(X:CD):∀(p:List Bool) (H:Hk) (c:Code) (env:iI) (k:CD),kN p H c=true->nM fl T call b_ round fuel fn n Dl out ret p H c env k=X->P8 fl T call b_ round fuel fn n Dl out ret H c env k=P8 fl T call b_ round fuel fn n Dl out ret (kr p X H) c env k
 | [],H,c,env,k,q,e=>by
  cases H with
  | no=>exact e
  | here _=>cases q
  | two _ _=>cases q
 | s::p,H,c,env,k,q,e=>by
  have u:∀Y,H≠.here Y:=fun Y y=>by subst y;cases q
  have hs:kr (s::p) X H=Bc s (.two H.l (kr p X H.r)) (.two (kr p X H.l) H.r):=rfl;rw[Bg3 H u,hs];have A:∃x y id v,c=.seq x y\/c=.cond v x y\/c=.block id x:=by
   cases H with
   | here Y=>exact(u Y rfl).elim
   | no=>cases c<;>first|exact⟨_,_,0,default,.inl rfl⟩|exact⟨_,_,0,_,.inr (.inl rfl)⟩|exact⟨_,.skip,_,default,.inr (.inr rfl)⟩|cases q
   | two a b=>cases c<;>first|exact⟨_,_,0,default,.inl rfl⟩|exact⟨_,_,0,_,.inr (.inl rfl)⟩|exact⟨_,.skip,_,default,.inr (.inr rfl)⟩|cases q
  obtain⟨x,y,id,v,rfl|rfl|rfl⟩:=A
  ·have d:Bc s (kN p H.r y) (kN p H.l x)=true:=by cases H<;>first|exact q|exact(u _ rfl).elim
   have e':Bc s (nM fl T call b_ round fuel fn n Dl out ret p H.r y env k) (nM fl T call b_ round fuel fn n Dl out ret p H.l x env (P8 fl T call b_ round fuel fn n Dl out ret H.r y env k))=X:=e;cases s with
   | true=>show P8 fl T call b_ round fuel fn n Dl out ret H.l x env (P8 fl T call b_ round fuel fn n Dl out ret H.r y env k)=P8 fl T call b_ round fuel fn n Dl out ret H.l x env (P8 fl T call b_ round fuel fn n Dl out ret (kr p X H.r) y env k);rw[Z0 X p H.r y env k d e']
   | false=>exact Z0 X p H.l x env _ d e'
  ·have d:Bc s (kN p H.r y) (kN p H.l x)=true:=by cases H<;>first|exact q|exact(u _ rfl).elim
   have e':Bc s (nM fl T call b_ round fuel fn n Dl out ret p H.r y env k) (nM fl T call b_ round fuel fn n Dl out ret p H.l x env k)=X:=e;cases s with
   | true=>
    show(fun o tm h ds=>match Eb o v with|some e=>gQ e (P8 fl T call b_ round fuel fn n Dl out ret H.l x env k o tm h ds) (P8 fl T call b_ round fuel fn n Dl out ret H.r y env k o tm h ds)|none=>none)=fun o tm h ds=>match Eb o v with|some e=>gQ e (P8 fl T call b_ round fuel fn n Dl out ret H.l x env k o tm h ds) (P8 fl T call b_ round fuel fn n Dl out ret (kr p X H.r) y env k o tm h ds)|none=>none
    rw[Z0 X p H.r y env k d e']
   | false=>
    show(fun o tm h ds=>match Eb o v with|some e=>gQ e (P8 fl T call b_ round fuel fn n Dl out ret H.l x env k o tm h ds) (P8 fl T call b_ round fuel fn n Dl out ret H.r y env k o tm h ds)|none=>none)=fun o tm h ds=>match Eb o v with|some e=>gQ e (P8 fl T call b_ round fuel fn n Dl out ret (kr p X H.l) x env k o tm h ds) (P8 fl T call b_ round fuel fn n Dl out ret H.r y env k o tm h ds)|none=>none
    rw[Z0 X p H.l x env k d e']
  ·have d:Bc s false (kN p H.l x)=true:=by cases H<;>first|exact q|exact(u _ rfl).elim
   cases s with
   | true=>cases d
   | false=>exact Z0 X p H.l x _ k d e
theorem cut(p:List Bool){H:Hk}{c:Code}{env:iI}{k X Y Z:CD}(e:Y=X)(d:kN p H c=true)(o:nM fl T call b_ round fuel fn n Dl out ret p H c env k=Y)(rest:P8 fl T call b_ round fuel fn n Dl out ret (kr p X H) c env k=Z):
 P8 fl T call b_ round fuel fn n Dl out ret H c env k=Z:=(Z0 X p H c env k d (o.trans e)).trans rest
theorem O1 {B:CD->CD}{E:Nat->CD}(h0:E 0=fun _ _ _ _=>none)(hs:∀m,B (E m)=E (m+1)):∀m,oP B m=E m
 | 0=>h0.symm
 | m+1=>by
  show B (oP B m)=_;rw[O1 h0 hs m,hs]
theorem HF {c:Code}{env:iI}{E e:Nat->CD}(h0:E 0=fun _ _ _ _=>none)(o:∀m,P8 fl T call b_ round fuel fn n Dl out ret .no c env (E m)=e m)(h2:∀m,e m=E (m+1))(m:Nat):oP (fun d=>jd fl T call b_ round fuel fn n Dl out ret c env d) m=E m:=
 O1 (B:=fun d=>jd fl T call b_ round fuel fn n Dl out ret c env d) h0 (fun m=>(o m).trans (h2 m)) m
theorem jQ {A B:CD}(e:∀d tm h ds,A d tm h ds=B d tm h ds):A=B:=funext fun d=>funext fun tm=>funext fun h=>funext fun ds=>e d tm h ds
end
noncomputable section
abbrev w0(g:Nat)(f:Ab->R)(c:Ah):Ah:=fun d xs h=>Bc (Nat.beq g d) (@List.rec EV (fun _=>R) (f h) (fun _ _ _=>c d xs h) xs) (c d xs h)
abbrev w1(g:Nat)(f:EV->Ab->R)(c:Ah):Ah:=fun d xs h=>Bc (Nat.beq g d) (match xs with | [a]=>f a h|xs=>c d xs h) (c d xs h)
abbrev w2(g:Nat)(f:EV->EV->Ab->R)(c:Ah):Ah:=fun d xs h=>Bc (Nat.beq g d) (match xs with | [a,b]=>f a b h|xs=>c d xs h) (c d xs h)
abbrev w3(g:Nat)(f:EV->EV->EV->Ab->R)(c:Ah):Ah:=fun e xs h=>Bc (Nat.beq g e) (match xs with | [a,b,d]=>f a b d h|xs=>c e xs h) (c e xs h)
abbrev w4(g:Nat)(f:EV->EV->EV->EV->Ab->R)(c:Ah):Ah:=fun o xs h=>Bc (Nat.beq g o) (match xs with | [a,b,d,e]=>f a b d e h|xs=>c o xs h) (c o xs h)
abbrev w5(g:Nat)(f:EV->EV->EV->EV->EV->Ab->R)(c:Ah):Ah:=fun o xs h=>Bc (Nat.beq g o) (match xs with | [a,b,d,e,i]=>f a b d e i h|xs=>c o xs h) (c o xs h)
end
section
variable {c x:Ah}{g:Nat}
theorem W0 {f:Ab->R}(e:∀h,c g [] h=f h)(y:c=x):c=w0 g f x:=by
 subst y;funext d xs h;show _=Bc (Nat.beq g d) _ _;cases hb:Nat.beq g d with
 | false=>rfl
 | true=>have:=aJ hb;subst this;cases xs<;>first|exact e h|rfl
theorem W1 {f:EV->Ab->R}(e:∀a h,c g [a] h=f a h)(y:c=x):c=w1 g f x:=by
 subst y;funext d xs h;show _=Bc (Nat.beq g d) _ _;cases hb:Nat.beq g d with
 | false=>rfl
 | true=>have:=aJ hb;subst this;show c g xs h=(match xs with | [a]=>f a h|xs=>c g xs h);split<;>first|exact e _ h|rfl
theorem W2 {f:EV->EV->Ab->R}(e:∀a b h,c g [a,b] h=f a b h)(y:c=x):c=w2 g f x:=by
 subst y;funext d xs h;show _=Bc (Nat.beq g d) _ _;cases hb:Nat.beq g d with
 | false=>rfl
 | true=>have:=aJ hb;subst this;show c g xs h=(match xs with | [a,b]=>f a b h|xs=>c g xs h);split<;>first|exact e _ _ h|rfl
theorem W3 {f:EV->EV->EV->Ab->R}(e:∀a b d h,c g [a,b,d] h=f a b d h)(y:c=x):c=w3 g f x:=by
 subst y;funext o xs h;show _=Bc (Nat.beq g o) _ _;cases hb:Nat.beq g o with
 | false=>rfl
 | true=>have:=aJ hb;subst this;show c g xs h=(match xs with | [a,b,d]=>f a b d h|xs=>c g xs h);split<;>first|exact e _ _ _ h|rfl
theorem W4 {f:EV->EV->EV->EV->Ab->R}(e:∀a b d i h,c g [a,b,d,i] h=f a b d i h)(y:c=x):c=w4 g f x:=by
 subst y;funext o xs h;show _=Bc (Nat.beq g o) _ _;cases hb:Nat.beq g o with
 | false=>rfl
 | true=>have:=aJ hb;subst this;show c g xs h=(match xs with | [a,b,d,e]=>f a b d e h|xs=>c g xs h);split<;>first|exact e _ _ _ _ h|rfl
theorem W5 {f:EV->EV->EV->EV->EV->Ab->R}(e:∀a b d i j h,c g [a,b,d,i,j] h=f a b d i j h)(y:c=x):c=w5 g f x:=by
 subst y;funext o xs h;show _=Bc (Nat.beq g o) _ _;cases hb:Nat.beq g o with
 | false=>rfl
 | true=>have:=aJ hb;subst this;show c g xs h=(match xs with | [a,b,d,e,i]=>f a b d e i h|xs=>c g xs h);split<;>first|exact e _ _ _ _ _ h|rfl
end
noncomputable def mN(T:Ij)(g n:Nat):Bool:=match T.fn g with|some { body:=some _,.. }=>Nat.ble n (kM T g)|_=>false
theorem Α {T:Ij}{c r:Ah}{K g:Nat}{args:List EV}(hk:mN T g (Fp args)=true)(h:Ab):kO T c r K g args h=P8 (jF (N0 T g)) T c c r K g (kM T g) none mL (jz (jF (N0 T g)) T g) .no (N0 T g) [] (jz (jF (N0 T g)) T g) (qy args 0 u0) (setArgs args 0 .nil) h []:=by
 unfold mN kM at hk;unfold kO kM jz N0;cases d:T.fn g with
 | none=>rw[d]at hk<;>cases hk
 | some fn=>
  rw[d]at hk;obtain⟨name,origin,targs,params,e,nfree,n,results,body,o,ours,file,el,p,met,q⟩:=fn;cases body with
  | none=>cases hk
  | some u=>
   show Bc (Nat.ble (Fp args) n) _ none=_;rw[show Nat.ble (Fp args) n=true from hk,Aj]
end Go.Ev
