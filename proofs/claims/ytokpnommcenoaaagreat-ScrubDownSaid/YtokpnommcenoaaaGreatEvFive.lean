import Derived.Test.YtokpnommcenoaaaGreatEvFour
set_option linter.all false
namespace Go.Ev
set_option maxRecDepth 100000
variable {α:Type}{x:Operand}{v:EV}{op:Op}{g:Nat × Bool}{T:Hh}{t:TypeId}{n off fuel:Nat}{tm:Bb}{h h':Ab}{a b fl:Bool}{ops:List Oper}{round:Ai}{ds:List Nat}{f:Func}{todo:List Item}{args:List EV}{P:Program}{post:List (Nat × Option By)}
noncomputable section
abbrev R:=Option (EV × Ab)
abbrev FnT:=List EV->Ab->R
def Au7:Nat->Nat->List Bool:=
 @Nat.rec (fun _=>Nat->List Bool) (fun _=>[]) (fun _ d i=>Ax (Nat.beq i 0) [] (Ax (Nat.beq (Nat.land i 1) 1) (true::d (Nat.div i 2)) (false::d (Nat.pred (Nat.div i 2)))))
def pathOf(i:Nat):List Bool:=Au7 (Nat.succ (Nat.log2 (Nat.succ i))) i
def Tr.top {α:Type}(t:Tr α):Option α:=@Tr.rec α (fun _=>Option α) none (fun _ v _ _ _=>v) t
def Tr.goL {α:Type}(k:Tr α->Option α)(t:Tr α):Option α:=@Tr.rec α (fun _=>Option α) none (fun l _ _ _ _=>k l) t
def Tr.goR {α:Type}(k:Tr α->Option α)(t:Tr α):Option α:=@Tr.rec α (fun _=>Option α) none (fun _ _ r _ _=>k r) t
def Btf {α:Type}(p:List Bool):Tr α->Option α:=
 @List.rec Bool (fun _=>Tr α->Option α) Tr.top (fun b _ d=>@Bool.rec (fun _=>Tr α->Option α) (Tr.goR d) (Tr.goL d) b) p
def oB {α β:Type}(k:α->Option β)(x:Option α):Option β:=@Option.rec α (fun _=>Option β) none k x
def Bfy {α β d:Type}(k:α->β->Option d)(p:α × β):Option d:=@Prod.rec α β (fun _=>Option d) k p
def Fl(l:List EV):Nat:=@List.rec EV (fun _=>Nat) 0 (fun _ _ d=>Nat.succ d) l
def A1r(l:List EV):Nat->Option EV:=@List.rec EV (fun _=>Nat->Option EV) (fun _=>none) (fun a _ d n=>Ax (Nat.beq n 0) (some a) (d (Nat.pred n))) l
def Bgm(l:List EV):Nat->List EV:=@List.rec EV (fun _=>Nat->List EV) (fun _=>[]) (fun a r d n=>Ax (Nat.beq n 0) (a::r) (d (Nat.pred n))) l
def A21(a:EV)(x:Option (List EV)):Option (List EV):=@Option.rec (List EV) (fun _=>Option (List EV)) none (fun l=>some (a::l)) x
def Ba9(l:List EV):Nat->Option (List EV):=@List.rec EV (fun _=>Nat->Option (List EV)) (fun n=>Ax (Nat.beq n 0) (some []) none) (fun a _ d n=>Ax (Nat.beq n 0) (some []) (A21 a (d (Nat.pred n)))) l
def Mj(l:List EV)(off n:Nat):Option (List EV):=Ax (Nat.beq off 0) (Ax (Nat.beq (Fl l) n) (some l) (Ba9 l n)) (Ba9 (Bgm l off) n)
def A05(vs:List EV):List EV->Option (List EV):=@List.rec EV (fun _=>List EV->Option (List EV)) (fun l=>some l) (fun v _ d l=>@List.rec EV (fun _=>Option (List EV)) none (fun _ r _=>A21 v (d r)) l) vs
def Arc(vs:List EV)(l:List EV):Nat->Option (List EV):=@List.rec EV (fun _=>Nat->Option (List EV)) (fun n=>Ax (Nat.beq n 0) (A05 vs []) none) (fun a r d n=>Ax (Nat.beq n 0) (A05 vs (a::r)) (A21 a (d (Nat.pred n)))) l
def Mh(l:List EV)(off:Nat)(vs:List EV):Option (List EV):=Ax (Nat.beq off 0) (Ax (Nat.beq (Fl l) (Fl vs)) (some vs) (Arc vs l 0)) (Arc vs l off)
def Ave {β:Type}(k:List EV->Nat->Option β)(off:Nat)(x:Option By):Option β:=
 match x with|some (.cells l _)=>k l off|some (.vec l _ _)=>k l off|some (.view ws _)=>(match Awm ws off with|some (o,l)=>k l (Nat.sub off o)|none=>none)|_=>none
def Ai8(h:Ab)(i:Nat)(f:List EV->Option (List EV))(k:Ab->R):R:=
 match h.get i with
 | some (.cells l t)=>oB (fun l'=>k (h.put i (.cells l' t))) (f l)
 | some (.vec l t s)=>oB (fun l'=>k (h.put i (.vec l' t s))) (f l)
 | _=>none
def Ye(h:Ab)(i off n:Nat):Option (List EV):=Ave (fun l o=>Mj l o n) off (h.get i)
def O8(h:Ab)(size n:Nat)(x:EV):Option (List EV):=
 match x with
 | .Al=>Ax (Nat.beq n 0) (some []) none
 | .slice i off _ _ _=>Ax (Nat.beq n 0) (some []) (Ye h i off (Nat.mul n size))
 | .tail ..=>Ax (Nat.beq n 0) (some []) none
 | _=>none
def onB(x y:R)(v:EV):R:=match v with | .bool b=>Ax b x y|_=>none
def Asg(k:Nat->Nat->R)(v:EV):R:=match v with | .ptr i off=>k i off|_=>none
def Bo8(k:Nat->R)(v:EV):R:=match v with | .int _ n=>@Int.rec (fun _=>R) k (fun _=>none) n|_=>none
def Brm(k:IntKind->Int->R)(v:EV):R:=match v with | .int c n=>k c n|_=>none
def Bnb(k:List EV->R)(v:EV):R:=match v with | .agg l=>k l|_=>none
def Brq(k:List EV->R)(v:EV):R:=match v with | .tuple l=>k l|_=>none
def Bo4(a b:Int):Int:=@Int.rec (fun _=>Int) (fun m=>@Int.rec (fun _=>Int) (fun n=>.ofNat (Nat.add m n)) (fun n=>Int.add (.ofNat m) (.negSucc n)) b) (fun m=>Int.add (.negSucc m) b) a
def Bpm(a b:Int):Int:=@Int.rec (fun _=>Int) (fun m=>@Int.rec (fun _=>Int) (fun n=>Ax (Nat.ble n m) (.ofNat (Nat.sub m n)) (.negSucc (Nat.pred (Nat.sub n m)))) (fun n=>Int.sub (.ofNat m) (.negSucc n)) b) (fun m=>Int.sub (.negSucc m) b) a
def ltI(a b:Int):Bool:=@Int.rec (fun _=>Bool) (fun m=>@Int.rec (fun _=>Bool) (fun n=>Nat.ble (Nat.succ m) n) (fun _=>false) b) (fun m=>ltB (.negSucc m) b) a
def eqI(a b:Int):Bool:=@Int.rec (fun _=>Bool) (fun m=>@Int.rec (fun _=>Bool) (fun n=>Nat.beq m n) (fun _=>false) b) (fun m=>eqB (.negSucc m) b) a
def Ap3(b:Bool):Bool:=@Bool.rec (fun _=>Bool) true false b
abbrev IG:=IntKind->Int->Int->EV
def A3o:IG:=fun k a b=>.int k (Cx k (Bo4 a b))
def Ber:IG:=fun k a b=>.int k (Cx k (Bpm a b))
def Bhq:IG:=fun k a b=>.int k (Cx k (Int.mul a b))
def Iy:IG:=fun _ a b=>.bool (ltI a b)
def Bdb:IG:=fun _ a b=>.bool (Ap3 (ltI b a))
def Baf:IG:=fun _ a b=>.bool (ltI b a)
def Bcy:IG:=fun _ a b=>.bool (Ap3 (ltI a b))
def Aj7:IG:=fun _ a b=>.bool (eqI a b)
def Aoa:IG:=fun _ a b=>.bool (Ap3 (eqI a b))
def Bsg:BinOp->Option IG
 | .add=>some A3o | .sub=>some Ber | .mul=>some Bhq | .lss=>some Iy | .leq=>some Bdb | .gtr=>some Baf | .geq=>some Bcy | .eql=>some Aj7 | .neq=>some Aoa
 | _=>none
def Be0(agg:Bool)(n:Nat)(cs:List EV)(off:Nat)(k:EV->R):R:=Ax agg (oB (fun l=>k (.agg l)) (Mj cs off n)) (oB k (A1r cs off))
def Aca(place:Nat->Option (Nat × Nat))(l:List (Nat × EV)):List EV->Option (List EV):=
 @List.rec (Nat × EV) (fun _=>List EV->Option (List EV)) (fun c=>some c) (fun x _ d c=>oB (Bfy fun off size=>Ax x.2.plain (Ax (Nat.beq (Fl x.2.cells) size) (oB d (Mh c off x.2.cells)) none) none) (place x.1)) l
def Dg(l:List (Nat × Nat)):Nat->Option (Nat × Nat):=@List.rec (Nat × Nat) (fun _=>Nat->Option (Nat × Nat)) (fun _=>none) (fun a _ d i=>Ax (Nat.beq i 0) (some a) (d (Nat.pred i))) l
def Mg(s:Nat):Nat->Option (Nat × Nat):=fun i=>some (Nat.mul i s,s)
def Amd(a b:List EV):List EV:=@List.rec EV (fun _=>List EV) b (fun x _ d=>x::d) a
def Ef(e:TypeId)(size:Nat)(s x:EV)(h:Ab):R:=
 oB (fun n=>Ax (Nat.beq n 0)
  (match s with
   | .slice _ _ d room _=>Ax (Nat.ble d room) (some (s,h)) none
   | .Al=>some (s,h)
   | _=>none)
  (Ax (Nat.ble n 65536) (oB (fun new=>
   match s with
   | .Al=>some (.slice h.next 0 n n true,h.new (.vec new e size))
   | .slice i off d room op=>Ax (Nat.ble d 1048576) (oB (fun Cv=>
    Ax op
     (Ax (Nat.beq off 0) (Ax (Nat.beq room d) (match h.get i with
      | some (.vec l e' s')=>Ax (Nat.beq (Fl l) (Nat.mul d size)) (Ax (Nat.beq s' size) (Ax (Nat.beq e' e)
       (some (.slice h.next 0 (Nat.add d n) (Nat.add d n) true,(h.del i).new (.vec (Amd Cv new) e size))) none) none) none
      | _=>none) none) none)
     (Ax (Nat.ble (Nat.add d n) room) none (some (.slice h.next 0 (Nat.add d n) (Nat.add d n) true,h.new (.vec (Amd Cv new) e size)))))
    (O8 h size d s)) none
   | _=>none) (O8 h size n x)) none)) (lenOf x)
def Awt(x:Option By)(off n:Nat):Option (List EV):=Ave (fun l o=>Mj l o n) off x
def Ko(g:IG)(f:EV->EV->Option EV)(x y:EV)(k:EV->R):R:=
 match x,y with
 | .int c x,.int d y=>Ax (Nat.beq (O2 c) (O2 d)) (k (g c x y)) none
 | x,y=>oB k (f x y)
def Fy(x:EV)(h:Ab)(k:EV->R):R:=Asg (fun i off=>oB (fun l=>match l with | [v]=>k v|_=>none) (Awt (h.get i) off 1)) x
def Q2(n:Nat)(x:EV)(h:Ab)(k:EV->R):R:=Asg (fun i off=>oB (fun l=>k (.agg l)) (Awt (h.get i) off n)) x
def stE(n:Nat)(a v:EV)(h:Ab)(k:Ab->R):R:=Asg (fun i off=>Ax v.plain (Ax (Nat.beq (Fl v.cells) n) (Ai8 h i (fun l=>Mh l off v.cells) k) none) none) a
def Aal(s:Nat)(x ix:EV)(k:EV->R):R:=Bo8 (fun j=>match x with | .slice i off len _ _=>Ax (Nat.ble (Nat.succ j) len) (k (.ptr i (Nat.add off (Nat.mul j s)))) none|_=>none) ix
def As2(c a b:EV)(k:EV->R):R:=onB (k a) (k b) c
def Agi(f:EV->EV->Option EV)(a b:EV)(k:EV->R):R:=oB k (f a b)
def Aq5(v:EV)(k:EV->R):R:=onB (k (.bool false)) (k (.bool true)) v
def Bc1(v:EV)(k:EV->R):R:=match v with | .int c n=>k (.int c (Cx c (Int.sub 0 n)))|_=>none
def Ars(v:EV)(k:EV->R):R:=Asg (fun i o=>k (.ptr i o)) v
def Ag8(c:Nat)(v:EV)(k:EV->R):R:=Asg (fun i o=>k (.ptr i (Nat.add o c))) v
def Axi(len s:Nat)(v ix:EV)(k:EV->R):R:=Bo8 (fun j=>Asg (fun i off=>Ax (Nat.ble (Nat.succ j) len) (k (.ptr i (Nat.add off (Nat.mul j s)))) none) v) ix
def Azl(len s:Nat)(agg:Bool)(n:Nat)(v ix:EV)(k:EV->R):R:=Bo8 (fun j=>Bnb (fun cs=>Ax (Nat.ble (Nat.succ j) len) (Be0 agg n cs (Nat.mul j s) k) none) v) ix
def Vu(off:Nat)(agg:Bool)(n:Nat)(v:EV)(k:EV->R):R:=Bnb (fun cs=>Be0 agg n cs off k) v
def Sf(c:IntKind)(v:EV)(k:EV->R):R:=Brm (fun _ n=>k (.int c (Cx c n))) v
def Asy(ix:Nat)(v:EV)(k:EV->R):R:=Brq (fun l=>oB k (A1r l ix)) v
def Ax0(o:By)(h:Ab)(k:EV->Ab->R):R:=k (.ptr h.next 0) (h.new o)
def P9(t:TypeId)(v:EV)(h:Ab)(k:EV->Ab->R):R:=Ax v.plain (k (.ptr h.next 0) (h.new (.cells v.cells t))) none
def Hc(v:EV)(k:EV->R):R:=oB (fun n=>k (.int .i64 (.ofNat n))) (lenOf v)
def Am(x:R)(k:EV->Ab->R):R:=oB (Bfy k) x
def Rf(c r:Ai)(f:EV)(args:List EV)(h:Ab):R:=match f with
 | .func g a cs=>c g (Amd a (Amd args cs)) h
 | .U1 l=>r l args h
 | _=>none
def Bo(place:Nat->Option (Nat × Nat))(z:List EV)(ps:List (Nat × EV))(k:EV->R):R:=oB (fun c=>k (.agg c)) (Aca place ps z)
def A2e(n:Nat)(v:EV)(k:EV->R):R:=match v with | .slice i off len _ _=>Ax (Nat.ble n len) (k (.ptr i off)) none|_=>none
def Aex(s:Nat)(v:EV)(d e i:Option EV)(k:EV->R):R:=oB k (slc v s d e i)
def Nv(n s:Nat)(v:EV)(d e j:Option EV)(k:EV->R):R:=Asg (fun i off=>oB k (slc (.slice i off n n false) s d e j)) v
def Vs(z:List EV)(e:TypeId)(l c:EV)(h:Ab):R:=
 match l,c with
 | .int _ (.ofNat n),.int _ (.ofNat m)=>Ax (Nat.ble n m) (Ax (Nat.ble m 65536) (some (.slice h.next 0 n m false,h.new (.cells (rep z m) e))) none) none
 | _,_=>none
def Bz(z:List EV)(e:TypeId)(s n:Nat)(ps:List (Nat × EV))(h:Ab):R:=
 Ax (Nat.ble (Nat.mul n s) 65536) (oB (fun c=>some (.slice h.next 0 n n false,h.new (.cells c e))) (Aca (Mg s) ps (rep z n))) none
def Aw7(h:Ab):R:=some (.map h.next,h.new (.map []))
def Arn(s:EV)(h:Ab):R:=match s with | .int _ (.ofNat n)=>Ax (Nat.ble n 65536) (some (.chan h.next,h.new (.chan n []))) none|_=>none
def Ard(T:Hh)(j e:TypeId)(ok:Bool)(m ix:EV)(h:Ab):R:=
 match m with
 | .map i=>Ax (Om T j ix) (match h.get i with
  | some (.map es)=>match Hn ix es 0 with
   | some (some (_,v))=>some (Ax ok (.tuple [v,.bool true]) v,h)
   | some none=>oB (fun d=>some (Ax ok (.tuple [d,.bool false]) d,h)) (zeroOf T e)
   | none=>none
  | _=>none) none
 | _=>none
def Z2(T:Hh)(d:TypeId)(m ix x:EV)(h:Ab):R:=
 match m with
 | .map i=>Ax (Om T d ix) (match h.get i with
  | some (.map es)=>match Hn ix es 0 with
   | some (some (j,_))=>some (.tuple [],h.put i (.map (es.set j (ix,x))))
   | some none=>some (.tuple [],h.put i (.map (es++[(ix,x)])))
   | none=>none
  | _=>none) none
 | _=>none
def A2j(c x:EV)(h:Ab):R:=
 match c with
 | .chan i=>match h.get i with
  | some (.chan cap buf)=>Ax (Nat.ble (Nat.succ (len buf)) cap) (some (.tuple [.int .i64 0,.bool false],h.put i (.chan cap (buf++[x])))) (some (.tuple [.int .i64 (-1),.bool false],h))
  | _=>none
 | _=>none
def A23(d:EV)(c:EV)(h:Ab):R:=
 match c with
 | .chan i=>match h.get i with
  | some (.chan cap buf)=>match buf with
   | v::r=>some (.tuple [.int .i64 0,.bool true,v],h.put i (.chan cap r))
   | []=>some (.tuple [.int .i64 (-1),.bool false,d],h)
  | _=>none
 | _=>none
def A6m(c:EV)(h:Ab):R:=match c with | .chan i=>(match h.get i with|some (.chan _ buf)=>some (.int .i64 (.ofNat (len buf)),h)|_=>none)|_=>none
def ifE(v:EV)(x y:R):R:=onB x y v
inductive RV where
 | v (x:EV)
 | c (a:EV) (t:TypeId)
def Azi(T:Hh)(h:Ab):List RV->Option (List EV)
 | []=>some []
 | .v x::r=>match Azi T h r with|some l=>some (x::l)|none=>none
 | .c a t::r=>match a,Azi T h r,T.size t with
  | .ptr i off,some l,some n=>match Iw h i off n with
   | some cs=>match T.agg t with
    | some true=>some (.agg cs::l)
    | some false=>(match cs with | [v]=>some (v::l)|_=>none)
    | none=>none
   | none=>none
  | _,_,_=>none
def Ii(T:Hh)(l:List RV)(h:Ab):R:=match Azi T h l with|some [v]=>some (v,h)|some l=>some (.tuple l,h)|none=>none
def Et(l:Nat)(h:Ab)(k:Ab->R):R:=match h.get l with
 | some (.loop .ready p f i e ps asg body d)=>k (h.put l (.loop .busy p f i e ps asg body d))
 | _=>none
def Bay(l:Nat)(r:R)(k:Ab->R)(ex:Nat->Ab->R)(ret:Ab->R):R:=match r with
 | none=>none
 | some (_,h)=>match h.get l with
  | some (.loop st p f i e ps asg body d)=>match st with
   | .busy=>none
   | _=>match p with
    | none=>k (h.put l (.loop .exhausted p f i e ps asg body d))
    | some (.exit id)=>ex id (h.put l (.loop .exhausted p f i e ps asg body d))
    | some .ret=>ret (h.put l (.loop .exhausted p f i e ps asg body d))
    | some _=>none
  | _=>none
def V6(l:Nat)(v:Bool)(st:LoopState)(jump:Option Code)(h:Ab):R:=match h.get l with
 | some (.loop _ _ f n tm ps asg body d)=>some (.bool v,h.put l (.loop st jump f n tm ps asg body d))
 | _=>none
def Ajs:Code->List (Operand × List Tmp × Code × Code)
 | .seq a b=>Ajs a++Ajs b
 | .cond _ a b=>Ajs a++Ajs b
 | .block _ c=>Ajs c
 | .loop c=>Ajs c
 | .rangeFunc f ps a b=>(f,ps.toList,a,b)::(Ajs a++Ajs b)
 | .scope c=>Ajs c
 | _=>[]
def Bts {α:Type}:List α->Nat->Option α
 | [],_=>none
 | a::r,n=>Ax (Nat.beq n 0) (some a) (Bts r (Nat.pred n))
def Ek(T:Hh)(g i:Nat):Operand × List Tmp × Code × Code:=match T.fn g with|some { body:=some c,.. }=>(match Bts (Ajs c) i with|some x=>x|none=>(.tmp 0,[],.skip,.skip))|_=>(.tmp 0,[],.skip,.skip)
def Uv(c:Ai)(T:Hh)(g n i:Nat)(f:EV)(tm:Bb)(h:Ab)(ds:List Nat)(k:Ab->List Nat->R)(ex:Nat->Ab->List Nat->R)(ret:Ab->List Nat->R):R:=match f with
 | .func q first captured=>Bay (Nat.succ h.next) (c q (first++(.U1 (Nat.succ h.next)::captured)) ((h.new (.deferred true)).new (.loop .ready none g n tm (Ek T g i).2.1 (Ek T g i).2.2.1 (Ek T g i).2.2.2 h.next)))
  (fun h'=>k h' (h.next::ds)) (fun id h'=>ex id h' (h.next::ds)) (fun h'=>ret h' (h.next::ds))
 | _=>none
def Arp(c:Ai)(T:Hh)(g n i l0:Nat)(f:EV)(tm:Bb)(h:Ab)(ds:List Nat)(k:Ab->List Nat->R)(ex:Nat->Ab->List Nat->R)(ret:Ab->List Nat->R):R:=match f with
 | .func q first captured=>match h.get l0 with
  | some (.loop _ _ _ _ _ _ _ _ d)=>Bay h.next (c q (first++(.U1 h.next::captured)) (h.new (.loop .ready none g n tm (Ek T g i).2.1 (Ek T g i).2.2.1 (Ek T g i).2.2.2 d)))
   (fun h'=>k h' ds) (fun id h'=>ex id h' ds) (fun h'=>ret h' ds)
  | _=>none
 | _=>none
structure DX where
 bg:Nat
 nw:List (Nat × Nat)
 Cz:List (Nat × Nat)
 lou:List (Nat × Nat)
 st:List (Nat × Nat)
def A8l(b base q:Nat)(s:DX):Bool:=Ax (E7 b q s.st) (Ax (Nat.ble (Nat.succ q) base) (X7 b q s.lou) (Ax (within s.bg b) (match loose b s.nw with | []=>true|_=>false) false)) false
def A4g(b q:Nat)(s:DX):Bool:=Ax (within s.bg b) (Ax (E7 b q s.st) (Ax (E7 b q s.Cz) (A2p q (loose b s.nw)) false) false) false
def Aby(b:Nat)(s:DX):Bool:=Ax (within s.bg b) (Ay2 b s.st) false
def DX.ld(s:DX)(i q:Nat):DX:=⟨s.bg,s.nw,(Nat.shiftLeft 1 i,q)::s.Cz,s.lou,s.st⟩
def DX.new(s:DX)(i q:Nat):DX:=⟨s.bg,(Nat.shiftLeft 1 i,q)::s.nw,s.Cz,s.lou,s.st⟩
def DX.sto(s:DX)(i q:Nat):DX:=⟨s.bg,s.nw,s.Cz,s.lou,(Nat.shiftLeft 1 i,q)::s.st⟩
def DX.big(s:DX)(i:Nat):DX:=⟨Nat.lor s.bg (Nat.shiftLeft 1 i),s.nw,s.Cz,s.lou,s.st⟩
def DX.Agw(s:DX)(i w:Nat):DX:=⟨Nat.lor s.bg (Nat.shiftLeft 1 i),s.nw,s.Cz,(Nat.shiftLeft 1 i,w)::s.lou,s.st⟩
def L9(i b:Nat)(s:DX)(h h':Ab)(k:DX->Ab->R):R:=
 Ax (Nat.ble h.next h'.mw)
  (k (s.big i) ⟨Ac3 h.t h'.t (loose b s.nw),h'.next,h.mw⟩)
  (Ax (Te b h'.mw s.Cz)
   (k (s.Agw i h'.mw) ⟨Ac3 h.t h'.t (loose b s.nw),h'.next,Ax (Nat.ble h.mw h'.mw) h.mw h'.mw⟩)
   none)
def H4(b:Nat)(s:DX)(h:Ab):Ab:=⟨Acx h.t (loose b s.nw),h.next,h.next⟩
def Al7(T:Hh)(op:Op):Bool:=
 match cls op with
 | .val=>true
 | .load=>true
 | .pur=>match op with
  | .call { callee:=.builtin .len,argTypes,.. }=>match argTypes.toList with
   | [t]=>match T.T8 t with|some (.slice _)=>true|_=>false
   | _=>false
  | .call { callee:=.builtin .min,.. }=>true
  | .call { callee:=.builtin .max,.. }=>true
  | _=>false
 | _=>false
def Au1(T:Hh)(l:List Oper):Bool:=match l with | []=>true|o::r=>Ax (Al7 T o.op) (Au1 T r) false
def Aws(T:Hh)(l:List Oper):Bool:=Ax (Au1 T l) (Ax (Ao5 l 0) (Amo l (Ov l 0 .nil) l 0 []) false) false
def Wm(h:Ab)(k:Nat->DX->R):R:=k h.next ⟨0,[],[],[],[]⟩
def Le(i b base:Nat)(x:EV)(s:DX)(k:DX->R):R:=Asg (fun q _=>Ax (A8l b base q s) (k (s.ld i q)) none) x
def Bci(i:Nat)(h:Ab)(s:DX)(k:DX->R):R:=k (s.new i h.next)
def Bhi(i b:Nat)(x:EV)(s:DX)(k:DX->R):R:=Asg (fun q _=>Ax (A4g b q s) (k (s.sto i q)) none) x
def Bty(h:Ab)(k:Ab->R):R:=k ⟨.nil,h.next,h.next⟩
def Js(i b:Nat)(s:DX)(h:Ab)(call:Ab->R)(k:EV->Ab->DX->R):R:=Ax (Aby b s) (Am (call (H4 b s h)) fun v h'=>L9 i b s h h' fun s h=>k v h s) none
def D6(v:EV)(w:Bool):Bool:=match v with | .bool b=>Ax b w (Ap3 w)|_=>false
abbrev VS:=Nat->EV
abbrev CD:=VS->Bb->Ab->List Nat->R
abbrev Boc(e:VS)(d:Nat)(v:EV):VS:=fun i=>Ax (Nat.beq d i) v (e i)
abbrev Eg(d:VS)(x:Operand):Option EV:=match x with
 | .tmp t=>some (d t)
 | .const v=>ofV v
 | .global _=>none
 | .func f=>some (.func f [] [])
abbrev At7(d:VS)(l:List Operand):Option (List EV):=@List.rec Operand (fun _=>Option (List EV)) (some []) (fun x _ i=>match Eg d x,i with|some e,some es=>some (e::es)|_,_=>none) l
abbrev A0c(d:VS)(l:List (Nat × Operand)):Option (List (Nat × EV)):=@List.rec (Nat × Operand) (fun _=>Option (List (Nat × EV))) (some []) (fun x _ i=>match Eg d x.2,i with|some e,some es=>some ((x.1,e)::es)|_,_=>none) l
abbrev A70(d:VS)(x:Option Operand):Option (Option EV):=match x with
 | none=>some none
 | some x=>(match Eg d x with|some e=>some (some e)|none=>none)
abbrev opD(T:Hh)(call o round:Ai)(op:Op)(d:VS)(h:Ab)(k:EV->Ab->R):R:=
 match op with
 | .move x=>(match Eg d x with|some e=>k e h|none=>none)
 | .assign x=>(match Eg d x with|some e=>k e h|none=>none)
 | .pick c a b=>(match Eg d c,Eg d a,Eg d b with|some c,some a,some b=>As2 c a b fun v=>k v h|_,_,_=>none)
 | .binOp op t x y _=>(match Eg d x,Eg d y with
  | some a,some b=>(match Bsg op with|some g=>Ko g (bin T op t) a b fun v=>k v h|none=>Agi (bin T op t) a b fun v=>k v h)
  | _,_=>none)
 | .unOp .not _ x=>(match Eg d x with|some e=>Aq5 e fun v=>k v h|none=>none)
 | .nilCheck x=>(match Eg d x with|some e=>Ars e fun v=>k v h|none=>none)
 | .fieldAddr s x f=>(match Eg d x,T.T8 s with
  | some e,some (.struct fields)=>(match A6i fields.toList f with
   | some fd=>(match T.size fd.type with|some n=>Ax (Nat.beq n 0) none (Ag8 fd.offset e fun v=>k v h)|none=>none)
   | none=>none)
  | _,_=>none)
 | .indexAddr t x ix=>(match Eg d x,Eg d ix,T.T8 t with
  | some e,some ix,some (.array len j)=>(match T.size j with|some s=>Axi len s e ix fun v=>k v h|none=>none)
  | some e,some ix,some (.slice j)=>(match T.size j with|some s=>Aal s e ix fun v=>k v h|none=>none)
  | _,_,_=>none)
 | .index t x ix=>(match Eg d x,Eg d ix,T.T8 t with
  | some e,some B,some (.array len j)=>(match T.size j,T.agg j with|some s,some agg=>Azl len s agg s e B fun v=>k v h|_,_=>none)
  | _,_,_=>none)
 | .field t x f=>(match Eg d x,T.T8 t with
  | some e,some (.struct fields)=>(match A6i fields.toList f with
   | some fd=>(match T.agg fd.type with
    | some true=>(match T.size fd.type with|some n=>Vu fd.offset true n e fun v=>k v h|none=>none)
    | some false=>Vu fd.offset false 0 e fun v=>k v h
    | none=>none)
   | none=>none)
  | _,_=>none)
 | .convert src dst x=>(match Eg d x,T.T8 src,T.T8 dst with|some e,some _,some (.int c)=>Sf c e fun v=>k v h|_,_,_=>none)
 | .extract x ix=>(match Eg d x with|some e=>Asy ix e fun v=>k v h|none=>none)
 | .load t x=>(match Eg d x,T.agg t with
  | some e,some true=>(match T.size t with|some n=>Q2 n e h fun v=>k v h|none=>none)
  | some e,some false=>Fy e h fun v=>k v h
  | _,_=>none)
 | .store t a x=>(match Eg d a,Eg d x,T.size t with|some a,some x,some n=>stE n a x h fun h=>k (.tuple []) h|_,_,_=>none)
 | .alloc t=>(match T.zero t with|some z=>Ax0 (.cells z t) h k|none=>none)
 | .box t x=>(match Eg d x with|some e=>P9 t e h k|none=>none)
 | .call { callee:=.value (.func g),args,.. }=>(match At7 d args.toList with|some xs=>Am (call g xs h) k|none=>none)
 | .call { callee:=.value f,args,.. }=>(match Eg d f,At7 d args.toList with|some e,some xs=>Am (Rf o round e xs h) k|_,_=>none)
 | .call { callee:=.builtin .append,args,argTypes }=>(match args.toList,argTypes.toList with
  | [s,x],[t,u]=>(match Eg d s,Eg d x,T.T8 u,T.T8 t with
   | some a,some b,some (.slice _),some (.slice e)=>(match T.size e,T.zero e with
    | some size,some _=>Am (Ef e size a b h) k
    | _,_=>none)
   | _,_,_,_=>none)
  | _,_=>none)
 | .call { callee:=.builtin .len,args,argTypes }=>(match args.toList,argTypes.toList with
  | [x],[t]=>(match Eg d x,T.T8 t with
   | some e,some (.slice _)=>Hc e fun v=>k v h
   | some e,some (.chan ..)=>Am (A6m e h) k
   | some e,_=>Am (builtin T .len argTypes [e] h) k
   | _,_=>none)
  | _,_=>none)
 | .call { callee:=.builtin b,args,argTypes }=>(match At7 d args.toList with|some xs=>Am (builtin T b argTypes xs h) k|none=>none)
 | .unOp .neg _ x=>(match Eg d x with|some e=>Bc1 e fun v=>k v h|none=>none)
 | .build t ps=>(match T.zero t,A0c d ps.toList,T.T8 t with
  | some z,some l,some (.struct fields)=>(match placesOf T fields.toList with
   | some ps=>Bo (Dg ps) z l fun v=>k v h
   | none=>none)
  | some z,some l,some (.array _ e)=>(match T.size e with
   | some s=>Bo (Mg s) z l fun v=>k v h
   | none=>none)
  | _,_,_=>none)
 | .buildSlice t n ps=>(match T.T8 t,A0c d ps.toList with
  | some (.slice e),some l=>(match T.size e,T.zero e with
   | some s,some z=>Am (Bz z e s n l h) k
   | _,_=>none)
  | _,_=>none)
 | .makeFunc (.func f) first captured=>(match At7 d first.toList,At7 d captured.toList with|some a,some b=>k (.func f a b) h|_,_=>none)
 | .sliceToArrayPointer t x=>(match Eg d x,T.T8 t with|some e,some (.array n _)=>A2e n e fun v=>k v h|_,_=>none)
 | .slice t x p q A=>(match Eg d x,A70 d p,A70 d q,A70 d A with
  | some e,some p,some q,some A=>(match T.T8 t with
   | some (.array n j)=>(match T.size j with|some s=>Nv n s e p q A fun v=>k v h|none=>none)
   | some (.slice j)=>(match T.size j with|some s=>Aex s e p q A fun v=>k v h|none=>none)
   | _=>none)
  | _,_,_,_=>none)
 | .makeSlice t l c=>(match Eg d l,Eg d c,T.T8 t with
  | some l,some c,some (.slice e)=>(match T.zero e with|some z=>Am (Vs z e l c h) k|none=>none)
  | _,_,_=>none)
 | .makeMap _ none=>Am (Aw7 h) k
 | .makeChan t s=>(match Eg d s,T.T8 t with
  | some s,some (.chan _ e)=>(match T.size e with|some _=>Am (Arn s h) k|none=>none)
  | _,_=>none)
 | .lookup t x ix ok=>(match Eg d x,Eg d ix,T.T8 t with|some m,some i,some (.map C e)=>Am (Ard T C e ok m i h) k|_,_,_=>none)
 | .mapUpdate t m ix x=>(match Eg d m,Eg d ix,Eg d x,T.T8 t with|some m,some i,some x,some (.map C _)=>Am (Z2 T C m i x h) k|_,_,_,_=>none)
 | .select cs false=>(match cs.toList with
  | [c]=>(match c.send with
   | some x=>(match Eg d c.chan,Eg d x,zeroOf T c.elem with|some c,some x,some _=>Am (A2j c x h) k|_,_,_=>none)
   | none=>(match Eg d c.chan,zeroOf T c.elem with|some c,some D=>Am (A23 D c h) k|_,_=>none))
  | _=>none)
 | _=>none
abbrev Mode:=Option ((Nat × Bool) × Bool)
def eqW(a b:Bool):Bool:=Ax a b (Ap3 b)
def Axo(m:Mode)(g:Nat × Bool):Option Bool:=match m with|some x=>Ax (Ax (Nat.beq x.1.1 g.1) (eqW x.1.2 g.2) false) (some x.2) none|none=>none
def Ajh(ops:List Oper)(g:Nat × Bool)(b:Bool)(dst:Option Tmp):Mode:=
 match Azs ops g.1 with
 | some o=>(match o.dst with
  | some d=>(match dst with|some e=>Ax (Nat.beq d e) none (some (g,b))|none=>some (g,b))
  | none=>some (g,b))
 | none=>some (g,b)
abbrev Ag6(n:Nat)(d:Option Tmp)(e:VS)(v:EV):VS:=match d with|none=>e|some d=>Ax (Nat.ble (Nat.succ d) n) (Boc e d v) e
abbrev Ba2(ops:List Oper)(e:VS)(g:Nat × Bool):Bool:=match Azs ops g.1 with
 | some o=>(match o.dst with|some d=>D6 (e d) g.2|none=>false)
 | none=>false
abbrev Br0(fl:Bool)(n:Nat)(tm:Bb)(d:Option Tmp)(v:EV):Bb:=Ax fl (Po n tm d v) tm
abbrev Bun(n:Nat)(tm:Bb)(d:Option Tmp)(v:EV):Bb:=match d with|none=>tm|some d=>@Bool.rec (fun _=>Bb) tm (tm.put d (some v)) (Nat.ble (Nat.succ d) n)
abbrev thn(fl:Bool)(n:Nat)(tm:Bb)(d:Option Tmp)(v:EV)(F:Bb->R):R:=@Bool.rec (fun _=>R) (F tm) (F (Bun n tm d v)) fl
def Awk(c:Code):Bool:=@Code.rec (fun _=>Bool) false (fun _ _ _=>false) (fun _ _ a b=>Ax a true b) (fun _ _ _ a b=>Ax a true b) (fun _ _ a=>a) (fun _ a=>a)
 (fun _ _ _ _ _ _=>true) (fun _=>false) (fun _ a=>a) (fun _=>false) (fun _=>false) false (fun _=>false) c
abbrev Bh5(fl:Bool)(T:Hh)(call d round:Ai)(n:Nat)(ops:List Oper)(fin:CD)(l:List Oper):Mode->CD:=
 @List.rec Oper (fun _=>Mode->CD) (fun _=>fin) (fun o _ i m=>@Option.rec (Nat × Bool) (fun _=>CD) (fun e tm h ds=>opD T call d round o.op e h fun v h=>thn fl n tm o.dst v fun tm=>i none (Ag6 n o.dst e v) tm h ds)
  (fun g e tm h ds=>match Axo m g with
   | some true=>opD T call d round o.op e h fun v h=>thn fl n tm o.dst v fun tm=>i (Ajh ops g true o.dst) (Ag6 n o.dst e v) tm h ds
   | some false=>thn fl n tm o.dst (.tuple []) fun tm=>i (Ajh ops g false o.dst) (Ag6 n o.dst e (.tuple [])) tm h ds
   | none=>Ax (Ba2 ops e g) (opD T call d round o.op e h fun v h=>thn fl n tm o.dst v fun tm=>i (Ajh ops g true o.dst) (Ag6 n o.dst e v) tm h ds) (thn fl n tm o.dst (.tuple []) fun tm=>i (Ajh ops g false o.dst) (Ag6 n o.dst e (.tuple [])) tm h ds)) o.guard) l
abbrev Ba0(T:Hh)(call d round:Ai)(op:Op)(i b base:Nat)(s:DX)(j:VS)(h:Ab)(k:DX->EV->Ab->R):R:=
 match cls op with
 | .val=>opD T call d round op j h (k s)
 | .load=>(match op with | .load t x=>(match Eg j x with|some e=>Le i b base e s fun s=>opD T call d round (.load t x) j h (k s)|none=>none)|_=>none)
 | .new=>Bci i h s fun s=>opD T call d round op j h (k s)
 | .sto=>(match op with | .store t a x=>(match Eg j a with|some e=>Bhi i b e s fun s=>opD T call d round (.store t a x) j h (k s)|none=>none)|_=>none)
 | .pur=>Bty h fun h0=>opD T call d round op j h0 fun v _=>k s v h
 | .big=>Ax (Aby b s) (opD T call d round op j (H4 b s h) fun v h'=>L9 i b s h h' fun s h=>k s v h) none
abbrev Ass(fl:Bool)(T:Hh)(call d round:Ai)(n:Nat)(ops:List Oper)(bs:Tr Nat)(base:Nat)(fin:CD)(l:List Oper):Nat->Mode->DX->CD:=
 @List.rec Oper (fun _=>Nat->Mode->DX->CD) (fun _ _ _=>fin) (fun o _ j i m s e tm h ds=>match bs.get i with
  | none=>none
  | some b=>@Option.rec (Nat × Bool) (fun _=>R) (Ba0 T call d round o.op i b base s e h fun s v h=>thn fl n tm o.dst v fun tm=>j (Nat.succ i) none s (Ag6 n o.dst e v) tm h ds)
   (fun g=>match Axo m g with
    | some true=>Ba0 T call d round o.op i b base s e h fun s v h=>thn fl n tm o.dst v fun tm=>j (Nat.succ i) (Ajh ops g true o.dst) s (Ag6 n o.dst e v) tm h ds
    | some false=>thn fl n tm o.dst (.tuple []) fun tm=>j (Nat.succ i) (Ajh ops g false o.dst) s (Ag6 n o.dst e (.tuple [])) tm h ds
    | none=>Ax (Ba2 ops e g) (Ba0 T call d round o.op i b base s e h fun s v h=>thn fl n tm o.dst v fun tm=>j (Nat.succ i) (Ajh ops g true o.dst) s (Ag6 n o.dst e v) tm h ds) (thn fl n tm o.dst (.tuple []) fun tm=>j (Nat.succ i) (Ajh ops g false o.dst) s (Ag6 n o.dst e (.tuple [])) tm h ds)) o.guard) l
abbrev A7u(fl:Bool)(T:Hh)(call d round:Ai)(n:Nat)(ops:List Oper)(fin:CD):CD:=fun e tm h ds=>
 @Bool.rec (fun _=>R) none (@Bool.rec (fun _=>R) none (Wm h fun base s=>Ass fl T call d round n ops (Ov ops 0 .nil) base fin ops 0 none s e tm h ds) (Amo ops (Ov ops 0 .nil) ops 0 [])) (Ao5 ops 0)
abbrev Akl:=List (Nat × CD)
abbrev Bc7(out:Nat->CD)(env:Akl)(id:Nat):CD:=@List.rec (Nat × CD) (fun _=>CD) (out id) (fun p _ e d tm h ds=>@Prod.rec Nat CD (fun _=>R) (fun j k=>Ax (Nat.beq j id) (k d tm h ds) (e d tm h ds)) p) env
abbrev A5o(c:CD->CD)(fuel:Nat):CD:=@Nat.rec (fun _=>CD) (fun _ _ _ _=>none) (fun _ d=>c d) fuel
abbrev Bcp(call:Ai)(fn n:Nat)(Dt:Option Nat)(f:EV)(ps:List Tmp)(asg body:Code)(tm:Bb)(h:Ab)(ds:List Nat)(k:Ab->List Nat->R)(ex:Nat->Ab->List Nat->R)(ret:Ab->List Nat->R):R:=match f with
 | .func q first captured=>(match Dt with
  | none=>Bay (Nat.succ h.next) (call q (first++(.U1 (Nat.succ h.next)::captured)) ((h.new (.deferred true)).new (.loop .ready none fn n tm ps asg body h.next))) (fun h'=>k h' (h.next::ds)) (fun id h'=>ex id h' (h.next::ds)) (fun h'=>ret h' (h.next::ds))
  | some l0=>(match h.get l0 with
   | some (.loop _ _ _ _ _ _ _ _ d)=>Bay h.next (call q (first++(.U1 h.next::captured)) (h.new (.loop .ready none fn n tm ps asg body d))) (fun h'=>k h' ds) (fun id h'=>ex id h' ds) (fun h'=>ret h' ds)
   | _=>none))
 | _=>none
abbrev Ab7(fl:Bool)(T:Hh)(call d round:Ai)(fuel fn n:Nat)(Dt:Option Nat)(out:Nat->CD)(ret:CD)(c:Code):Akl->CD->CD:=
 @Code.rec (fun _=>Akl->CD->CD) (fun _ k=>k)
  (fun _ ops dr _ k=>@Bool.rec (fun _=>CD) (Bh5 fl T call d round n ops.toList k ops.toList none) (@Bool.rec (fun _=>CD) (A7u fl T call d round n ops.toList k) (Bh5 fl T call d round n ops.toList k ops.toList none) (Aws T ops.toList)) dr)
  (fun _ _ a b env k=>a env (b env k))
  (fun c _ _ a b env k i tm h ds=>match Eg i c with|some e=>ifE e (a env k i tm h ds) (b env k i tm h ds)|none=>none)
  (fun id _ c env k=>c ((id,k)::env) k)
  (fun _ c env _=>A5o (fun j=>c env j) fuel)
  (fun f ps asg body _ _ env k i tm h ds=>@Bool.rec (fun _=>R) none (match Eg i f with|some e=>Bcp d fn n Dt e ps.toList asg body tm h ds (fun h ds=>k i tm h ds) (fun id h ds=>Bc7 out env id i tm h ds) (fun h ds=>ret i tm h ds)|none=>none) fl)
  (fun id env _=>Bc7 out env id) (fun _ _ _ _ _ _ _ _=>none) (fun _ _ k=>k) (fun _ _ _ _ _ _ _=>none) (fun _ _=>ret) (fun _ _ _ _ _ _ _=>none) c
def Fi(ds:List Nat)(h:Ab)(k:Ab->R):R:=
 @List.rec Nat (fun _=>Ab->R) k (fun d _ e h=>match h.get d with|some (.deferred true)=>e (h.put d (.deferred false))|_=>none) ds h
abbrev rvD(d:VS):ResultVar->RV
 | .tmp t=>.v (d t)
 | .cell a t=>.c (d a) t
abbrev A5z(T:Hh)(res:List ResultVar)(d:VS)(h:Ab):R:=match res with
 | [.tmp t]=>some (d t,h)
 | []=>some (.tuple [],h)
 | [.tmp s,.tmp t]=>some (.tuple [d s,d t],h)
 | res=>Ii T (res.map (rvD d)) h
abbrev Bmh(fl:Bool)(T:Hh)(res:List ResultVar):CD:=fun d _ h ds=>@Bool.rec (fun _=>R) (A5z T res d h) (Fi ds h fun h=>A5z T res d h) fl
abbrev Bae(l:List EV):Nat->VS->VS:=@List.rec EV (fun _=>Nat->VS->VS) (fun _ d=>d) (fun v _ e i d=>e (Nat.succ i) (Boc d i v)) l
abbrev u0:VS:=fun _=>.tuple []
abbrev no0:Nat->CD:=fun _ _ _ _ _=>none
def Axk(T:Hh)(call round:Ai)(fuel f:Nat)(args:List EV)(h:Ab):R:=
 match T.fn f with
 | some { ntmps:=n,body:=some c,results:=res,.. }=>Ax (Nat.ble (Fl args) n) (Ab7 (Awk c) T call call round fuel f n none no0 (Bmh (Awk c) T res.toList) c [] (Bmh (Awk c) T res.toList) (Bae args 0 u0) (setArgs args 0 .nil) h []) none
 | _=>none
abbrev Blv(n:Nat)(ps:List Tmp):List EV->VS->VS:=@List.rec Tmp (fun _=>List EV->VS->VS) (fun _ d=>d) (fun p _ e args d=>@List.rec EV (fun _=>VS) d (fun v r _=>e r (Ag6 n (some p) d v)) args) ps
abbrev Bdi(T:Hh)(call d round:Ai)(fuel l f n:Nat)(asg body:Code):CD:=
 Ab7 true T call d round fuel f n (some l) (fun id _ _ h _=>V6 l false .done (some (.exit id)) h) (fun _ _ h _=>V6 l false .done (some .ret) h) asg []
  fun e tm h ds=>Et l h fun h=>Ab7 true T call d round fuel f n (some l) (fun id _ _ h _=>V6 l false .done (some (.exit id)) h) (fun _ _ h _=>V6 l false .done (some .ret) h) body [] (fun _ _ h _=>V6 l true .ready none h) e tm h ds
def Ax5(T:Hh)(call round:Ai)(fuel l:Nat)(args:List EV)(h:Ab):R:=
 match h.get l with
 | some (.loop _ _ f n tm ps asg body _)=>match Wz ps args n tm with
  | some d=>Bdi T call call round fuel l f n asg body (Blv n ps args (tmp tm)) d h []
  | none=>none
 | _=>none
end
variable {k:List EV->R}{m:Mode}{cf fin:CD}
section
theorem Ahx(l:List EV):Fl l=len l:=by
 induction l with
 | nil=>rfl
 | cons a r d=>exact congrArg Nat.succ d
theorem A8j:∀(l:List EV) (n:Nat),A1r l n=match Zz l n with|v::_=>some v | []=>none
 | [],n=>rfl
 | a::r,n=>by
  have e:A1r (a::r) n=Ax (Nat.beq n 0) (some a) (A1r r (Nat.pred n)):=rfl;rw[e];simp only[Zz];cases Nat.beq n 0
  ·exact A8j r _
  ·rfl
theorem A9n:∀(l:List EV) (n:Nat),Bgm l n=Zz l n
 | [],n=>rfl
 | a::r,n=>by
  have e:Bgm (a::r) n=Ax (Nat.beq n 0) (a::r) (Bgm r (Nat.pred n)):=rfl;rw[e];simp only[Zz];rw[A9n r]
theorem A03(a:EV)(x:Option (List EV)):A21 a x=match x with|some x=>some (a::x)|none=>none:=by cases x<;>rfl
theorem A2n:∀(l:List EV) (n:Nat),Ba9 l n=takeN l n
 | [],n=>rfl
 | a::r,n=>by
  have e:Ba9 (a::r) n=Ax (Nat.beq n 0) (some []) (A21 a (Ba9 r (Nat.pred n))):=rfl;rw[e];simp only[takeN];rw[A2n r,A03];cases takeN r (Nat.pred n)<;>rfl
theorem A4a:∀(l:List EV),takeN l (len l)=some l
 | []=>rfl
 | a::r=>by
  simp only[takeN,len];rw[show Nat.beq (Nat.succ (len r)) 0=false from rfl,Bc,Nat.pred_succ,A4a r]
theorem Bc6(l:List EV):Zz l 0=l:=by cases l<;>rfl
theorem Ai7(l:List EV)(off n:Nat):Mj l off n=takeN (Zz l off) n:=by
 unfold Mj;rw[A9n,A2n,A2n,Ahx];cases h:Nat.beq off 0
 ·rfl
 ·have:=aL h;subst this
  rw[Bc6];cases d:Nat.beq (len l) n
  ·rfl
  ·have:=aL d;subst this
   rw[A4a];rfl
theorem A0z:∀(vs l:List EV),A05 vs l=Jf l vs
 | [],l=>by cases l<;>rfl
 | v::vs,[]=>rfl
 | v::vs,a::r=>by
  have e:A05 (v::vs) (a::r)=A21 v (A05 vs r):=rfl;rw[e];simp only[Jf];rw[A0z vs r,A03];cases Jf r vs<;>rfl
theorem Auq(vs:List EV):∀(l:List EV) (n:Nat),Arc vs l n=Fm l n vs
 | [],n=>by
  have e:Arc vs [] n=Ax (Nat.beq n 0) (A05 vs []) none:=rfl;rw[e];simp only[Fm];rw[A0z]
 | a::r,n=>by
  have e:Arc vs (a::r) n=Ax (Nat.beq n 0) (A05 vs (a::r)) (A21 a (Arc vs r (Nat.pred n))):=rfl;rw[e];simp only[Fm];rw[A0z,Auq vs r,A03];cases Fm r (Nat.pred n) vs<;>rfl
theorem Ayv:∀(l vs:List EV),len l=len vs->Jf l vs=some vs
 | [],[],_=>rfl
 | a::r,[],h=>by simp[len]at h
 | [],v::vs,h=>by simp[len]at h
 | a::r,v::vs,h=>by
  simp only[Jf];rw[Ayv r vs (by simpa [len]using h)]
theorem U6(l:List EV)(off:Nat)(vs:List EV):Mh l off vs=Fm l off vs:=by
 unfold Mh;rw[Auq,Auq,Ahx,Ahx];cases h:Nat.beq off 0
 ·rfl
 ·have:=aL h;subst this
  cases d:Nat.beq (len l) (len vs)
  ·rfl
  ·have h2:=aL d
   have:Fm l 0 vs=Jf l vs:=by cases l<;>rfl
   rw[this,Ayv l vs h2];rfl
theorem Gr {β:Type}(k:α->Option β)(a:α):oB k (some a)=k a:=rfl
theorem Mw {β:Type}{k:α->Option β}{x:Option α}{r:β}(e:oB k x=some r):∃a,x=some a/\k a=some r:=by
 cases x with
 | none=>cases e
 | some a=>exact⟨a,rfl,e⟩
theorem A2h {x y:R}{r:EV × Ab}(e:onB x y v=some r):∃b,v=.bool b/\(Ax b x y)=some r:=by
 cases v with
 | bool b=>exact⟨b,rfl,e⟩
 | _=>cases e
theorem Pf {k:Nat->Nat->R}{r:EV × Ab}(e:Asg k v=some r):∃i o,v=.ptr i o/\k i o=some r:=by
 cases v with
 | ptr i o=>exact⟨i,o,rfl,e⟩
 | _=>cases e
theorem Bds {k:IntKind->Int->R}{r:EV × Ab}(e:Brm k v=some r):∃c n,v=.int c n/\k c n=some r:=by
 cases v with
 | int c n=>exact⟨c,n,rfl,e⟩
 | _=>cases e
theorem Axj {k:Nat->R}{r:EV × Ab}(e:Bo8 k v=some r):∃c n,v=.int c (.ofNat n)/\k n=some r:=by
 cases v with
 | int c n=>
  cases n with
  | ofNat n=>exact⟨c,n,rfl,e⟩
  | negSucc n=>cases e
 | _=>cases e
theorem Atl{r:EV × Ab}(e:Bnb k v=some r):∃l,v=.agg l/\k l=some r:=by
 cases v with
 | agg l=>exact⟨l,rfl,e⟩
 | _=>cases e
theorem Bem{r:EV × Ab}(e:Brq k v=some r):∃l,v=.tuple l/\k l=some r:=by
 cases v with
 | tuple l=>exact⟨l,rfl,e⟩
 | _=>cases e
theorem Bfq(a b:Int):Bo4 a b=Int.add a b:=by cases a<;>cases b<;>rfl
theorem Bff(a b:Int):Bpm a b=Int.sub a b:=by
 cases a with
 | ofNat m=>
  cases b with
  | ofNat n=>
   have e:Bpm (.ofNat m) (.ofNat n)=Ax (Nat.ble n m) (.ofNat (Nat.sub m n)) (.negSucc (Nat.pred (Nat.sub n m))):=rfl;rw[e,Bn];show _=(Int.ofNat m)-(Int.ofNat n);split
   ·rename_i h
    have:=bB h;show((m-n:Nat):Int)=_;simp only[aX];omega
   ·rename_i h
    have:¬n<=m:=fun x=>h (aO x)
    show Int.negSucc ((n-m)-1)=_;simp only[aX,cq];omega
  | negSucc n=>rfl
 | negSucc m=>rfl
theorem Bew(a b:Int):ltI a b=ltB a b:=by cases a<;>cases b<;>rfl
theorem Bb9(a b:Int):eqI a b=eqB a b:=by cases a<;>cases b<;>rfl
theorem Bfa(b:Bool):Ap3 b=Ax b false true:=by cases b<;>rfl
theorem Bqz {op:BinOp}{g:IntKind->Int->Int->EV}(h:Bsg op=some g):Az1 op=false/\∀k a b,Bjb op k a b=some (g k a b):=by
 unfold Bsg at h;split at h<;>cases h<;>refine⟨rfl,fun k a b=>?_⟩<;>simp only[Bjb,A3o,Ber,Bhq,Iy,Bdb,Baf,Bcy,Aj7,Aoa,Bfq,Bff,Bew,Bb9,Bfa]
theorem Bbo:∀(l:List (Nat × Nat)) (n:Nat),Dg l n=A36 l n
 | [],n=>rfl
 | a::r,n=>by
  have e:Dg (a::r) n=Ax (Nat.beq n 0) (some a) (Dg r (Nat.pred n)):=rfl;rw[e];simp only[A36];rw[Bbo r]
theorem Avx(place:Nat->Option (Nat × Nat)):∀(l:List (Nat × EV)) (c:List EV),Aca place l c=fill place c l
 | [],c=>rfl
 | (i,v)::l,c=>by
  have e:Aca place ((i,v)::l) c=oB (Bfy fun off size=>Ax v.plain (Ax (Nat.beq (Fl v.cells) size) (oB (Aca place l) (Mh c off v.cells)) none) none) (place i):=rfl;rw[e];simp only[fill];cases place i with
  | none=>rfl
  | some x=>
   obtain⟨off,size⟩:=x;simp only;show Ax v.plain (Ax (Nat.beq (Fl v.cells) size) (oB (Aca place l) (Mh c off v.cells)) none) none=_;rw[Ahx,U6];cases Fm c off v.cells with
   | none=>rfl
   | some d=>
    show Ax v.plain (Ax (Nat.beq (len v.cells) size) (Aca place l d) none) none=_;rw[Avx place l d]
theorem A2y(h:Ab)(i off n:Nat):Ye h i off n=Iw h i off n:=by
 unfold Ye Iw Ave;cases h.get i with
 | none=>rfl
 | some o=>
  cases o<;>simp only[Ai7];cases Awm _ off<;>rfl
theorem Ara(h:Ab)(size n:Nat)(x:EV):O8 h size n x=cellsOf h size n x:=by
 unfold O8 cellsOf;cases x<;>simp only[A2y]
theorem Axc(a b:List EV):Amd a b=a++b:=by
 induction a with
 | nil=>rfl
 | cons x r d=>exact congrArg (x :: ·) d
theorem Bd5{st e:TypeId}{size:Nat}{z:List EV}(j:T.T8 st=some (.slice e))(h2:T.size e=some size)(p:T.zero e=some z)(s x:EV)(h:Ab):append T st s x h=Ef e size s x h:=by
 unfold append Ef;simp only[j,h2,p];cases lenOf x with
 | none=>rfl
 | some n=>
  simp only[Gr];rw[Ara];cases cellsOf h size n x with
  | none=>rfl
  | some new=>
   simp only[Gr];cases s with
   | slice i off d room op=>
    simp only;rw[Ara];cases cellsOf h size d (.slice i off d room op)with
    | none=>rfl
    | some Cv=>
     simp only[Gr,Axc,Ahx];cases h.get i with
     | none=>rfl
     | some o=>cases o<;>rfl
   | _=>rfl
theorem A19{agg:Bool}(i:T.agg t=some agg)(j:agg=true->T.size t=some n){cs:List EV}{k:EV->R}{r:EV × Ab}(e:Be0 agg n cs off k=some r):
 ∃v,part T t cs off=some v/\k v=some r:=by
 unfold Be0 at e;unfold part;rw[i];cases agg with
 | true=>
  rw[Aj]at e;obtain⟨l,d,h2⟩:=Mw e;rw[Ai7]at d;rw[j rfl];simp only;rw[d];exact⟨_,rfl,h2⟩
 | false=>
  rw[Bc]at e;obtain⟨v,d,h2⟩:=Mw e;rw[A8j]at d;exact⟨v,d,h2⟩
theorem Dh(tm:Bb)(x:Operand):Eg (tmp tm) x=Cj tm x:=by cases x<;>rfl
theorem Fk(tm:Bb)(l:List Operand):At7 (tmp tm) l=Mf tm l:=by
 induction l with
 | nil=>rfl
 | cons x r d=>
  show(match Eg (tmp tm) x,At7 (tmp tm) r with|some e,some es=>some (e::es)|_,_=>none)=_;rw[d,Dh];simp only[Mf];cases Cj tm x<;>cases Mf tm r<;>rfl
theorem Fc(tm:Bb)(l:List (Nat × Operand)):A0c (tmp tm) l=Zo tm l:=by
 induction l with
 | nil=>rfl
 | cons x r d=>
  obtain⟨i,x⟩:=x;show(match Eg (tmp tm) x,A0c (tmp tm) r with|some e,some es=>some ((i,e)::es)|_,_=>none)=_;rw[d,Dh];simp only[Zo];cases Cj tm x<;>cases Zo tm r<;>rfl
theorem G8(tm:Bb)(x:Option Operand):A70 (tmp tm) x=Abl tm x:=by
 cases x with
 | none=>rfl
 | some x=>show(match Eg (tmp tm) x with|some e=>some (some e)|none=>none)=_;rw[Dh];rfl
theorem Xj {x:R}{k:EV->Ab->R}{r:EV × Ab}(e:Am x k=some r):∃v h,x=some (v,h)/\k v h=some r:=by
 obtain⟨⟨v,h⟩,d,h2⟩:=Mw e;exact⟨v,h,d,h2⟩
section
variable{call:Ai}
theorem Hs(d:isV op=true)(e:E1 T tm op=some v):aop T call round tm op h=some (v,h):=by
 unfold aop;rw[d,Aj,e]
theorem A7z{i:Nat}{vs:List EV}{k:Ab->R}{r:EV × Ab}(e:Ai8 h i (fun l=>Mh l off vs) k=some r):∃h',Mc h i off vs=some h'/\k h'=some r:=by
 unfold Ai8 at e;unfold Mc;split at e
 ·rename_i l t j
  obtain⟨l',o,h2⟩:=Mw e;have d:Fm l off vs=some l':=by rw[<-U6];exact o
  simp only[j,d];exact⟨_,rfl,h2⟩
 ·rename_i l t s j
  obtain⟨l',o,h2⟩:=Mw e;have d:Fm l off vs=some l':=by rw[<-U6];exact o
  simp only[j,d];exact⟨_,rfl,h2⟩
 ·cases e
theorem Af1{k:EV->Ab->R}{r:EV × Ab}(e:opD T call call round op (tmp tm) h k=some r):
 ∃v h',aop T call round tm op h=some (v,h')/\k v h'=some r:=by
 cases op with
 | move x=>
  simp only[opD,Dh,Fk,Fc,G8]at e;split at e
  ·rename_i e1 he;exact⟨_,_,Hs rfl (he),e⟩
  ·cases e
 | assign x=>
  simp only[opD,Dh,Fk,Fc,G8]at e;split at e
  ·rename_i e1 he;exact⟨_,_,Hs rfl (he),e⟩
  ·cases e
 | pick c a b=>
  simp only[opD,Dh,Fk,Fc,G8]at e;split at e
  ·rename_i c1 W b1 hc C hb
   obtain⟨bb,d,h2⟩:=A2h e;have p:=hc;rw[d]at p;cases bb
   ·exact⟨_,_,Hs rfl (by simp only[E1];rw[p];exact hb),h2⟩
   ·exact⟨_,_,Hs rfl (by simp only[E1];rw[p];exact C),h2⟩
  ·cases e
 | binOp op t x y yt=>
  simp only[opD,Dh,Fk,Fc,G8]at e;split at e
  ·rename_i W b1 C hb
   have af:=C;have ag:=hb;have key:∀v,bin T op t W b1=some v->aop T call round tm (.binOp op t x y yt) h=some (v,h):=fun v hv=>
    Hs rfl (by simp only[E1];rw[af];simp only;rw[ag];exact hv)
   split at e
   ·rename_i g O
    obtain⟨s1,s2⟩:=Bqz O;unfold Ko at e;split at e
    ·obtain⟨d,h2⟩:=Aq e
     refine⟨_,_,key _ ?_,h2⟩;simp only[bin];rw[s1,Bc,d,Aj,s2]
    ·obtain⟨v,d,h2⟩:=Mw e
     exact⟨v,h,key v d,h2⟩
   ·obtain⟨v,d,h2⟩:=Mw e
    exact⟨v,h,key v d,h2⟩
  ·cases e
 | unOp u t x=>
  cases u with
  | not=>
   simp only[opD,Dh,Fk,Fc,G8]at e;split at e
   ·rename_i e1 he
    obtain⟨b,d,h2⟩:=A2h e;have p:=he;rw[d]at p;cases b
    ·exact⟨_,_,Hs rfl (by simp only[E1];rw[p];rfl),h2⟩
    ·exact⟨_,_,Hs rfl (by simp only[E1];rw[p];rfl),h2⟩
   ·cases e
  | neg=>
   simp only[opD,Dh,Fk,Fc,G8]at e;split at e
   ·rename_i e1 he
    unfold Bc1 at e;split at e
    ·exact⟨_,h,Hs rfl (by simp only[E1];rw[he]),e⟩
    ·cases e
   ·cases e
  | _=>(cases e)
 | nilCheck x=>
  simp only[opD,Dh,Fk,Fc,G8]at e;split at e
  ·rename_i e1 he
   obtain⟨i,o,d,h2⟩:=Pf e;have p:=he;rw[d]at p;exact⟨_,_,Hs rfl (by simp only[E1];rw[p]),h2⟩
  ·cases e
 | fieldAddr s x f=>
  simp only[opD,Dh,Fk,Fc,G8]at e;split at e
  ·rename_i e1 fields he hu
   split at e
   ·rename_i fd J
    split at e
    ·rename_i n S
     cases hb:Nat.beq n 0 with
     | true=>rw[hb,Aj]at e;cases e
     | false=>
      rw[hb,Bc]at e;obtain⟨i,o,d,h2⟩:=Pf e;have p:=he;rw[d]at p;exact⟨_,_,Hs rfl (by simp only[E1];rw[p];simp only;rw[hu];simp only;rw[J];simp only;rw[S];simp only;rw[hb,Bc]),h2⟩
    ·cases e
   ·cases e
  ·cases e
 | indexAddr t x ix=>
  simp only[opD,Dh,Fk,Fc,G8]at e;split at e
  ·rename_i e1 X ln K he M hu
   split at e
   ·rename_i s hs
    obtain⟨c,j,d,h2⟩:=Axj e;obtain⟨i,off,p,h4⟩:=Pf h2;obtain⟨D,E⟩:=Aq h4;have A:=M;have B:=he;rw[d]at A;rw[p]at B;exact⟨_,_,Hs rfl (by simp only[E1];rw[A];simp only;rw[hu,B];simp only;rw[hs];simp only;rw[D,Aj]),E⟩
   ·cases e
  ·rename_i e1 X K he M hu
   split at e
   ·rename_i s hs
    obtain⟨c,j,d,h2⟩:=Axj e;split at h2
    ·obtain⟨D,E⟩:=Aq h2
     have A:=M;have B:=he;rw[d]at A;exact⟨_,_,Hs rfl (by simp only[E1];rw[A];simp only;rw[hu,B];simp only;rw[hs];simp only;rw[D,Aj]),E⟩
    ·cases h2
   ·cases e
  ·cases e
 | index t x ix=>
  simp only[opD,Dh,Fk,Fc,G8]at e;split at e
  ·rename_i e1 X ln K he M hu
   split at e
   ·rename_i s agg hs C
    obtain⟨c,j,d,h2⟩:=Axj e;obtain⟨cs,p,h4⟩:=Atl h2;obtain⟨D,E⟩:=Aq h4;obtain⟨v,U,V⟩:=A19 C (fun _=>hs) E;have A:=M;have B:=he;rw[d]at A;rw[p]at B;exact⟨_,_,Hs rfl (by simp only[E1];rw[A];simp only;rw[hu,B];simp only;rw[hs];simp only;rw[D,Aj,U]),V⟩
   ·cases e
  ·(cases e)
 | field t x f=>
  simp only[opD,Dh,Fk,Fc,G8]at e;split at e
  ·rename_i e1 fields he hu
   split at e
   ·rename_i fd J
    have B:=he;split at e
    ·rename_i C
     split at e
     ·rename_i n S
      obtain⟨cs,p,h4⟩:=Atl e;obtain⟨v,U,V⟩:=A19 C (fun _=>S) h4;rw[p]at B;exact⟨_,_,Hs rfl (by simp only[E1];rw[hu,B];simp only;rw[J];simp only;rw[U]),V⟩
     ·cases e
    ·rename_i C
     obtain⟨cs,p,h4⟩:=Atl e;obtain⟨v,U,V⟩:=A19 C (fun x=>by cases x) h4;rw[p]at B;exact⟨_,_,Hs rfl (by simp only[E1];rw[hu,B];simp only;rw[J];simp only;rw[U]),V⟩
    ·cases e
   ·cases e
  ·cases e
 | convert src dst x=>
  simp only[opD,Dh,Fk,Fc,G8]at e;split at e
  ·rename_i e1 _ c he hs hd
   obtain⟨c',n,d,h2⟩:=Bds e;have q:=he;rw[d]at q;exact⟨_,_,Hs rfl (by simp only[E1];rw[hs,hd,q]),h2⟩
  ·cases e
 | extract x ix=>
  simp only[opD,Dh,Fk,Fc,G8]at e;split at e
  ·rename_i e1 he
   obtain⟨l,d,h2⟩:=Bem e;obtain⟨v,p,h4⟩:=Mw h2;have q:=he;rw[d]at q;rw[A8j]at p;exact⟨_,_,Hs rfl (by simp only[E1];rw[q];exact p),h4⟩
  ·cases e
 | load t x=>
  simp only[opD,Dh]at e;split at e
  ·rename_i e1 he C
   split at e
   ·rename_i n S
    obtain⟨i,off,d,h2⟩:=Pf e;obtain⟨l',D,E⟩:=Mw h2;rw[d]at he;refine⟨_,_,?_,E⟩;show Du T tm (.load t x) h=_;simp only[Du];rw[he];simp only;rw[C];simp only;rw[S];simp only;rw[<-A2y];rw[show Ye h i off n=some l' from D]
   ·cases e
  ·rename_i e1 he C
   obtain⟨i,off,d,h2⟩:=Pf e;obtain⟨l',D,E⟩:=Mw h2;rw[d]at he;split at E
   ·refine⟨_,_,?_,E⟩
    show Du T tm (.load t x) h=_;simp only[Du];rw[he];simp only;rw[C];simp only;rw[<-A2y,show Ye h i off 1=some _ from D]
   ·cases E
  ·cases e
 | store t a x=>
  simp only[opD,Dh,Fk,Fc,G8]at e;split at e
  ·rename_i W x1 n C hx S
   obtain⟨i,off,d,h2⟩:=Pf e;obtain⟨p,h4⟩:=Aq h2;obtain⟨D,E⟩:=Aq h4;obtain⟨h',U,V⟩:=A7z E;rw[Ahx]at D;have A:=C;have B:=hx;rw[d]at A;refine⟨_,_,?_,V⟩;show Du T tm (.store t a x) h=_;simp only[Du];rw[A,B,S];simp only;rw[p,Aj,D,Aj,U]
  ·cases e
 | alloc t=>
  simp only[opD,Dh,Fk,Fc,G8]at e;split at e
  ·rename_i z G
   refine⟨_,_,?_,e⟩;show Du T tm (.alloc t) h=_;simp only[Du];rw[G]
  ·cases e
 | box t x=>
  simp only[opD,Dh,Fk,Fc,G8]at e;split at e
  ·rename_i e1 he
   obtain⟨d,h2⟩:=Aq e;refine⟨_,_,?_,h2⟩;show Du T tm (.box t x) h=_;simp only[Du];rw[he];simp only;rw[d,Aj]
  ·cases e
 | call c=>
  obtain⟨callee,args,Q⟩:=c;have Y:∀{f:Operand} {e1:EV} {as:List EV},Cj tm f=some e1->Mf tm args.toList=some as->Am (Rf call round e1 as h) k=some r->∃v h',aop T call round tm (.call ⟨.value f,args,Q⟩) h=some (v,h')/\k v h'=some r:=by
   intro f e1 as A B hc;obtain⟨v,h',d,h2⟩:=Xj hc;refine⟨v,h',?_,h2⟩;show(match Cj tm f,Mf tm args.toList with|some (.func g first captured),some as=>call g (first++(as++captured)) h|some (.U1 l),some as=>round l as h|_,_=>none)=_;rw[A,B];unfold Rf at d;split at d
   ·rw[Axc,Axc]at d;exact d
   ·exact d
   ·cases d
  cases callee with
  | value f=>
   cases f with
   | func g=>
    simp only[opD,Dh,Fk]at e;split at e
    ·rename_i as C
     obtain⟨v,h',d,h2⟩:=Xj e;refine⟨v,h',?_,h2⟩;show(match Cj tm (.func g),Mf tm args.toList with|some (.func g first captured),some as=>call g (first++(as++captured)) h|some (.U1 l),some as=>round l as h|_,_=>none)=_;rw[C];simp only[Cj,dN,cS];exact d
    ·cases e
   | global g=>cases e
   | _=>
    simp only[opD,Dh,Fk]at e;split at e
    ·rename_i e1 as J C;exact Y J C e
    ·cases e
  | builtin b=>
   have key:∀{as:List EV},Mf tm args.toList=some as->∀v h',builtin T b Q as h=some (v,h')->aop T call round tm (.call ⟨.builtin b,args,Q⟩) h=some (v,h'):=by
    intro as C v h' hb;show Du T tm (.call ⟨.builtin b,args,Q⟩) h=_;simp only[Du];rw[C];exact hb
   cases b with
   | append=>
    simp only[opD,Dh]at e;split at e
    ·rename_i s x t u H L
     split at e
     ·rename_i W b1 u1 K hs hx hu Z
      split at e
      ·rename_i size z ai G
       obtain⟨v,h',d,h2⟩:=Xj e;refine⟨v,h',key (as:=[W,b1]) (by rw[H];simp only[Mf,hs,hx]) v h' ?_,h2⟩;rw[<-Bd5 Z ai G]at d;simp only[builtin];rw[L];simp only;rw[hu];exact d
      ·cases e
     ·cases e
    ·cases e
   | len=>
    simp only[opD,Dh]at e;split at e
    ·rename_i x t H L
     have ka:∀{e1:EV},Cj tm x=some e1->Mf tm args.toList=some [e1]:=by
      intro e1 he;rw[H];simp only[Mf,he]
     split at e
     ·rename_i e1 K he Z
      obtain⟨n,d,h2⟩:=Mw e;refine⟨_,_,key (ka he) _ _ ?_,h2⟩;simp only[builtin];rw[L];simp only;rw[Z];simp only;rw[d]
     ·rename_i e1 dd K he Z
      obtain⟨v,h',d,h2⟩:=Xj e;refine⟨_,_,key (ka he) v h' ?_,h2⟩;simp only[builtin];rw[L];simp only;rw[Z];revert d;unfold A6m;cases e1<;>exact id
     ·rename_i e1 _ _ he _ _
      obtain⟨v,h',d,h2⟩:=Xj e;exact⟨_,_,key (ka he) v h' d,h2⟩
     ·cases e
    ·cases e
   | _=>
    simp only[opD,Fk]at e;split at e
    ·rename_i as C
     obtain⟨v,h',d,h2⟩:=Xj e;exact⟨v,h',key C v h' d,h2⟩
    ·cases e
  | _=>cases e
 | build t ps=>
  simp only[opD,Fc]at e;split at e
  ·rename_i z l fields G hl hu
   split at e
   ·rename_i pl al
    obtain⟨c,p,h2⟩:=Mw e;refine⟨_,h,Hs rfl ?_,h2⟩;rw[Avx,show Dg pl=A36 pl from funext (Bbo pl)]at p;simp only[E1];rw[G,hl,hu];simp only;rw[al];simp only;rw[p]
   ·cases e
  ·rename_i z l n K G hl hu
   split at e
   ·rename_i s hs
    obtain⟨c,p,h2⟩:=Mw e;refine⟨_,h,Hs rfl ?_,h2⟩;rw[Avx]at p;simp only[E1];rw[G,hl,hu];simp only;rw[hs];simp only;have ao:fill (fun i=>some (Nat.mul i s,s)) z l=some c:=p;rw[ao]
   ·cases e
  ·cases e
 | buildSlice t n ps=>
  simp only[opD,Fc]at e;split at e
  ·rename_i K l hu hl
   split at e
   ·rename_i s z hs G
    obtain⟨v,h',d,h2⟩:=Xj e;refine⟨v,h',?_,h2⟩;unfold Bz at d;obtain⟨p,h4⟩:=Aq d;obtain⟨c,D,E⟩:=Mw h4;rw[Avx]at D;have aq:fill (fun i=>some (Nat.mul i s,s)) (rep z n) l=some c:=D;show Du T tm (.buildSlice t n ps) h=_;simp only[Du];rw[hu,hl];simp only;rw[hs,G];simp only;rw[p,Aj,aq];exact E
   ·cases e
  ·cases e
 | makeFunc fo first captured=>
  cases fo with
  | func f=>
   simp only[opD,Fk]at e;split at e
   ·rename_i a b C hb
    exact⟨_,h,Hs rfl (by simp only[E1];rw[C,hb]),e⟩
   ·cases e
  | _=>cases e
 | sliceToArrayPointer t x=>
  simp only[opD,Dh]at e;split at e
  ·rename_i e1 n K he hu
   unfold A2e at e;split at e
   ·obtain⟨d,h2⟩:=Aq e
    exact⟨_,h,Hs rfl (by simp only[E1];rw[hu,he];simp only;rw[d,Aj]),h2⟩
   ·cases e
  ·cases e
 | slice t x lo hi mx=>
  simp only[opD,Dh,G8]at e;split at e
  ·rename_i e1 a7 a8 bf A B q3 q4
   split at e
   ·rename_i n K hu
    split at e
    ·rename_i s hs
     obtain⟨i,o,rfl,d⟩:=Pf e;obtain⟨v,h2,p⟩:=Mw d;exact⟨v,h,Hs rfl (by simp only[E1];rw[B,q3,q4];simp only;rw[hu,A];simp only[hs];exact h2),p⟩
    ·cases e
   ·rename_i K hu
    split at e
    ·rename_i s hs
     obtain⟨v,d,h2⟩:=Mw e;exact⟨v,h,Hs rfl (by simp only[E1];rw[B,q3,q4];simp only;rw[hu,A];simp only;rw[hs];exact d),h2⟩
    ·cases e
   ·cases e
  ·cases e
 | makeSlice t l c=>
  simp only[opD,Dh]at e;split at e
  ·rename_i l1 c1 K A B hu
   split at e
   ·rename_i z G
    obtain⟨v,h',d,h2⟩:=Xj e;refine⟨v,h',?_,h2⟩;unfold Vs at d;split at d
    ·show Du T tm (.makeSlice t l c) h=_
     simp only[Du];rw[hu,A,B];simp only;rw[G];exact d
    ·cases d
   ·cases e
  ·cases e
 | makeMap t rs=>
  cases rs with
  | none=>
   obtain⟨v,h',d,h2⟩:=Xj (show Am (Aw7 h) k=some r from e);exact⟨v,h',d,h2⟩
  | some x=>cases e
 | makeChan t s=>
  simp only[opD,Dh]at e;split at e
  ·rename_i s1 dd K A hu
   split at e
   ·rename_i n0 au
    obtain⟨v,h',d,h2⟩:=Xj e;refine⟨v,h',?_,h2⟩;unfold Arn at d;split at d
    ·show Du T tm (.makeChan t s) h=_
     simp only[Du];rw[hu,A];simp only;rw[au];exact d
    ·cases d
   ·cases e
  ·cases e
 | lookup t x ix ok=>
  simp only[opD,Dh]at e;split at e
  ·rename_i m1 i1 kt K A B hu
   obtain⟨v,h',d,h2⟩:=Xj e;refine⟨v,h',?_,h2⟩;unfold Ard at d;split at d
   ·show Du T tm (.lookup t x ix ok) h=_
    simp only[Du];rw[hu,A,B];simp only;obtain⟨p,h4⟩:=Aq d;rw[p,Aj];split at h4
    ·rename_i es O
     rw[O];simp only;split at h4
     ·rename_i J;rw[J];exact h4
     ·rename_i J;rw[J];simp only
      obtain⟨zv,D,E⟩:=Mw h4;rw[D];exact E
     ·cases h4
    ·cases h4
   ·cases d
  ·cases e
 | mapUpdate t m ix x=>
  simp only[opD,Dh]at e;split at e
  ·rename_i m1 i1 x1 kt K A B q3 hu
   obtain⟨v,h',d,h2⟩:=Xj e;refine⟨v,h',?_,h2⟩;unfold Z2 at d;split at d
   ·show Du T tm (.mapUpdate t m ix x) h=_
    simp only[Du];rw[hu,A,B,q3];simp only;obtain⟨p,h4⟩:=Aq d;rw[p,Aj];split at h4
    ·rename_i es O
     rw[O];simp only;split at h4
     ·rename_i J;rw[J];exact h4
     ·rename_i J;rw[J];exact h4
     ·cases h4
    ·cases h4
   ·cases d
  ·cases e
 | select cs bl=>
  cases bl with
  | true=>cases e
  | false=>
   simp only[opD,Dh]at e;split at e
   ·rename_i c ab
    split at e
    ·rename_i x hsend
     split at e
     ·rename_i c1 x1 zv A B G
      obtain⟨v,h',d,h2⟩:=Xj e;refine⟨v,h',?_,h2⟩;unfold A2j at d;split at d
      ·show Du T tm (.select cs false) h=_
       simp only[Du];rw[ab];simp only;rw[A,hsend];simp only;split at d
       ·rename_i cap buf O
        rw[O,B];simp only;rw[G];exact d
       ·cases d
      ·cases d
     ·cases e
    ·rename_i hsend
     split at e
     ·rename_i c1 zv A G
      obtain⟨v,h',d,h2⟩:=Xj e;refine⟨v,h',?_,h2⟩;unfold A23 at d;split at d
      ·show Du T tm (.select cs false) h=_
       simp only[Du];rw[ab];simp only;rw[A,hsend];simp only;split at d
       ·rename_i cap buf O
        rw[O,G];exact d
       ·cases d
      ·cases d
     ·cases e
   ·cases e
 | _=>cases e
theorem G3(tm:Bb)(j i:Nat)(v:EV):tmp (tm.put j (some v)) i=if j=i then v else tmp tm i:=by
 unfold tmp;rw[Tr.get_put];by_cases h:j=i<;>simp[h]
theorem Ark(n:Nat)(d:Option Tmp)(tm:Bb)(v:EV):Ag6 n d (tmp tm) v=tmp (Po n tm d v):=by
 cases d with
 | none=>rfl
 | some d=>
  show Ax (Nat.ble (Nat.succ d) n) (Boc (tmp tm) d v) (tmp tm)=tmp (Ax (Nat.ble (Nat.succ d) n) (tm.put d (some v)) tm);cases Nat.ble (Nat.succ d) n with
  | false=>rfl
  | true=>
   funext i;rw[Aj,Aj,G3];show Ax (Nat.beq d i) v (tmp tm i)=_;by_cases e:d=i
   ·subst e;rw[aQ rfl,cI,Aj]
   ·rw[aM e,beq_false e,Bc]
theorem Bne(ops:List Oper)(g:Nat × Bool)(tm:Bb):Ba2 ops (tmp tm) g=wanted ops tm (some g):=by
 obtain⟨j,want⟩:=g;simp only[wanted,yielded];show(match Azs ops j with|some o=>(match o.dst with|some d=>D6 (tmp tm d) want|none=>false)|none=>false)=_;cases Azs ops j with
 | none=>rfl
 | some o=>
  simp only;cases o.dst with
  | none=>rfl
  | some d=>
   simp only[tmp];cases tm.get d with
   | none=>rfl
   | some v=>cases v<;>first|rfl|(simp only[D6,Bfa])
def Aao(ops:List Oper)(tm:Bb)(m:Mode):Prop:=∀g b,m=some (g,b)->wanted ops tm (some g)=b
theorem Aao.none(ops:List Oper)(tm:Bb):Aao ops tm none:=fun _ _ h=>by cases h
theorem Bkz(h:eqW a b=true):a=b:=by cases a<;>cases b<;>first|rfl|cases h
theorem Ayc(hm:Aao ops tm m)(h:Axo m g=some b):wanted ops tm (some g)=b:=by
 unfold Axo at h;cases m with
 | none=>cases h
 | some x=>
  obtain⟨⟨j,w⟩,e⟩:=x;simp only at h;obtain⟨d,h2⟩:=Aq h;cases h2;rw[Bn]at d;split at d
  ·rename_i hj
   have e1:j=g.1:=aL hj;have e2:w=g.2:=Bkz d;have:g=(j,w):=by rw[e1,e2]
   rw[this];exact hm _ _ rfl
  ·cases d
theorem Avw(hw:wanted ops tm (some g)=b)(n:Nat)(dst:Option Tmp)(v:EV):Aao ops (Po n tm dst v) (Ajh ops g b dst):=by
 intro A B h;obtain⟨j,w⟩:=g;unfold Ajh at h;simp only[wanted,yielded]at hw⊢;cases i:Azs ops j with
 | none=>
  rw[i]at h hw;simp only at h hw;cases h;simp only[i];exact hw
 | some o=>
  rw[i]at h hw;simp only at h hw;cases hd:o.dst with
  | none=>
   rw[hd]at h hw;simp only at h hw;cases h;simp only[i,hd];exact hw
  | some d=>
   rw[hd]at h hw;simp only at h hw;cases dst with
   | none=>
    simp only at h;cases h;simp only[i,hd,Po];exact hw
   | some q=>
    simp only at h;rw[Bn]at h;split at h
    ·cases h
    ·rename_i u
     cases h;have p:q≠d:=fun e=>u (by rw[e];exact cI _)
     have y:(Po n tm (some q) v).get d=tm.get d:=by
      show(Ax (Nat.ble (Nat.succ q) n) (tm.put q (some v)) tm).get d=_;rw[Bn];split
      ·rw[Tr.get_put,aM p]
      ·rfl
     simp only[i,hd,y];exact hw
theorem A5r(hm:Aao ops tm m){A B:R}{r:EV × Ab}(e:(match Axo m g with|some true=>A|some false=>B|none=>Ax (Ba2 ops (tmp tm) g) A B)=some r):
 (wanted ops tm (some g)=true/\A=some r)\/(wanted ops tm (some g)=false/\B=some r):=by
 split at e
 ·rename_i d;exact .inl ⟨Ayc hm d,e⟩
 ·rename_i d;exact .inr ⟨Ayc hm d,e⟩
 ·rw[Bne]at e
  cases hw:wanted ops tm (some g)with
  | true=>rw[hw,Aj]at e;exact .inl ⟨rfl,e⟩
  | false=>rw[hw,Bc]at e;exact .inr ⟨rfl,e⟩
theorem A7f{d:Option Tmp}(F:Bb->R):thn fl n tm d v F=F (Br0 fl n tm d v):=by cases fl<;>cases d<;>rfl
theorem Axq:∀{l:List Oper} {m:Mode} {tm t2:Bb} {h:Ab} {ds:List Nat} {r:EV × Ab},(fl=true->t2=tm)->Aao ops tm m->Bh5 fl T call call round n ops fin l m (tmp tm) t2 h ds=some r ->
 ∃d h' i,Ar9 T call round n ops l tm h=some (d,h')/\(fl=true->i=d)/\fin (tmp d) i h' ds=some r
 | [],m,tm,t2,h,ds,r,j,_,e=>⟨tm,h,t2,rfl,j,e⟩
 | ⟨dst,op,ty,ps,D,g⟩::l,m,tm,t2,h,ds,r,j,hm,e=>by
  have y:∀v,fl=true->Br0 fl n t2 dst v=Po n tm dst v:=fun v e=>by rw[j e];show Ax fl _ _=_;rw[e,Aj]
  have run:∀{o:Mode},(∀v,Aao ops (Po n tm dst v) o)->opD T call call round op (tmp tm) h (fun v h=>thn fl n t2 dst v fun t2=>Bh5 fl T call call round n ops fin l o (Ag6 n dst (tmp tm) v) t2 h ds)=some r ->
   ∃d h' i,(match aop T call round tm op h with|some (v,h')=>Ar9 T call round n ops l (Po n tm dst v) h'|none=>none)=some (d,h')/\(fl=true->i=d)/\fin (tmp d) i h' ds=some r:=by
   intro o p e;obtain⟨v,h',A,h2⟩:=Af1 e;rw[A7f,Ark]at h2;obtain⟨q,u,t3,B,h4,C⟩:=Axq (y v) (p v) h2;exact⟨q,u,t3,by rw[A];exact B,h4,C⟩
  simp only[Ar9];cases g with
  | none=>
   simp only[wanted,Aj];exact run (fun v=>Aao.none _ _) e
  | some g=>
   rcases A5r hm e with⟨hw,e'⟩|⟨hw,e'⟩
   ·rw[hw,Aj];exact run (fun v=>Avw hw n dst v) e'
   ·rw[hw,Bc];rw[A7f,Ark]at e';exact Axq (y _) (Avw hw n dst _) e'
end
end
theorem A2r(h:Ax a b false=true):a=true/\b=true:=by cases a<;>simp_all [Bn]
theorem A87(h:cls op=.load):∃t x,op=.load t x:=by
 cases op<;>first|exact⟨_,_,rfl⟩|skip
 all_goals (first|(cases h;done)|skip)
 all_goals (simp only[cls,isV,Aj,Bc]at h;first|(cases h;done)|skip)
 all_goals exact absurd h (Apr false _).2.1
theorem Bqf{call:Ai}(i:Al7 T op=true)(p:cls op=.pur){h2:Ab}(d:aop T call round tm op h=some (v,h')):
 h'=h/\Du T tm op h2=some (v,h2):=by
 have q:=A0b p;rw[Atf q]at d;refine⟨Bll q d,?_⟩;unfold Al7 at i;rw[p]at i;simp only at i;split at i
 ·rename_i args j
  split at i
  ·rename_i t o
   split at i
   ·rename_i e hu
    simp only[Du]at d⊢;split at d
    ·rename_i as has
     match as,d with
     | [x],d=>
      simp only[builtin]at d⊢;rw[o]at d⊢;simp only at d⊢;rw[hu]at d⊢;simp only at d⊢;split at d
      ·cases d;first|rfl|(rename_i n u;rw[u])
      ·cases d
     | [],d=>cases d
     | _::_::_,d=>cases d
    ·cases d
   ·cases i
  ·cases i
 ·rename_i args j
  simp only[Du]at d⊢;split at d
  ·rename_i as has
   match as,d with
   | x::l,d=>
    cases x<;>first|(cases d;done)|skip
    simp only[builtin]at d⊢;split at d
    ·cases d;first|rfl|(rename_i hm;rw[hm])
    ·cases d
   | [],d=>cases d
  ·cases d
 ·rename_i args j
  simp only[Du]at d⊢;split at d
  ·rename_i as has
   match as,d with
   | x::l,d=>
    cases x<;>first|(cases d;done)|skip
    simp only[builtin]at d⊢;split at d
    ·cases d;first|rfl|(rename_i hm;rw[hm])
    ·cases d
   | [],d=>cases d
  ·cases d
 ·cases i
theorem Alo {T:Hh}{call round:Ai}{n:Nat}{ops:List Oper}{bs:Tr Nat}{h:Ab}{base:Nat}:
 ∀(l:List Oper) (i:Nat) (tm tm':Bb) (h':Ab) (Cz:List (Nat × Nat)),Au1 T l=true->(∀k,k<l.length->∃b,bs.get (i+k)=some b)->Ar9 T call round n ops l tm h=some (tm',h') ->
  h'=h/\∃lds',Ta T call round n ops bs base l i ⟨tm,h,0,[],Cz,[],[]⟩=some ⟨tm',h,0,[],lds',[],[]⟩
 | [],i,tm,tm',h',Cz,_,_,e=>by cases e;exact⟨rfl,Cz,rfl⟩
 | ⟨dst,op,ty,ps,af,g⟩::l,i,tm,tm',h',Cz,hq,hbs,e=>by
  obtain⟨hq1,hq2⟩:=A2r (show Ax (Al7 T op) (Au1 T l) false=true from hq);have hbs':∀k,k<l.length->∃b,bs.get (Nat.succ i+k)=some b:=fun k hk=>by
   have:=hbs (k+1) (by simp;omega);rw[show Nat.succ i+k=i+(k+1) by omega];exact this
  obtain⟨b,hb0⟩:=hbs 0 (by simp);rw[cz]at hb0;simp only[Ar9]at e;cases hw:wanted ops tm g with
  | false=>
   rw[hw,Bc]at e;obtain⟨h1,lds',h2⟩:=Alo l (Nat.succ i) _ _ _ Cz hq2 hbs' e;refine⟨h1,lds',?_⟩;simp only[Ta,Wx,hw,Bc];exact h2
  | true=>
   rw[hw,Aj]at e;split at e
   ·rename_i v h1 hop
    have go:h1=h->(∃lds1,Wx T call round n ops bs base ⟨dst,op,ty,ps,af,g⟩ i ⟨tm,h,0,[],Cz,[],[]⟩=some ⟨Po n tm dst v,h,0,[],lds1,[],[]⟩) ->
     h'=h/\∃lds',Ta T call round n ops bs base (⟨dst,op,ty,ps,af,g⟩::l) i ⟨tm,h,0,[],Cz,[],[]⟩=some ⟨tm',h,0,[],lds',[],[]⟩:=by
     rintro rfl ⟨lds1,hd⟩;obtain⟨h2,lds',h3⟩:=Alo l (Nat.succ i) _ _ _ lds1 hq2 hbs' e;exact⟨h2,lds',by simp only[Ta,hd];exact h3⟩
    cases hc:cls op with
    | val=>
     have hv:=A7e hc;unfold aop at hop;rw[hv,Aj]at hop;split at hop
     ·rename_i v' hv'
      cases hop;refine go rfl ⟨Cz,?_⟩;simp only[Wx,hw,Aj,hb0,hc,hv']
     ·cases hop
    | load=>
     obtain⟨t,x,rfl⟩:=A87 hc;have hop':Du T tm (.load t x) h=some (v,h1):=hop;have hop2:=hop';simp only[Du]at hop';split at hop'
     ·rename_i q off hx
      have hh1:h1=h:=by
       split at hop'
       ·split at hop'
        ·split at hop'
         ·cases hop';rfl
         ·cases hop'
        ·cases hop'
       ·split at hop'
        ·cases hop';rfl
        ·cases hop'
       ·cases hop'
      subst hh1;refine go rfl ⟨(Nat.shiftLeft 1 i,q)::Cz,?_⟩;have hst:within 0 b=true:=by unfold within;rw[show Nat.land 0 b=0 from Nat.zero_and b];rfl
      have hall:Ax (Nat.ble (Nat.succ q) base) true (Ax (within 0 b) true false)=true:=by rw[hst];cases Nat.ble (Nat.succ q) base<;>rfl
      simp only[Wx,hw,Aj,hb0,hc,hx,E7,X7,loose,hall,hop2]
     ·cases hop'
    | pur=>
     obtain⟨h2,h3⟩:=Bqf (h2:=⟨.nil,h.next,h.next⟩) hq1 hc hop;refine go h2 ⟨Cz,?_⟩;simp only[Wx,hw,Aj,hb0,hc,h3]
    | new=>unfold Al7 at hq1;rw[hc]at hq1;cases hq1
    | sto=>unfold Al7 at hq1;rw[hc]at hq1;cases hq1
    | big=>unfold Al7 at hq1;rw[hc]at hq1;cases hq1
   ·cases e
theorem A9z{call:Ai}(i:Aws T ops=true){d:Bb}(e:Ar9 T call round n ops ops tm h=some (d,h')):
 Asc T call round n ops tm h=some (d,h'):=by
 obtain⟨p,i⟩:=A2r i;obtain⟨q,u⟩:=A2r i;have j:∀k,k<ops.length->∃b,(Ov ops 0 .nil).get (0+k)=some b:=fun k y=>by
  obtain⟨b,hb,_⟩:=Al1 ops 0 .nil (fun _ _=>rfl) k ops[k] (aH y);exact⟨b,hb⟩
 obtain⟨rfl,o,A⟩:=Alo (bs:=Ov ops 0 .nil) (base:=h.next) ops 0 tm d h' [] p j e;unfold Asc;rw[q,Aj,u,Aj,A]
theorem Br6(h:b=true){x y:α}:Ax b x y=x:=by rw[h];rfl
theorem Bmn{call:Ai}:aop T call round tm (.load t x) h=Du T tm (.load t x) h:=rfl
theorem Bq1{call:Ai}{a:Operand}:aop T call round tm (.store t a x) h=Du T tm (.store t a x) h:=rfl
theorem Bqc(h:cls op=.sto):∃t a x,op=.store t a x:=by
 cases op<;>first|exact⟨_,_,_,rfl⟩|skip
 all_goals (first|(cases h;done)|skip)
 all_goals (first
  | (rename_i c;exact absurd (show Ax false Cls.val (Ax (Aw2 (.call c)) .pur .big)=.sto from h) (Apr _ _).2.2)
  | exact absurd h (Apr _ _).2.2)
theorem Bbc{call:Ai}(d:cls op=.new):aop T call round tm op h=Du T tm op h:=by
 rcases A64 d with⟨_,rfl⟩|⟨_,_,rfl⟩|⟨_,_,_,rfl⟩|⟨_,_,_,rfl⟩|⟨_,_,rfl⟩|⟨_,_,rfl⟩<;>rfl
def DX.with(s:DX)(tm:Bb)(h:Ab):DSt:=⟨tm,h,s.bg,s.nw,s.Cz,s.lou,s.st⟩
theorem Atc{call:Ai}{bs:Tr Nat}{base:Nat}{r:EV × Ab}:∀{l:List Oper} {i:Nat} {m:Mode} {s:DX} {tm t2:Bb} {h:Ab},(fl=true->t2=tm)->Aao ops tm m ->
 Ass fl T call call round n ops bs base fin l i m s (tmp tm) t2 h ds=some r->∃s' u,Ta T call round n ops bs base l i (s.with tm h)=some s'/\(fl=true->u=s'.tm)/\fin (tmp s'.tm) u s'.h ds=some r
 | [],i,m,s,tm,t2,h,H,_,e=>⟨s.with tm h,t2,rfl,H,e⟩
 | ⟨dst,op,ty,ps,J,g⟩::l,i,m,s,tm,t2,h,H,hm,e=>by
  have Q:∀v,fl=true->Br0 fl n t2 dst v=Po n tm dst v:=fun v e=>by rw[H e];show Ax fl _ _=_;rw[e,Aj]
  cases hb:bs.get i with
  | none=>simp only[Ass,hb]at e;cases e
  | some b=>
   have run:∀{mk:Mode},(∀v,Aao ops (Po n tm dst v) mk)->wanted ops tm g=true->Ba0 T call call round op i b base s (tmp tm) h (fun s v h=>thn fl n t2 dst v fun t2=>Ass fl T call call round n ops bs base fin l (Nat.succ i) mk s (Ag6 n dst (tmp tm) v) t2 h ds)=some r ->
    ∃s' u,Ta T call round n ops bs base (⟨dst,op,ty,ps,J,g⟩::l) i (s.with tm h)=some s'/\(fl=true->u=s'.tm)/\fin (tmp s'.tm) u s'.h ds=some r:=by
    intro mk K hw e2;have j:∀{v:EV} {A:Ab} {s1:DX},(thn fl n t2 dst v fun t2=>Ass fl T call call round n ops bs base fin l (Nat.succ i) mk s1 (Ag6 n dst (tmp tm) v) t2 A ds)=some r ->
     Wx T call round n ops bs base ⟨dst,op,ty,ps,J,g⟩ i (s.with tm h)=some (s1.with (Po n tm dst v) A) ->
     ∃s' u,Ta T call round n ops bs base (⟨dst,op,ty,ps,J,g⟩::l) i (s.with tm h)=some s'/\(fl=true->u=s'.tm)/\fin (tmp s'.tm) u s'.h ds=some r:=by
     intro v A s1 e3 hd;rw[A7f,Ark]at e3;obtain⟨s',t3,h2,y,h4⟩:=Atc (Q v) (K v) e3;exact⟨s',t3,by simp only[Ta,hd];exact h2,y,h4⟩
    unfold Ba0 at e2;cases p:cls op with
    | val=>
     rw[p]at e2;obtain⟨v,A,h2,y⟩:=Af1 e2;have S:=A7e p;unfold aop at h2;rw[S,Aj]at h2;split at h2
     ·rename_i V L
      cases h2;refine j y ?_;simp only[Wx,DX.with,hw,Aj,hb,p,L]
     ·cases h2
    | load=>
     rw[p]at e2;obtain⟨t,x,rfl⟩:=A87 p;simp only[Dh]at e2;split at e2
     ·rename_i ex B
      obtain⟨q,o,A,h2⟩:=Pf e2;obtain⟨y,h4⟩:=Aq h2;obtain⟨v,C,D,E⟩:=Af1 h4;rw[Bmn]at D;rw[A]at B;have M:C=h:=by
       have d:=D;simp only[Du]at d;rw[B]at d;simp only at d;split at d
       ·split at d
        ·split at d
         ·cases d;rfl
         ·cases d
        ·cases d
       ·split at d
        ·cases d;rfl
        ·cases d
       ·cases d
      subst M;refine j E ?_;unfold A8l at y;simp only[Wx,DX.with,hw,Aj,hb,p,B,D,DX.ld];exact Br6 y
     ·cases e2
    | new=>
     rw[p]at e2;simp only[Bci]at e2;obtain⟨v,A,h2,y⟩:=Af1 e2;rw[Bbc p]at h2;refine j y ?_;simp only[Wx,DX.with,hw,Aj,hb,p,h2,DX.new]
    | sto=>
     rw[p]at e2;obtain⟨t,a,x,rfl⟩:=Bqc p;simp only[Dh]at e2;split at e2
     ·rename_i ex B
      obtain⟨q,o,A,h2⟩:=Pf e2;obtain⟨y,h4⟩:=Aq h2;obtain⟨v,C,D,E⟩:=Af1 h4;rw[Bq1]at D;rw[A]at B;refine j E ?_;unfold A4g at y;simp only[Wx,DX.with,hw,Aj,hb,p,B,y,D,DX.sto]
     ·cases e2
    | pur=>
     rw[p]at e2;simp only[Bty]at e2;obtain⟨v,A,h2,y⟩:=Af1 e2;rw[Atf (A0b p)]at h2;refine j y ?_;simp only[Wx,DX.with,hw,Aj,hb,p,h2]
    | big=>
     rw[p]at e2;obtain⟨A,h2⟩:=Aq e2;obtain⟨v,y,h4,C⟩:=Af1 h2;obtain⟨t,nx,mw⟩:=h;obtain⟨U,O,mw'⟩:=y;have G:aop T call round tm op ⟨Acx t (loose b s.nw),nx,nx⟩=some (v,⟨U,O,mw'⟩):=h4;unfold Aby at A;unfold L9 at C;simp only at C;cases hle:Nat.ble nx mw' with
     | true=>
      rw[hle,Aj]at C;refine j C ?_;simp only[Wx,DX.with,hw,Aj,hb,p,A,G,hle,DX.big]
     | false=>
      rw[hle,Bc]at C;obtain⟨D,E⟩:=Aq C;refine j E ?_;simp only[Wx,DX.with,hw,Aj,Bc,hb,p,A,G,hle,D,DX.Agw]
   have e1:(match bs.get i with|none=>none|some b=>(@Option.rec (Nat × Bool) (fun _=>R) (Ba0 T call call round op i b base s (tmp tm) h (fun s v h=>thn fl n t2 dst v fun t2=>Ass fl T call call round n ops bs base fin l (Nat.succ i) none s (Ag6 n dst (tmp tm) v) t2 h ds))
    (fun g=>match Axo m g with
     | some true=>Ba0 T call call round op i b base s (tmp tm) h (fun s v h=>thn fl n t2 dst v fun t2=>Ass fl T call call round n ops bs base fin l (Nat.succ i) (Ajh ops g true dst) s (Ag6 n dst (tmp tm) v) t2 h ds)
     | some false=>thn fl n t2 dst (.tuple []) fun t2=>Ass fl T call call round n ops bs base fin l (Nat.succ i) (Ajh ops g false dst) s (Ag6 n dst (tmp tm) (.tuple [])) t2 h ds
     | none=>Ax (Ba2 ops (tmp tm) g) (Ba0 T call call round op i b base s (tmp tm) h (fun s v h=>thn fl n t2 dst v fun t2=>Ass fl T call call round n ops bs base fin l (Nat.succ i) (Ajh ops g true dst) s (Ag6 n dst (tmp tm) v) t2 h ds)) (thn fl n t2 dst (.tuple []) fun t2=>Ass fl T call call round n ops bs base fin l (Nat.succ i) (Ajh ops g false dst) s (Ag6 n dst (tmp tm) (.tuple [])) t2 h ds)) g:R))=some r:=e
   rw[hb]at e1;cases g with
   | none=>exact run (fun v=>Aao.none _ _) rfl e1
   | some g=>
    rcases A5r hm e1 with⟨hw,e'⟩|⟨hw,e'⟩
    ·exact run (fun v=>Avw hw n dst v) hw e'
    ·rw[A7f,Ark]at e'
     obtain⟨s',t3,h2,y,h4⟩:=Atc (Q _) (Avw hw n dst _) e';refine⟨s',t3,?_,y,h4⟩;simp only[Ta,Wx,DX.with,hw,Bc];exact h2
theorem Bd4{t2:Bb}{call:Ai}{r:EV × Ab}(o:fl=true->t2=tm)(e:A7u fl T call call round n ops fin (tmp tm) t2 h ds=some r):
 ∃d h' i,Asc T call round n ops tm h=some (d,h')/\(fl=true->i=d)/\fin (tmp d) i h' ds=some r:=by
 unfold A7u at e;obtain⟨p,e⟩:=Aq e;obtain⟨h2,e⟩:=Aq e;obtain⟨⟨d,h',q,u,a3,a4,y⟩,t3,A,h4,B⟩:=Atc o (Aao.none _ _) e;refine⟨d,h',t3,?_,h4,B⟩;unfold Asc;rw[p,Aj,h2,Aj];have j:Ta T call round n ops (Ov ops 0 .nil) h.next ops 0 ⟨tm,h,0,[],[],[],[]⟩=some ⟨d,h',q,u,a3,a4,y⟩:=A
 rw[j]
section
inductive Reach (step:He->AR):He->He->Prop where
 | refl (s:He):Reach step s s
 | head {s s1 s2:He}:step s=.go s1->Reach step s1 s2->Reach step s s2
def Ends(step:He->AR)(s:He)(r:EV × Ab):Prop:=∃s1,Reach step s s1/\step s1=.done r.1 r.2
theorem Ends.go {step:He->AR}{s s1:He}{r:EV × Ab}(h:step s=.go s1)(e:Ends step s1 r):Ends step s r:=by
 obtain⟨s2,d,h2⟩:=e;exact⟨s2,.head h d,h2⟩
theorem Ends.done {step:He->AR}{s:He}{r:EV × Ab}(h:step s=.done r.1 r.2):Ends step s r:=⟨s,.refl s,h⟩
theorem Ends.congr {step:He->AR}{s s':He}{r:EV × Ab}(h:step s=step s')(e:Ends step s r):Ends step s' r:=by
 obtain⟨s2,d,h2⟩:=e;cases d with
 | refl=>exact⟨s',.refl s',by rw[<-h];exact h2⟩
 | head i h4=>exact⟨s2,.head (by rw[<-h];exact i) h4,h2⟩
section
variable (fl:Bool)(T:Hh)(call round:Ai)(fn n:Nat)(Dt:Option Nat)
def At(cd:CD)(todo:List Item):Prop:=∀tm t2 h ds r,((fl=true->t2=tm)/\(fl=false->ds = []))->cd (tmp tm) t2 h ds=some r->Ends (Cq T call round) ⟨⟨fn,n,tm,todo,ds,false,Dt⟩,h⟩ r
end
section
variable{call:Ai}{fn:Nat}{Dt:Option Nat}
theorem At.bad(todo:List Item):At fl T call round fn n Dt (fun _ _ _ _=>none) todo:=fun _ _ _ _ _ _ e=>(by cases e)
theorem At.step{a b:List Item}(hs:∀tm h ds,Cq T call round ⟨⟨fn,n,tm,a,ds,false,Dt⟩,h⟩=.go ⟨⟨fn,n,tm,b,ds,false,Dt⟩,h⟩)(h:At fl T call round fn n Dt cf b):At fl T call round fn n Dt cf a:=
 fun tm t2 h' ds r d e=>(h tm t2 h' ds r d e).go (hs tm h' ds)
theorem At.exit{id:Nat}{a b:List Item}(hs:exitTo id a=exitTo id b)(h:At fl T call round fn n Dt cf (.code (.exit id)::a)):At fl T call round fn n Dt cf (.code (.exit id)::b):=by
 intro tm t2 h' ds r d e;refine(h tm t2 h' ds r d e).congr ?_;simp only[Cq];rw[hs];cases exitTo id b with
 | some k=>rfl
 | none=>simp only[leave]
theorem Bia(out:Nat->CD)(id:Nat)(k:CD)(env:Akl)(d:Nat):Bc7 out ((id,k)::env) d=Ax (Nat.beq id d) k (Bc7 out env d):=by
 funext e tm h ds;show Ax (Nat.beq id d) (k e tm h ds) (Bc7 out env d e tm h ds)=_;cases Nat.beq id d<;>rfl
theorem A4m {k:Ab->R}{ex:Nat->Ab->R}{ret:Ab->R}{kk:List Item}{l:Nat}{r:R}{x:EV × Ab}(j:∀h,k h=some x->Ends (Cq T call round) ⟨⟨fn,n,tm,kk,ds,false,Dt⟩,h⟩ x)
 (hex:∀id h,ex id h=some x->Ends (Cq T call round) ⟨⟨fn,n,tm,.code (.exit id)::kk,ds,false,Dt⟩,h⟩ x) (d:∀h,ret h=some x->Ends (Cq T call round) ⟨⟨fn,n,tm,.code .ret::kk,ds,false,Dt⟩,h⟩ x) (e:Bay l r k ex ret=some x) :
 ∃s',behind fn n tm ds Dt l kk r=.go s'/\Ends (Cq T call round) s' x:=by
 unfold Bay at e;unfold behind;split at e
 ·cases e
 ·split at e
  ·rename_i i
   split at e
   ·cases e
   ·rename_i o
    split at e
    ·simp only;rw[i];simp only;exact⟨_,rfl,j _ e⟩
    ·simp only;rw[i];simp only;exact⟨_,rfl,hex _ _ e⟩
    ·simp only;rw[i];simp only;exact⟨_,rfl,d _ e⟩
    ·cases e
  ·cases e
theorem Y5 {fuel:Nat}{out:Nat->CD}{ret:CD}(hret:∀kk,At fl T call round fn n Dt ret (.code .ret::kk)):∀(c:Code) (env:Akl) (k:CD) (kk:List Item),
 At fl T call round fn n Dt k kk->(∀id,At fl T call round fn n Dt (Bc7 out env id) (.code (.exit id)::kk))->At fl T call round fn n Dt (Ab7 fl T call call round fuel fn n Dt out ret c env k) (.code c::kk)
 | .skip,env,k,kk,hk,henv=>At.step (fun _ _ _=>rfl) hk
 | .region id ops dr,env,k,kk,hk,henv=>by
  intro tm t2 h ds r ht e;have plain:Bh5 fl T call call round n ops.toList k ops.toList none (tmp tm) t2 h ds=some r->(∀tm' h',Ar9 T call round n ops.toList ops.toList tm h=some (tm',h')->Cq T call round ⟨⟨fn,n,tm,.code (.region id ops dr)::kk,ds,false,Dt⟩,h⟩=.go ⟨⟨fn,n,tm',kk,ds,false,Dt⟩,h'⟩) ->
   Ends (Cq T call round) ⟨⟨fn,n,tm,.code (.region id ops dr)::kk,ds,false,Dt⟩,h⟩ r:=fun e hs=>by
   obtain⟨tm',h',t3,h1,h3,h2⟩:=Axq ht.1 (Aao.none _ _) e;exact(hk _ _ _ _ _ ⟨h3,ht.2⟩ h2).go (hs _ _ h1)
  cases dr with
  | false=>exact plain e fun tm' h' h1=>by simp only[Cq];rw[h1]
  | true=>
   have e':Ax (Aws T ops.toList) (Bh5 fl T call call round n ops.toList k ops.toList none) (A7u fl T call call round n ops.toList k) (tmp tm) t2 h ds=some r:=e;cases hq:Aws T ops.toList with
   | true=>
    rw[hq,Aj]at e';exact plain e' fun tm' h' h1=>by simp only[Cq];rw[A9z hq h1]
   | false=>
    rw[hq,Bc]at e';obtain⟨tm',h',t3,h1,h3,h2⟩:=Bd4 ht.1 e';exact(hk _ _ _ _ _ ⟨h3,ht.2⟩ h2).go (by simp only[Cq];rw[h1])
 | .seq a b,env,k,kk,hk,henv=>by
  have hb:=Y5 (fuel:=fuel) hret b env k kk hk henv;exact At.step (fun _ _ _=>rfl) (Y5 (fuel:=fuel) hret a env _ (.code b::kk) hb fun id=>At.exit (a:=kk) (b:=.code b::kk) rfl (henv id))
 | .cond c a b,env,k,kk,hk,henv=>by
  have ha:=Y5 (fuel:=fuel) hret a env k kk hk henv;have hb:=Y5 (fuel:=fuel) hret b env k kk hk henv;intro tm t2 h ds r ht e;have e':(match Eg (tmp tm) c with|some e=>ifE e (Ab7 fl T call call round fuel fn n Dt out ret a env k (tmp tm) t2 h ds) (Ab7 fl T call call round fuel fn n Dt out ret b env k (tmp tm) t2 h ds)|none=>none)=some r:=e;rw[Dh]at e';split at e'
  ·rename_i e1 he
   obtain⟨b,rfl,h2⟩:=A2h e';cases b
   ·exact(hb _ _ _ _ _ ht h2).go (by simp only[Cq];rw[he])
   ·exact(ha _ _ _ _ _ ht h2).go (by simp only[Cq];rw[he])
  ·cases e'
 | .block id c,env,k,kk,hk,henv=>by
  refine At.step (b:=.code c :: .inBlock id::kk) (fun _ _ _=>rfl) (Y5 hret c ((id,k)::env) k (.inBlock id::kk) (At.step (fun _ _ _=>rfl) hk) fun id'=>?_);rw[Bia,Bn];split
  ·rename_i hid
   have:=aL hid;subst this;exact At.step (fun _ _ _=>by simp[Cq,exitTo]) hk
  ·rename_i hid
   refine(henv id').exit ?_;have:(id == id')=false:=by
    cases hb:(id == id')with
    | false=>rfl
    | true=>exact absurd (by simpa using hb:id=id') (fun e=>hid (by subst e;exact cI _))
   simp[exitTo,this]
 | .loop c,env,k,kk,hk,henv=>by
  have key:∀m,At fl T call round fn n Dt (A5o (fun ih=>Ab7 fl T call call round fuel fn n Dt out ret c env ih) m) (.code c :: .inLoop c::kk):=by
   intro m;induction m with
   | zero=>exact At.bad _
   | succ m ih=>exact Y5 hret c env _ (.inLoop c::kk) (At.step (fun _ _ _=>rfl) ih) fun id=>At.exit (a:=kk) (b:=.inLoop c::kk) rfl (henv id)
  exact At.step (fun _ _ _=>rfl) (key fuel)
 | .rangeFunc f ps asg body,env,k,kk,hk,henv=>by
  intro tm t2 h ds r ht e;obtain⟨hfl,e'⟩:=Aq (show Ax fl (match Eg (tmp tm) f with|some e=>Bcp call fn n Dt e ps.toList asg body t2 h ds (fun h ds=>k (tmp tm) t2 h ds) (fun id h ds=>Bc7 out env id (tmp tm) t2 h ds) (fun h ds=>ret (tmp tm) t2 h ds)|none=>none) none=some r from e);have e2:=ht.1 hfl;subst e2;have ht:∀{ds:List Nat},((fl=true->t2=t2)/\(fl=false->ds = [])):=fun {_}=>⟨fun _=>rfl,fun x=>by rw[hfl]at x;cases x⟩
  rw[Dh]at e';split at e'
  ·rename_i e1 hf
   unfold Bcp at e';split at e'
   ·split at e'
    ·obtain⟨s',h1,h2⟩:=A4m (fun h e=>hk _ _ _ _ _ ht e) (fun id h e=>henv id _ _ _ _ _ ht e) (fun h e=>hret kk _ _ _ _ _ ht e) e'
     exact h2.go (by simp only[Cq];rw[hf];exact h1)
    ·split at e'
     ·rename_i hg
      obtain⟨s',h1,h2⟩:=A4m (fun h e=>hk _ _ _ _ _ ht e) (fun id h e=>henv id _ _ _ _ _ ht e) (fun h e=>hret kk _ _ _ _ _ ht e) e';exact h2.go (by simp only[Cq];rw[hf];simp only;rw[hg];exact h1)
     ·cases e'
   ·cases e'
  ·cases e'
 | .exit id,env,k,kk,hk,henv=>henv id
 | .scope c,env,k,kk,hk,henv=>At.bad _
 | .label l,env,k,kk,hk,henv=>At.step (fun _ _ _=>rfl) hk
 | .goto l,env,k,kk,hk,henv=>At.bad _
 | .ret,env,k,kk,hk,henv=>hret kk
 | .refuse w,env,k,kk,hk,henv=>At.bad _
theorem Bq7(T:Hh)(res:List ResultVar)(tm:Bb)(h:Ab):A5z T res (tmp tm) h=match Mo T tm h res with|some [v]=>some (v,h)|some l=>some (.tuple l,h)|none=>none:=by
 have e:∀l:List ResultVar,Mo T tm h l=Azi T h (l.map (rvD (tmp tm))):=by
  intro l;induction l with
  | nil=>rfl
  | cons a r d=>
   cases a with
   | tmp t=>simp only[Mo,cR,rvD,Azi,d];rfl
   | cell a t=>simp only[Mo,cR,rvD,Azi,d];cases tmp tm a<;>rfl
 unfold A5z;split
 ·rfl
 ·rfl
 ·rfl
 ·rw[e];rfl
theorem Aot(o:T.fn fn=some f):∀{ds:List Nat} {h:Ab} {r:EV × Ab},Fi ds h (fun h=>A5z T f.results.toList (tmp tm) h)=some r ->
 Ends (Cq T call round) ⟨⟨fn,n,tm,todo,ds,true,Dt⟩,h⟩ r
 | [],h,r,e=>by
  have e':A5z T f.results.toList (tmp tm) h=some r:=e;rw[Bq7]at e';refine .done ?_;simp only[Cq];rw[o];simp only;split at e'
  ·rename_i v p;cases e';rw[p]
  ·rename_i l j q
   cases e';rw[q];split
   ·rename_i v i;cases i;exact(j v rfl).elim
   ·rename_i i;cases i;rfl
   ·rename_i i;cases i
  ·cases e'
 | d::ds,h,r,e=>by
  have e':(match h.get d with|some (.deferred true)=>Fi ds (h.put d (.deferred false)) (fun h=>A5z T f.results.toList (tmp tm) h)|_=>none)=some r:=e;split at e'
  ·rename_i u
   exact(Aot o e').go (by simp only[Cq];rw[u])
  ·cases e'
theorem Brf(i:T.fn fn=some f):(∀kk,At fl T call round fn n none (Bmh fl T f.results.toList) (.code .ret::kk))/\At fl T call round fn n none (Bmh fl T f.results.toList) []:=
 by
 have k:∀{tm:Bb} {h:Ab} {ds:List Nat} {r:EV × Ab} {todo:List Item},(fl=false->ds = [])->Ax fl (Fi ds h fun h=>A5z T f.results.toList (tmp tm) h) (A5z T f.results.toList (tmp tm) h)=some r->Ends (Cq T call round) ⟨⟨fn,n,tm,todo,ds,true,none⟩,h⟩ r:=fun hd e=>by
  cases fl with
  | true=>exact Aot i e
  | false=>rw[hd rfl]at *;exact Aot (ds:=[]) i e
 exact⟨fun _ _ _ _ _ _ d e=>(k d.2 e).go rfl,fun _ _ _ _ _ d e=>(k d.2 e).go rfl⟩
theorem Bpg(tm:Bb)(d:Nat)(v:EV):Boc (tmp tm) d v=tmp (tm.put d (some v)):=by
 have:=Ark (Nat.succ d) (some d) tm v;simp only[Ag6,Po]at this
 rwa [show Nat.ble (Nat.succ d) (Nat.succ d)=true from aO (aD _),Aj,Aj]at this
theorem Bas:∀(l:List EV) (i:Nat) (tm:Bb),Bae l i (tmp tm)=tmp (setArgs l i tm)
 | [],_,_=>rfl
 | v::r,i,tm=>by
  show Bae r (Nat.succ i) (Boc (tmp tm) i v)=_;rw[Bpg,Bas r];rfl
theorem Bfd:∀{ps:List Tmp} {args:List EV} {tm d:Bb},Wz ps args n tm=some d->Blv n ps args (tmp tm)=tmp d
 | [],[],tm,d,e=>by cases e;rfl
 | [],_::_,_,_,e=>by cases e
 | _::_,[],_,_,e=>by cases e
 | p::r,v::s,tm,d,e=>by
  show Blv n r s (Ag6 n (some p) (tmp tm) v)=_;rw[Ark];exact Bfd e
theorem Bjx {f:Nat}{r:EV × Ab}(e:Axk T call round fuel f args h=some r):∃fr,enter T f args=some fr/\Ends (Cq T call round) ⟨fr,h⟩ r:=by
 unfold Axk at e;split at e
 ·rename_i name origin targs params j nfree o res c u ours file el y met A d
  obtain⟨i,h2⟩:=Aq e;rw[Ahx]at i;rw[show(u0:VS)=tmp .nil from rfl,Bas]at h2;obtain⟨p,q⟩:=Brf (call:=call) (round:=round) (n:=o) d;refine⟨_,by unfold enter;rw[d];simp only;rw[i,Aj],?_⟩;exact Y5 p _ [] _ [] q (fun id=>At.bad _) _ _ _ _ _ ⟨fun _=>rfl,fun _=>rfl⟩ h2
 ·cases e
theorem Bg0(l:Nat):(∀kk,At fl T call round fn n (some l) (fun _ _ h _=>V6 l false .done (some .ret) h) (.code .ret::kk)) /\
 (∀id kk,exitTo id kk=none->At fl T call round fn n (some l) (fun _ _ h _=>V6 l false .done (some (.exit id)) h) (.code (.exit id)::kk))/\At fl T call round fn n (some l) (fun _ _ h _=>V6 l true .ready none h) []:=by
 refine⟨?_,?_,?_⟩
 ·intro kk tm t2 h ds r _ e
  simp only[V6]at e;split at e
  ·rename_i d;cases e;exact .done (by simp only[Cq,leave];rw[d])
  ·cases e
 ·intro id kk i tm t2 h ds r _ e
  simp only[V6]at e;split at e
  ·rename_i d;cases e;exact .done (by simp only[Cq];rw[i];simp only[leave];rw[d])
  ·cases e
 ·intro tm t2 h ds r _ e
  simp only[V6]at e;split at e
  ·rename_i d;cases e;exact .done (by simp only[Cq,leave];rw[d])
  ·cases e
theorem Ay7 {l:Nat}{r:EV × Ab}(e:Ax5 T call round fuel l args h=some r):∃fr,Alw l args h=some fr/\Ends (Cq T call round) ⟨fr,h⟩ r:=by
 unfold Ax5 at e;split at e
 ·rename_i st C f p tm ps asg body d y
  split at e
  ·rename_i j i
   refine⟨⟨f,p,j,[.code asg,.beginRound,.code body],[],false,some l⟩,by unfold Alw;rw[y];simp only;rw[i],?_⟩;obtain⟨q,u,A⟩:=Bg0 (fl:=true) (T:=T) (call:=call) (round:=round) (fn:=f) (n:=p) l;rw[Bfd i]at e;refine Y5 (out:=fun id _ _ h _=>V6 l false .done (some (.exit id)) h) q asg [] _ [.beginRound,.code body] (fun tm t2 h ds r B e=>?_) (fun id=>u id _ rfl) _ _ _ _ _ ⟨fun _=>rfl,fun x=>by cases x⟩ e;simp only[Et]at e;split at e
   ·rename_i o
    exact(Y5 (fuel:=fuel) (out:=fun id _ _ h _=>V6 l false .done (some (.exit id)) h) q body [] _ [] A (fun id=>u id [] rfl) _ _ _ _ _ B e).go (by simp only[Cq];rw[o])
   ·cases e
  ·cases e
 ·cases e
end
structure Good(P:Program)(g:Nat)(args:List EV)(h:Ab)(v:EV)(h':Ab):Prop where
 fn:∃fn,P.funcs[g]? = some fn/\fn.body.isSome=true/\(fn.name == "runtime.NumGoroutine")=false
 run:∀p f w,Tk p h->Tz f h w->EV.Tn p args->∀cs,∃fr f' w',Steps P (lone (Frame.enter P g (Bp f args).toArray .normal) cs w) (lone fr cs w')/\fr.fn=g /\
  fr.leaving P w' (.returned (Cp f' v))/\Move p f h w f' h' w'/\Wf p h h'/\v.ok (grow p h h')
 wf:AWf h h'
def Br8(P:Program)(g:Nat)(F:FnT):Prop:=∀args h v h',F args h=some (v,h')->Good P g args h v h'
def Sound(P:Program)(c:Ai):Prop:=∀g,Br8 P g (c g)
def A73(P:Program)(c:Ai):Prop:=Amw P c/\Wo c
theorem Sound.call{c:Ai}(h:Sound P c):Age P c:=fun g args d v h' e=>⟨(h g args d v h' e).fn,(h g args d v h' e).run⟩
theorem Sound.w{c:Ai}(h:Sound P c):Wo c:=fun g args d v h' e=>(h g args d v h' e).wf
theorem Sound.of{c:Ai}(d:Age P c)(h2:Wo c):Sound P c:=fun g args h v h' e=>⟨(d g args h v h' e).1,(d g args h v h' e).2,h2 g args h v h' e⟩
section
variable(hT:Pe P T){call:Ai}(hC:Sound P call)(hR:A73 P round)
include hT hC hR
theorem A0m {s s':He}(h:Reach (Cq T call round) s s'):Bjc P s s'/\AWf s.h s'.h:=by
 induction h with
 | refl s=>exact⟨fun p f w cs d e i=>Sim.refl d e i,.refl _⟩
 | @head s s1 s2 j _ o=>
  have a:Bjc P s s1:=fun p f w cs d e i=>Bl2 hT hC.call hR.1 hC.w hR.2 j d e i cs
  exact⟨a.trans o.1,(A6n hC.w hR.2 (.inl ⟨s1,j,rfl⟩)).trans o.2⟩
theorem Bge(fuel g:Nat):Br8 P g (Axk T call round fuel g):=by
 intro args h v h' A;obtain⟨fr,i,s1,B,e⟩:=Bjx A;obtain⟨u,hw⟩:=A0m hT hC hR B;simp only at e;unfold enter at i;split at i
 ·rename_i name origin targs params J nfree n results c Q ours file el S met U C
  obtain⟨hle,i⟩:=Aq i;cases i;have o:args.length<=n:=by have:=bB hle;rwa [X8]at this
  obtain⟨q,y⟩:=hT.fn _ _ C;refine⟨⟨_,q,rfl,y⟩,fun p f w K L M cs=>?_,hw.trans (A6n hC.w hR.2 (.inr ⟨v,e⟩))⟩;have D:Yo p ⟨g,n,setArgs args 0 .nil,[.code c],[],false,none⟩:=⟨Bon o M,fun d hd=>(by cases hd),fun l O=>(by cases O),fun x=>(by cases x)⟩;obtain⟨f1,w1,hs,hm,hwf,E,e1,e2⟩:=u p f w cs D K L;have j:=A2v hT e E hwf.hok hm.rep;unfold Fin at j;rw[e2]at j;obtain⟨rfl,G,H⟩:=j;refine⟨_,f1,w1,?_,e1,G,hm,hwf,H⟩;have he:Frame.enter P g (Bp f args).toArray .normal=Oy f ⟨g,n,setArgs args 0 .nil,[.code c],[],false,none⟩:=by
   unfold Frame.enter Oy;rw[Bd0 f o];simp[q]
  rw[he];exact hs
 ·cases i
theorem Bjh(fuel:Nat):A73 P (Ax5 T call round fuel):=by
 constructor
 ·intro l args h v h' y
  obtain⟨fr,e,s1,A,i⟩:=Ay7 y;obtain⟨j,hw⟩:=A0m hT hC hR A;simp only at i;unfold Alw at e;split at e
  ·rename_i st O fn n tm ps asg body dd D
   split at e
   ·rename_i B C
    cases e;refine⟨st,O,fn,n,tm,ps,asg,body,dd,B,D,C,fun p f w E Q S caller cs=>?_⟩;obtain⟨_,G,_⟩:=Ajt f C S (E.get l _ D).2.1;have H:Yo p ⟨fn,n,B,[.code asg,.beginRound,.code body],[],false,some l⟩:=⟨G,fun d hd=>(by cases hd),fun l' U=>(by cases U;exact(E.get l _ D).1),fun x=>(by cases x)⟩;obtain⟨f1,w1,hs,hm,hwf,J,e1,e2⟩:=j p f w (caller::cs) H E Q;have o:=A2v hT i J hwf.hok hm.rep;unfold Fin at o;rw[e2]at o;obtain⟨w2,K,L,u,M⟩:=o caller cs;refine⟨f1,w2,?_,hm.trans L,hwf.trans u,EV.ok.mono (fun q V=>?_) _ M⟩
    ·exact hs.trans K
    ·rw[<-Afb p hwf.next u.next];exact .inl V
   ·cases e
  ·cases e
 ·intro l args h v h' y
  obtain⟨fr,e,s1,A,i⟩:=Ay7 y;obtain⟨j,hw⟩:=A0m hT hC hR A;unfold Alw at e;split at e
  ·split at e
   ·cases e;exact hw.trans (A6n hC.w hR.2 (.inr ⟨v,i⟩))
   ·cases e
  ·cases e
end
end
theorem Good.frame{g:Nat}{D Q:Ab}(G:Good P g args D v Q)(M:D.next=h.next)(hs:∀i o,D.get i=some o->h.get i=some o)(y:h'.next=Q.next)
 (A:∀q o,h'.get q=some o->(Q.get q=some o/\((∃o',D.get q=some o')\/h.next<=q))\/(D.get q=none/\h.get q=some o))
 (hm:h'.mw<=h.mw) (hb:∀q,q<h'.mw->q<h.next->h'.get q=h.get q):Good P g args h v h' where
 fn:=G.fn
 run p f w S B J cs:=by
  have V:Tk p D:=⟨fun i C=>by rw[M];exact S.lt i C,fun i o u=>S.get i o (hs i o u)⟩;obtain⟨fr,f',w',W,X,Y,mv,wf,vo⟩:=G.run p f w V (B.sub hs) J cs;have K:grow p D Q=grow p h h':=by unfold grow;rw[M,y]
  have kept:∀q o,D.get q=none->h.get q=some o->∃r,w'.heap[f'.b q]? = some r/\Q7 f' q o r/\f'.b q=f.b q:=by
   intro q o U u;obtain⟨r,d,h2⟩:=B.obj q o u;obtain⟨hp,hok⟩:=S.get q o u;have O:f'.b q=f.b q:=(mv.agree q hp).1.symm;refine⟨r,?_,h2.congr mv.agree hp hok,O⟩;rw[O,mv.kept _ (B.lt u) (fun i o' C e=>?_)]
   ·exact d
   ·have:=B.inj i q o' o (hs i o' C) u e
    subst this;rw[U]at C;cases C
  refine⟨fr,f',w',W,X,Y,⟨mv.agree,⟨?_,?_⟩,?_,mv.size,mv.tape,mv.os,mv.output,?_⟩,⟨?_,hm,hb,?_,⟨?_,?_⟩⟩,?_⟩
  ·intro q o u
   rcases A q o u with⟨d,_⟩|⟨d,h2⟩
   ·exact mv.rep.obj q o d
   ·obtain⟨r,a,b,_⟩:=kept q o d h2;exact⟨r,a,b⟩
  ·intro i j o o' C hj e
   rcases A i o C with⟨d,_⟩|⟨d,h2⟩
   ·rcases A j o' hj with⟨E,_⟩|⟨E,h4⟩
    ·exact mv.rep.inj i j o o' d E e
    ·obtain⟨_,_,_,e4⟩:=kept j o' E h4
     rcases mv.own i o d with Z|⟨k,ok,L,ek⟩
     ·have:=B.lt h4;omega
     ·have:=B.inj k j ok o' (hs k ok L) h4 (by rw[<-ek,e,e4])
      subst this;rw[E]at L;cases L
   ·obtain⟨_,_,_,e2⟩:=kept i o d h2
    rcases A j o' hj with⟨E,_⟩|⟨E,h4⟩
    ·rcases mv.own j o' E with Z|⟨k,ok,L,ek⟩
     ·have:=B.lt h2;omega
     ·have:=B.inj k i ok o (hs k ok L) h2 (by rw[<-ek,<-e,e2])
      subst this;rw[d]at L;cases L
    ·obtain⟨_,_,_,e4⟩:=kept j o' E h4
     exact B.inj i j o o' h2 h4 (by rw[<-e2,e,e4])
  ·exact fun b ab ad=>mv.kept b ab (fun i o u=>ad i o (hs i o u))
  ·intro i o u
   rcases A i o u with⟨d,_⟩|⟨d,h2⟩
   ·rcases mv.own i o d with a|⟨j,o',a,b⟩
    ·exact .inl a
    ·exact .inr ⟨j,o',hs j o' a,b⟩
   ·obtain⟨_,_,_,e2⟩:=kept i o d h2
    exact .inr ⟨i,o,h2,e2⟩
  ·rw[y,<-M];exact wf.next
  ·intro q o u
   rcases A q o u with⟨_,⟨o',h2⟩|h2⟩|⟨_,h2⟩
   ·exact .inl ⟨o',hs q o' h2⟩
   ·exact .inr h2
   ·exact .inl ⟨o,h2⟩
  ·intro q U;rw[y];rw[<-K]at U;exact wf.hok.lt q U
  ·intro q o u
   rw[<-K];rcases A q o u with⟨d,_⟩|⟨d,h2⟩
   ·exact wf.hok.get q o d
   ·obtain⟨a,b⟩:=S.get q o h2
    exact⟨.inl a,b.mono fun _ C=>.inl C⟩
  ·rw[<-K];exact vo
 wf:={
  next:=by rw[y,<-M];exact G.wf.next
  mw:=hm
  same:=hb
  live:=fun q o u=>by
   rcases A q o u with⟨_,⟨o',h2⟩|h2⟩|⟨_,h2⟩
   ·exact .inl ⟨o',hs q o' h2⟩
   ·exact .inr h2
   ·exact .inl ⟨o,h2⟩
  lt:=fun H q o u=>by
   rw[y];rcases A q o u with⟨d,_⟩|⟨_,d⟩
   ·exact G.wf.lt (fun q o h=>by rw[M];exact H q o (hs q o h)) q o d
   ·have:=G.wf.next;have:=H q o d;rw[M]at *;omega }
noncomputable section
abbrev FT:=Ai->Ai->Nat->FnT
def Ae1(P:Program)(g:Nat)(F:FT):Prop:=∀call round K,Sound P call->A73 P round->Br8 P g (F call round K)
def Ag(T:Hh)(disp:Nat->Option FT)(K:Nat):Nat->Bool->Ai:=
 @Nat.rec (fun _=>Bool->Ai) (fun _ _ _ _=>none)
  (fun _ d b=>@Bool.rec (fun _=>Ai) (fun f=>@Option.rec FT (fun _=>FnT) (Axk T (d false) (d true) K f) (fun F=>F (d false) (d true) K) (disp f)) (fun l=>Ax5 T (d false) (d true) K l) b)
theorem Ae1.of(hT:Pe P T){g:Nat}{F:FT}(h:∀call round K,Axk T call round K g=F call round K):Ae1 P g F:=
 fun call round K d e=>by rw[<-h];exact Bge hT d e K g
theorem Ao7(hT:Pe P T){disp:Nat->Option FT}(j:∀g F,disp g=some F->Ae1 P g F)(K:Nat):∀d,Sound P (Ag T disp K d false)/\A73 P (Ag T disp K d true)
 | 0=>⟨fun _ _ _ _ _ e=>(by cases e),fun _ _ _ _ _ e=>(by cases e),fun _ _ _ _ _ e=>(by cases e)⟩
 | d+1=>by
  obtain⟨c1,i⟩:=Ao7 hT j K d;constructor
  ·intro g
   have e:Ag T disp K (d+1) false g = @Option.rec FT (fun _=>FnT) (Axk T (Ag T disp K d false) (Ag T disp K d true) K g) (fun F=>F (Ag T disp K d false) (Ag T disp K d true) K) (disp g):=rfl;rw[e];cases o:disp g with
   | none=>exact Bge hT c1 i K g
   | some F=>exact j g F o _ _ K c1 i
  ·exact Bjh hT c1 i K
def Az0:List UInt8->List UInt8->Bool
 | [],[]=>true
 | a::r,b::s=>Ax (Nat.beq a.toNat b.toNat) (Az0 r s) false
 | _,_=>false
def Bdf(a b:Bool):Bool:=Ax a b (Ap3 b)
mutual
def eqV:EV->EV->Bool
 | .int k n,.int j p=>Ax (Nat.beq (O2 k) (O2 j)) (eqI n p) false
 | .bool a,.bool b=>Bdf a b
 | .str a,.str b=>Az0 a.data.toList b.data.toList
 | .ptr i o,.ptr d o'=>Ax (Nat.beq i d) (Nat.beq o o') false
 | .Bu,.Bu=>true
 | .slice i o l r op,.slice d o' l' q e=>Ax (Nat.beq i d) (Ax (Nat.beq o o') (Ax (Nat.beq l l') (Ax (Nat.beq r q) (Bdf op e) false) false) false) false
 | .Al,.Al=>true
 | .map i,.map d=>Nat.beq i d
 | .Alq,.Alq=>true
 | .chan i,.chan d=>Nat.beq i d
 | .Aev,.Aev=>true
 | .func f a c,.func f' u y=>Ax (Nat.beq f f') (Ax (Ax2 a u) (Ax2 c y) false) false
 | .U1 l,.U1 l'=>Nat.beq l l'
 | .Ahu,.Ahu=>true
 | .Ab9,.Ab9=>true
 | .agg l,.agg l'=>Ax2 l l'
 | .tuple l,.tuple l'=>Ax2 l l'
 | _,_=>false
def Ax2:List EV->List EV->Bool
 | [],[]=>true
 | a::r,b::s=>Ax (eqV a b) (Ax2 r s) false
 | _,_=>false
end
def Aq9:List (EV × EV)->List (EV × EV)->Bool
 | [],[]=>true
 | (a,b)::r,(c,d)::s=>Ax (eqV a c) (Ax (eqV b d) (Aq9 r s) false) false
 | _,_=>false
def A94:By->By->Bool
 | .cells l t,.cells l' d=>Ax (Nat.beq t d) (Ax2 l l') false
 | .vec l t s,.vec l' d s'=>Ax (Nat.beq t d) (Ax (Nat.beq s s') (Ax2 l l') false) false
 | .map es,.map e=>Aq9 es e
 | .chan c b,.chan i j=>Ax (Nat.beq c i) (Ax2 b j) false
 | _,_=>false
end
variable {F:FT}{disp:Nat->Option FT}
theorem Bln {a b:Int}(h:eqI a b=true):a=b:=by
 cases a<;>cases b
 ·exact congrArg Int.ofNat (aL h)
 ·cases h
 ·cases h
 ·exact congrArg Int.negSucc (aL h)
theorem Awr:∀{a b:List UInt8},Az0 a b=true->a=b
 | [],[],_=>rfl
 | x::r,y::s,h=>by
  simp only[Az0]at h;rw[Bn]at h;split at h
  ·rename_i e
   rw[UInt8.toNat_inj.1 (aL e),Awr h]
  ·cases h
 | [],_::_,h=>by cases h
 | _::_,[],h=>by cases h
theorem Ay1(h:Bdf a b=true):a=b:=by cases a<;>cases b<;>first|rfl|cases h
theorem Bir {a b:IntKind}(h:O2 a=O2 b):a=b:=by cases a<;>cases b<;>first|rfl|(simp[O2]at h)
theorem Gc(h:Ax a b false=true):a=true/\b=true:=by cases a<;>simp_all [Bn]
theorem beq_spec {a b:Nat}(h:Nat.beq a b=true):a=b:=aL h
mutual
theorem Ap8:∀{a b:EV},eqV a b=true->a=b
 | .int k n,b,h=>by
  cases b<;>first|(simp[eqV]at h;done)|skip
  simp only[eqV]at h;obtain⟨d,h2⟩:=Gc h;rw[Bir (beq_spec d),Bln h2]
 | .bool a,b,h=>by
  cases b<;>first|(simp[eqV]at h;done)|skip
  simp only[eqV]at h;rw[Ay1 h]
 | .str a,b,h=>by
  cases b<;>first|(simp[eqV]at h;done)|skip
  rename_i b;simp only[eqV]at h;obtain⟨⟨a⟩⟩:=a;obtain⟨⟨b⟩⟩:=b;have:a=b:=Awr h;rw[this]
 | .ptr i o,b,h=>by
  cases b<;>first|(simp[eqV]at h;done)|skip
  simp only[eqV]at h;obtain⟨d,h2⟩:=Gc h;rw[beq_spec d,beq_spec h2]
 | .Bu,b,h=>by cases b<;>first|(simp[eqV]at h;done)|rfl
 | .slice i o l r op,b,h=>by
  cases b<;>first|(simp[eqV]at h;done)|skip
  simp only[eqV]at h;obtain⟨d,h⟩:=Gc h;obtain⟨h2,h⟩:=Gc h;obtain⟨e,h⟩:=Gc h;obtain⟨h4,h⟩:=Gc h;rw[beq_spec d,beq_spec h2,beq_spec e,beq_spec h4,Ay1 h]
 | .tail i o p,b,h=>by cases b<;>(simp[eqV]at h)
 | .odd a,b,h=>by cases b<;>(simp[eqV]at h)
 | .Al,b,h=>by cases b<;>first|(simp[eqV]at h;done)|rfl
 | .map i,b,h=>by
  cases b<;>first|(simp[eqV]at h;done)|skip
  simp only[eqV]at h;rw[beq_spec h]
 | .Alq,b,h=>by cases b<;>first|(simp[eqV]at h;done)|rfl
 | .chan i,b,h=>by
  cases b<;>first|(simp[eqV]at h;done)|skip
  simp only[eqV]at h;rw[beq_spec h]
 | .Aev,b,h=>by cases b<;>first|(simp[eqV]at h;done)|rfl
 | .func f a c,b,h=>by
  cases b<;>first|(simp[eqV]at h;done)|skip
  simp only[eqV]at h;obtain⟨d,h⟩:=Gc h;obtain⟨h2,h⟩:=Gc h;rw[beq_spec d,Tm h2,Tm h]
 | .U1 l,b,h=>by
  cases b<;>first|(simp[eqV]at h;done)|skip
  simp only[eqV]at h;rw[beq_spec h]
 | .Ahu,b,h=>by cases b<;>first|(simp[eqV]at h;done)|rfl
 | .Ab9,b,h=>by cases b<;>first|(simp[eqV]at h;done)|rfl
 | .agg l,b,h=>by
  cases b<;>first|(simp[eqV]at h;done)|skip
  simp only[eqV]at h;rw[Tm h]
 | .tuple l,b,h=>by
  cases b<;>first|(simp[eqV]at h;done)|skip
  simp only[eqV]at h;rw[Tm h]
theorem Tm:∀{a b:List EV},Ax2 a b=true->a=b
 | [],[],_=>rfl
 | x::r,y::s,h=>by
  simp only[Ax2]at h;obtain⟨d,h2⟩:=Gc h;rw[Ap8 d,Tm h2]
 | [],_::_,h=>by simp[Ax2]at h
 | _::_,[],h=>by simp[Ax2]at h
end
theorem Auz:∀{a b:List (EV × EV)},Aq9 a b=true->a=b
 | [],[],_=>rfl
 | (a,b)::r,(c,d)::s,h=>by
  simp only[Aq9]at h;obtain⟨e,h⟩:=Gc h;obtain⟨h2,i⟩:=Gc h;rw[Ap8 e,Ap8 h2,Auz i]
 | [],_::_,h=>by simp[Aq9]at h
 | _::_,[],h=>by simp[Aq9]at h
theorem Bdn {a b:By}(h:A94 a b=true):a=b:=by
 cases a<;>cases b<;>first|(simp[A94]at h;done)|skip
 all_goals simp only[A94]at h
 ·obtain⟨d,h⟩:=Gc h
  rw[beq_spec d,Tm h]
 ·obtain⟨d,h⟩:=Gc h
  obtain⟨h2,h⟩:=Gc h;rw[beq_spec d,beq_spec h2,Tm h]
 ·rw[Auz h]
 ·obtain⟨d,h⟩:=Gc h
  rw[beq_spec d,Tm h]
noncomputable section
def Tr.Bsz {α:Type}(v:Option α)(t:Tr α):Tr α:=@Tr.rec α (fun _=>Tr α) (.node .nil v .nil) (fun l _ r _ _=>.node l v r) t
def Tr.Bux {α:Type}(k:Option α->Tr α->Tr α)(v:Option α)(t:Tr α):Tr α:=@Tr.rec α (fun _=>Tr α) (Tr.lf none .nil (k v .nil)) (fun l x r _ _=>Tr.lf x r (k v l)) t
def Tr.Bum {α:Type}(k:Option α->Tr α->Tr α)(v:Option α)(t:Tr α):Tr α:=@Tr.rec α (fun _=>Tr α) (Tr.rt .nil none (k v .nil)) (fun l x r _ _=>Tr.rt l x (k v r)) t
def Bdo {α:Type}(p:List Bool):Option α->Tr α->Tr α:=
 @List.rec Bool (fun _=>Option α->Tr α->Tr α) Tr.Bsz (fun b _ d=>@Bool.rec (fun _=>Option α->Tr α->Tr α) (Tr.Bum d) (Tr.Bux d) b) p
theorem Aul:∀(n:Nat) (t:Tr α) (i:Nat),i+1<2^n->Btf (Au7 n i) t=t.get i
 | 0,_,i,h=>by simp at h
 | n+1,t,i,h=>by
  have e2:Nat.land i 1=i%2:=eX i;rw[dU]at h;have e:Au7 (n+1) i=Ax (Nat.beq i 0) [] (Ax (Nat.beq (Nat.land i 1) 1) (true::Au7 n (Nat.div i 2)) (false::Au7 n (Nat.pred (Nat.div i 2)))):=rfl;rw[e,e2];by_cases h0:i=0
  ·subst h0;cases t<;>rfl
  ·rw[beq_false h0,Bc]
   by_cases d:i%2=1
   ·rw[d,show Nat.beq 1 1=true from rfl,Aj]
    cases t with
    | nil=>rfl
    | node l v r=>rw[Tr.Su,aM h0,aQ d];exact Aul n l (i/2) (by omega)
   ·rw[beq_false d,Bc]
    cases t with
    | nil=>rfl
    | node l v r=>rw[Tr.Su,aM h0,aM d];exact Aul n r (i/2-1) (by omega)
theorem A5w(i:Nat):i+1<2^Nat.succ (Nat.log2 (Nat.succ i)):=Nat.lt_log2_self
theorem Bq5(t:Tr α)(i:Nat):Btf (pathOf i) t=t.get i:=Aul _ t i (A5w i)
theorem Agq:∀(n:Nat) (t:Tr α) (i:Nat) (v:Option α),i+1<2^n->Bdo (Au7 n i) v t=Tr.set n t i v
 | 0,_,i,_,h=>by simp at h
 | n+1,t,i,v,h=>by
  have e2:Nat.land i 1=i%2:=eX i;rw[dU]at h;have e:Au7 (n+1) i=Ax (Nat.beq i 0) [] (Ax (Nat.beq (Nat.land i 1) 1) (true::Au7 n (Nat.div i 2)) (false::Au7 n (Nat.pred (Nat.div i 2)))):=rfl;rw[e,e2];by_cases h0:i=0
  ·subst h0;cases t<;>rfl
  ·rw[beq_false h0,Bc]
   by_cases d:i%2=1
   ·rw[d,show Nat.beq 1 1=true from rfl,Aj]
    cases t with
    | nil=>rw[Tr.set_nil,beq_false h0,Bc,e2,d];exact congrArg (Tr.lf none .nil) (Agq n .nil (i/2) v (by omega))
    | node l x r=>rw[Tr.Agp,beq_false h0,Bc,e2,d];exact congrArg (Tr.lf x r) (Agq n l (i/2) v (by omega))
   ·rw[beq_false d,Bc]
    cases t with
    | nil=>rw[Tr.set_nil,beq_false h0,Bc,e2,beq_false d,Bc];exact congrArg (Tr.rt .nil none) (Agq n .nil (i/2-1) v (by omega))
    | node l x r=>rw[Tr.Agp,beq_false h0,Bc,e2,beq_false d,Bc];exact congrArg (Tr.rt l x) (Agq n r (i/2-1) v (by omega))
theorem A60(t:Tr α)(i:Nat)(v:Option α):Bdo (pathOf i) v t=t.put i v:=Agq _ t i v (A5w i)
end
noncomputable section
structure Azp where
 args:List EV
 next:Nat
 pre:List (Nat × By)
 v:EV
 next':Nat
 mw':Nat
 post:List (Nat × Option By)
def Aid(l:List (Nat × By))(t:Tr By):Tr By:=@List.rec (Nat × By) (fun _=>Tr By) t (fun x _ d=>@Prod.rec Nat By (fun _=>Tr By) (fun i o=>Bdo (pathOf i) (some o) d) x) l
def Arb(l:List (Nat × Option By))(t:Tr By):Tr By:=@List.rec (Nat × Option By) (fun _=>Tr By) t (fun x _ d=>@Prod.rec Nat (Option By) (fun _=>Tr By) (fun i o=>Bdo (pathOf i) o d) x) l
def Azp.heap(m:Azp):Ab:=⟨Aid m.pre .nil,m.next,m.next⟩
def Ae8(h:Ab)(i:Nat):Option By:=Btf (pathOf i) h.t
def isObj(x:Option By)(o:By):Bool:=@Option.rec By (fun _=>Bool) false (fun a=>A94 a o) x
def Bkt(l:List (Nat × By))(h:Ab):Bool:=@List.rec (Nat × By) (fun _=>Bool) true (fun x _ d=>@Prod.rec Nat By (fun _=>Bool) (fun i o=>Ax (isObj (Ae8 h i) o) d false) x) l
def A0d(l:List (Nat × Option By))(q:Nat):Bool:=@List.rec (Nat × Option By) (fun _=>Bool) false (fun x _ d=>@Prod.rec Nat (Option By) (fun _=>Bool) (fun i _=>Ax (Nat.beq i q) true d) x) l
def A01(l:List (Nat × By))(q:Nat):Bool:=@List.rec (Nat × By) (fun _=>Bool) false (fun x _ d=>@Prod.rec Nat By (fun _=>Bool) (fun i _=>Ax (Nat.beq i q) true d) x) l
def Blg(post:List (Nat × Option By))(h:Ab)(l:List (Nat × By)):Bool:=@List.rec (Nat × By) (fun _=>Bool) true (fun x _ d=>@Prod.rec Nat By (fun _=>Bool) (fun i o=>Ax (Ax (A0d post i) true (isObj (Ae8 h i) o)) d false) x) l
def Bkl(x:Option By)(o:Option By):Bool:=@Option.rec By (fun _=>Bool) true (fun o=>isObj x o) o
def Bl3(m:Azp)(h:Ab)(l:List (Nat × Option By)):Bool:=@List.rec (Nat × Option By) (fun _=>Bool) true (fun x _ d=>@Prod.rec Nat (Option By) (fun _=>Bool) (fun i o=>
 Ax (Bkl (Ae8 h i) o) (Ax (Ax (Nat.ble m.next i) true (A01 m.pre i)) (Ax (Ax (Nat.ble m.next i) true (Nat.ble m.mw' i)) d false) false) false) x) l
def Bsm(r:R)(m:Azp):Bool:=
 match r with
 | none=>false
 | some (v,h)=>Ax (eqV v m.v) (Ax (Nat.beq h.next m.next') (Ax (Nat.ble m.mw' h.mw) (Ax (Bl3 m h m.post) (Blg m.post h m.pre) false) false) false) false
def Azp.after(m:Azp)(h:Ab):Ab:=⟨Arb m.post h.t,m.next',Ax (Nat.ble h.mw m.mw') h.mw m.mw'⟩
def Azp.fits(m:Azp)(args:List EV)(h:Ab):Bool:=Ax (Ax2 args m.args) (Ax (Nat.beq h.next m.next) (Bkt m.pre h) false) false
def Bfj(m:Azp)(F:FT):FT:=fun call round K args h=>Ax (m.fits args h) (some (m.v,m.after h)) (F call round K args h)
end
theorem A8h(h:Ab)(i:Nat):Ae8 h i=h.get i:=by obtain⟨t,n,m⟩:=h;exact Bq5 t i
theorem At3 {x:Option By}{o:By}(h:isObj x o=true):x=some o:=by
 cases x with
 | none=>cases h
 | some a=>rw[Bdn (show A94 a o=true from h)]
theorem Ay0:∀{l:List (Nat × By)} {t:Tr By} {q:Nat} {o:By},(Aid l t).get q=some o->(q,o)∈l\/t.get q=some o
 | [],t,q,o,h=>.inr h
 | (i,x)::l,t,q,o,h=>by
  have e:Aid ((i,x)::l) t=Bdo (pathOf i) (some x) (Aid l t):=rfl;rw[e,A60,Tr.get_put]at h;split at h
  ·rename_i d;subst d;cases h;exact .inl aV
  ·exact(Ay0 h).imp (aT _) id
theorem Apv:∀(l:List (Nat × Option By)) (t:Tr By) (q:Nat),(∃o,(q,o)∈l/\(Arb l t).get q=o)\/((∀o,(q,o) ∉ l)/\(Arb l t).get q=t.get q)
 | [],t,q=>.inr ⟨fun _ h=>(by cases h),rfl⟩
 | (i,x)::l,t,q=>by
  have e:Arb ((i,x)::l) t=Bdo (pathOf i) x (Arb l t):=rfl;rw[e,A60,Tr.get_put];by_cases d:i=q
  ·subst d;exact .inl ⟨x,aV,aQ rfl⟩
  ·rw[aM d]
   rcases Apv l t q with⟨o,j,h2⟩|⟨j,h2⟩
   ·exact .inl ⟨o,aT _ j,h2⟩
   ·refine .inr ⟨fun o p=>?_,h2⟩
    rcases bW.1 p with e|p
    ·cases e;exact d rfl
    ·exact j o p
theorem A1b:∀{l:List (Nat × By)},Bkt l h=true->∀{i:Nat} {o:By},(i,o)∈l->h.get i=some o
 | [],_,i,o,hm=>by cases hm
 | (j,x)::l,d,i,o,hm=>by
  obtain⟨p,h2⟩:=Gc (show Ax (isObj (Ae8 h j) x) (Bkt l h) false=true from d);rcases bW.1 hm with e|hm
  ·cases e;rw[<-A8h];exact At3 p
  ·exact A1b h2 hm
theorem A1c(h:Ax a true b=true):a=true\/b=true:=by cases a<;>simp_all [Bn]
theorem Av1:∀{l:List (Nat × Option By)} {q:Nat},A0d l q=true->∃o,(q,o)∈l
 | [],_,h=>by cases h
 | (i,x)::l,q,h=>by
  rcases A1c (show Ax (Nat.beq i q) true (A0d l q)=true from h)with d|d
  ·rw[<-beq_spec d];exact⟨x,aV⟩
  ·obtain⟨o,e⟩:=Av1 d;exact⟨o,aT _ e⟩
theorem Ayy:∀{l:List (Nat × By)} {t:Tr By} {q:Nat},A01 l q=true->∃o,(Aid l t).get q=some o
 | [],_,_,h=>by cases h
 | (i,x)::l,t,q,h=>by
  have e:Aid ((i,x)::l) t=Bdo (pathOf i) (some x) (Aid l t):=rfl;rw[e,A60,Tr.get_put];by_cases d:i=q
  ·exact⟨x,aQ d⟩
  ·rw[aM d]
   rcases A1c (show Ax (Nat.beq i q) true (A01 l q)=true from h)with j|j
   ·exact absurd (beq_spec j) d
   ·exact Ayy j
theorem A0s:∀{l:List (Nat × By)},Blg post h l=true->∀{i:Nat} {o:By},(i,o)∈l->(∃o',(i,o')∈post)\/h.get i=some o
 | [],_,i,o,hm=>by cases hm
 | (j,x)::l,p,i,o,hm=>by
  obtain⟨d,h2⟩:=Gc (show Ax (Ax (A0d post j) true (isObj (Ae8 h j) x)) (Blg post h l) false=true from p);rcases bW.1 hm with e|hm
  ·cases e
   rcases A1c d with d|d
   ·exact .inl (Av1 d)
   ·exact .inr (by rw[<-A8h];exact At3 d)
  ·exact A0s h2 hm
theorem Auu {m:Azp}:∀{l:List (Nat × Option By)},Bl3 m h l=true->∀{i:Nat} {o:Option By},(i,o)∈l ->
 (∀x,o=some x->h.get i=some x)/\(m.next<=i\/A01 m.pre i=true)/\(m.next<=i\/m.mw'<=i)
 | [],_,i,o,hm=>by cases hm
 | (j,x)::l,d,i,o,hm=>by
  obtain⟨p,h2⟩:=Gc (show Ax (Bkl (Ae8 h j) x) (Ax (Ax (Nat.ble m.next j) true (A01 m.pre j)) (Ax (Ax (Nat.ble m.next j) true (Nat.ble m.mw' j)) (Bl3 m h l) false) false) false=true from d);obtain⟨q,h4⟩:=Gc h2;obtain⟨u,A⟩:=Gc h4;rcases bW.1 hm with e|hm
  ·cases e
   refine⟨fun y B=>?_,(A1c q).imp bB id,(A1c u).imp bB bB⟩;subst B;rw[<-A8h];exact At3 p
  ·exact Auu A hm
theorem Bfl(a b:Nat):Ax (Nat.ble a b) a b=min a b:=by
 rw[Bn];by_cases h:a<=b
 ·rw[aQ (X0 h)];omega
 ·rw[aM (by rw[Aap h];simp)];omega
theorem Bk1{g:Nat}(V:Ae1 P g F){m:Azp}{c:Ai}(W:Sound P c)(A:Bsm (c g m.args m.heap) m=true):Ae1 P g (Bfj m F):=by
 intro call round K E C args h v h' e;unfold Bfj at e;rw[Bn]at e;split at e
 ·rename_i H
  cases e;obtain⟨X,h2⟩:=Gc H;obtain⟨Y,h4⟩:=Gc h2;have G:args=m.args:=Tm X;have d:h.next=m.next:=beq_spec Y
  subst G;unfold Bsm at A;split at A
  ·cases A
  ·rename_i v Z J
   obtain⟨r1,A⟩:=Gc A;obtain⟨r2,A⟩:=Gc A;obtain⟨r3,A⟩:=Gc A;obtain⟨S,r5⟩:=Gc A;have hv:=Ap8 r1;subst hv;have Ae8:∀q o,m.heap.get q=some o->(q,o)∈m.pre:=fun q o B=>(Ay0 (show(Aid m.pre .nil).get q=some o from B)).elim id fun x=>by cases x
   have D:∀i o,m.heap.get i=some o->h.get i=some o:=fun i o B=>A1b h4 (Ae8 i o B)
   have j:∀q,(m.after h).get q=(Arb m.post h.t).get q:=fun q=>rfl
   have L:∀q,h.t.get q=h.get q:=fun q=>rfl
   refine(W g m.args m.heap m.v Z J).frame d.symm D (beq_spec r2).symm ?_ ?_ ?_
   ·intro q o B
    rw[j]at B;rcases Apv m.post h.t q with⟨x,u,p⟩|⟨u,p⟩
    ·rw[p]at B
     obtain⟨p1,M,_⟩:=Auu S u;refine .inl ⟨p1 o B,?_⟩;rcases M with M|M
     ·exact .inr (by rw[d];exact M)
     ·exact .inl (Ayy (t:=.nil) M)
    ·rw[p,L]at B
     cases U:m.heap.get q with
     | none=>exact .inr ⟨rfl,B⟩
     | some o'=>
      have:=D q o' U;rw[B]at this;cases this;rcases A0s r5 (Ae8 q o U)with⟨y,hy⟩|hk
      ·exact absurd hy (u y)
      ·exact .inl ⟨hk,.inl ⟨o,rfl⟩⟩
   ·show Ax (Nat.ble h.mw m.mw') h.mw m.mw'<=h.mw
    rw[Bfl];exact Nat.min_le_left _ _
   ·intro q hq O
    have ai:q<min h.mw m.mw':=by rw[<-Bfl];exact hq
    rw[j];rcases Apv m.post h.t q with⟨x,u,p⟩|⟨_,p⟩
    ·obtain⟨_,_,Q⟩:=Auu S u
     rcases Q with Q|Q
     ·rw[d]at O;omega
     ·omega
    ·rw[p,L]
 ·exact V call round K E C args h v h' e
end Go.Ev
