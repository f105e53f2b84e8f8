import Derived.Test.YtokpnommcenoaaaGreatEvFour
set_option linter.all false
namespace Go.Ev
set_option maxRecDepth 100000
variable {α:Type}{x:Operand}{v:EV}{op:Op}{g:Nat × Bool}{T:Hj}{t:TypeId}{n off fuel:Nat}{tm:Bb}{h h':Ab}{a b fl:Bool}{ops:List Oper}{round:Ai}{ds:List Nat}{f:Func}{todo:List Item}{args:List EV}{P:Program}{post:List (Nat × Option Ca)}
noncomputable section
abbrev R:=Option (EV × Ab)
abbrev FnT:=List EV->Ab->R
def Avh:Nat->Nat->List Bool:=
 @Nat.rec (fun _=>Nat->List Bool) (fun _=>[]) (fun _ d i=>Ax (Nat.beq i 0) [] (Ax (Nat.beq (Nat.land i 1) 1) (true::d (Nat.div i 2)) (false::d (Nat.pred (Nat.div i 2)))))
def pathOf(i:Nat):List Bool:=Avh (Nat.succ (Nat.log2 (Nat.succ i))) i
def Tr.top {α:Type}(t:Tr α):Option α:=@Tr.rec α (fun _=>Option α) none (fun _ v _ _ _=>v) t
def Tr.goL {α:Type}(k:Tr α->Option α)(t:Tr α):Option α:=@Tr.rec α (fun _=>Option α) none (fun l _ _ _ _=>k l) t
def Tr.goR {α:Type}(k:Tr α->Option α)(t:Tr α):Option α:=@Tr.rec α (fun _=>Option α) none (fun _ _ r _ _=>k r) t
def Bsf {α:Type}(p:List Bool):Tr α->Option α:=
 @List.rec Bool (fun _=>Tr α->Option α) Tr.top (fun b _ d=>@Bool.rec (fun _=>Tr α->Option α) (Tr.goR d) (Tr.goL d) b) p
def oB {α β:Type}(k:α->Option β)(x:Option α):Option β:=@Option.rec α (fun _=>Option β) none k x
def Bfx {α β d:Type}(k:α->β->Option d)(p:α × β):Option d:=@Prod.rec α β (fun _=>Option d) k p
def Fl(l:List EV):Nat:=@List.rec EV (fun _=>Nat) 0 (fun _ _ d=>Nat.succ d) l
def A24(l:List EV):Nat->Option EV:=@List.rec EV (fun _=>Nat->Option EV) (fun _=>none) (fun a _ d n=>Ax (Nat.beq n 0) (some a) (d (Nat.pred n))) l
def Bfy(l:List EV):Nat->List EV:=@List.rec EV (fun _=>Nat->List EV) (fun _=>[]) (fun a r d n=>Ax (Nat.beq n 0) (a::r) (d (Nat.pred n))) l
def A15(a:EV)(x:Option (List EV)):Option (List EV):=@Option.rec (List EV) (fun _=>Option (List EV)) none (fun l=>some (a::l)) x
def Bbd(l:List EV):Nat->Option (List EV):=@List.rec EV (fun _=>Nat->Option (List EV)) (fun n=>Ax (Nat.beq n 0) (some []) none) (fun a _ d n=>Ax (Nat.beq n 0) (some []) (A15 a (d (Nat.pred n)))) l
def Mu(l:List EV)(off n:Nat):Option (List EV):=Ax (Nat.beq off 0) (Ax (Nat.beq (Fl l) n) (some l) (Bbd l n)) (Bbd (Bfy l off) n)
def A22(vs:List EV):List EV->Option (List EV):=@List.rec EV (fun _=>List EV->Option (List EV)) (fun l=>some l) (fun v _ d l=>@List.rec EV (fun _=>Option (List EV)) none (fun _ r _=>A15 v (d r)) l) vs
def Ar0(vs:List EV)(l:List EV):Nat->Option (List EV):=@List.rec EV (fun _=>Nat->Option (List EV)) (fun n=>Ax (Nat.beq n 0) (A22 vs []) none) (fun a r d n=>Ax (Nat.beq n 0) (A22 vs (a::r)) (A15 a (d (Nat.pred n)))) l
def Mq(l:List EV)(off:Nat)(vs:List EV):Option (List EV):=Ax (Nat.beq off 0) (Ax (Nat.beq (Fl l) (Fl vs)) (some vs) (Ar0 vs l 0)) (Ar0 vs l off)
def Awy {β:Type}(k:List EV->Nat->Option β)(off:Nat)(x:Option Ca):Option β:=
 match x with|some (.cells l _)=>k l off|some (.vec l _ _)=>k l off|some (.view ws _)=>(match Awo ws off with|some (o,l)=>k l (Nat.sub off o)|none=>none)|_=>none
def Ajl(h:Ab)(i:Nat)(f:List EV->Option (List EV))(k:Ab->R):R:=
 match h.get i with
 | some (.cells l t)=>oB (fun l'=>k (h.put i (.cells l' t))) (f l)
 | some (.vec l t s)=>oB (fun l'=>k (h.put i (.vec l' t s))) (f l)
 | _=>none
def Yq(h:Ab)(i off n:Nat):Option (List EV):=Awy (fun l o=>Mu l o n) off (h.get i)
def Pk(h:Ab)(size n:Nat)(x:EV):Option (List EV):=
 match x with
 | .Al=>Ax (Nat.beq n 0) (some []) none
 | .slice i off _ _ _=>Ax (Nat.beq n 0) (some []) (Yq h i off (Nat.mul n size))
 | .tail ..=>Ax (Nat.beq n 0) (some []) none
 | _=>none
def onB(x y:R)(v:EV):R:=match v with | .bool b=>Ax b x y|_=>none
def Asw(k:Nat->Nat->R)(v:EV):R:=match v with | .ptr i off=>k i off|_=>none
def Bq8(k:Nat->R)(v:EV):R:=match v with | .int _ n=>@Int.rec (fun _=>R) k (fun _=>none) n|_=>none
def Br0(k:IntKind->Int->R)(v:EV):R:=match v with | .int c n=>k c n|_=>none
def Bm8(k:List EV->R)(v:EV):R:=match v with | .agg l=>k l|_=>none
def Brx(k:List EV->R)(v:EV):R:=match v with | .tuple l=>k l|_=>none
def Brr(a b:Int):Int:=@Int.rec (fun _=>Int) (fun m=>@Int.rec (fun _=>Int) (fun n=>.ofNat (Nat.add m n)) (fun n=>Int.add (.ofNat m) (.negSucc n)) b) (fun m=>Int.add (.negSucc m) b) a
def Bqu(a b:Int):Int:=@Int.rec (fun _=>Int) (fun m=>@Int.rec (fun _=>Int) (fun n=>Ax (Nat.ble n m) (.ofNat (Nat.sub m n)) (.negSucc (Nat.pred (Nat.sub n m)))) (fun n=>Int.sub (.ofNat m) (.negSucc n)) b) (fun m=>Int.sub (.negSucc m) b) a
def ltI(a b:Int):Bool:=@Int.rec (fun _=>Bool) (fun m=>@Int.rec (fun _=>Bool) (fun n=>Nat.ble (Nat.succ m) n) (fun _=>false) b) (fun m=>ltB (.negSucc m) b) a
def eqI(a b:Int):Bool:=@Int.rec (fun _=>Bool) (fun m=>@Int.rec (fun _=>Bool) (fun n=>Nat.beq m n) (fun _=>false) b) (fun m=>eqB (.negSucc m) b) a
def Aqp(b:Bool):Bool:=@Bool.rec (fun _=>Bool) true false b
abbrev IG:=IntKind->Int->Int->EV
def A3p:IG:=fun k a b=>.int k (Cx k (Brr a b))
def Bch:IG:=fun k a b=>.int k (Cx k (Bqu a b))
def Bji:IG:=fun k a b=>.int k (Cx k (Int.mul a b))
def Ja:IG:=fun _ a b=>.bool (ltI a b)
def Bc0:IG:=fun _ a b=>.bool (Aqp (ltI b a))
def A95:IG:=fun _ a b=>.bool (ltI b a)
def Bdu:IG:=fun _ a b=>.bool (Aqp (ltI a b))
def Akq:IG:=fun _ a b=>.bool (eqI a b)
def Alb:IG:=fun _ a b=>.bool (Aqp (eqI a b))
def Btc:BinOp->Option IG
 | .add=>some A3p | .sub=>some Bch | .mul=>some Bji | .lss=>some Ja | .leq=>some Bc0 | .gtr=>some A95 | .geq=>some Bdu | .eql=>some Akq | .neq=>some Alb
 | _=>none
def Bge(agg:Bool)(n:Nat)(cs:List EV)(off:Nat)(k:EV->R):R:=Ax agg (oB (fun l=>k (.agg l)) (Mu cs off n)) (oB k (A24 cs off))
def Abp(place:Nat->Option (Nat × Nat))(l:List (Nat × EV)):List EV->Option (List EV):=
 @List.rec (Nat × EV) (fun _=>List EV->Option (List EV)) (fun c=>some c) (fun x _ d c=>oB (Bfx fun off size=>Ax x.2.plain (Ax (Nat.beq (Fl x.2.cells) size) (oB d (Mq c off x.2.cells)) none) none) (place x.1)) l
def Df(l:List (Nat × Nat)):Nat->Option (Nat × Nat):=@List.rec (Nat × Nat) (fun _=>Nat->Option (Nat × Nat)) (fun _=>none) (fun a _ d i=>Ax (Nat.beq i 0) (some a) (d (Nat.pred i))) l
def Ll(s:Nat):Nat->Option (Nat × Nat):=fun i=>some (Nat.mul i s,s)
def Al4(a b:List EV):List EV:=@List.rec EV (fun _=>List EV) b (fun x _ d=>x::d) a
def Eg(e:TypeId)(size:Nat)(s x:EV)(h:Ab):R:=
 oB (fun n=>Ax (Nat.beq n 0)
  (match s with
   | .slice _ _ d room _=>Ax (Nat.ble d room) (some (s,h)) none
   | .Al=>some (s,h)
   | _=>none)
  (Ax (Nat.ble n 65536) (oB (fun new=>
   match s with
   | .Al=>some (.slice h.next 0 n n true,h.new (.vec new e size))
   | .slice i off d room op=>Ax (Nat.ble d 1048576) (oB (fun Cv=>
    Ax op
     (Ax (Nat.beq off 0) (Ax (Nat.beq room d) (match h.get i with
      | some (.vec l e' s')=>Ax (Nat.beq (Fl l) (Nat.mul d size)) (Ax (Nat.beq s' size) (Ax (Nat.beq e' e)
       (some (.slice h.next 0 (Nat.add d n) (Nat.add d n) true,(h.del i).new (.vec (Al4 Cv new) e size))) none) none) none
      | _=>none) none) none)
     (Ax (Nat.ble (Nat.add d n) room) none (some (.slice h.next 0 (Nat.add d n) (Nat.add d n) true,h.new (.vec (Al4 Cv new) e size)))))
    (Pk h size d s)) none
   | _=>none) (Pk h size n x)) none)) (lenOf x)
def Awa(x:Option Ca)(off n:Nat):Option (List EV):=Awy (fun l o=>Mu l o n) off x
def J1(g:IG)(f:EV->EV->Option EV)(x y:EV)(k:EV->R):R:=
 match x,y with
 | .int c x,.int d y=>Ax (Nat.beq (Ps c) (Ps d)) (k (g c x y)) none
 | x,y=>oB k (f x y)
def Fw(x:EV)(h:Ab)(k:EV->R):R:=Asw (fun i off=>oB (fun l=>match l with | [v]=>k v|_=>none) (Awa (h.get i) off 1)) x
def Qp(n:Nat)(x:EV)(h:Ab)(k:EV->R):R:=Asw (fun i off=>oB (fun l=>k (.agg l)) (Awa (h.get i) off n)) x
def stE(n:Nat)(a v:EV)(h:Ab)(k:Ab->R):R:=Asw (fun i off=>Ax v.plain (Ax (Nat.beq (Fl v.cells) n) (Ajl h i (fun l=>Mq l off v.cells) k) none) none) a
def Zl(s:Nat)(x ix:EV)(k:EV->R):R:=Bq8 (fun j=>match x with | .slice i off len _ _=>Ax (Nat.ble (Nat.succ j) len) (k (.ptr i (Nat.add off (Nat.mul j s)))) none|_=>none) ix
def Am7(c a b:EV)(k:EV->R):R:=onB (k a) (k b) c
def Ae8(f:EV->EV->Option EV)(a b:EV)(k:EV->R):R:=oB k (f a b)
def Alz(v:EV)(k:EV->R):R:=onB (k (.bool false)) (k (.bool true)) v
def Bd3(v:EV)(k:EV->R):R:=match v with | .int c n=>k (.int c (Cx c (Int.sub 0 n)))|_=>none
def Ar8(v:EV)(k:EV->R):R:=Asw (fun i o=>k (.ptr i o)) v
def Ahh(c:Nat)(v:EV)(k:EV->R):R:=Asw (fun i o=>k (.ptr i (Nat.add o c))) v
def Ap9(len s:Nat)(v ix:EV)(k:EV->R):R:=Bq8 (fun j=>Asw (fun i off=>Ax (Nat.ble (Nat.succ j) len) (k (.ptr i (Nat.add off (Nat.mul j s)))) none) v) ix
def Azy(len s:Nat)(agg:Bool)(n:Nat)(v ix:EV)(k:EV->R):R:=Bq8 (fun j=>Bm8 (fun cs=>Ax (Nat.ble (Nat.succ j) len) (Bge agg n cs (Nat.mul j s) k) none) v) ix
def V9(off:Nat)(agg:Bool)(n:Nat)(v:EV)(k:EV->R):R:=Bm8 (fun cs=>Bge agg n cs off k) v
def Tq(c:IntKind)(v:EV)(k:EV->R):R:=Br0 (fun _ n=>k (.int c (Cx c n))) v
def Asr(ix:Nat)(v:EV)(k:EV->R):R:=Brx (fun l=>oB k (A24 l ix)) v
def Ax7(o:Ca)(h:Ab)(k:EV->Ab->R):R:=k (.ptr h.next 0) (h.new o)
def Q2(t:TypeId)(v:EV)(h:Ab)(k:EV->Ab->R):R:=Ax v.plain (k (.ptr h.next 0) (h.new (.cells v.cells t))) none
def Hf(v:EV)(k:EV->R):R:=oB (fun n=>k (.int .i64 (.ofNat n))) (lenOf v)
def Am(x:R)(k:EV->Ab->R):R:=oB (Bfx k) x
def Sh(c r:Ai)(f:EV)(args:List EV)(h:Ab):R:=match f with
 | .func g a cs=>c g (Al4 a (Al4 args cs)) h
 | .Vd l=>r l args h
 | _=>none
def Bm(place:Nat->Option (Nat × Nat))(z:List EV)(ps:List (Nat × EV))(k:EV->R):R:=oB (fun c=>k (.agg c)) (Abp place ps z)
def A0p(n:Nat)(v:EV)(k:EV->R):R:=match v with | .slice i off len _ _=>Ax (Nat.ble n len) (k (.ptr i off)) none|_=>none
def Ae2(s:Nat)(v:EV)(d e i:Option EV)(k:EV->R):R:=oB k (slc v s d e i)
def N1(n s:Nat)(v:EV)(d e j:Option EV)(k:EV->R):R:=Asw (fun i off=>oB k (slc (.slice i off n n false) s d e j)) v
def Wg(z:List EV)(e:TypeId)(l c:EV)(h:Ab):R:=
 match l,c with
 | .int _ (.ofNat n),.int _ (.ofNat m)=>Ax (Nat.ble n m) (Ax (Nat.ble m 65536) (some (.slice h.next 0 n m false,h.new (.cells (rep z m) e))) none) none
 | _,_=>none
def Cd(z:List EV)(e:TypeId)(s n:Nat)(ps:List (Nat × EV))(h:Ab):R:=
 Ax (Nat.ble (Nat.mul n s) 65536) (oB (fun c=>some (.slice h.next 0 n n false,h.new (.cells c e))) (Abp (Ll s) ps (rep z n))) none
def Avy(h:Ab):R:=some (.map h.next,h.new (.map []))
def Arq(s:EV)(h:Ab):R:=match s with | .int _ (.ofNat n)=>Ax (Nat.ble n 65536) (some (.chan h.next,h.new (.chan n []))) none|_=>none
def Arw(T:Hj)(j e:TypeId)(ok:Bool)(m ix:EV)(h:Ab):R:=
 match m with
 | .map i=>Ax (O6 T j ix) (match h.get i with
  | some (.map es)=>match Hn ix es 0 with
   | some (some (_,v))=>some (Ax ok (.tuple [v,.bool true]) v,h)
   | some none=>oB (fun d=>some (Ax ok (.tuple [d,.bool false]) d,h)) (zeroOf T e)
   | none=>none
  | _=>none) none
 | _=>none
def Aag(T:Hj)(d:TypeId)(m ix x:EV)(h:Ab):R:=
 match m with
 | .map i=>Ax (O6 T d ix) (match h.get i with
  | some (.map es)=>match Hn ix es 0 with
   | some (some (j,_))=>some (.tuple [],h.put i (.map (es.set j (ix,x))))
   | some none=>some (.tuple [],h.put i (.map (es++[(ix,x)])))
   | none=>none
  | _=>none) none
 | _=>none
def A0z(c x:EV)(h:Ab):R:=
 match c with
 | .chan i=>match h.get i with
  | some (.chan cap buf)=>Ax (Nat.ble (Nat.succ (len buf)) cap) (some (.tuple [.int .i64 0,.bool false],h.put i (.chan cap (buf++[x])))) (some (.tuple [.int .i64 (-1),.bool false],h))
  | _=>none
 | _=>none
def A1s(d:EV)(c:EV)(h:Ab):R:=
 match c with
 | .chan i=>match h.get i with
  | some (.chan cap buf)=>match buf with
   | v::r=>some (.tuple [.int .i64 0,.bool true,v],h.put i (.chan cap r))
   | []=>some (.tuple [.int .i64 (-1),.bool false,d],h)
  | _=>none
 | _=>none
def A8u(c:EV)(h:Ab):R:=match c with | .chan i=>(match h.get i with|some (.chan _ buf)=>some (.int .i64 (.ofNat (len buf)),h)|_=>none)|_=>none
def ifE(v:EV)(x y:R):R:=onB x y v
inductive RV where
 | v (x:EV)
 | c (a:EV) (t:TypeId)
def Azs(T:Hj)(h:Ab):List RV->Option (List EV)
 | []=>some []
 | .v x::r=>match Azs T h r with|some l=>some (x::l)|none=>none
 | .c a t::r=>match a,Azs T h r,T.size t with
  | .ptr i off,some l,some n=>match I5 h i off n with
   | some cs=>match T.agg t with
    | some true=>some (.agg cs::l)
    | some false=>(match cs with | [v]=>some (v::l)|_=>none)
    | none=>none
   | none=>none
  | _,_,_=>none
def Ij(T:Hj)(l:List RV)(h:Ab):R:=match Azs T h l with|some [v]=>some (v,h)|some l=>some (.tuple l,h)|none=>none
def Er(l:Nat)(h:Ab)(k:Ab->R):R:=match h.get l with
 | some (.loop .ready p f i e ps asg body d)=>k (h.put l (.loop .busy p f i e ps asg body d))
 | _=>none
def Bad(l:Nat)(r:R)(k:Ab->R)(ex:Nat->Ab->R)(ret:Ab->R):R:=match r with
 | none=>none
 | some (_,h)=>match h.get l with
  | some (.loop st p f i e ps asg body d)=>match st with
   | .busy=>none
   | _=>match p with
    | none=>k (h.put l (.loop .exhausted p f i e ps asg body d))
    | some (.exit id)=>ex id (h.put l (.loop .exhausted p f i e ps asg body d))
    | some .ret=>ret (h.put l (.loop .exhausted p f i e ps asg body d))
    | some _=>none
  | _=>none
def Wb(l:Nat)(v:Bool)(st:LoopState)(jump:Option Code)(h:Ab):R:=match h.get l with
 | some (.loop _ _ f n tm ps asg body d)=>some (.bool v,h.put l (.loop st jump f n tm ps asg body d))
 | _=>none
def Ajs:Code->List (Operand × List Tmp × Code × Code)
 | .seq a b=>Ajs a++Ajs b
 | .cond _ a b=>Ajs a++Ajs b
 | .block _ c=>Ajs c
 | .loop c=>Ajs c
 | .rangeFunc f ps a b=>(f,ps.toList,a,b)::(Ajs a++Ajs b)
 | .scope c=>Ajs c
 | _=>[]
def Bt5 {α:Type}:List α->Nat->Option α
 | [],_=>none
 | a::r,n=>Ax (Nat.beq n 0) (some a) (Bt5 r (Nat.pred n))
def Ek(T:Hj)(g i:Nat):Operand × List Tmp × Code × Code:=match T.fn g with|some { body:=some c,.. }=>(match Bt5 (Ajs c) i with|some x=>x|none=>(.tmp 0,[],.skip,.skip))|_=>(.tmp 0,[],.skip,.skip)
def Us(c:Ai)(T:Hj)(g n i:Nat)(f:EV)(tm:Bb)(h:Ab)(ds:List Nat)(k:Ab->List Nat->R)(ex:Nat->Ab->List Nat->R)(ret:Ab->List Nat->R):R:=match f with
 | .func q first captured=>Bad (Nat.succ h.next) (c q (first++(.Vd (Nat.succ h.next)::captured)) ((h.new (.deferred true)).new (.loop .ready none g n tm (Ek T g i).2.1 (Ek T g i).2.2.1 (Ek T g i).2.2.2 h.next)))
  (fun h'=>k h' (h.next::ds)) (fun id h'=>ex id h' (h.next::ds)) (fun h'=>ret h' (h.next::ds))
 | _=>none
def Ar3(c:Ai)(T:Hj)(g n i l0:Nat)(f:EV)(tm:Bb)(h:Ab)(ds:List Nat)(k:Ab->List Nat->R)(ex:Nat->Ab->List Nat->R)(ret:Ab->List Nat->R):R:=match f with
 | .func q first captured=>match h.get l0 with
  | some (.loop _ _ _ _ _ _ _ _ d)=>Bad h.next (c q (first++(.Vd h.next::captured)) (h.new (.loop .ready none g n tm (Ek T g i).2.1 (Ek T g i).2.2.1 (Ek T g i).2.2.2 d)))
   (fun h'=>k h' ds) (fun id h'=>ex id h' ds) (fun h'=>ret h' ds)
  | _=>none
 | _=>none
structure DX where
 bg:Nat
 nw:List (Nat × Nat)
 C0:List (Nat × Nat)
 lou:List (Nat × Nat)
 st:List (Nat × Nat)
def A69(b base q:Nat)(s:DX):Bool:=Ax (E8 b q s.st) (Ax (Nat.ble (Nat.succ q) base) (Ym b q s.lou) (Ax (within s.bg b) (match loose b s.nw with | []=>true|_=>false) false)) false
def A50(b q:Nat)(s:DX):Bool:=Ax (within s.bg b) (Ax (E8 b q s.st) (Ax (E8 b q s.C0) (A1d q (loose b s.nw)) false) false) false
def Ace(b:Nat)(s:DX):Bool:=Ax (within s.bg b) (Azg b s.st) false
def DX.ld(s:DX)(i q:Nat):DX:=⟨s.bg,s.nw,(Nat.shiftLeft 1 i,q)::s.C0,s.lou,s.st⟩
def DX.new(s:DX)(i q:Nat):DX:=⟨s.bg,(Nat.shiftLeft 1 i,q)::s.nw,s.C0,s.lou,s.st⟩
def DX.sto(s:DX)(i q:Nat):DX:=⟨s.bg,s.nw,s.C0,s.lou,(Nat.shiftLeft 1 i,q)::s.st⟩
def DX.big(s:DX)(i:Nat):DX:=⟨Nat.lor s.bg (Nat.shiftLeft 1 i),s.nw,s.C0,s.lou,s.st⟩
def DX.Afg(s:DX)(i w:Nat):DX:=⟨Nat.lor s.bg (Nat.shiftLeft 1 i),s.nw,s.C0,(Nat.shiftLeft 1 i,w)::s.lou,s.st⟩
def Mm(i b:Nat)(s:DX)(h h':Ab)(k:DX->Ab->R):R:=
 Ax (Nat.ble h.next h'.mw)
  (k (s.big i) ⟨Ac5 h.t h'.t (loose b s.nw),h'.next,h.mw⟩)
  (Ax (Th b h'.mw s.C0)
   (k (s.Afg i h'.mw) ⟨Ac5 h.t h'.t (loose b s.nw),h'.next,Ax (Nat.ble h.mw h'.mw) h.mw h'.mw⟩)
   none)
def Hs(b:Nat)(s:DX)(h:Ab):Ab:=⟨Ac9 h.t (loose b s.nw),h.next,h.next⟩
def Am2(T:Hj)(op:Op):Bool:=
 match cls op with
 | .val=>true
 | .load=>true
 | .pur=>match op with
  | .call { callee:=.builtin .len,argTypes,.. }=>match argTypes.toList with
   | [t]=>match T.Ui t with|some (.slice _)=>true|_=>false
   | _=>false
  | .call { callee:=.builtin .min,.. }=>true
  | .call { callee:=.builtin .max,.. }=>true
  | _=>false
 | _=>false
def Aw8(T:Hj)(l:List Oper):Bool:=match l with | []=>true|o::r=>Ax (Am2 T o.op) (Aw8 T r) false
def Avj(T:Hj)(l:List Oper):Bool:=Ax (Aw8 T l) (Ax (Ao6 l 0) (Amr l (O8 l 0 .nil) l 0 []) false) false
def W6(h:Ab)(k:Nat->DX->R):R:=k h.next ⟨0,[],[],[],[]⟩
def Ln(i b base:Nat)(x:EV)(s:DX)(k:DX->R):R:=Asw (fun q _=>Ax (A69 b base q s) (k (s.ld i q)) none) x
def Beb(i:Nat)(h:Ab)(s:DX)(k:DX->R):R:=k (s.new i h.next)
def Bkc(i b:Nat)(x:EV)(s:DX)(k:DX->R):R:=Asw (fun q _=>Ax (A50 b q s) (k (s.sto i q)) none) x
def Bt2(h:Ab)(k:Ab->R):R:=k ⟨.nil,h.next,h.next⟩
def J0(i b:Nat)(s:DX)(h:Ab)(call:Ab->R)(k:EV->Ab->DX->R):R:=Ax (Ace b s) (Am (call (Hs b s h)) fun v h'=>Mm i b s h h' fun s h=>k v h s) none
def D6(v:EV)(w:Bool):Bool:=match v with | .bool b=>Ax b w (Aqp w)|_=>false
abbrev VS:=Nat->EV
abbrev CD:=VS->Bb->Ab->List Nat->R
abbrev Blk(e:VS)(d:Nat)(v:EV):VS:=fun i=>Ax (Nat.beq d i) v (e i)
abbrev Eh(d:VS)(x:Operand):Option EV:=match x with
 | .tmp t=>some (d t)
 | .const v=>ofV v
 | .global _=>none
 | .func f=>some (.func f [] [])
abbrev Au5(d:VS)(l:List Operand):Option (List EV):=@List.rec Operand (fun _=>Option (List EV)) (some []) (fun x _ i=>match Eh d x,i with|some e,some es=>some (e::es)|_,_=>none) l
abbrev A0e(d:VS)(l:List (Nat × Operand)):Option (List (Nat × EV)):=@List.rec (Nat × Operand) (fun _=>Option (List (Nat × EV))) (some []) (fun x _ i=>match Eh d x.2,i with|some e,some es=>some ((x.1,e)::es)|_,_=>none) l
abbrev A67(d:VS)(x:Option Operand):Option (Option EV):=match x with
 | none=>some none
 | some x=>(match Eh d x with|some e=>some (some e)|none=>none)
abbrev opD(T:Hj)(call o round:Ai)(op:Op)(d:VS)(h:Ab)(k:EV->Ab->R):R:=
 match op with
 | .move x=>(match Eh d x with|some e=>k e h|none=>none)
 | .assign x=>(match Eh d x with|some e=>k e h|none=>none)
 | .pick c a b=>(match Eh d c,Eh d a,Eh d b with|some c,some a,some b=>Am7 c a b fun v=>k v h|_,_,_=>none)
 | .binOp op t x y _=>(match Eh d x,Eh d y with
  | some a,some b=>(match Btc op with|some g=>J1 g (bin T op t) a b fun v=>k v h|none=>Ae8 (bin T op t) a b fun v=>k v h)
  | _,_=>none)
 | .unOp .not _ x=>(match Eh d x with|some e=>Alz e fun v=>k v h|none=>none)
 | .nilCheck x=>(match Eh d x with|some e=>Ar8 e fun v=>k v h|none=>none)
 | .fieldAddr s x f=>(match Eh d x,T.Ui s with
  | some e,some (.struct fields)=>(match A6w fields.toList f with
   | some fd=>(match T.size fd.type with|some n=>Ax (Nat.beq n 0) none (Ahh fd.offset e fun v=>k v h)|none=>none)
   | none=>none)
  | _,_=>none)
 | .indexAddr t x ix=>(match Eh d x,Eh d ix,T.Ui t with
  | some e,some ix,some (.array len j)=>(match T.size j with|some s=>Ap9 len s e ix fun v=>k v h|none=>none)
  | some e,some ix,some (.slice j)=>(match T.size j with|some s=>Zl s e ix fun v=>k v h|none=>none)
  | _,_,_=>none)
 | .index t x ix=>(match Eh d x,Eh d ix,T.Ui t with
  | some e,some B,some (.array len j)=>(match T.size j,T.agg j with|some s,some agg=>Azy len s agg s e B fun v=>k v h|_,_=>none)
  | _,_,_=>none)
 | .field t x f=>(match Eh d x,T.Ui t with
  | some e,some (.struct fields)=>(match A6w fields.toList f with
   | some fd=>(match T.agg fd.type with
    | some true=>(match T.size fd.type with|some n=>V9 fd.offset true n e fun v=>k v h|none=>none)
    | some false=>V9 fd.offset false 0 e fun v=>k v h
    | none=>none)
   | none=>none)
  | _,_=>none)
 | .convert src dst x=>(match Eh d x,T.Ui src,T.Ui dst with|some e,some _,some (.int c)=>Tq c e fun v=>k v h|_,_,_=>none)
 | .extract x ix=>(match Eh d x with|some e=>Asr ix e fun v=>k v h|none=>none)
 | .load t x=>(match Eh d x,T.agg t with
  | some e,some true=>(match T.size t with|some n=>Qp n e h fun v=>k v h|none=>none)
  | some e,some false=>Fw e h fun v=>k v h
  | _,_=>none)
 | .store t a x=>(match Eh d a,Eh d x,T.size t with|some a,some x,some n=>stE n a x h fun h=>k (.tuple []) h|_,_,_=>none)
 | .alloc t=>(match T.zero t with|some z=>Ax7 (.cells z t) h k|none=>none)
 | .box t x=>(match Eh d x with|some e=>Q2 t e h k|none=>none)
 | .call { callee:=.value (.func g),args,.. }=>(match Au5 d args.toList with|some xs=>Am (call g xs h) k|none=>none)
 | .call { callee:=.value f,args,.. }=>(match Eh d f,Au5 d args.toList with|some e,some xs=>Am (Sh o round e xs h) k|_,_=>none)
 | .call { callee:=.builtin .append,args,argTypes }=>(match args.toList,argTypes.toList with
  | [s,x],[t,u]=>(match Eh d s,Eh d x,T.Ui u,T.Ui t with
   | some a,some b,some (.slice _),some (.slice e)=>(match T.size e,T.zero e with
    | some size,some _=>Am (Eg e size a b h) k
    | _,_=>none)
   | _,_,_,_=>none)
  | _,_=>none)
 | .call { callee:=.builtin .len,args,argTypes }=>(match args.toList,argTypes.toList with
  | [x],[t]=>(match Eh d x,T.Ui t with
   | some e,some (.slice _)=>Hf e fun v=>k v h
   | some e,some (.chan ..)=>Am (A8u e h) k
   | some e,_=>Am (builtin T .len argTypes [e] h) k
   | _,_=>none)
  | _,_=>none)
 | .call { callee:=.builtin b,args,argTypes }=>(match Au5 d args.toList with|some xs=>Am (builtin T b argTypes xs h) k|none=>none)
 | .unOp .neg _ x=>(match Eh d x with|some e=>Bd3 e fun v=>k v h|none=>none)
 | .build t ps=>(match T.zero t,A0e d ps.toList,T.Ui t with
  | some z,some l,some (.struct fields)=>(match placesOf T fields.toList with
   | some ps=>Bm (Df ps) z l fun v=>k v h
   | none=>none)
  | some z,some l,some (.array _ e)=>(match T.size e with
   | some s=>Bm (Ll s) z l fun v=>k v h
   | none=>none)
  | _,_,_=>none)
 | .buildSlice t n ps=>(match T.Ui t,A0e d ps.toList with
  | some (.slice e),some l=>(match T.size e,T.zero e with
   | some s,some z=>Am (Cd z e s n l h) k
   | _,_=>none)
  | _,_=>none)
 | .makeFunc (.func f) first captured=>(match Au5 d first.toList,Au5 d captured.toList with|some a,some b=>k (.func f a b) h|_,_=>none)
 | .sliceToArrayPointer t x=>(match Eh d x,T.Ui t with|some e,some (.array n _)=>A0p n e fun v=>k v h|_,_=>none)
 | .slice t x p q A=>(match Eh d x,A67 d p,A67 d q,A67 d A with
  | some e,some p,some q,some A=>(match T.Ui t with
   | some (.array n j)=>(match T.size j with|some s=>N1 n s e p q A fun v=>k v h|none=>none)
   | some (.slice j)=>(match T.size j with|some s=>Ae2 s e p q A fun v=>k v h|none=>none)
   | _=>none)
  | _,_,_,_=>none)
 | .makeSlice t l c=>(match Eh d l,Eh d c,T.Ui t with
  | some l,some c,some (.slice e)=>(match T.zero e with|some z=>Am (Wg z e l c h) k|none=>none)
  | _,_,_=>none)
 | .makeMap _ none=>Am (Avy h) k
 | .makeChan t s=>(match Eh d s,T.Ui t with
  | some s,some (.chan _ e)=>(match T.size e with|some _=>Am (Arq s h) k|none=>none)
  | _,_=>none)
 | .lookup t x ix ok=>(match Eh d x,Eh d ix,T.Ui t with|some m,some i,some (.map C e)=>Am (Arw T C e ok m i h) k|_,_,_=>none)
 | .mapUpdate t m ix x=>(match Eh d m,Eh d ix,Eh d x,T.Ui t with|some m,some i,some x,some (.map C _)=>Am (Aag T C m i x h) k|_,_,_,_=>none)
 | .select cs false=>(match cs.toList with
  | [c]=>(match c.send with
   | some x=>(match Eh d c.chan,Eh d x,zeroOf T c.elem with|some c,some x,some _=>Am (A0z c x h) k|_,_,_=>none)
   | none=>(match Eh d c.chan,zeroOf T c.elem with|some c,some D=>Am (A1s D c h) k|_,_=>none))
  | _=>none)
 | _=>none
abbrev Mode:=Option ((Nat × Bool) × Bool)
def eqW(a b:Bool):Bool:=Ax a b (Aqp b)
def Axw(m:Mode)(g:Nat × Bool):Option Bool:=match m with|some x=>Ax (Ax (Nat.beq x.1.1 g.1) (eqW x.1.2 g.2) false) (some x.2) none|none=>none
def Aif(ops:List Oper)(g:Nat × Bool)(b:Bool)(dst:Option Tmp):Mode:=
 match Az2 ops g.1 with
 | some o=>(match o.dst with
  | some d=>(match dst with|some e=>Ax (Nat.beq d e) none (some (g,b))|none=>some (g,b))
  | none=>some (g,b))
 | none=>some (g,b)
abbrev Ahe(n:Nat)(d:Option Tmp)(e:VS)(v:EV):VS:=match d with|none=>e|some d=>Ax (Nat.ble (Nat.succ d) n) (Blk e d v) e
abbrev Bbg(ops:List Oper)(e:VS)(g:Nat × Bool):Bool:=match Az2 ops g.1 with
 | some o=>(match o.dst with|some d=>D6 (e d) g.2|none=>false)
 | none=>false
abbrev Bsk(fl:Bool)(n:Nat)(tm:Bb)(d:Option Tmp)(v:EV):Bb:=Ax fl (Qq n tm d v) tm
abbrev Bvb(n:Nat)(tm:Bb)(d:Option Tmp)(v:EV):Bb:=match d with|none=>tm|some d=>@Bool.rec (fun _=>Bb) tm (tm.put d (some v)) (Nat.ble (Nat.succ d) n)
abbrev thn(fl:Bool)(n:Nat)(tm:Bb)(d:Option Tmp)(v:EV)(F:Bb->R):R:=@Bool.rec (fun _=>R) (F tm) (F (Bvb n tm d v)) fl
def Awc(c:Code):Bool:=@Code.rec (fun _=>Bool) false (fun _ _ _=>false) (fun _ _ a b=>Ax a true b) (fun _ _ _ a b=>Ax a true b) (fun _ _ a=>a) (fun _ a=>a)
 (fun _ _ _ _ _ _=>true) (fun _=>false) (fun _ a=>a) (fun _=>false) (fun _=>false) false (fun _=>false) c
abbrev Bg8(fl:Bool)(T:Hj)(call d round:Ai)(n:Nat)(ops:List Oper)(fin:CD)(l:List Oper):Mode->CD:=
 @List.rec Oper (fun _=>Mode->CD) (fun _=>fin) (fun o _ i m=>@Option.rec (Nat × Bool) (fun _=>CD) (fun e tm h ds=>opD T call d round o.op e h fun v h=>thn fl n tm o.dst v fun tm=>i none (Ahe n o.dst e v) tm h ds)
  (fun g e tm h ds=>match Axw m g with
   | some true=>opD T call d round o.op e h fun v h=>thn fl n tm o.dst v fun tm=>i (Aif ops g true o.dst) (Ahe n o.dst e v) tm h ds
   | some false=>thn fl n tm o.dst (.tuple []) fun tm=>i (Aif ops g false o.dst) (Ahe n o.dst e (.tuple [])) tm h ds
   | none=>Ax (Bbg ops e g) (opD T call d round o.op e h fun v h=>thn fl n tm o.dst v fun tm=>i (Aif ops g true o.dst) (Ahe n o.dst e v) tm h ds) (thn fl n tm o.dst (.tuple []) fun tm=>i (Aif ops g false o.dst) (Ahe n o.dst e (.tuple [])) tm h ds)) o.guard) l
abbrev A84(T:Hj)(call d round:Ai)(op:Op)(i b base:Nat)(s:DX)(j:VS)(h:Ab)(k:DX->EV->Ab->R):R:=
 match cls op with
 | .val=>opD T call d round op j h (k s)
 | .load=>(match op with | .load t x=>(match Eh j x with|some e=>Ln i b base e s fun s=>opD T call d round (.load t x) j h (k s)|none=>none)|_=>none)
 | .new=>Beb i h s fun s=>opD T call d round op j h (k s)
 | .sto=>(match op with | .store t a x=>(match Eh j a with|some e=>Bkc i b e s fun s=>opD T call d round (.store t a x) j h (k s)|none=>none)|_=>none)
 | .pur=>Bt2 h fun h0=>opD T call d round op j h0 fun v _=>k s v h
 | .big=>Ax (Ace b s) (opD T call d round op j (Hs b s h) fun v h'=>Mm i b s h h' fun s h=>k s v h) none
abbrev Atg(fl:Bool)(T:Hj)(call d round:Ai)(n:Nat)(ops:List Oper)(bs:Tr Nat)(base:Nat)(fin:CD)(l:List Oper):Nat->Mode->DX->CD:=
 @List.rec Oper (fun _=>Nat->Mode->DX->CD) (fun _ _ _=>fin) (fun o _ j i m s e tm h ds=>match bs.get i with
  | none=>none
  | some b=>@Option.rec (Nat × Bool) (fun _=>R) (A84 T call d round o.op i b base s e h fun s v h=>thn fl n tm o.dst v fun tm=>j (Nat.succ i) none s (Ahe n o.dst e v) tm h ds)
   (fun g=>match Axw m g with
    | some true=>A84 T call d round o.op i b base s e h fun s v h=>thn fl n tm o.dst v fun tm=>j (Nat.succ i) (Aif ops g true o.dst) s (Ahe n o.dst e v) tm h ds
    | some false=>thn fl n tm o.dst (.tuple []) fun tm=>j (Nat.succ i) (Aif ops g false o.dst) s (Ahe n o.dst e (.tuple [])) tm h ds
    | none=>Ax (Bbg ops e g) (A84 T call d round o.op i b base s e h fun s v h=>thn fl n tm o.dst v fun tm=>j (Nat.succ i) (Aif ops g true o.dst) s (Ahe n o.dst e v) tm h ds) (thn fl n tm o.dst (.tuple []) fun tm=>j (Nat.succ i) (Aif ops g false o.dst) s (Ahe n o.dst e (.tuple [])) tm h ds)) o.guard) l
abbrev A8g(fl:Bool)(T:Hj)(call d round:Ai)(n:Nat)(ops:List Oper)(fin:CD):CD:=fun e tm h ds=>
 @Bool.rec (fun _=>R) none (@Bool.rec (fun _=>R) none (W6 h fun base s=>Atg fl T call d round n ops (O8 ops 0 .nil) base fin ops 0 none s e tm h ds) (Amr ops (O8 ops 0 .nil) ops 0 [])) (Ao6 ops 0)
abbrev Ak8:=List (Nat × CD)
abbrev Bci(out:Nat->CD)(env:Ak8)(id:Nat):CD:=@List.rec (Nat × CD) (fun _=>CD) (out id) (fun p _ e d tm h ds=>@Prod.rec Nat CD (fun _=>R) (fun j k=>Ax (Nat.beq j id) (k d tm h ds) (e d tm h ds)) p) env
abbrev A5i(c:CD->CD)(fuel:Nat):CD:=@Nat.rec (fun _=>CD) (fun _ _ _ _=>none) (fun _ d=>c d) fuel
abbrev Be3(call:Ai)(fn n:Nat)(Dq:Option Nat)(f:EV)(ps:List Tmp)(asg body:Code)(tm:Bb)(h:Ab)(ds:List Nat)(k:Ab->List Nat->R)(ex:Nat->Ab->List Nat->R)(ret:Ab->List Nat->R):R:=match f with
 | .func q first captured=>(match Dq with
  | none=>Bad (Nat.succ h.next) (call q (first++(.Vd (Nat.succ h.next)::captured)) ((h.new (.deferred true)).new (.loop .ready none fn n tm ps asg body h.next))) (fun h'=>k h' (h.next::ds)) (fun id h'=>ex id h' (h.next::ds)) (fun h'=>ret h' (h.next::ds))
  | some l0=>(match h.get l0 with
   | some (.loop _ _ _ _ _ _ _ _ d)=>Bad h.next (call q (first++(.Vd h.next::captured)) (h.new (.loop .ready none fn n tm ps asg body d))) (fun h'=>k h' ds) (fun id h'=>ex id h' ds) (fun h'=>ret h' ds)
   | _=>none))
 | _=>none
abbrev Ab8(fl:Bool)(T:Hj)(call d round:Ai)(fuel fn n:Nat)(Dq:Option Nat)(out:Nat->CD)(ret:CD)(c:Code):Ak8->CD->CD:=
 @Code.rec (fun _=>Ak8->CD->CD) (fun _ k=>k)
  (fun _ ops dr _ k=>@Bool.rec (fun _=>CD) (Bg8 fl T call d round n ops.toList k ops.toList none) (@Bool.rec (fun _=>CD) (A8g fl T call d round n ops.toList k) (Bg8 fl T call d round n ops.toList k ops.toList none) (Avj T ops.toList)) dr)
  (fun _ _ a b env k=>a env (b env k))
  (fun c _ _ a b env k i tm h ds=>match Eh i c with|some e=>ifE e (a env k i tm h ds) (b env k i tm h ds)|none=>none)
  (fun id _ c env k=>c ((id,k)::env) k)
  (fun _ c env _=>A5i (fun j=>c env j) fuel)
  (fun f ps asg body _ _ env k i tm h ds=>@Bool.rec (fun _=>R) none (match Eh i f with|some e=>Be3 d fn n Dq e ps.toList asg body tm h ds (fun h ds=>k i tm h ds) (fun id h ds=>Bci out env id i tm h ds) (fun h ds=>ret i tm h ds)|none=>none) fl)
  (fun id env _=>Bci out env id) (fun _ _ _ _ _ _ _ _=>none) (fun _ _ k=>k) (fun _ _ _ _ _ _ _=>none) (fun _ _=>ret) (fun _ _ _ _ _ _ _=>none) c
def Fi(ds:List Nat)(h:Ab)(k:Ab->R):R:=
 @List.rec Nat (fun _=>Ab->R) k (fun d _ e h=>match h.get d with|some (.deferred true)=>e (h.put d (.deferred false))|_=>none) ds h
abbrev rvD(d:VS):ResultVar->RV
 | .tmp t=>.v (d t)
 | .cell a t=>.c (d a) t
abbrev A8a(T:Hj)(res:List ResultVar)(d:VS)(h:Ab):R:=match res with
 | [.tmp t]=>some (d t,h)
 | []=>some (.tuple [],h)
 | [.tmp s,.tmp t]=>some (.tuple [d s,d t],h)
 | res=>Ij T (res.map (rvD d)) h
abbrev Bot(fl:Bool)(T:Hj)(res:List ResultVar):CD:=fun d _ h ds=>@Bool.rec (fun _=>R) (A8a T res d h) (Fi ds h fun h=>A8a T res d h) fl
abbrev A9e(l:List EV):Nat->VS->VS:=@List.rec EV (fun _=>Nat->VS->VS) (fun _ d=>d) (fun v _ e i d=>e (Nat.succ i) (Blk d i v)) l
abbrev u0:VS:=fun _=>.tuple []
abbrev no0:Nat->CD:=fun _ _ _ _ _=>none
def Ax5(T:Hj)(call round:Ai)(fuel f:Nat)(args:List EV)(h:Ab):R:=
 match T.fn f with
 | some { ntmps:=n,body:=some c,results:=res,.. }=>Ax (Nat.ble (Fl args) n) (Ab8 (Awc c) T call call round fuel f n none no0 (Bot (Awc c) T res.toList) c [] (Bot (Awc c) T res.toList) (A9e args 0 u0) (setArgs args 0 .nil) h []) none
 | _=>none
abbrev Bk9(n:Nat)(ps:List Tmp):List EV->VS->VS:=@List.rec Tmp (fun _=>List EV->VS->VS) (fun _ d=>d) (fun p _ e args d=>@List.rec EV (fun _=>VS) d (fun v r _=>e r (Ahe n (some p) d v)) args) ps
abbrev Bc4(T:Hj)(call d round:Ai)(fuel l f n:Nat)(asg body:Code):CD:=
 Ab8 true T call d round fuel f n (some l) (fun id _ _ h _=>Wb l false .done (some (.exit id)) h) (fun _ _ h _=>Wb l false .done (some .ret) h) asg []
  fun e tm h ds=>Er l h fun h=>Ab8 true T call d round fuel f n (some l) (fun id _ _ h _=>Wb l false .done (some (.exit id)) h) (fun _ _ h _=>Wb l false .done (some .ret) h) body [] (fun _ _ h _=>Wb l true .ready none h) e tm h ds
def Ayf(T:Hj)(call round:Ai)(fuel l:Nat)(args:List EV)(h:Ab):R:=
 match h.get l with
 | some (.loop _ _ f n tm ps asg body _)=>match Xf ps args n tm with
  | some d=>Bc4 T call call round fuel l f n asg body (Bk9 n ps args (tmp tm)) d h []
  | none=>none
 | _=>none
end
variable {k:List EV->R}{m:Mode}{cf fin:CD}
section
theorem Aio(l:List EV):Fl l=len l:=by
 induction l with
 | nil=>rfl
 | cons a r d=>exact congrArg Nat.succ d
theorem A7p:∀(l:List EV) (n:Nat),A24 l n=match Zp l n with|v::_=>some v | []=>none
 | [],n=>rfl
 | a::r,n=>by
  have e:A24 (a::r) n=Ax (Nat.beq n 0) (some a) (A24 r (Nat.pred n)):=rfl;rw[e];simp only[Zp];cases Nat.beq n 0
  ·exact A7p r _
  ·rfl
theorem Ba2:∀(l:List EV) (n:Nat),Bfy l n=Zp l n
 | [],n=>rfl
 | a::r,n=>by
  have e:Bfy (a::r) n=Ax (Nat.beq n 0) (a::r) (Bfy r (Nat.pred n)):=rfl;rw[e];simp only[Zp];rw[Ba2 r]
theorem A2p(a:EV)(x:Option (List EV)):A15 a x=match x with|some x=>some (a::x)|none=>none:=by cases x<;>rfl
theorem A1v:∀(l:List EV) (n:Nat),Bbd l n=takeN l n
 | [],n=>rfl
 | a::r,n=>by
  have e:Bbd (a::r) n=Ax (Nat.beq n 0) (some []) (A15 a (Bbd r (Nat.pred n))):=rfl;rw[e];simp only[takeN];rw[A1v r,A2p];cases takeN r (Nat.pred n)<;>rfl
theorem A4j:∀(l:List EV),takeN l (len l)=some l
 | []=>rfl
 | a::r=>by
  simp only[takeN,len];rw[show Nat.beq (Nat.succ (len r)) 0=false from rfl,Bc,Nat.pred_succ,A4j r]
theorem Bes(l:List EV):Zp l 0=l:=by cases l<;>rfl
theorem Ai5(l:List EV)(off n:Nat):Mu l off n=takeN (Zp l off) n:=by
 unfold Mu;rw[Ba2,A1v,A1v,Aio];cases h:Nat.beq off 0
 ·rfl
 ·have:=aL h;subst this
  rw[Bes];cases d:Nat.beq (len l) n
  ·rfl
  ·have:=aL d;subst this
   rw[A4j];rfl
theorem A0y:∀(vs l:List EV),A22 vs l=Jh l vs
 | [],l=>by cases l<;>rfl
 | v::vs,[]=>rfl
 | v::vs,a::r=>by
  have e:A22 (v::vs) (a::r)=A15 v (A22 vs r):=rfl;rw[e];simp only[Jh];rw[A0y vs r,A2p];cases Jh r vs<;>rfl
theorem Atl(vs:List EV):∀(l:List EV) (n:Nat),Ar0 vs l n=Fm l n vs
 | [],n=>by
  have e:Ar0 vs [] n=Ax (Nat.beq n 0) (A22 vs []) none:=rfl;rw[e];simp only[Fm];rw[A0y]
 | a::r,n=>by
  have e:Ar0 vs (a::r) n=Ax (Nat.beq n 0) (A22 vs (a::r)) (A15 a (Ar0 vs r (Nat.pred n))):=rfl;rw[e];simp only[Fm];rw[A0y,Atl vs r,A2p];cases Fm r (Nat.pred n) vs<;>rfl
theorem Azm:∀(l vs:List EV),len l=len vs->Jh l vs=some vs
 | [],[],_=>rfl
 | a::r,[],h=>by simp[len]at h
 | [],v::vs,h=>by simp[len]at h
 | a::r,v::vs,h=>by
  simp only[Jh];rw[Azm r vs (by simpa [len]using h)]
theorem Vq(l:List EV)(off:Nat)(vs:List EV):Mq l off vs=Fm l off vs:=by
 unfold Mq;rw[Atl,Atl,Aio,Aio];cases h:Nat.beq off 0
 ·rfl
 ·have:=aL h;subst this
  cases d:Nat.beq (len l) (len vs)
  ·rfl
  ·have h2:=aL d
   have:Fm l 0 vs=Jh l vs:=by cases l<;>rfl
   rw[this,Azm l vs h2];rfl
theorem Gu {β:Type}(k:α->Option β)(a:α):oB k (some a)=k a:=rfl
theorem Ni {β:Type}{k:α->Option β}{x:Option α}{r:β}(e:oB k x=some r):∃a,x=some a/\k a=some r:=by
 cases x with
 | none=>cases e
 | some a=>exact⟨a,rfl,e⟩
theorem A03 {x y:R}{r:EV × Ab}(e:onB x y v=some r):∃b,v=.bool b/\(Ax b x y)=some r:=by
 cases v with
 | bool b=>exact⟨b,rfl,e⟩
 | _=>cases e
theorem Qo {k:Nat->Nat->R}{r:EV × Ab}(e:Asw k v=some r):∃i o,v=.ptr i o/\k i o=some r:=by
 cases v with
 | ptr i o=>exact⟨i,o,rfl,e⟩
 | _=>cases e
theorem Bea {k:IntKind->Int->R}{r:EV × Ab}(e:Br0 k v=some r):∃c n,v=.int c n/\k c n=some r:=by
 cases v with
 | int c n=>exact⟨c,n,rfl,e⟩
 | _=>cases e
theorem Ayb {k:Nat->R}{r:EV × Ab}(e:Bq8 k v=some r):∃c n,v=.int c (.ofNat n)/\k n=some r:=by
 cases v with
 | int c n=>
  cases n with
  | ofNat n=>exact⟨c,n,rfl,e⟩
  | negSucc n=>cases e
 | _=>cases e
theorem Auw{r:EV × Ab}(e:Bm8 k v=some r):∃l,v=.agg l/\k l=some r:=by
 cases v with
 | agg l=>exact⟨l,rfl,e⟩
 | _=>cases e
theorem Bdj{r:EV × Ab}(e:Brx k v=some r):∃l,v=.tuple l/\k l=some r:=by
 cases v with
 | tuple l=>exact⟨l,rfl,e⟩
 | _=>cases e
theorem Bgj(a b:Int):Brr a b=Int.add a b:=by cases a<;>cases b<;>rfl
theorem Bf3(a b:Int):Bqu a b=Int.sub a b:=by
 cases a with
 | ofNat m=>
  cases b with
  | ofNat n=>
   have e:Bqu (.ofNat m) (.ofNat n)=Ax (Nat.ble n m) (.ofNat (Nat.sub m n)) (.negSucc (Nat.pred (Nat.sub n m))):=rfl;rw[e,Bo];show _=(Int.ofNat m)-(Int.ofNat n);split
   ·rename_i h
    have:=bB h;show((m-n:Nat):Int)=_;simp only[aX];omega
   ·rename_i h
    have:¬n<=m:=fun x=>h (aO x)
    show Int.negSucc ((n-m)-1)=_;simp only[aX,cq];omega
  | negSucc n=>rfl
 | negSucc m=>rfl
theorem Beu(a b:Int):ltI a b=ltB a b:=by cases a<;>cases b<;>rfl
theorem Bd0(a b:Int):eqI a b=eqB a b:=by cases a<;>cases b<;>rfl
theorem Bf9(b:Bool):Aqp b=Ax b false true:=by cases b<;>rfl
theorem Bqj {op:BinOp}{g:IntKind->Int->Int->EV}(h:Btc op=some g):A0i op=false/\∀k a b,Bh4 op k a b=some (g k a b):=by
 unfold Btc at h;split at h<;>cases h<;>refine⟨rfl,fun k a b=>?_⟩<;>simp only[Bh4,A3p,Bch,Bji,Ja,Bc0,A95,Bdu,Akq,Alb,Bgj,Bf3,Beu,Bd0,Bf9]
theorem Bas:∀(l:List (Nat × Nat)) (n:Nat),Df l n=A4i l n
 | [],n=>rfl
 | a::r,n=>by
  have e:Df (a::r) n=Ax (Nat.beq n 0) (some a) (Df r (Nat.pred n)):=rfl;rw[e];simp only[A4i];rw[Bas r]
theorem Awk(place:Nat->Option (Nat × Nat)):∀(l:List (Nat × EV)) (c:List EV),Abp place l c=fill place c l
 | [],c=>rfl
 | (i,v)::l,c=>by
  have e:Abp place ((i,v)::l) c=oB (Bfx fun off size=>Ax v.plain (Ax (Nat.beq (Fl v.cells) size) (oB (Abp place l) (Mq c off v.cells)) none) none) (place i):=rfl;rw[e];simp only[fill];cases place i with
  | none=>rfl
  | some x=>
   obtain⟨off,size⟩:=x;simp only;show Ax v.plain (Ax (Nat.beq (Fl v.cells) size) (oB (Abp place l) (Mq c off v.cells)) none) none=_;rw[Aio,Vq];cases Fm c off v.cells with
   | none=>rfl
   | some d=>
    show Ax v.plain (Ax (Nat.beq (len v.cells) size) (Abp place l d) none) none=_;rw[Awk place l d]
theorem A1a(h:Ab)(i off n:Nat):Yq h i off n=I5 h i off n:=by
 unfold Yq I5 Awy;cases h.get i with
 | none=>rfl
 | some o=>
  cases o<;>simp only[Ai5];cases Awo _ off<;>rfl
theorem Ars(h:Ab)(size n:Nat)(x:EV):Pk h size n x=cellsOf h size n x:=by
 unfold Pk cellsOf;cases x<;>simp only[A1a]
theorem Au8(a b:List EV):Al4 a b=a++b:=by
 induction a with
 | nil=>rfl
 | cons x r d=>exact congrArg (x :: ·) d
theorem Be4{st e:TypeId}{size:Nat}{z:List EV}(j:T.Ui st=some (.slice e))(h2:T.size e=some size)(p:T.zero e=some z)(s x:EV)(h:Ab):append T st s x h=Eg e size s x h:=by
 unfold append Eg;simp only[j,h2,p];cases lenOf x with
 | none=>rfl
 | some n=>
  simp only[Gu];rw[Ars];cases cellsOf h size n x with
  | none=>rfl
  | some new=>
   simp only[Gu];cases s with
   | slice i off d room op=>
    simp only;rw[Ars];cases cellsOf h size d (.slice i off d room op)with
    | none=>rfl
    | some Cv=>
     simp only[Gu,Au8,Aio];cases h.get i with
     | none=>rfl
     | some o=>cases o<;>rfl
   | _=>rfl
theorem A1e{agg:Bool}(i:T.agg t=some agg)(j:agg=true->T.size t=some n){cs:List EV}{k:EV->R}{r:EV × Ab}(e:Bge agg n cs off k=some r):
 ∃v,part T t cs off=some v/\k v=some r:=by
 unfold Bge at e;unfold part;rw[i];cases agg with
 | true=>
  rw[Ak]at e;obtain⟨l,d,h2⟩:=Ni e;rw[Ai5]at d;rw[j rfl];simp only;rw[d];exact⟨_,rfl,h2⟩
 | false=>
  rw[Bc]at e;obtain⟨v,d,h2⟩:=Ni e;rw[A7p]at d;exact⟨v,d,h2⟩
theorem Dh(tm:Bb)(x:Operand):Eh (tmp tm) x=Cl tm x:=by cases x<;>rfl
theorem Fj(tm:Bb)(l:List Operand):Au5 (tmp tm) l=Mr tm l:=by
 induction l with
 | nil=>rfl
 | cons x r d=>
  show(match Eh (tmp tm) x,Au5 (tmp tm) r with|some e,some es=>some (e::es)|_,_=>none)=_;rw[d,Dh];simp only[Mr];cases Cl tm x<;>cases Mr tm r<;>rfl
theorem Fc(tm:Bb)(l:List (Nat × Operand)):A0e (tmp tm) l=Zw tm l:=by
 induction l with
 | nil=>rfl
 | cons x r d=>
  obtain⟨i,x⟩:=x;show(match Eh (tmp tm) x,A0e (tmp tm) r with|some e,some es=>some ((i,e)::es)|_,_=>none)=_;rw[d,Dh];simp only[Zw];cases Cl tm x<;>cases Zw tm r<;>rfl
theorem G9(tm:Bb)(x:Option Operand):A67 (tmp tm) x=Acj tm x:=by
 cases x with
 | none=>rfl
 | some x=>show(match Eh (tmp tm) x with|some e=>some (some e)|none=>none)=_;rw[Dh];rfl
theorem Ys {x:R}{k:EV->Ab->R}{r:EV × Ab}(e:Am x k=some r):∃v h,x=some (v,h)/\k v h=some r:=by
 obtain⟨⟨v,h⟩,d,h2⟩:=Ni e;exact⟨v,h,d,h2⟩
section
variable{call:Ai}
theorem Hm(d:isV op=true)(e:E2 T tm op=some v):aop T call round tm op h=some (v,h):=by
 unfold aop;rw[d,Ak,e]
theorem A7g{i:Nat}{vs:List EV}{k:Ab->R}{r:EV × Ab}(e:Ajl h i (fun l=>Mq l off vs) k=some r):∃h',Mp h i off vs=some h'/\k h'=some r:=by
 unfold Ajl at e;unfold Mp;split at e
 ·rename_i l t j
  obtain⟨l',o,h2⟩:=Ni e;have d:Fm l off vs=some l':=by rw[<-Vq];exact o
  simp only[j,d];exact⟨_,rfl,h2⟩
 ·rename_i l t s j
  obtain⟨l',o,h2⟩:=Ni e;have d:Fm l off vs=some l':=by rw[<-Vq];exact o
  simp only[j,d];exact⟨_,rfl,h2⟩
 ·cases e
theorem Agn{k:EV->Ab->R}{r:EV × Ab}(e:opD T call call round op (tmp tm) h k=some r):
 ∃v h',aop T call round tm op h=some (v,h')/\k v h'=some r:=by
 cases op with
 | move x=>
  simp only[opD,Dh,Fj,Fc,G9]at e;split at e
  ·rename_i e1 he;exact⟨_,_,Hm rfl (he),e⟩
  ·cases e
 | assign x=>
  simp only[opD,Dh,Fj,Fc,G9]at e;split at e
  ·rename_i e1 he;exact⟨_,_,Hm rfl (he),e⟩
  ·cases e
 | pick c a b=>
  simp only[opD,Dh,Fj,Fc,G9]at e;split at e
  ·rename_i c1 W b1 hc C hb
   obtain⟨bb,d,h2⟩:=A03 e;have p:=hc;rw[d]at p;cases bb
   ·exact⟨_,_,Hm rfl (by simp only[E2];rw[p];exact hb),h2⟩
   ·exact⟨_,_,Hm rfl (by simp only[E2];rw[p];exact C),h2⟩
  ·cases e
 | binOp op t x y yt=>
  simp only[opD,Dh,Fj,Fc,G9]at e;split at e
  ·rename_i W b1 C hb
   have af:=C;have ag:=hb;have key:∀v,bin T op t W b1=some v->aop T call round tm (.binOp op t x y yt) h=some (v,h):=fun v hv=>
    Hm rfl (by simp only[E2];rw[af];simp only;rw[ag];exact hv)
   split at e
   ·rename_i g O
    obtain⟨s1,s2⟩:=Bqj O;unfold J1 at e;split at e
    ·obtain⟨d,h2⟩:=Ap e
     refine⟨_,_,key _ ?_,h2⟩;simp only[bin];rw[s1,Bc,d,Ak,s2]
    ·obtain⟨v,d,h2⟩:=Ni e
     exact⟨v,h,key v d,h2⟩
   ·obtain⟨v,d,h2⟩:=Ni e
    exact⟨v,h,key v d,h2⟩
  ·cases e
 | unOp u t x=>
  cases u with
  | not=>
   simp only[opD,Dh,Fj,Fc,G9]at e;split at e
   ·rename_i e1 he
    obtain⟨b,d,h2⟩:=A03 e;have p:=he;rw[d]at p;cases b
    ·exact⟨_,_,Hm rfl (by simp only[E2];rw[p];rfl),h2⟩
    ·exact⟨_,_,Hm rfl (by simp only[E2];rw[p];rfl),h2⟩
   ·cases e
  | neg=>
   simp only[opD,Dh,Fj,Fc,G9]at e;split at e
   ·rename_i e1 he
    unfold Bd3 at e;split at e
    ·exact⟨_,h,Hm rfl (by simp only[E2];rw[he]),e⟩
    ·cases e
   ·cases e
  | _=>(cases e)
 | nilCheck x=>
  simp only[opD,Dh,Fj,Fc,G9]at e;split at e
  ·rename_i e1 he
   obtain⟨i,o,d,h2⟩:=Qo e;have p:=he;rw[d]at p;exact⟨_,_,Hm rfl (by simp only[E2];rw[p]),h2⟩
  ·cases e
 | fieldAddr s x f=>
  simp only[opD,Dh,Fj,Fc,G9]at e;split at e
  ·rename_i e1 fields he hu
   split at e
   ·rename_i fd J
    split at e
    ·rename_i n S
     cases hb:Nat.beq n 0 with
     | true=>rw[hb,Ak]at e;cases e
     | false=>
      rw[hb,Bc]at e;obtain⟨i,o,d,h2⟩:=Qo e;have p:=he;rw[d]at p;exact⟨_,_,Hm rfl (by simp only[E2];rw[p];simp only;rw[hu];simp only;rw[J];simp only;rw[S];simp only;rw[hb,Bc]),h2⟩
    ·cases e
   ·cases e
  ·cases e
 | indexAddr t x ix=>
  simp only[opD,Dh,Fj,Fc,G9]at e;split at e
  ·rename_i e1 X ln K he M hu
   split at e
   ·rename_i s hs
    obtain⟨c,j,d,h2⟩:=Ayb e;obtain⟨i,off,p,h4⟩:=Qo h2;obtain⟨D,E⟩:=Ap h4;have A:=M;have B:=he;rw[d]at A;rw[p]at B;exact⟨_,_,Hm rfl (by simp only[E2];rw[A];simp only;rw[hu,B];simp only;rw[hs];simp only;rw[D,Ak]),E⟩
   ·cases e
  ·rename_i e1 X K he M hu
   split at e
   ·rename_i s hs
    obtain⟨c,j,d,h2⟩:=Ayb e;split at h2
    ·obtain⟨D,E⟩:=Ap h2
     have A:=M;have B:=he;rw[d]at A;exact⟨_,_,Hm rfl (by simp only[E2];rw[A];simp only;rw[hu,B];simp only;rw[hs];simp only;rw[D,Ak]),E⟩
    ·cases h2
   ·cases e
  ·cases e
 | index t x ix=>
  simp only[opD,Dh,Fj,Fc,G9]at e;split at e
  ·rename_i e1 X ln K he M hu
   split at e
   ·rename_i s agg hs C
    obtain⟨c,j,d,h2⟩:=Ayb e;obtain⟨cs,p,h4⟩:=Auw h2;obtain⟨D,E⟩:=Ap h4;obtain⟨v,U,V⟩:=A1e C (fun _=>hs) E;have A:=M;have B:=he;rw[d]at A;rw[p]at B;exact⟨_,_,Hm rfl (by simp only[E2];rw[A];simp only;rw[hu,B];simp only;rw[hs];simp only;rw[D,Ak,U]),V⟩
   ·cases e
  ·(cases e)
 | field t x f=>
  simp only[opD,Dh,Fj,Fc,G9]at e;split at e
  ·rename_i e1 fields he hu
   split at e
   ·rename_i fd J
    have B:=he;split at e
    ·rename_i C
     split at e
     ·rename_i n S
      obtain⟨cs,p,h4⟩:=Auw e;obtain⟨v,U,V⟩:=A1e C (fun _=>S) h4;rw[p]at B;exact⟨_,_,Hm rfl (by simp only[E2];rw[hu,B];simp only;rw[J];simp only;rw[U]),V⟩
     ·cases e
    ·rename_i C
     obtain⟨cs,p,h4⟩:=Auw e;obtain⟨v,U,V⟩:=A1e C (fun x=>by cases x) h4;rw[p]at B;exact⟨_,_,Hm rfl (by simp only[E2];rw[hu,B];simp only;rw[J];simp only;rw[U]),V⟩
    ·cases e
   ·cases e
  ·cases e
 | convert src dst x=>
  simp only[opD,Dh,Fj,Fc,G9]at e;split at e
  ·rename_i e1 _ c he hs hd
   obtain⟨c',n,d,h2⟩:=Bea e;have q:=he;rw[d]at q;exact⟨_,_,Hm rfl (by simp only[E2];rw[hs,hd,q]),h2⟩
  ·cases e
 | extract x ix=>
  simp only[opD,Dh,Fj,Fc,G9]at e;split at e
  ·rename_i e1 he
   obtain⟨l,d,h2⟩:=Bdj e;obtain⟨v,p,h4⟩:=Ni h2;have q:=he;rw[d]at q;rw[A7p]at p;exact⟨_,_,Hm rfl (by simp only[E2];rw[q];exact p),h4⟩
  ·cases e
 | load t x=>
  simp only[opD,Dh]at e;split at e
  ·rename_i e1 he C
   split at e
   ·rename_i n S
    obtain⟨i,off,d,h2⟩:=Qo e;obtain⟨l',D,E⟩:=Ni h2;rw[d]at he;refine⟨_,_,?_,E⟩;show Dt T tm (.load t x) h=_;simp only[Dt];rw[he];simp only;rw[C];simp only;rw[S];simp only;rw[<-A1a];rw[show Yq h i off n=some l' from D]
   ·cases e
  ·rename_i e1 he C
   obtain⟨i,off,d,h2⟩:=Qo e;obtain⟨l',D,E⟩:=Ni h2;rw[d]at he;split at E
   ·refine⟨_,_,?_,E⟩
    show Dt T tm (.load t x) h=_;simp only[Dt];rw[he];simp only;rw[C];simp only;rw[<-A1a,show Yq h i off 1=some _ from D]
   ·cases E
  ·cases e
 | store t a x=>
  simp only[opD,Dh,Fj,Fc,G9]at e;split at e
  ·rename_i W x1 n C hx S
   obtain⟨i,off,d,h2⟩:=Qo e;obtain⟨p,h4⟩:=Ap h2;obtain⟨D,E⟩:=Ap h4;obtain⟨h',U,V⟩:=A7g E;rw[Aio]at D;have A:=C;have B:=hx;rw[d]at A;refine⟨_,_,?_,V⟩;show Dt T tm (.store t a x) h=_;simp only[Dt];rw[A,B,S];simp only;rw[p,Ak,D,Ak,U]
  ·cases e
 | alloc t=>
  simp only[opD,Dh,Fj,Fc,G9]at e;split at e
  ·rename_i z G
   refine⟨_,_,?_,e⟩;show Dt T tm (.alloc t) h=_;simp only[Dt];rw[G]
  ·cases e
 | box t x=>
  simp only[opD,Dh,Fj,Fc,G9]at e;split at e
  ·rename_i e1 he
   obtain⟨d,h2⟩:=Ap e;refine⟨_,_,?_,h2⟩;show Dt T tm (.box t x) h=_;simp only[Dt];rw[he];simp only;rw[d,Ak]
  ·cases e
 | call c=>
  obtain⟨callee,args,Q⟩:=c;have Y:∀{f:Operand} {e1:EV} {as:List EV},Cl tm f=some e1->Mr tm args.toList=some as->Am (Sh call round e1 as h) k=some r->∃v h',aop T call round tm (.call ⟨.value f,args,Q⟩) h=some (v,h')/\k v h'=some r:=by
   intro f e1 as A B hc;obtain⟨v,h',d,h2⟩:=Ys hc;refine⟨v,h',?_,h2⟩;show(match Cl tm f,Mr tm args.toList with|some (.func g first captured),some as=>call g (first++(as++captured)) h|some (.Vd l),some as=>round l as h|_,_=>none)=_;rw[A,B];unfold Sh at d;split at d
   ·rw[Au8,Au8]at d;exact d
   ·exact d
   ·cases d
  cases callee with
  | value f=>
   cases f with
   | func g=>
    simp only[opD,Dh,Fj]at e;split at e
    ·rename_i as C
     obtain⟨v,h',d,h2⟩:=Ys e;refine⟨v,h',?_,h2⟩;show(match Cl tm (.func g),Mr tm args.toList with|some (.func g first captured),some as=>call g (first++(as++captured)) h|some (.Vd l),some as=>round l as h|_,_=>none)=_;rw[C];simp only[Cl,dN,cS];exact d
    ·cases e
   | global g=>cases e
   | _=>
    simp only[opD,Dh,Fj]at e;split at e
    ·rename_i e1 as J C;exact Y J C e
    ·cases e
  | builtin b=>
   have key:∀{as:List EV},Mr tm args.toList=some as->∀v h',builtin T b Q as h=some (v,h')->aop T call round tm (.call ⟨.builtin b,args,Q⟩) h=some (v,h'):=by
    intro as C v h' hb;show Dt T tm (.call ⟨.builtin b,args,Q⟩) h=_;simp only[Dt];rw[C];exact hb
   cases b with
   | append=>
    simp only[opD,Dh]at e;split at e
    ·rename_i s x t u H L
     split at e
     ·rename_i W b1 u1 K hs hx hu Z
      split at e
      ·rename_i size z ai G
       obtain⟨v,h',d,h2⟩:=Ys e;refine⟨v,h',key (as:=[W,b1]) (by rw[H];simp only[Mr,hs,hx]) v h' ?_,h2⟩;rw[<-Be4 Z ai G]at d;simp only[builtin];rw[L];simp only;rw[hu];exact d
      ·cases e
     ·cases e
    ·cases e
   | len=>
    simp only[opD,Dh]at e;split at e
    ·rename_i x t H L
     have ka:∀{e1:EV},Cl tm x=some e1->Mr tm args.toList=some [e1]:=by
      intro e1 he;rw[H];simp only[Mr,he]
     split at e
     ·rename_i e1 K he Z
      obtain⟨n,d,h2⟩:=Ni e;refine⟨_,_,key (ka he) _ _ ?_,h2⟩;simp only[builtin];rw[L];simp only;rw[Z];simp only;rw[d]
     ·rename_i e1 dd K he Z
      obtain⟨v,h',d,h2⟩:=Ys e;refine⟨_,_,key (ka he) v h' ?_,h2⟩;simp only[builtin];rw[L];simp only;rw[Z];revert d;unfold A8u;cases e1<;>exact id
     ·rename_i e1 _ _ he _ _
      obtain⟨v,h',d,h2⟩:=Ys e;exact⟨_,_,key (ka he) v h' d,h2⟩
     ·cases e
    ·cases e
   | _=>
    simp only[opD,Fj]at e;split at e
    ·rename_i as C
     obtain⟨v,h',d,h2⟩:=Ys e;exact⟨v,h',key C v h' d,h2⟩
    ·cases e
  | _=>cases e
 | build t ps=>
  simp only[opD,Fc]at e;split at e
  ·rename_i z l fields G hl hu
   split at e
   ·rename_i pl al
    obtain⟨c,p,h2⟩:=Ni e;refine⟨_,h,Hm rfl ?_,h2⟩;rw[Awk,show Df pl=A4i pl from funext (Bas pl)]at p;simp only[E2];rw[G,hl,hu];simp only;rw[al];simp only;rw[p]
   ·cases e
  ·rename_i z l n K G hl hu
   split at e
   ·rename_i s hs
    obtain⟨c,p,h2⟩:=Ni e;refine⟨_,h,Hm rfl ?_,h2⟩;rw[Awk]at p;simp only[E2];rw[G,hl,hu];simp only;rw[hs];simp only;have ao:fill (fun i=>some (Nat.mul i s,s)) z l=some c:=p;rw[ao]
   ·cases e
  ·cases e
 | buildSlice t n ps=>
  simp only[opD,Fc]at e;split at e
  ·rename_i K l hu hl
   split at e
   ·rename_i s z hs G
    obtain⟨v,h',d,h2⟩:=Ys e;refine⟨v,h',?_,h2⟩;unfold Cd at d;obtain⟨p,h4⟩:=Ap d;obtain⟨c,D,E⟩:=Ni h4;rw[Awk]at D;have aq:fill (fun i=>some (Nat.mul i s,s)) (rep z n) l=some c:=D;show Dt T tm (.buildSlice t n ps) h=_;simp only[Dt];rw[hu,hl];simp only;rw[hs,G];simp only;rw[p,Ak,aq];exact E
   ·cases e
  ·cases e
 | makeFunc fo first captured=>
  cases fo with
  | func f=>
   simp only[opD,Fj]at e;split at e
   ·rename_i a b C hb
    exact⟨_,h,Hm rfl (by simp only[E2];rw[C,hb]),e⟩
   ·cases e
  | _=>cases e
 | sliceToArrayPointer t x=>
  simp only[opD,Dh]at e;split at e
  ·rename_i e1 n K he hu
   unfold A0p at e;split at e
   ·obtain⟨d,h2⟩:=Ap e
    exact⟨_,h,Hm rfl (by simp only[E2];rw[hu,he];simp only;rw[d,Ak]),h2⟩
   ·cases e
  ·cases e
 | slice t x lo hi mx=>
  simp only[opD,Dh,G9]at e;split at e
  ·rename_i e1 a6 a7 a8 A B q3 q4
   split at e
   ·rename_i n K hu
    split at e
    ·rename_i s hs
     obtain⟨i,o,rfl,d⟩:=Qo e;obtain⟨v,h2,p⟩:=Ni d;exact⟨v,h,Hm rfl (by simp only[E2];rw[B,q3,q4];simp only;rw[hu,A];simp only[hs];exact h2),p⟩
    ·cases e
   ·rename_i K hu
    split at e
    ·rename_i s hs
     obtain⟨v,d,h2⟩:=Ni e;exact⟨v,h,Hm rfl (by simp only[E2];rw[B,q3,q4];simp only;rw[hu,A];simp only;rw[hs];exact d),h2⟩
    ·cases e
   ·cases e
  ·cases e
 | makeSlice t l c=>
  simp only[opD,Dh]at e;split at e
  ·rename_i l1 c1 K A B hu
   split at e
   ·rename_i z G
    obtain⟨v,h',d,h2⟩:=Ys e;refine⟨v,h',?_,h2⟩;unfold Wg at d;split at d
    ·show Dt T tm (.makeSlice t l c) h=_
     simp only[Dt];rw[hu,A,B];simp only;rw[G];exact d
    ·cases d
   ·cases e
  ·cases e
 | makeMap t rs=>
  cases rs with
  | none=>
   obtain⟨v,h',d,h2⟩:=Ys (show Am (Avy h) k=some r from e);exact⟨v,h',d,h2⟩
  | some x=>cases e
 | makeChan t s=>
  simp only[opD,Dh]at e;split at e
  ·rename_i s1 dd K A hu
   split at e
   ·rename_i n0 au
    obtain⟨v,h',d,h2⟩:=Ys e;refine⟨v,h',?_,h2⟩;unfold Arq at d;split at d
    ·show Dt T tm (.makeChan t s) h=_
     simp only[Dt];rw[hu,A];simp only;rw[au];exact d
    ·cases d
   ·cases e
  ·cases e
 | lookup t x ix ok=>
  simp only[opD,Dh]at e;split at e
  ·rename_i m1 i1 kt K A B hu
   obtain⟨v,h',d,h2⟩:=Ys e;refine⟨v,h',?_,h2⟩;unfold Arw at d;split at d
   ·show Dt T tm (.lookup t x ix ok) h=_
    simp only[Dt];rw[hu,A,B];simp only;obtain⟨p,h4⟩:=Ap d;rw[p,Ak];split at h4
    ·rename_i es O
     rw[O];simp only;split at h4
     ·rename_i J;rw[J];exact h4
     ·rename_i J;rw[J];simp only
      obtain⟨zv,D,E⟩:=Ni h4;rw[D];exact E
     ·cases h4
    ·cases h4
   ·cases d
  ·cases e
 | mapUpdate t m ix x=>
  simp only[opD,Dh]at e;split at e
  ·rename_i m1 i1 x1 kt K A B q3 hu
   obtain⟨v,h',d,h2⟩:=Ys e;refine⟨v,h',?_,h2⟩;unfold Aag at d;split at d
   ·show Dt T tm (.mapUpdate t m ix x) h=_
    simp only[Dt];rw[hu,A,B,q3];simp only;obtain⟨p,h4⟩:=Ap d;rw[p,Ak];split at h4
    ·rename_i es O
     rw[O];simp only;split at h4
     ·rename_i J;rw[J];exact h4
     ·rename_i J;rw[J];exact h4
     ·cases h4
    ·cases h4
   ·cases d
  ·cases e
 | select cs bl=>
  cases bl with
  | true=>cases e
  | false=>
   simp only[opD,Dh]at e;split at e
   ·rename_i c ab
    split at e
    ·rename_i x hsend
     split at e
     ·rename_i c1 x1 zv A B G
      obtain⟨v,h',d,h2⟩:=Ys e;refine⟨v,h',?_,h2⟩;unfold A0z at d;split at d
      ·show Dt T tm (.select cs false) h=_
       simp only[Dt];rw[ab];simp only;rw[A,hsend];simp only;split at d
       ·rename_i cap buf O
        rw[O,B];simp only;rw[G];exact d
       ·cases d
      ·cases d
     ·cases e
    ·rename_i hsend
     split at e
     ·rename_i c1 zv A G
      obtain⟨v,h',d,h2⟩:=Ys e;refine⟨v,h',?_,h2⟩;unfold A1s at d;split at d
      ·show Dt T tm (.select cs false) h=_
       simp only[Dt];rw[ab];simp only;rw[A,hsend];simp only;split at d
       ·rename_i cap buf O
        rw[O,G];exact d
       ·cases d
      ·cases d
     ·cases e
   ·cases e
 | _=>cases e
theorem G6(tm:Bb)(j i:Nat)(v:EV):tmp (tm.put j (some v)) i=if j=i then v else tmp tm i:=by
 unfold tmp;rw[Tr.get_put];by_cases h:j=i<;>simp[h]
theorem Arp(n:Nat)(d:Option Tmp)(tm:Bb)(v:EV):Ahe n d (tmp tm) v=tmp (Qq n tm d v):=by
 cases d with
 | none=>rfl
 | some d=>
  show Ax (Nat.ble (Nat.succ d) n) (Blk (tmp tm) d v) (tmp tm)=tmp (Ax (Nat.ble (Nat.succ d) n) (tm.put d (some v)) tm);cases Nat.ble (Nat.succ d) n with
  | false=>rfl
  | true=>
   funext i;rw[Ak,Ak,G6];show Ax (Nat.beq d i) v (tmp tm i)=_;by_cases e:d=i
   ·subst e;rw[aQ rfl,cI,Ak]
   ·rw[aM e,beq_false e,Bc]
theorem Blh(ops:List Oper)(g:Nat × Bool)(tm:Bb):Bbg ops (tmp tm) g=wanted ops tm (some g):=by
 obtain⟨j,want⟩:=g;simp only[wanted,yielded];show(match Az2 ops j with|some o=>(match o.dst with|some d=>D6 (tmp tm d) want|none=>false)|none=>false)=_;cases Az2 ops j with
 | none=>rfl
 | some o=>
  simp only;cases o.dst with
  | none=>rfl
  | some d=>
   simp only[tmp];cases tm.get d with
   | none=>rfl
   | some v=>cases v<;>first|rfl|(simp only[D6,Bf9])
def Aak(ops:List Oper)(tm:Bb)(m:Mode):Prop:=∀g b,m=some (g,b)->wanted ops tm (some g)=b
theorem Aak.none(ops:List Oper)(tm:Bb):Aak ops tm none:=fun _ _ h=>by cases h
theorem Bl0(h:eqW a b=true):a=b:=by cases a<;>cases b<;>first|rfl|cases h
theorem Azl(hm:Aak ops tm m)(h:Axw m g=some b):wanted ops tm (some g)=b:=by
 unfold Axw at h;cases m with
 | none=>cases h
 | some x=>
  obtain⟨⟨j,w⟩,e⟩:=x;simp only at h;obtain⟨d,h2⟩:=Ap h;cases h2;rw[Bo]at d;split at d
  ·rename_i hj
   have e1:j=g.1:=aL hj;have e2:w=g.2:=Bl0 d;have:g=(j,w):=by rw[e1,e2]
   rw[this];exact hm _ _ rfl
  ·cases d
theorem Aw0(hw:wanted ops tm (some g)=b)(n:Nat)(dst:Option Tmp)(v:EV):Aak ops (Qq n tm dst v) (Aif ops g b dst):=by
 intro A B h;obtain⟨j,w⟩:=g;unfold Aif at h;simp only[wanted,yielded]at hw⊢;cases i:Az2 ops j with
 | none=>
  rw[i]at h hw;simp only at h hw;cases h;simp only[i];exact hw
 | some o=>
  rw[i]at h hw;simp only at h hw;cases hd:o.dst with
  | none=>
   rw[hd]at h hw;simp only at h hw;cases h;simp only[i,hd];exact hw
  | some d=>
   rw[hd]at h hw;simp only at h hw;cases dst with
   | none=>
    simp only at h;cases h;simp only[i,hd,Qq];exact hw
   | some q=>
    simp only at h;rw[Bo]at h;split at h
    ·cases h
    ·rename_i u
     cases h;have p:q≠d:=fun e=>u (by rw[e];exact cI _)
     have y:(Qq n tm (some q) v).get d=tm.get d:=by
      show(Ax (Nat.ble (Nat.succ q) n) (tm.put q (some v)) tm).get d=_;rw[Bo];split
      ·rw[Tr.get_put,aM p]
      ·rfl
     simp only[i,hd,y];exact hw
theorem A43(hm:Aak ops tm m){A B:R}{r:EV × Ab}(e:(match Axw m g with|some true=>A|some false=>B|none=>Ax (Bbg ops (tmp tm) g) A B)=some r):
 (wanted ops tm (some g)=true/\A=some r)\/(wanted ops tm (some g)=false/\B=some r):=by
 split at e
 ·rename_i d;exact .inl ⟨Azl hm d,e⟩
 ·rename_i d;exact .inr ⟨Azl hm d,e⟩
 ·rw[Blh]at e
  cases hw:wanted ops tm (some g)with
  | true=>rw[hw,Ak]at e;exact .inl ⟨rfl,e⟩
  | false=>rw[hw,Bc]at e;exact .inr ⟨rfl,e⟩
theorem A8e{d:Option Tmp}(F:Bb->R):thn fl n tm d v F=F (Bsk fl n tm d v):=by cases fl<;>cases d<;>rfl
theorem Ayc:∀{l:List Oper} {m:Mode} {tm t2:Bb} {h:Ab} {ds:List Nat} {r:EV × Ab},(fl=true->t2=tm)->Aak ops tm m->Bg8 fl T call call round n ops fin l m (tmp tm) t2 h ds=some r ->
 ∃d h' i,Ash T call round n ops l tm h=some (d,h')/\(fl=true->i=d)/\fin (tmp d) i h' ds=some r
 | [],m,tm,t2,h,ds,r,j,_,e=>⟨tm,h,t2,rfl,j,e⟩
 | ⟨dst,op,ty,ps,D,g⟩::l,m,tm,t2,h,ds,r,j,hm,e=>by
  have y:∀v,fl=true->Bsk fl n t2 dst v=Qq n tm dst v:=fun v e=>by rw[j e];show Ax fl _ _=_;rw[e,Ak]
  have run:∀{o:Mode},(∀v,Aak ops (Qq n tm dst v) o)->opD T call call round op (tmp tm) h (fun v h=>thn fl n t2 dst v fun t2=>Bg8 fl T call call round n ops fin l o (Ahe n dst (tmp tm) v) t2 h ds)=some r ->
   ∃d h' i,(match aop T call round tm op h with|some (v,h')=>Ash T call round n ops l (Qq n tm dst v) h'|none=>none)=some (d,h')/\(fl=true->i=d)/\fin (tmp d) i h' ds=some r:=by
   intro o p e;obtain⟨v,h',A,h2⟩:=Agn e;rw[A8e,Arp]at h2;obtain⟨q,u,t3,B,h4,C⟩:=Ayc (y v) (p v) h2;exact⟨q,u,t3,by rw[A];exact B,h4,C⟩
  simp only[Ash];cases g with
  | none=>
   simp only[wanted,Ak];exact run (fun v=>Aak.none _ _) e
  | some g=>
   rcases A43 hm e with⟨hw,e'⟩|⟨hw,e'⟩
   ·rw[hw,Ak];exact run (fun v=>Aw0 hw n dst v) e'
   ·rw[hw,Bc];rw[A8e,Arp]at e';exact Ayc (y _) (Aw0 hw n dst _) e'
end
end
theorem A3b(h:Ax a b false=true):a=true/\b=true:=by cases a<;>simp_all [Bo]
theorem A83(h:cls op=.load):∃t x,op=.load t x:=by
 cases op<;>first|exact⟨_,_,rfl⟩|skip
 all_goals (first|(cases h;done)|skip)
 all_goals (simp only[cls,isV,Ak,Bc]at h;first|(cases h;done)|skip)
 all_goals exact absurd h (Arb false _).2.1
theorem Bp6{call:Ai}(i:Am2 T op=true)(p:cls op=.pur){h2:Ab}(d:aop T call round tm op h=some (v,h')):
 h'=h/\Dt T tm op h2=some (v,h2):=by
 have q:=A0j p;rw[Auh q]at d;refine⟨Bm5 q d,?_⟩;unfold Am2 at i;rw[p]at i;simp only at i;split at i
 ·rename_i args j
  split at i
  ·rename_i t o
   split at i
   ·rename_i e hu
    simp only[Dt]at d⊢;split at d
    ·rename_i as has
     match as,d with
     | [x],d=>
      simp only[builtin]at d⊢;rw[o]at d⊢;simp only at d⊢;rw[hu]at d⊢;simp only at d⊢;split at d
      ·cases d;first|rfl|(rename_i n u;rw[u])
      ·cases d
     | [],d=>cases d
     | _::_::_,d=>cases d
    ·cases d
   ·cases i
  ·cases i
 ·rename_i args j
  simp only[Dt]at d⊢;split at d
  ·rename_i as has
   match as,d with
   | x::l,d=>
    cases x<;>first|(cases d;done)|skip
    simp only[builtin]at d⊢;split at d
    ·cases d;first|rfl|(rename_i hm;rw[hm])
    ·cases d
   | [],d=>cases d
  ·cases d
 ·rename_i args j
  simp only[Dt]at d⊢;split at d
  ·rename_i as has
   match as,d with
   | x::l,d=>
    cases x<;>first|(cases d;done)|skip
    simp only[builtin]at d⊢;split at d
    ·cases d;first|rfl|(rename_i hm;rw[hm])
    ·cases d
   | [],d=>cases d
  ·cases d
 ·cases i
theorem Amg {T:Hj}{call round:Ai}{n:Nat}{ops:List Oper}{bs:Tr Nat}{h:Ab}{base:Nat}:
 ∀(l:List Oper) (i:Nat) (tm tm':Bb) (h':Ab) (C0:List (Nat × Nat)),Aw8 T l=true->(∀k,k<l.length->∃b,bs.get (i+k)=some b)->Ash T call round n ops l tm h=some (tm',h') ->
  h'=h/\∃lds',Tg T call round n ops bs base l i ⟨tm,h,0,[],C0,[],[]⟩=some ⟨tm',h,0,[],lds',[],[]⟩
 | [],i,tm,tm',h',C0,_,_,e=>by cases e;exact⟨rfl,C0,rfl⟩
 | ⟨dst,op,ty,ps,af,g⟩::l,i,tm,tm',h',C0,hq,hbs,e=>by
  obtain⟨hq1,hq2⟩:=A3b (show Ax (Am2 T op) (Aw8 T l) false=true from hq);have hbs':∀k,k<l.length->∃b,bs.get (Nat.succ i+k)=some b:=fun k hk=>by
   have:=hbs (k+1) (by simp;omega);rw[show Nat.succ i+k=i+(k+1) by omega];exact this
  obtain⟨b,hb0⟩:=hbs 0 (by simp);rw[cz]at hb0;simp only[Ash]at e;cases hw:wanted ops tm g with
  | false=>
   rw[hw,Bc]at e;obtain⟨h1,lds',h2⟩:=Amg l (Nat.succ i) _ _ _ C0 hq2 hbs' e;refine⟨h1,lds',?_⟩;simp only[Tg,Xg,hw,Bc];exact h2
  | true=>
   rw[hw,Ak]at e;split at e
   ·rename_i v h1 hop
    have go:h1=h->(∃lds1,Xg T call round n ops bs base ⟨dst,op,ty,ps,af,g⟩ i ⟨tm,h,0,[],C0,[],[]⟩=some ⟨Qq n tm dst v,h,0,[],lds1,[],[]⟩) ->
     h'=h/\∃lds',Tg T call round n ops bs base (⟨dst,op,ty,ps,af,g⟩::l) i ⟨tm,h,0,[],C0,[],[]⟩=some ⟨tm',h,0,[],lds',[],[]⟩:=by
     rintro rfl ⟨lds1,hd⟩;obtain⟨h2,lds',h3⟩:=Amg l (Nat.succ i) _ _ _ lds1 hq2 hbs' e;exact⟨h2,lds',by simp only[Tg,hd];exact h3⟩
    cases hc:cls op with
    | val=>
     have hv:=A8d hc;unfold aop at hop;rw[hv,Ak]at hop;split at hop
     ·rename_i v' hv'
      cases hop;refine go rfl ⟨C0,?_⟩;simp only[Xg,hw,Ak,hb0,hc,hv']
     ·cases hop
    | load=>
     obtain⟨t,x,rfl⟩:=A83 hc;have hop':Dt T tm (.load t x) h=some (v,h1):=hop;have hop2:=hop';simp only[Dt]at hop';split at hop'
     ·rename_i q off hx
      have hh1:h1=h:=by
       split at hop'
       ·split at hop'
        ·split at hop'
         ·cases hop';rfl
         ·cases hop'
        ·cases hop'
       ·split at hop'
        ·cases hop';rfl
        ·cases hop'
       ·cases hop'
      subst hh1;refine go rfl ⟨(Nat.shiftLeft 1 i,q)::C0,?_⟩;have hst:within 0 b=true:=by unfold within;rw[show Nat.land 0 b=0 from Nat.zero_and b];rfl
      have hall:Ax (Nat.ble (Nat.succ q) base) true (Ax (within 0 b) true false)=true:=by rw[hst];cases Nat.ble (Nat.succ q) base<;>rfl
      simp only[Xg,hw,Ak,hb0,hc,hx,E8,Ym,loose,hall,hop2]
     ·cases hop'
    | pur=>
     obtain⟨h2,h3⟩:=Bp6 (h2:=⟨.nil,h.next,h.next⟩) hq1 hc hop;refine go h2 ⟨C0,?_⟩;simp only[Xg,hw,Ak,hb0,hc,h3]
    | new=>unfold Am2 at hq1;rw[hc]at hq1;cases hq1
    | sto=>unfold Am2 at hq1;rw[hc]at hq1;cases hq1
    | big=>unfold Am2 at hq1;rw[hc]at hq1;cases hq1
   ·cases e
theorem Baa{call:Ai}(i:Avj T ops=true){d:Bb}(e:Ash T call round n ops ops tm h=some (d,h')):
 As6 T call round n ops tm h=some (d,h'):=by
 obtain⟨p,i⟩:=A3b i;obtain⟨q,u⟩:=A3b i;have j:∀k,k<ops.length->∃b,(O8 ops 0 .nil).get (0+k)=some b:=fun k y=>by
  obtain⟨b,hb,_⟩:=Amw ops 0 .nil (fun _ _=>rfl) k ops[k] (aH y);exact⟨b,hb⟩
 obtain⟨rfl,o,A⟩:=Amg (bs:=O8 ops 0 .nil) (base:=h.next) ops 0 tm d h' [] p j e;unfold As6;rw[q,Ak,u,Ak,A]
theorem Bs0(h:b=true){x y:α}:Ax b x y=x:=by rw[h];rfl
theorem Bn0{call:Ai}:aop T call round tm (.load t x) h=Dt T tm (.load t x) h:=rfl
theorem Bpq{call:Ai}{a:Operand}:aop T call round tm (.store t a x) h=Dt T tm (.store t a x) h:=rfl
theorem Bpw(h:cls op=.sto):∃t a x,op=.store t a x:=by
 cases op<;>first|exact⟨_,_,_,rfl⟩|skip
 all_goals (first|(cases h;done)|skip)
 all_goals (first
  | (rename_i c;exact absurd (show Ax false Cls.val (Ax (Axj (.call c)) .pur .big)=.sto from h) (Arb _ _).2.2)
  | exact absurd h (Arb _ _).2.2)
theorem Bb5{call:Ai}(d:cls op=.new):aop T call round tm op h=Dt T tm op h:=by
 rcases A6j d with⟨_,rfl⟩|⟨_,_,rfl⟩|⟨_,_,_,rfl⟩|⟨_,_,_,rfl⟩|⟨_,_,rfl⟩|⟨_,_,rfl⟩<;>rfl
def DX.with(s:DX)(tm:Bb)(h:Ab):DSt:=⟨tm,h,s.bg,s.nw,s.C0,s.lou,s.st⟩
theorem Auy{call:Ai}{bs:Tr Nat}{base:Nat}{r:EV × Ab}:∀{l:List Oper} {i:Nat} {m:Mode} {s:DX} {tm t2:Bb} {h:Ab},(fl=true->t2=tm)->Aak ops tm m ->
 Atg fl T call call round n ops bs base fin l i m s (tmp tm) t2 h ds=some r->∃s' u,Tg T call round n ops bs base l i (s.with tm h)=some s'/\(fl=true->u=s'.tm)/\fin (tmp s'.tm) u s'.h ds=some r
 | [],i,m,s,tm,t2,h,H,_,e=>⟨s.with tm h,t2,rfl,H,e⟩
 | ⟨dst,op,ty,ps,J,g⟩::l,i,m,s,tm,t2,h,H,hm,e=>by
  have Q:∀v,fl=true->Bsk fl n t2 dst v=Qq n tm dst v:=fun v e=>by rw[H e];show Ax fl _ _=_;rw[e,Ak]
  cases hb:bs.get i with
  | none=>simp only[Atg,hb]at e;cases e
  | some b=>
   have run:∀{mk:Mode},(∀v,Aak ops (Qq n tm dst v) mk)->wanted ops tm g=true->A84 T call call round op i b base s (tmp tm) h (fun s v h=>thn fl n t2 dst v fun t2=>Atg fl T call call round n ops bs base fin l (Nat.succ i) mk s (Ahe n dst (tmp tm) v) t2 h ds)=some r ->
    ∃s' u,Tg T call round n ops bs base (⟨dst,op,ty,ps,J,g⟩::l) i (s.with tm h)=some s'/\(fl=true->u=s'.tm)/\fin (tmp s'.tm) u s'.h ds=some r:=by
    intro mk K hw e2;have j:∀{v:EV} {A:Ab} {s1:DX},(thn fl n t2 dst v fun t2=>Atg fl T call call round n ops bs base fin l (Nat.succ i) mk s1 (Ahe n dst (tmp tm) v) t2 A ds)=some r ->
     Xg T call round n ops bs base ⟨dst,op,ty,ps,J,g⟩ i (s.with tm h)=some (s1.with (Qq n tm dst v) A) ->
     ∃s' u,Tg T call round n ops bs base (⟨dst,op,ty,ps,J,g⟩::l) i (s.with tm h)=some s'/\(fl=true->u=s'.tm)/\fin (tmp s'.tm) u s'.h ds=some r:=by
     intro v A s1 e3 hd;rw[A8e,Arp]at e3;obtain⟨s',t3,h2,y,h4⟩:=Auy (Q v) (K v) e3;exact⟨s',t3,by simp only[Tg,hd];exact h2,y,h4⟩
    unfold A84 at e2;cases p:cls op with
    | val=>
     rw[p]at e2;obtain⟨v,A,h2,y⟩:=Agn e2;have S:=A8d p;unfold aop at h2;rw[S,Ak]at h2;split at h2
     ·rename_i V L
      cases h2;refine j y ?_;simp only[Xg,DX.with,hw,Ak,hb,p,L]
     ·cases h2
    | load=>
     rw[p]at e2;obtain⟨t,x,rfl⟩:=A83 p;simp only[Dh]at e2;split at e2
     ·rename_i ex B
      obtain⟨q,o,A,h2⟩:=Qo e2;obtain⟨y,h4⟩:=Ap h2;obtain⟨v,C,D,E⟩:=Agn h4;rw[Bn0]at D;rw[A]at B;have M:C=h:=by
       have d:=D;simp only[Dt]at d;rw[B]at d;simp only at d;split at d
       ·split at d
        ·split at d
         ·cases d;rfl
         ·cases d
        ·cases d
       ·split at d
        ·cases d;rfl
        ·cases d
       ·cases d
      subst M;refine j E ?_;unfold A69 at y;simp only[Xg,DX.with,hw,Ak,hb,p,B,D,DX.ld];exact Bs0 y
     ·cases e2
    | new=>
     rw[p]at e2;simp only[Beb]at e2;obtain⟨v,A,h2,y⟩:=Agn e2;rw[Bb5 p]at h2;refine j y ?_;simp only[Xg,DX.with,hw,Ak,hb,p,h2,DX.new]
    | sto=>
     rw[p]at e2;obtain⟨t,a,x,rfl⟩:=Bpw p;simp only[Dh]at e2;split at e2
     ·rename_i ex B
      obtain⟨q,o,A,h2⟩:=Qo e2;obtain⟨y,h4⟩:=Ap h2;obtain⟨v,C,D,E⟩:=Agn h4;rw[Bpq]at D;rw[A]at B;refine j E ?_;unfold A50 at y;simp only[Xg,DX.with,hw,Ak,hb,p,B,y,D,DX.sto]
     ·cases e2
    | pur=>
     rw[p]at e2;simp only[Bt2]at e2;obtain⟨v,A,h2,y⟩:=Agn e2;rw[Auh (A0j p)]at h2;refine j y ?_;simp only[Xg,DX.with,hw,Ak,hb,p,h2]
    | big=>
     rw[p]at e2;obtain⟨A,h2⟩:=Ap e2;obtain⟨v,y,h4,C⟩:=Agn h2;obtain⟨t,nx,mw⟩:=h;obtain⟨U,O,mw'⟩:=y;have G:aop T call round tm op ⟨Ac9 t (loose b s.nw),nx,nx⟩=some (v,⟨U,O,mw'⟩):=h4;unfold Ace at A;unfold Mm at C;simp only at C;cases hle:Nat.ble nx mw' with
     | true=>
      rw[hle,Ak]at C;refine j C ?_;simp only[Xg,DX.with,hw,Ak,hb,p,A,G,hle,DX.big]
     | false=>
      rw[hle,Bc]at C;obtain⟨D,E⟩:=Ap C;refine j E ?_;simp only[Xg,DX.with,hw,Ak,Bc,hb,p,A,G,hle,D,DX.Afg]
   have e1:(match bs.get i with|none=>none|some b=>(@Option.rec (Nat × Bool) (fun _=>R) (A84 T call call round op i b base s (tmp tm) h (fun s v h=>thn fl n t2 dst v fun t2=>Atg fl T call call round n ops bs base fin l (Nat.succ i) none s (Ahe n dst (tmp tm) v) t2 h ds))
    (fun g=>match Axw m g with
     | some true=>A84 T call call round op i b base s (tmp tm) h (fun s v h=>thn fl n t2 dst v fun t2=>Atg fl T call call round n ops bs base fin l (Nat.succ i) (Aif ops g true dst) s (Ahe n dst (tmp tm) v) t2 h ds)
     | some false=>thn fl n t2 dst (.tuple []) fun t2=>Atg fl T call call round n ops bs base fin l (Nat.succ i) (Aif ops g false dst) s (Ahe n dst (tmp tm) (.tuple [])) t2 h ds
     | none=>Ax (Bbg ops (tmp tm) g) (A84 T call call round op i b base s (tmp tm) h (fun s v h=>thn fl n t2 dst v fun t2=>Atg fl T call call round n ops bs base fin l (Nat.succ i) (Aif ops g true dst) s (Ahe n dst (tmp tm) v) t2 h ds)) (thn fl n t2 dst (.tuple []) fun t2=>Atg fl T call call round n ops bs base fin l (Nat.succ i) (Aif ops g false dst) s (Ahe n dst (tmp tm) (.tuple [])) t2 h ds)) g:R))=some r:=e
   rw[hb]at e1;cases g with
   | none=>exact run (fun v=>Aak.none _ _) rfl e1
   | some g=>
    rcases A43 hm e1 with⟨hw,e'⟩|⟨hw,e'⟩
    ·exact run (fun v=>Aw0 hw n dst v) hw e'
    ·rw[A8e,Arp]at e'
     obtain⟨s',t3,h2,y,h4⟩:=Auy (Q _) (Aw0 hw n dst _) e';refine⟨s',t3,?_,y,h4⟩;simp only[Tg,Xg,DX.with,hw,Bc];exact h2
theorem Bet{t2:Bb}{call:Ai}{r:EV × Ab}(o:fl=true->t2=tm)(e:A8g fl T call call round n ops fin (tmp tm) t2 h ds=some r):
 ∃d h' i,As6 T call round n ops tm h=some (d,h')/\(fl=true->i=d)/\fin (tmp d) i h' ds=some r:=by
 unfold A8g at e;obtain⟨p,e⟩:=Ap e;obtain⟨h2,e⟩:=Ap e;obtain⟨⟨d,h',q,u,a3,a4,y⟩,t3,A,h4,B⟩:=Auy o (Aak.none _ _) e;refine⟨d,h',t3,?_,h4,B⟩;unfold As6;rw[p,Ak,h2,Ak];have j:Tg T call round n ops (O8 ops 0 .nil) h.next ops 0 ⟨tm,h,0,[],[],[],[]⟩=some ⟨d,h',q,u,a3,a4,y⟩:=A
 rw[j]
section
inductive Reach (step:He->AR):He->He->Prop where
 | refl (s:He):Reach step s s
 | head {s s1 s2:He}:step s=.go s1->Reach step s1 s2->Reach step s s2
def Ends(step:He->AR)(s:He)(r:EV × Ab):Prop:=∃s1,Reach step s s1/\step s1=.done r.1 r.2
theorem Ends.go {step:He->AR}{s s1:He}{r:EV × Ab}(h:step s=.go s1)(e:Ends step s1 r):Ends step s r:=by
 obtain⟨s2,d,h2⟩:=e;exact⟨s2,.head h d,h2⟩
theorem Ends.done {step:He->AR}{s:He}{r:EV × Ab}(h:step s=.done r.1 r.2):Ends step s r:=⟨s,.refl s,h⟩
theorem Ends.congr {step:He->AR}{s s':He}{r:EV × Ab}(h:step s=step s')(e:Ends step s r):Ends step s' r:=by
 obtain⟨s2,d,h2⟩:=e;cases d with
 | refl=>exact⟨s',.refl s',by rw[<-h];exact h2⟩
 | head i h4=>exact⟨s2,.head (by rw[<-h];exact i) h4,h2⟩
section
variable (fl:Bool)(T:Hj)(call round:Ai)(fn n:Nat)(Dq:Option Nat)
def At(cd:CD)(todo:List Item):Prop:=∀tm t2 h ds r,((fl=true->t2=tm)/\(fl=false->ds = []))->cd (tmp tm) t2 h ds=some r->Ends (Cr T call round) ⟨⟨fn,n,tm,todo,ds,false,Dq⟩,h⟩ r
end
section
variable{call:Ai}{fn:Nat}{Dq:Option Nat}
theorem At.bad(todo:List Item):At fl T call round fn n Dq (fun _ _ _ _=>none) todo:=fun _ _ _ _ _ _ e=>(by cases e)
theorem At.step{a b:List Item}(hs:∀tm h ds,Cr T call round ⟨⟨fn,n,tm,a,ds,false,Dq⟩,h⟩=.go ⟨⟨fn,n,tm,b,ds,false,Dq⟩,h⟩)(h:At fl T call round fn n Dq cf b):At fl T call round fn n Dq cf a:=
 fun tm t2 h' ds r d e=>(h tm t2 h' ds r d e).go (hs tm h' ds)
theorem At.exit{id:Nat}{a b:List Item}(hs:exitTo id a=exitTo id b)(h:At fl T call round fn n Dq cf (.code (.exit id)::a)):At fl T call round fn n Dq cf (.code (.exit id)::b):=by
 intro tm t2 h' ds r d e;refine(h tm t2 h' ds r d e).congr ?_;simp only[Cr];rw[hs];cases exitTo id b with
 | some k=>rfl
 | none=>simp only[leave]
theorem Bjp(out:Nat->CD)(id:Nat)(k:CD)(env:Ak8)(d:Nat):Bci out ((id,k)::env) d=Ax (Nat.beq id d) k (Bci out env d):=by
 funext e tm h ds;show Ax (Nat.beq id d) (k e tm h ds) (Bci out env d e tm h ds)=_;cases Nat.beq id d<;>rfl
theorem A54 {k:Ab->R}{ex:Nat->Ab->R}{ret:Ab->R}{kk:List Item}{l:Nat}{r:R}{x:EV × Ab}(j:∀h,k h=some x->Ends (Cr T call round) ⟨⟨fn,n,tm,kk,ds,false,Dq⟩,h⟩ x)
 (hex:∀id h,ex id h=some x->Ends (Cr T call round) ⟨⟨fn,n,tm,.code (.exit id)::kk,ds,false,Dq⟩,h⟩ x) (d:∀h,ret h=some x->Ends (Cr T call round) ⟨⟨fn,n,tm,.code .ret::kk,ds,false,Dq⟩,h⟩ x) (e:Bad l r k ex ret=some x) :
 ∃s',behind fn n tm ds Dq l kk r=.go s'/\Ends (Cr T call round) s' x:=by
 unfold Bad at e;unfold behind;split at e
 ·cases e
 ·split at e
  ·rename_i i
   split at e
   ·cases e
   ·rename_i o
    split at e
    ·simp only;rw[i];simp only;exact⟨_,rfl,j _ e⟩
    ·simp only;rw[i];simp only;exact⟨_,rfl,hex _ _ e⟩
    ·simp only;rw[i];simp only;exact⟨_,rfl,d _ e⟩
    ·cases e
  ·cases e
theorem Xk {fuel:Nat}{out:Nat->CD}{ret:CD}(hret:∀kk,At fl T call round fn n Dq ret (.code .ret::kk)):∀(c:Code) (env:Ak8) (k:CD) (kk:List Item),
 At fl T call round fn n Dq k kk->(∀id,At fl T call round fn n Dq (Bci out env id) (.code (.exit id)::kk))->At fl T call round fn n Dq (Ab8 fl T call call round fuel fn n Dq out ret c env k) (.code c::kk)
 | .skip,env,k,kk,hk,henv=>At.step (fun _ _ _=>rfl) hk
 | .region id ops dr,env,k,kk,hk,henv=>by
  intro tm t2 h ds r ht e;have plain:Bg8 fl T call call round n ops.toList k ops.toList none (tmp tm) t2 h ds=some r->(∀tm' h',Ash T call round n ops.toList ops.toList tm h=some (tm',h')->Cr T call round ⟨⟨fn,n,tm,.code (.region id ops dr)::kk,ds,false,Dq⟩,h⟩=.go ⟨⟨fn,n,tm',kk,ds,false,Dq⟩,h'⟩) ->
   Ends (Cr T call round) ⟨⟨fn,n,tm,.code (.region id ops dr)::kk,ds,false,Dq⟩,h⟩ r:=fun e hs=>by
   obtain⟨tm',h',t3,h1,h3,h2⟩:=Ayc ht.1 (Aak.none _ _) e;exact(hk _ _ _ _ _ ⟨h3,ht.2⟩ h2).go (hs _ _ h1)
  cases dr with
  | false=>exact plain e fun tm' h' h1=>by simp only[Cr];rw[h1]
  | true=>
   have e':Ax (Avj T ops.toList) (Bg8 fl T call call round n ops.toList k ops.toList none) (A8g fl T call call round n ops.toList k) (tmp tm) t2 h ds=some r:=e;cases hq:Avj T ops.toList with
   | true=>
    rw[hq,Ak]at e';exact plain e' fun tm' h' h1=>by simp only[Cr];rw[Baa hq h1]
   | false=>
    rw[hq,Bc]at e';obtain⟨tm',h',t3,h1,h3,h2⟩:=Bet ht.1 e';exact(hk _ _ _ _ _ ⟨h3,ht.2⟩ h2).go (by simp only[Cr];rw[h1])
 | .seq a b,env,k,kk,hk,henv=>by
  have hb:=Xk (fuel:=fuel) hret b env k kk hk henv;exact At.step (fun _ _ _=>rfl) (Xk (fuel:=fuel) hret a env _ (.code b::kk) hb fun id=>At.exit (a:=kk) (b:=.code b::kk) rfl (henv id))
 | .cond c a b,env,k,kk,hk,henv=>by
  have ha:=Xk (fuel:=fuel) hret a env k kk hk henv;have hb:=Xk (fuel:=fuel) hret b env k kk hk henv;intro tm t2 h ds r ht e;have e':(match Eh (tmp tm) c with|some e=>ifE e (Ab8 fl T call call round fuel fn n Dq out ret a env k (tmp tm) t2 h ds) (Ab8 fl T call call round fuel fn n Dq out ret b env k (tmp tm) t2 h ds)|none=>none)=some r:=e;rw[Dh]at e';split at e'
  ·rename_i e1 he
   obtain⟨b,rfl,h2⟩:=A03 e';cases b
   ·exact(hb _ _ _ _ _ ht h2).go (by simp only[Cr];rw[he])
   ·exact(ha _ _ _ _ _ ht h2).go (by simp only[Cr];rw[he])
  ·cases e'
 | .block id c,env,k,kk,hk,henv=>by
  refine At.step (b:=.code c :: .inBlock id::kk) (fun _ _ _=>rfl) (Xk hret c ((id,k)::env) k (.inBlock id::kk) (At.step (fun _ _ _=>rfl) hk) fun id'=>?_);rw[Bjp,Bo];split
  ·rename_i hid
   have:=aL hid;subst this;exact At.step (fun _ _ _=>by simp[Cr,exitTo]) hk
  ·rename_i hid
   refine(henv id').exit ?_;have:(id == id')=false:=by
    cases hb:(id == id')with
    | false=>rfl
    | true=>exact absurd (by simpa using hb:id=id') (fun e=>hid (by subst e;exact cI _))
   simp[exitTo,this]
 | .loop c,env,k,kk,hk,henv=>by
  have key:∀m,At fl T call round fn n Dq (A5i (fun ih=>Ab8 fl T call call round fuel fn n Dq out ret c env ih) m) (.code c :: .inLoop c::kk):=by
   intro m;induction m with
   | zero=>exact At.bad _
   | succ m ih=>exact Xk hret c env _ (.inLoop c::kk) (At.step (fun _ _ _=>rfl) ih) fun id=>At.exit (a:=kk) (b:=.inLoop c::kk) rfl (henv id)
  exact At.step (fun _ _ _=>rfl) (key fuel)
 | .rangeFunc f ps asg body,env,k,kk,hk,henv=>by
  intro tm t2 h ds r ht e;obtain⟨hfl,e'⟩:=Ap (show Ax fl (match Eh (tmp tm) f with|some e=>Be3 call fn n Dq e ps.toList asg body t2 h ds (fun h ds=>k (tmp tm) t2 h ds) (fun id h ds=>Bci out env id (tmp tm) t2 h ds) (fun h ds=>ret (tmp tm) t2 h ds)|none=>none) none=some r from e);have e2:=ht.1 hfl;subst e2;have ht:∀{ds:List Nat},((fl=true->t2=t2)/\(fl=false->ds = [])):=fun {_}=>⟨fun _=>rfl,fun x=>by rw[hfl]at x;cases x⟩
  rw[Dh]at e';split at e'
  ·rename_i e1 hf
   unfold Be3 at e';split at e'
   ·split at e'
    ·obtain⟨s',h1,h2⟩:=A54 (fun h e=>hk _ _ _ _ _ ht e) (fun id h e=>henv id _ _ _ _ _ ht e) (fun h e=>hret kk _ _ _ _ _ ht e) e'
     exact h2.go (by simp only[Cr];rw[hf];exact h1)
    ·split at e'
     ·rename_i hg
      obtain⟨s',h1,h2⟩:=A54 (fun h e=>hk _ _ _ _ _ ht e) (fun id h e=>henv id _ _ _ _ _ ht e) (fun h e=>hret kk _ _ _ _ _ ht e) e';exact h2.go (by simp only[Cr];rw[hf];simp only;rw[hg];exact h1)
     ·cases e'
   ·cases e'
  ·cases e'
 | .exit id,env,k,kk,hk,henv=>henv id
 | .scope c,env,k,kk,hk,henv=>At.bad _
 | .label l,env,k,kk,hk,henv=>At.step (fun _ _ _=>rfl) hk
 | .goto l,env,k,kk,hk,henv=>At.bad _
 | .ret,env,k,kk,hk,henv=>hret kk
 | .refuse w,env,k,kk,hk,henv=>At.bad _
theorem Bq4(T:Hj)(res:List ResultVar)(tm:Bb)(h:Ab):A8a T res (tmp tm) h=match Mx T tm h res with|some [v]=>some (v,h)|some l=>some (.tuple l,h)|none=>none:=by
 have e:∀l:List ResultVar,Mx T tm h l=Azs T h (l.map (rvD (tmp tm))):=by
  intro l;induction l with
  | nil=>rfl
  | cons a r d=>
   cases a with
   | tmp t=>simp only[Mx,cR,rvD,Azs,d];rfl
   | cell a t=>simp only[Mx,cR,rvD,Azs,d];cases tmp tm a<;>rfl
 unfold A8a;split
 ·rfl
 ·rfl
 ·rfl
 ·rw[e];rfl
theorem Ap3(o:T.fn fn=some f):∀{ds:List Nat} {h:Ab} {r:EV × Ab},Fi ds h (fun h=>A8a T f.results.toList (tmp tm) h)=some r ->
 Ends (Cr T call round) ⟨⟨fn,n,tm,todo,ds,true,Dq⟩,h⟩ r
 | [],h,r,e=>by
  have e':A8a T f.results.toList (tmp tm) h=some r:=e;rw[Bq4]at e';refine .done ?_;simp only[Cr];rw[o];simp only;split at e'
  ·rename_i v p;cases e';rw[p]
  ·rename_i l j q
   cases e';rw[q];split
   ·rename_i v i;cases i;exact(j v rfl).elim
   ·rename_i i;cases i;rfl
   ·rename_i i;cases i
  ·cases e'
 | d::ds,h,r,e=>by
  have e':(match h.get d with|some (.deferred true)=>Fi ds (h.put d (.deferred false)) (fun h=>A8a T f.results.toList (tmp tm) h)|_=>none)=some r:=e;split at e'
  ·rename_i u
   exact(Ap3 o e').go (by simp only[Cr];rw[u])
  ·cases e'
theorem Bpi(i:T.fn fn=some f):(∀kk,At fl T call round fn n none (Bot fl T f.results.toList) (.code .ret::kk))/\At fl T call round fn n none (Bot fl T f.results.toList) []:=
 by
 have k:∀{tm:Bb} {h:Ab} {ds:List Nat} {r:EV × Ab} {todo:List Item},(fl=false->ds = [])->Ax fl (Fi ds h fun h=>A8a T f.results.toList (tmp tm) h) (A8a T f.results.toList (tmp tm) h)=some r->Ends (Cr T call round) ⟨⟨fn,n,tm,todo,ds,true,none⟩,h⟩ r:=fun hd e=>by
  cases fl with
  | true=>exact Ap3 i e
  | false=>rw[hd rfl]at *;exact Ap3 (ds:=[]) i e
 exact⟨fun _ _ _ _ _ _ d e=>(k d.2 e).go rfl,fun _ _ _ _ _ d e=>(k d.2 e).go rfl⟩
theorem Bpe(tm:Bb)(d:Nat)(v:EV):Blk (tmp tm) d v=tmp (tm.put d (some v)):=by
 have:=Arp (Nat.succ d) (some d) tm v;simp only[Ahe,Qq]at this
 rwa [show Nat.ble (Nat.succ d) (Nat.succ d)=true from aO (aD _),Ak,Ak]at this
theorem Ba4:∀(l:List EV) (i:Nat) (tm:Bb),A9e l i (tmp tm)=tmp (setArgs l i tm)
 | [],_,_=>rfl
 | v::r,i,tm=>by
  show A9e r (Nat.succ i) (Blk (tmp tm) i v)=_;rw[Bpe,Ba4 r];rfl
theorem Bgt:∀{ps:List Tmp} {args:List EV} {tm d:Bb},Xf ps args n tm=some d->Bk9 n ps args (tmp tm)=tmp d
 | [],[],tm,d,e=>by cases e;rfl
 | [],_::_,_,_,e=>by cases e
 | _::_,[],_,_,e=>by cases e
 | p::r,v::s,tm,d,e=>by
  show Bk9 n r s (Ahe n (some p) (tmp tm) v)=_;rw[Arp];exact Bgt e
theorem Bg7 {f:Nat}{r:EV × Ab}(e:Ax5 T call round fuel f args h=some r):∃fr,enter T f args=some fr/\Ends (Cr T call round) ⟨fr,h⟩ r:=by
 unfold Ax5 at e;split at e
 ·rename_i name origin targs params j nfree o res c u ours file el ln met y d
  obtain⟨i,h2⟩:=Ap e;rw[Aio]at i;rw[show(u0:VS)=tmp .nil from rfl,Ba4]at h2;obtain⟨p,q⟩:=Bpi (call:=call) (round:=round) (n:=o) d;refine⟨_,by unfold enter;rw[d];simp only;rw[i,Ak],?_⟩;exact Xk p _ [] _ [] q (fun id=>At.bad _) _ _ _ _ _ ⟨fun _=>rfl,fun _=>rfl⟩ h2
 ·cases e
theorem Bin(l:Nat):(∀kk,At fl T call round fn n (some l) (fun _ _ h _=>Wb l false .done (some .ret) h) (.code .ret::kk)) /\
 (∀id kk,exitTo id kk=none->At fl T call round fn n (some l) (fun _ _ h _=>Wb l false .done (some (.exit id)) h) (.code (.exit id)::kk))/\At fl T call round fn n (some l) (fun _ _ h _=>Wb l true .ready none h) []:=by
 refine⟨?_,?_,?_⟩
 ·intro kk tm t2 h ds r _ e
  simp only[Wb]at e;split at e
  ·rename_i d;cases e;exact .done (by simp only[Cr,leave];rw[d])
  ·cases e
 ·intro id kk i tm t2 h ds r _ e
  simp only[Wb]at e;split at e
  ·rename_i d;cases e;exact .done (by simp only[Cr];rw[i];simp only[leave];rw[d])
  ·cases e
 ·intro tm t2 h ds r _ e
  simp only[Wb]at e;split at e
  ·rename_i d;cases e;exact .done (by simp only[Cr,leave];rw[d])
  ·cases e
theorem Ayu {l:Nat}{r:EV × Ab}(e:Ayf T call round fuel l args h=some r):∃fr,Amm l args h=some fr/\Ends (Cr T call round) ⟨fr,h⟩ r:=by
 unfold Ayf at e;split at e
 ·rename_i st C f p tm ps asg body d y
  split at e
  ·rename_i j i
   refine⟨⟨f,p,j,[.code asg,.beginRound,.code body],[],false,some l⟩,by unfold Amm;rw[y];simp only;rw[i],?_⟩;obtain⟨q,u,A⟩:=Bin (fl:=true) (T:=T) (call:=call) (round:=round) (fn:=f) (n:=p) l;rw[Bgt i]at e;refine Xk (out:=fun id _ _ h _=>Wb l false .done (some (.exit id)) h) q asg [] _ [.beginRound,.code body] (fun tm t2 h ds r B e=>?_) (fun id=>u id _ rfl) _ _ _ _ _ ⟨fun _=>rfl,fun x=>by cases x⟩ e;simp only[Er]at e;split at e
   ·rename_i o
    exact(Xk (fuel:=fuel) (out:=fun id _ _ h _=>Wb l false .done (some (.exit id)) h) q body [] _ [] A (fun id=>u id [] rfl) _ _ _ _ _ B e).go (by simp only[Cr];rw[o])
   ·cases e
  ·cases e
 ·cases e
end
structure Good(P:Program)(g:Nat)(args:List EV)(h:Ab)(v:EV)(h':Ab):Prop where
 fn:∃fn,P.funcs[g]? = some fn/\fn.body.isSome=true/\(fn.name == "runtime.NumGoroutine")=false
 run:∀p f w,Tt p h->Tu f h w->EV.T5 p args->∀cs,∃fr f' w',Steps P (lone (Frame.enter P g (Bp f args).toArray .normal) cs w) (lone fr cs w')/\fr.fn=g /\
  fr.leaving P w' (.returned (Cq f' v))/\Move p f h w f' h' w'/\Wf p h h'/\v.ok (grow p h h')
 wf:AWf h h'
def Btp(P:Program)(g:Nat)(F:FnT):Prop:=∀args h v h',F args h=some (v,h')->Good P g args h v h'
def Sound(P:Program)(c:Ai):Prop:=∀g,Btp P g (c g)
def A6z(P:Program)(c:Ai):Prop:=Amu P c/\Xd c
theorem Sound.call{c:Ai}(h:Sound P c):Af7 P c:=fun g args d v h' e=>⟨(h g args d v h' e).fn,(h g args d v h' e).run⟩
theorem Sound.w{c:Ai}(h:Sound P c):Xd c:=fun g args d v h' e=>(h g args d v h' e).wf
theorem Sound.of{c:Ai}(d:Af7 P c)(h2:Xd c):Sound P c:=fun g args h v h' e=>⟨(d g args h v h' e).1,(d g args h v h' e).2,h2 g args h v h' e⟩
section
variable(hT:Pv P T){call:Ai}(hC:Sound P call)(hR:A6z P round)
include hT hC hR
theorem A06 {s s':He}(h:Reach (Cr T call round) s s'):Bip P s s'/\AWf s.h s'.h:=by
 induction h with
 | refl s=>exact⟨fun p f w cs d e i=>Sim.refl d e i,.refl _⟩
 | @head s s1 s2 j _ o=>
  have a:Bip P s s1:=fun p f w cs d e i=>Bkz hT hC.call hR.1 hC.w hR.2 j d e i cs
  exact⟨a.trans o.1,(A8s hC.w hR.2 (.inl ⟨s1,j,rfl⟩)).trans o.2⟩
theorem Bgx(fuel g:Nat):Btp P g (Ax5 T call round fuel g):=by
 intro args h v h' A;obtain⟨fr,i,s1,B,e⟩:=Bg7 A;obtain⟨u,hw⟩:=A06 hT hC hR B;simp only at e;unfold enter at i;split at i
 ·rename_i name origin targs params J nfree n results c Q ours file el ln met S C
  obtain⟨hle,i⟩:=Ap i;cases i;have o:args.length<=n:=by have:=bB hle;rwa [Y9]at this
  obtain⟨q,y⟩:=hT.fn _ _ C;refine⟨⟨_,q,rfl,y⟩,fun p f w K L M cs=>?_,hw.trans (A8s hC.w hR.2 (.inr ⟨v,e⟩))⟩;have D:Xm p ⟨g,n,setArgs args 0 .nil,[.code c],[],false,none⟩:=⟨Blp o M,fun d hd=>(by cases hd),fun l O=>(by cases O),fun x=>(by cases x)⟩;obtain⟨f1,w1,hs,hm,hwf,E,e1,e2⟩:=u p f w cs D K L;have j:=A0r hT e E hwf.hok hm.rep;unfold Fin at j;rw[e2]at j;obtain⟨rfl,G,H⟩:=j;refine⟨_,f1,w1,?_,e1,G,hm,hwf,H⟩;have he:Frame.enter P g (Bp f args).toArray .normal=Oq f ⟨g,n,setArgs args 0 .nil,[.code c],[],false,none⟩:=by
   unfold Frame.enter Oq;rw[Bcn f o];simp[q]
  rw[he];exact hs
 ·cases i
theorem Biq(fuel:Nat):A6z P (Ayf T call round fuel):=by
 constructor
 ·intro l args h v h' y
  obtain⟨fr,e,s1,A,i⟩:=Ayu y;obtain⟨j,hw⟩:=A06 hT hC hR A;simp only at i;unfold Amm at e;split at e
  ·rename_i st O fn n tm ps asg body dd D
   split at e
   ·rename_i B C
    cases e;refine⟨st,O,fn,n,tm,ps,asg,body,dd,B,D,C,fun p f w E Q S caller cs=>?_⟩;obtain⟨_,G,_⟩:=Aj6 f C S (E.get l _ D).2.1;have H:Xm p ⟨fn,n,B,[.code asg,.beginRound,.code body],[],false,some l⟩:=⟨G,fun d hd=>(by cases hd),fun l' U=>(by cases U;exact(E.get l _ D).1),fun x=>(by cases x)⟩;obtain⟨f1,w1,hs,hm,hwf,J,e1,e2⟩:=j p f w (caller::cs) H E Q;have o:=A0r hT i J hwf.hok hm.rep;unfold Fin at o;rw[e2]at o;obtain⟨w2,K,L,u,M⟩:=o caller cs;refine⟨f1,w2,?_,hm.trans L,hwf.trans u,EV.ok.mono (fun q V=>?_) _ M⟩
    ·exact hs.trans K
    ·rw[<-Afl p hwf.next u.next];exact .inl V
   ·cases e
  ·cases e
 ·intro l args h v h' y
  obtain⟨fr,e,s1,A,i⟩:=Ayu y;obtain⟨j,hw⟩:=A06 hT hC hR A;unfold Amm at e;split at e
  ·split at e
   ·cases e;exact hw.trans (A8s hC.w hR.2 (.inr ⟨v,i⟩))
   ·cases e
  ·cases e
end
end
theorem Good.frame{g:Nat}{D Q:Ab}(G:Good P g args D v Q)(M:D.next=h.next)(hs:∀i o,D.get i=some o->h.get i=some o)(y:h'.next=Q.next)
 (A:∀q o,h'.get q=some o->(Q.get q=some o/\((∃o',D.get q=some o')\/h.next<=q))\/(D.get q=none/\h.get q=some o))
 (hm:h'.mw<=h.mw) (hb:∀q,q<h'.mw->q<h.next->h'.get q=h.get q):Good P g args h v h' where
 fn:=G.fn
 run p f w S B J cs:=by
  have V:Tt p D:=⟨fun i C=>by rw[M];exact S.lt i C,fun i o u=>S.get i o (hs i o u)⟩;obtain⟨fr,f',w',W,X,Y,mv,wf,vo⟩:=G.run p f w V (B.sub hs) J cs;have K:grow p D Q=grow p h h':=by unfold grow;rw[M,y]
  have kept:∀q o,D.get q=none->h.get q=some o->∃r,w'.heap[f'.b q]? = some r/\Rq f' q o r/\f'.b q=f.b q:=by
   intro q o U u;obtain⟨r,d,h2⟩:=B.obj q o u;obtain⟨hp,hok⟩:=S.get q o u;have O:f'.b q=f.b q:=(mv.agree q hp).1.symm;refine⟨r,?_,h2.congr mv.agree hp hok,O⟩;rw[O,mv.kept _ (B.lt u) (fun i o' C e=>?_)]
   ·exact d
   ·have:=B.inj i q o' o (hs i o' C) u e
    subst this;rw[U]at C;cases C
  refine⟨fr,f',w',W,X,Y,⟨mv.agree,⟨?_,?_⟩,?_,mv.size,mv.tape,mv.os,mv.output,?_⟩,⟨?_,hm,hb,?_,⟨?_,?_⟩⟩,?_⟩
  ·intro q o u
   rcases A q o u with⟨d,_⟩|⟨d,h2⟩
   ·exact mv.rep.obj q o d
   ·obtain⟨r,a,b,_⟩:=kept q o d h2;exact⟨r,a,b⟩
  ·intro i j o o' C hj e
   rcases A i o C with⟨d,_⟩|⟨d,h2⟩
   ·rcases A j o' hj with⟨E,_⟩|⟨E,h4⟩
    ·exact mv.rep.inj i j o o' d E e
    ·obtain⟨_,_,_,e4⟩:=kept j o' E h4
     rcases mv.own i o d with Z|⟨k,ok,L,ek⟩
     ·have:=B.lt h4;omega
     ·have:=B.inj k j ok o' (hs k ok L) h4 (by rw[<-ek,e,e4])
      subst this;rw[E]at L;cases L
   ·obtain⟨_,_,_,e2⟩:=kept i o d h2
    rcases A j o' hj with⟨E,_⟩|⟨E,h4⟩
    ·rcases mv.own j o' E with Z|⟨k,ok,L,ek⟩
     ·have:=B.lt h2;omega
     ·have:=B.inj k i ok o (hs k ok L) h2 (by rw[<-ek,<-e,e2])
      subst this;rw[d]at L;cases L
    ·obtain⟨_,_,_,e4⟩:=kept j o' E h4
     exact B.inj i j o o' h2 h4 (by rw[<-e2,e,e4])
  ·exact fun b ab ad=>mv.kept b ab (fun i o u=>ad i o (hs i o u))
  ·intro i o u
   rcases A i o u with⟨d,_⟩|⟨d,h2⟩
   ·rcases mv.own i o d with a|⟨j,o',a,b⟩
    ·exact .inl a
    ·exact .inr ⟨j,o',hs j o' a,b⟩
   ·obtain⟨_,_,_,e2⟩:=kept i o d h2
    exact .inr ⟨i,o,h2,e2⟩
  ·rw[y,<-M];exact wf.next
  ·intro q o u
   rcases A q o u with⟨_,⟨o',h2⟩|h2⟩|⟨_,h2⟩
   ·exact .inl ⟨o',hs q o' h2⟩
   ·exact .inr h2
   ·exact .inl ⟨o,h2⟩
  ·intro q U;rw[y];rw[<-K]at U;exact wf.hok.lt q U
  ·intro q o u
   rw[<-K];rcases A q o u with⟨d,_⟩|⟨d,h2⟩
   ·exact wf.hok.get q o d
   ·obtain⟨a,b⟩:=S.get q o h2
    exact⟨.inl a,b.mono fun _ C=>.inl C⟩
  ·rw[<-K];exact vo
 wf:={
  next:=by rw[y,<-M];exact G.wf.next
  mw:=hm
  same:=hb
  live:=fun q o u=>by
   rcases A q o u with⟨_,⟨o',h2⟩|h2⟩|⟨_,h2⟩
   ·exact .inl ⟨o',hs q o' h2⟩
   ·exact .inr h2
   ·exact .inl ⟨o,h2⟩
  lt:=fun H q o u=>by
   rw[y];rcases A q o u with⟨d,_⟩|⟨_,d⟩
   ·exact G.wf.lt (fun q o h=>by rw[M];exact H q o (hs q o h)) q o d
   ·have:=G.wf.next;have:=H q o d;rw[M]at *;omega }
noncomputable section
abbrev FT:=Ai->Ai->Nat->FnT
def Afd(P:Program)(g:Nat)(F:FT):Prop:=∀call round K,Sound P call->A6z P round->Btp P g (F call round K)
def Ag(T:Hj)(disp:Nat->Option FT)(K:Nat):Nat->Bool->Ai:=
 @Nat.rec (fun _=>Bool->Ai) (fun _ _ _ _=>none)
  (fun _ d b=>@Bool.rec (fun _=>Ai) (fun f=>@Option.rec FT (fun _=>FnT) (Ax5 T (d false) (d true) K f) (fun F=>F (d false) (d true) K) (disp f)) (fun l=>Ayf T (d false) (d true) K l) b)
theorem Afd.of(hT:Pv P T){g:Nat}{F:FT}(h:∀call round K,Ax5 T call round K g=F call round K):Afd P g F:=
 fun call round K d e=>by rw[<-h];exact Bgx hT d e K g
theorem Aq6(hT:Pv P T){disp:Nat->Option FT}(j:∀g F,disp g=some F->Afd P g F)(K:Nat):∀d,Sound P (Ag T disp K d false)/\A6z P (Ag T disp K d true)
 | 0=>⟨fun _ _ _ _ _ e=>(by cases e),fun _ _ _ _ _ e=>(by cases e),fun _ _ _ _ _ e=>(by cases e)⟩
 | d+1=>by
  obtain⟨c1,i⟩:=Aq6 hT j K d;constructor
  ·intro g
   have e:Ag T disp K (d+1) false g = @Option.rec FT (fun _=>FnT) (Ax5 T (Ag T disp K d false) (Ag T disp K d true) K g) (fun F=>F (Ag T disp K d false) (Ag T disp K d true) K) (disp g):=rfl;rw[e];cases o:disp g with
   | none=>exact Bgx hT c1 i K g
   | some F=>exact j g F o _ _ K c1 i
  ·exact Biq hT c1 i K
def A0b:List UInt8->List UInt8->Bool
 | [],[]=>true
 | a::r,b::s=>Ax (Nat.beq a.toNat b.toNat) (A0b r s) false
 | _,_=>false
def Bdm(a b:Bool):Bool:=Ax a b (Aqp b)
mutual
def eqV:EV->EV->Bool
 | .int k n,.int j p=>Ax (Nat.beq (Ps k) (Ps j)) (eqI n p) false
 | .bool a,.bool b=>Bdm a b
 | .str a,.str b=>A0b a.data.toList b.data.toList
 | .ptr i o,.ptr d o'=>Ax (Nat.beq i d) (Nat.beq o o') false
 | .Bw,.Bw=>true
 | .slice i o l r op,.slice d o' l' q e=>Ax (Nat.beq i d) (Ax (Nat.beq o o') (Ax (Nat.beq l l') (Ax (Nat.beq r q) (Bdm op e) false) false) false) false
 | .Al,.Al=>true
 | .map i,.map d=>Nat.beq i d
 | .Al8,.Al8=>true
 | .chan i,.chan d=>Nat.beq i d
 | .Ae3,.Ae3=>true
 | .func f a c,.func f' u y=>Ax (Nat.beq f f') (Ax (Ax1 a u) (Ax1 c y) false) false
 | .Vd l,.Vd l'=>Nat.beq l l'
 | .Ait,.Ait=>true
 | .Abl,.Abl=>true
 | .agg l,.agg l'=>Ax1 l l'
 | .tuple l,.tuple l'=>Ax1 l l'
 | _,_=>false
def Ax1:List EV->List EV->Bool
 | [],[]=>true
 | a::r,b::s=>Ax (eqV a b) (Ax1 r s) false
 | _,_=>false
end
def Arx:List (EV × EV)->List (EV × EV)->Bool
 | [],[]=>true
 | (a,b)::r,(c,d)::s=>Ax (eqV a c) (Ax (eqV b d) (Arx r s) false) false
 | _,_=>false
def Bbv:Ca->Ca->Bool
 | .cells l t,.cells l' d=>Ax (Nat.beq t d) (Ax1 l l') false
 | .vec l t s,.vec l' d s'=>Ax (Nat.beq t d) (Ax (Nat.beq s s') (Ax1 l l') false) false
 | .map es,.map e=>Arx es e
 | .chan c b,.chan i j=>Ax (Nat.beq c i) (Ax1 b j) false
 | _,_=>false
end
variable {F:FT}{disp:Nat->Option FT}
theorem Blm {a b:Int}(h:eqI a b=true):a=b:=by
 cases a<;>cases b
 ·exact congrArg Int.ofNat (aL h)
 ·cases h
 ·cases h
 ·exact congrArg Int.negSucc (aL h)
theorem Aw3:∀{a b:List UInt8},A0b a b=true->a=b
 | [],[],_=>rfl
 | x::r,y::s,h=>by
  simp only[A0b]at h;rw[Bo]at h;split at h
  ·rename_i e
   rw[UInt8.toNat_inj.1 (aL e),Aw3 h]
  ·cases h
 | [],_::_,h=>by cases h
 | _::_,[],h=>by cases h
theorem Ay6(h:Bdm a b=true):a=b:=by cases a<;>cases b<;>first|rfl|cases h
theorem Bje {a b:IntKind}(h:Ps a=Ps b):a=b:=by cases a<;>cases b<;>first|rfl|(simp[Ps]at h)
theorem Gd(h:Ax a b false=true):a=true/\b=true:=by cases a<;>simp_all [Bo]
theorem beq_spec {a b:Nat}(h:Nat.beq a b=true):a=b:=aL h
mutual
theorem Apd:∀{a b:EV},eqV a b=true->a=b
 | .int k n,b,h=>by
  cases b<;>first|(simp[eqV]at h;done)|skip
  simp only[eqV]at h;obtain⟨d,h2⟩:=Gd h;rw[Bje (beq_spec d),Blm h2]
 | .bool a,b,h=>by
  cases b<;>first|(simp[eqV]at h;done)|skip
  simp only[eqV]at h;rw[Ay6 h]
 | .str a,b,h=>by
  cases b<;>first|(simp[eqV]at h;done)|skip
  rename_i b;simp only[eqV]at h;obtain⟨⟨a⟩⟩:=a;obtain⟨⟨b⟩⟩:=b;have:a=b:=Aw3 h;rw[this]
 | .ptr i o,b,h=>by
  cases b<;>first|(simp[eqV]at h;done)|skip
  simp only[eqV]at h;obtain⟨d,h2⟩:=Gd h;rw[beq_spec d,beq_spec h2]
 | .Bw,b,h=>by cases b<;>first|(simp[eqV]at h;done)|rfl
 | .slice i o l r op,b,h=>by
  cases b<;>first|(simp[eqV]at h;done)|skip
  simp only[eqV]at h;obtain⟨d,h⟩:=Gd h;obtain⟨h2,h⟩:=Gd h;obtain⟨e,h⟩:=Gd h;obtain⟨h4,h⟩:=Gd h;rw[beq_spec d,beq_spec h2,beq_spec e,beq_spec h4,Ay6 h]
 | .tail i o p,b,h=>by cases b<;>(simp[eqV]at h)
 | .odd a,b,h=>by cases b<;>(simp[eqV]at h)
 | .Al,b,h=>by cases b<;>first|(simp[eqV]at h;done)|rfl
 | .map i,b,h=>by
  cases b<;>first|(simp[eqV]at h;done)|skip
  simp only[eqV]at h;rw[beq_spec h]
 | .Al8,b,h=>by cases b<;>first|(simp[eqV]at h;done)|rfl
 | .chan i,b,h=>by
  cases b<;>first|(simp[eqV]at h;done)|skip
  simp only[eqV]at h;rw[beq_spec h]
 | .Ae3,b,h=>by cases b<;>first|(simp[eqV]at h;done)|rfl
 | .func f a c,b,h=>by
  cases b<;>first|(simp[eqV]at h;done)|skip
  simp only[eqV]at h;obtain⟨d,h⟩:=Gd h;obtain⟨h2,h⟩:=Gd h;rw[beq_spec d,T4 h2,T4 h]
 | .Vd l,b,h=>by
  cases b<;>first|(simp[eqV]at h;done)|skip
  simp only[eqV]at h;rw[beq_spec h]
 | .Ait,b,h=>by cases b<;>first|(simp[eqV]at h;done)|rfl
 | .Abl,b,h=>by cases b<;>first|(simp[eqV]at h;done)|rfl
 | .agg l,b,h=>by
  cases b<;>first|(simp[eqV]at h;done)|skip
  simp only[eqV]at h;rw[T4 h]
 | .tuple l,b,h=>by
  cases b<;>first|(simp[eqV]at h;done)|skip
  simp only[eqV]at h;rw[T4 h]
theorem T4:∀{a b:List EV},Ax1 a b=true->a=b
 | [],[],_=>rfl
 | x::r,y::s,h=>by
  simp only[Ax1]at h;obtain⟨d,h2⟩:=Gd h;rw[Apd d,T4 h2]
 | [],_::_,h=>by simp[Ax1]at h
 | _::_,[],h=>by simp[Ax1]at h
end
theorem Axs:∀{a b:List (EV × EV)},Arx a b=true->a=b
 | [],[],_=>rfl
 | (a,b)::r,(c,d)::s,h=>by
  simp only[Arx]at h;obtain⟨e,h⟩:=Gd h;obtain⟨h2,i⟩:=Gd h;rw[Apd e,Apd h2,Axs i]
 | [],_::_,h=>by simp[Arx]at h
 | _::_,[],h=>by simp[Arx]at h
theorem Bdi {a b:Ca}(h:Bbv a b=true):a=b:=by
 cases a<;>cases b<;>first|(simp[Bbv]at h;done)|skip
 all_goals simp only[Bbv]at h
 ·obtain⟨d,h⟩:=Gd h
  rw[beq_spec d,T4 h]
 ·obtain⟨d,h⟩:=Gd h
  obtain⟨h2,h⟩:=Gd h;rw[beq_spec d,beq_spec h2,T4 h]
 ·rw[Axs h]
 ·obtain⟨d,h⟩:=Gd h
  rw[beq_spec d,T4 h]
noncomputable section
def Tr.Bsx {α:Type}(v:Option α)(t:Tr α):Tr α:=@Tr.rec α (fun _=>Tr α) (.node .nil v .nil) (fun l _ r _ _=>.node l v r) t
def Tr.Bu4 {α:Type}(k:Option α->Tr α->Tr α)(v:Option α)(t:Tr α):Tr α:=@Tr.rec α (fun _=>Tr α) (Tr.lf none .nil (k v .nil)) (fun l x r _ _=>Tr.lf x r (k v l)) t
def Tr.Bu2 {α:Type}(k:Option α->Tr α->Tr α)(v:Option α)(t:Tr α):Tr α:=@Tr.rec α (fun _=>Tr α) (Tr.rt .nil none (k v .nil)) (fun l x r _ _=>Tr.rt l x (k v r)) t
def Bcw {α:Type}(p:List Bool):Option α->Tr α->Tr α:=
 @List.rec Bool (fun _=>Option α->Tr α->Tr α) Tr.Bsx (fun b _ d=>@Bool.rec (fun _=>Option α->Tr α->Tr α) (Tr.Bu2 d) (Tr.Bu4 d) b) p
theorem Auk:∀(n:Nat) (t:Tr α) (i:Nat),i+1<2^n->Bsf (Avh n i) t=t.get i
 | 0,_,i,h=>by simp at h
 | n+1,t,i,h=>by
  have e2:Nat.land i 1=i%2:=eZ i;rw[dU]at h;have e:Avh (n+1) i=Ax (Nat.beq i 0) [] (Ax (Nat.beq (Nat.land i 1) 1) (true::Avh n (Nat.div i 2)) (false::Avh n (Nat.pred (Nat.div i 2)))):=rfl;rw[e,e2];by_cases h0:i=0
  ·subst h0;cases t<;>rfl
  ·rw[beq_false h0,Bc]
   by_cases d:i%2=1
   ·rw[d,show Nat.beq 1 1=true from rfl,Ak]
    cases t with
    | nil=>rfl
    | node l v r=>rw[Tr.Tn,aM h0,aQ d];exact Auk n l (i/2) (by omega)
   ·rw[beq_false d,Bc]
    cases t with
    | nil=>rfl
    | node l v r=>rw[Tr.Tn,aM h0,aM d];exact Auk n r (i/2-1) (by omega)
theorem A4p(i:Nat):i+1<2^Nat.succ (Nat.log2 (Nat.succ i)):=Nat.lt_log2_self
theorem Brl(t:Tr α)(i:Nat):Bsf (pathOf i) t=t.get i:=Auk _ t i (A4p i)
theorem Agj:∀(n:Nat) (t:Tr α) (i:Nat) (v:Option α),i+1<2^n->Bcw (Avh n i) v t=Tr.set n t i v
 | 0,_,i,_,h=>by simp at h
 | n+1,t,i,v,h=>by
  have e2:Nat.land i 1=i%2:=eZ i;rw[dU]at h;have e:Avh (n+1) i=Ax (Nat.beq i 0) [] (Ax (Nat.beq (Nat.land i 1) 1) (true::Avh n (Nat.div i 2)) (false::Avh n (Nat.pred (Nat.div i 2)))):=rfl;rw[e,e2];by_cases h0:i=0
  ·subst h0;cases t<;>rfl
  ·rw[beq_false h0,Bc]
   by_cases d:i%2=1
   ·rw[d,show Nat.beq 1 1=true from rfl,Ak]
    cases t with
    | nil=>rw[Tr.set_nil,beq_false h0,Bc,e2,d];exact congrArg (Tr.lf none .nil) (Agj n .nil (i/2) v (by omega))
    | node l x r=>rw[Tr.Afr,beq_false h0,Bc,e2,d];exact congrArg (Tr.lf x r) (Agj n l (i/2) v (by omega))
   ·rw[beq_false d,Bc]
    cases t with
    | nil=>rw[Tr.set_nil,beq_false h0,Bc,e2,beq_false d,Bc];exact congrArg (Tr.rt .nil none) (Agj n .nil (i/2-1) v (by omega))
    | node l x r=>rw[Tr.Afr,beq_false h0,Bc,e2,beq_false d,Bc];exact congrArg (Tr.rt l x) (Agj n r (i/2-1) v (by omega))
theorem A6m(t:Tr α)(i:Nat)(v:Option α):Bcw (pathOf i) v t=t.put i v:=Agj _ t i v (A4p i)
end
noncomputable section
structure Azr where
 args:List EV
 next:Nat
 pre:List (Nat × Ca)
 v:EV
 next':Nat
 mw':Nat
 post:List (Nat × Option Ca)
def Ajn(l:List (Nat × Ca))(t:Tr Ca):Tr Ca:=@List.rec (Nat × Ca) (fun _=>Tr Ca) t (fun x _ d=>@Prod.rec Nat Ca (fun _=>Tr Ca) (fun i o=>Bcw (pathOf i) (some o) d) x) l
def Arv(l:List (Nat × Option Ca))(t:Tr Ca):Tr Ca:=@List.rec (Nat × Option Ca) (fun _=>Tr Ca) t (fun x _ d=>@Prod.rec Nat (Option Ca) (fun _=>Tr Ca) (fun i o=>Bcw (pathOf i) o d) x) l
def Azr.heap(m:Azr):Ab:=⟨Ajn m.pre .nil,m.next,m.next⟩
def Afa(h:Ab)(i:Nat):Option Ca:=Bsf (pathOf i) h.t
def isObj(x:Option Ca)(o:Ca):Bool:=@Option.rec Ca (fun _=>Bool) false (fun a=>Bbv a o) x
def Bos(l:List (Nat × Ca))(h:Ab):Bool:=@List.rec (Nat × Ca) (fun _=>Bool) true (fun x _ d=>@Prod.rec Nat Ca (fun _=>Bool) (fun i o=>Ax (isObj (Afa h i) o) d false) x) l
def A0f(l:List (Nat × Option Ca))(q:Nat):Bool:=@List.rec (Nat × Option Ca) (fun _=>Bool) false (fun x _ d=>@Prod.rec Nat (Option Ca) (fun _=>Bool) (fun i _=>Ax (Nat.beq i q) true d) x) l
def A0v(l:List (Nat × Ca))(q:Nat):Bool:=@List.rec (Nat × Ca) (fun _=>Bool) false (fun x _ d=>@Prod.rec Nat Ca (fun _=>Bool) (fun i _=>Ax (Nat.beq i q) true d) x) l
def Bnk(post:List (Nat × Option Ca))(h:Ab)(l:List (Nat × Ca)):Bool:=@List.rec (Nat × Ca) (fun _=>Bool) true (fun x _ d=>@Prod.rec Nat Ca (fun _=>Bool) (fun i o=>Ax (Ax (A0f post i) true (isObj (Afa h i) o)) d false) x) l
def Bnj(x:Option Ca)(o:Option Ca):Bool:=@Option.rec Ca (fun _=>Bool) true (fun o=>isObj x o) o
def Bnf(m:Azr)(h:Ab)(l:List (Nat × Option Ca)):Bool:=@List.rec (Nat × Option Ca) (fun _=>Bool) true (fun x _ d=>@Prod.rec Nat (Option Ca) (fun _=>Bool) (fun i o=>
 Ax (Bnj (Afa h i) o) (Ax (Ax (Nat.ble m.next i) true (A0v m.pre i)) (Ax (Ax (Nat.ble m.next i) true (Nat.ble m.mw' i)) d false) false) false) x) l
def Bsp(r:R)(m:Azr):Bool:=
 match r with
 | none=>false
 | some (v,h)=>Ax (eqV v m.v) (Ax (Nat.beq h.next m.next') (Ax (Nat.ble m.mw' h.mw) (Ax (Bnf m h m.post) (Bnk m.post h m.pre) false) false) false) false
def Azr.after(m:Azr)(h:Ab):Ab:=⟨Arv m.post h.t,m.next',Ax (Nat.ble h.mw m.mw') h.mw m.mw'⟩
def Azr.fits(m:Azr)(args:List EV)(h:Ab):Bool:=Ax (Ax1 args m.args) (Ax (Nat.beq h.next m.next) (Bos m.pre h) false) false
def Bfv(m:Azr)(F:FT):FT:=fun call round K args h=>Ax (m.fits args h) (some (m.v,m.after h)) (F call round K args h)
end
theorem A6r(h:Ab)(i:Nat):Afa h i=h.get i:=by obtain⟨t,n,m⟩:=h;exact Brl t i
theorem Att {x:Option Ca}{o:Ca}(h:isObj x o=true):x=some o:=by
 cases x with
 | none=>cases h
 | some a=>rw[Bdi (show Bbv a o=true from h)]
theorem Ayi:∀{l:List (Nat × Ca)} {t:Tr Ca} {q:Nat} {o:Ca},(Ajn l t).get q=some o->(q,o)∈l\/t.get q=some o
 | [],t,q,o,h=>.inr h
 | (i,x)::l,t,q,o,h=>by
  have e:Ajn ((i,x)::l) t=Bcw (pathOf i) (some x) (Ajn l t):=rfl;rw[e,A6m,Tr.get_put]at h;split at h
  ·rename_i d;subst d;cases h;exact .inl aV
  ·exact(Ayi h).imp (aT _) id
theorem Aq4:∀(l:List (Nat × Option Ca)) (t:Tr Ca) (q:Nat),(∃o,(q,o)∈l/\(Arv l t).get q=o)\/((∀o,(q,o) ∉ l)/\(Arv l t).get q=t.get q)
 | [],t,q=>.inr ⟨fun _ h=>(by cases h),rfl⟩
 | (i,x)::l,t,q=>by
  have e:Arv ((i,x)::l) t=Bcw (pathOf i) x (Arv l t):=rfl;rw[e,A6m,Tr.get_put];by_cases d:i=q
  ·subst d;exact .inl ⟨x,aV,aQ rfl⟩
  ·rw[aM d]
   rcases Aq4 l t q with⟨o,j,h2⟩|⟨j,h2⟩
   ·exact .inl ⟨o,aT _ j,h2⟩
   ·refine .inr ⟨fun o p=>?_,h2⟩
    rcases bW.1 p with e|p
    ·cases e;exact d rfl
    ·exact j o p
theorem A3c:∀{l:List (Nat × Ca)},Bos l h=true->∀{i:Nat} {o:Ca},(i,o)∈l->h.get i=some o
 | [],_,i,o,hm=>by cases hm
 | (j,x)::l,d,i,o,hm=>by
  obtain⟨p,h2⟩:=Gd (show Ax (isObj (Afa h j) x) (Bos l h) false=true from d);rcases bW.1 hm with e|hm
  ·cases e;rw[<-A6r];exact Att p
  ·exact A3c h2 hm
theorem A1k(h:Ax a true b=true):a=true\/b=true:=by cases a<;>simp_all [Bo]
theorem Aw4:∀{l:List (Nat × Option Ca)} {q:Nat},A0f l q=true->∃o,(q,o)∈l
 | [],_,h=>by cases h
 | (i,x)::l,q,h=>by
  rcases A1k (show Ax (Nat.beq i q) true (A0f l q)=true from h)with d|d
  ·rw[<-beq_spec d];exact⟨x,aV⟩
  ·obtain⟨o,e⟩:=Aw4 d;exact⟨o,aT _ e⟩
theorem Ayz:∀{l:List (Nat × Ca)} {t:Tr Ca} {q:Nat},A0v l q=true->∃o,(Ajn l t).get q=some o
 | [],_,_,h=>by cases h
 | (i,x)::l,t,q,h=>by
  have e:Ajn ((i,x)::l) t=Bcw (pathOf i) (some x) (Ajn l t):=rfl;rw[e,A6m,Tr.get_put];by_cases d:i=q
  ·exact⟨x,aQ d⟩
  ·rw[aM d]
   rcases A1k (show Ax (Nat.beq i q) true (A0v l q)=true from h)with j|j
   ·exact absurd (beq_spec j) d
   ·exact Ayz j
theorem A1m:∀{l:List (Nat × Ca)},Bnk post h l=true->∀{i:Nat} {o:Ca},(i,o)∈l->(∃o',(i,o')∈post)\/h.get i=some o
 | [],_,i,o,hm=>by cases hm
 | (j,x)::l,p,i,o,hm=>by
  obtain⟨d,h2⟩:=Gd (show Ax (Ax (A0f post j) true (isObj (Afa h j) x)) (Bnk post h l) false=true from p);rcases bW.1 hm with e|hm
  ·cases e
   rcases A1k d with d|d
   ·exact .inl (Aw4 d)
   ·exact .inr (by rw[<-A6r];exact Att d)
  ·exact A1m h2 hm
theorem At4 {m:Azr}:∀{l:List (Nat × Option Ca)},Bnf m h l=true->∀{i:Nat} {o:Option Ca},(i,o)∈l ->
 (∀x,o=some x->h.get i=some x)/\(m.next<=i\/A0v m.pre i=true)/\(m.next<=i\/m.mw'<=i)
 | [],_,i,o,hm=>by cases hm
 | (j,x)::l,d,i,o,hm=>by
  obtain⟨p,h2⟩:=Gd (show Ax (Bnj (Afa h j) x) (Ax (Ax (Nat.ble m.next j) true (A0v m.pre j)) (Ax (Ax (Nat.ble m.next j) true (Nat.ble m.mw' j)) (Bnf m h l) false) false) false=true from d);obtain⟨q,h4⟩:=Gd h2;obtain⟨u,A⟩:=Gd h4;rcases bW.1 hm with e|hm
  ·cases e
   refine⟨fun y B=>?_,(A1k q).imp bB id,(A1k u).imp bB bB⟩;subst B;rw[<-A6r];exact Att p
  ·exact At4 A hm
theorem Bfz(a b:Nat):Ax (Nat.ble a b) a b=min a b:=by
 rw[Bo];by_cases h:a<=b
 ·rw[aQ (Yr h)];omega
 ·rw[aM (by rw[Aaz h];simp)];omega
theorem Bmv{g:Nat}(V:Afd P g F){m:Azr}{c:Ai}(W:Sound P c)(A:Bsp (c g m.args m.heap) m=true):Afd P g (Bfv m F):=by
 intro call round K E C args h v h' e;unfold Bfv at e;rw[Bo]at e;split at e
 ·rename_i H
  cases e;obtain⟨X,h2⟩:=Gd H;obtain⟨Y,h4⟩:=Gd h2;have G:args=m.args:=T4 X;have d:h.next=m.next:=beq_spec Y
  subst G;unfold Bsp at A;split at A
  ·cases A
  ·rename_i v Z J
   obtain⟨r1,A⟩:=Gd A;obtain⟨r2,A⟩:=Gd A;obtain⟨r3,A⟩:=Gd A;obtain⟨S,r5⟩:=Gd A;have hv:=Apd r1;subst hv;have Afa:∀q o,m.heap.get q=some o->(q,o)∈m.pre:=fun q o B=>(Ayi (show(Ajn m.pre .nil).get q=some o from B)).elim id fun x=>by cases x
   have D:∀i o,m.heap.get i=some o->h.get i=some o:=fun i o B=>A3c h4 (Afa i o B)
   have j:∀q,(m.after h).get q=(Arv m.post h.t).get q:=fun q=>rfl
   have L:∀q,h.t.get q=h.get q:=fun q=>rfl
   refine(W g m.args m.heap m.v Z J).frame d.symm D (beq_spec r2).symm ?_ ?_ ?_
   ·intro q o B
    rw[j]at B;rcases Aq4 m.post h.t q with⟨x,u,p⟩|⟨u,p⟩
    ·rw[p]at B
     obtain⟨p1,M,_⟩:=At4 S u;refine .inl ⟨p1 o B,?_⟩;rcases M with M|M
     ·exact .inr (by rw[d];exact M)
     ·exact .inl (Ayz (t:=.nil) M)
    ·rw[p,L]at B
     cases U:m.heap.get q with
     | none=>exact .inr ⟨rfl,B⟩
     | some o'=>
      have:=D q o' U;rw[B]at this;cases this;rcases A1m r5 (Afa q o U)with⟨y,hy⟩|hk
      ·exact absurd hy (u y)
      ·exact .inl ⟨hk,.inl ⟨o,rfl⟩⟩
   ·show Ax (Nat.ble h.mw m.mw') h.mw m.mw'<=h.mw
    rw[Bfz];exact Nat.min_le_left _ _
   ·intro q hq O
    have ai:q<min h.mw m.mw':=by rw[<-Bfz];exact hq
    rw[j];rcases Aq4 m.post h.t q with⟨x,u,p⟩|⟨_,p⟩
    ·obtain⟨_,_,Q⟩:=At4 S u
     rcases Q with Q|Q
     ·rw[d]at O;omega
     ·omega
    ·rw[p,L]
 ·exact V call round K E C args h v h' e
end Go.Ev
