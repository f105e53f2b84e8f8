import Derived.Test.YtokpnommcenoaaaGreatEvFour
set_option linter.all false
namespace Go.Ev
set_option maxRecDepth 100000
variable {α:Type}{x:Operand}{v:EV}{op:Op}{g:Nat × Bool}{T:Ih}{t:TypeId}{n off fuel:Nat}{tm:Ax}{h h':Ab}{a b fl:Bool}{ops:List Oper}{round:Ai}{ds:List Nat}{f:Func}{todo:List Item}{args:List EV}{P:Program}
noncomputable section
abbrev R:=Option (EV × Ab)
abbrev FnT:=List EV->Ab->R
def Bpv:Nat->Nat->List Bool:=
 @Nat.rec (fun _=>Nat->List Bool) (fun _=>[]) (fun _ d i=>Bb (Nat.beq i 0) [] (Bb (Nat.beq (Nat.land i 1) 1) (true::d (Nat.div i 2)) (false::d (Nat.pred (Nat.div i 2)))))
def pathOf(i:Nat):List Bool:=Bpv (Nat.succ (Nat.log2 (Nat.succ i))) i
def oB {α β:Type}(k:α->Option β)(x:Option α):Option β:=@Option.rec α (fun _=>Option β) none k x
def Ba8 {α β d:Type}(k:α->β->Option d)(p:α × β):Option d:=@Prod.rec α β (fun _=>Option d) k p
def F9(l:List EV):Nat:=@List.rec EV (fun _=>Nat) 0 (fun _ _ d=>Nat.succ d) l
def Ays(l:List EV):Nat->Option EV:=@List.rec EV (fun _=>Nat->Option EV) (fun _=>none) (fun a _ d n=>Bb (Nat.beq n 0) (some a) (d (Nat.pred n))) l
def Baw(l:List EV):Nat->List EV:=@List.rec EV (fun _=>Nat->List EV) (fun _=>[]) (fun a r d n=>Bb (Nat.beq n 0) (a::r) (d (Nat.pred n))) l
def Aye(a:EV)(x:Option (List EV)):Option (List EV):=@Option.rec (List EV) (fun _=>Option (List EV)) none (fun l=>some (a::l)) x
def A40(l:List EV):Nat->Option (List EV):=@List.rec EV (fun _=>Nat->Option (List EV)) (fun n=>Bb (Nat.beq n 0) (some []) none) (fun a _ d n=>Bb (Nat.beq n 0) (some []) (Aye a (d (Nat.pred n)))) l
def Mh(l:List EV)(off n:Nat):Option (List EV):=Bb (Nat.beq off 0) (Bb (Nat.beq (F9 l) n) (some l) (A40 l n)) (A40 (Baw l off) n)
def Azp(vs:List EV):List EV->Option (List EV):=@List.rec EV (fun _=>List EV->Option (List EV)) (fun l=>some l) (fun v _ d l=>@List.rec EV (fun _=>Option (List EV)) none (fun _ r _=>Aye v (d r)) l) vs
def Apn(vs:List EV)(l:List EV):Nat->Option (List EV):=@List.rec EV (fun _=>Nat->Option (List EV)) (fun n=>Bb (Nat.beq n 0) (Azp vs []) none) (fun a r d n=>Bb (Nat.beq n 0) (Azp vs (a::r)) (Aye a (d (Nat.pred n)))) l
def Mf(l:List EV)(off:Nat)(vs:List EV):Option (List EV):=Bb (Nat.beq off 0) (Bb (Nat.beq (F9 l) (F9 vs)) (some vs) (Apn vs l 0)) (Apn vs l off)
def As0 {β:Type}(k:List EV->Nat->Option β)(off:Nat)(x:Option Dz):Option β:=
 match x with|some (.cells l _)=>k l off|some (.vec l _ _)=>k l off|some (.view ws _)=>(match Alr ws off with|some (o,l)=>k l (Nat.sub off o)|none=>none)|_=>none
def Agk(h:Ab)(i:Nat)(f:List EV->Option (List EV))(k:Ab->R):R:=
 match h.get i with
 | some (.cells l t)=>oB (fun l'=>k (h.put i (.cells l' t))) (f l)
 | some (.vec l t s)=>oB (fun l'=>k (h.put i (.vec l' t s))) (f l)
 | _=>none
def Xo(h:Ab)(i off n:Nat):Option (List EV):=As0 (fun l o=>Mh l o n) off (h.get i)
def O1(h:Ab)(size n:Nat)(x:EV):Option (List EV):=
 match x with
 | .Ao=>Bb (Nat.beq n 0) (some []) none
 | .slice i off _ _ _=>Bb (Nat.beq n 0) (some []) (Xo h i off (Nat.mul n size))
 | .tail ..=>Bb (Nat.beq n 0) (some []) none
 | _=>none
def onB(x y:R)(v:EV):R:=match v with | .bool b=>Bb b x y|_=>none
def Aqk(k:Nat->Nat->R)(v:EV):R:=match v with | .ptr i off=>k i off|_=>none
def Bmt(k:Nat->R)(v:EV):R:=match v with | .int _ n=>@Int.rec (fun _=>R) k (fun _=>none) n|_=>none
def Bm7(k:IntKind->Int->R)(v:EV):R:=match v with | .int c n=>k c n|_=>none
def Bjs(k:List EV->R)(v:EV):R:=match v with | .agg l=>k l|_=>none
def Bm8(k:List EV->R)(v:EV):R:=match v with | .tuple l=>k l|_=>none
def Bmk(a b:Int):Int:=@Int.rec (fun _=>Int) (fun m=>@Int.rec (fun _=>Int) (fun n=>.ofNat (Nat.add m n)) (fun n=>Int.add (.ofNat m) (.negSucc n)) b) (fun m=>Int.add (.negSucc m) b) a
def Bmd(a b:Int):Int:=@Int.rec (fun _=>Int) (fun m=>@Int.rec (fun _=>Int) (fun n=>Bb (Nat.ble n m) (.ofNat (Nat.sub m n)) (.negSucc (Nat.pred (Nat.sub n m)))) (fun n=>Int.sub (.ofNat m) (.negSucc n)) b) (fun m=>Int.sub (.negSucc m) b) a
def ltI(a b:Int):Bool:=@Int.rec (fun _=>Bool) (fun m=>@Int.rec (fun _=>Bool) (fun n=>Nat.ble (Nat.succ m) n) (fun _=>false) b) (fun m=>ltB (.negSucc m) b) a
def eqI(a b:Int):Bool:=@Int.rec (fun _=>Bool) (fun m=>@Int.rec (fun _=>Bool) (fun n=>Nat.beq m n) (fun _=>false) b) (fun m=>eqB (.negSucc m) b) a
def Apy(b:Bool):Bool:=@Bool.rec (fun _=>Bool) true false b
abbrev IG:=IntKind->Int->Int->EV
def Az0:IG:=fun k a b=>.int k (Cx k (Bmk a b))
def A85:IG:=fun k a b=>.int k (Cx k (Bmd a b))
def Bfc:IG:=fun k a b=>.int k (Cx k (Int.mul a b))
def K7:IG:=fun _ a b=>.bool (ltI a b)
def Bad:IG:=fun _ a b=>.bool (Apy (ltI b a))
def A7s:IG:=fun _ a b=>.bool (ltI b a)
def A83:IG:=fun _ a b=>.bool (Apy (ltI a b))
def Ala:IG:=fun _ a b=>.bool (eqI a b)
def Ake:IG:=fun _ a b=>.bool (Apy (eqI a b))
def Bn6:BinOp->Option IG
 | .add=>some Az0 | .sub=>some A85 | .mul=>some Bfc | .lss=>some K7 | .leq=>some Bad | .gtr=>some A7s | .geq=>some A83 | .eql=>some Ala | .neq=>some Ake
 | _=>none
def Bbf(agg:Bool)(n:Nat)(cs:List EV)(off:Nat)(k:EV->R):R:=Bb agg (oB (fun l=>k (.agg l)) (Mh cs off n)) (oB k (Ays cs off))
def Aaq(place:Nat->Option (Nat × Nat))(l:List (Nat × EV)):List EV->Option (List EV):=
 @List.rec (Nat × EV) (fun _=>List EV->Option (List EV)) (fun c=>some c) (fun x _ d c=>oB (Ba8 fun off size=>Bb x.2.plain (Bb (Nat.beq (F9 x.2.cells) size) (oB d (Mf c off x.2.cells)) none) none) (place x.1)) l
def D5(l:List (Nat × Nat)):Nat->Option (Nat × Nat):=@List.rec (Nat × Nat) (fun _=>Nat->Option (Nat × Nat)) (fun _=>none) (fun a _ d i=>Bb (Nat.beq i 0) (some a) (d (Nat.pred i))) l
def Nc(s:Nat):Nat->Option (Nat × Nat):=fun i=>some (Nat.mul i s,s)
def Bh8(a b:List EV):List EV:=@List.rec EV (fun _=>List EV) b (fun x _ d=>x::d) a
def Em(e:TypeId)(size:Nat)(s x:EV)(h:Ab):R:=
 oB (fun n=>Bb (Nat.beq n 0)
  (match s with
   | .slice _ _ d room _=>Bb (Nat.ble d room) (some (s,h)) none
   | .Ao=>some (s,h)
   | _=>none)
  (Bb (Nat.ble n 65536) (oB (fun new=>
   match s with
   | .Ao=>some (.slice h.next 0 n n true,h.new (.vec new e size))
   | .slice i off d room op=>Bb (Nat.ble d 1048576) (oB (fun Cr=>
    Bb op
     (Bb (Nat.beq off 0) (Bb (Nat.beq room d) (match h.get i with
      | some (.vec l e' s')=>Bb (Nat.beq (F9 l) (Nat.mul d size)) (Bb (Nat.beq s' size) (Bb (Nat.beq e' e)
       (some (.slice h.next 0 (Nat.add d n) (Nat.add d n) true,(h.del i).new (.vec (Bh8 Cr new) e size))) none) none) none
      | _=>none) none) none)
     (Bb (Nat.ble (Nat.add d n) room) none (some (.slice h.next 0 (Nat.add d n) (Nat.add d n) true,h.new (.vec (Bh8 Cr new) e size)))))
    (O1 h size d s)) none
   | _=>none) (O1 h size n x)) none)) (lenOf x)
def Aon(x:Option Dz)(off n:Nat):Option (List EV):=As0 (fun l o=>Mh l o n) off x
def Kv(g:IG)(f:EV->EV->Option EV)(x y:EV)(k:EV->R):R:=
 match x,y with
 | .int c x,.int d y=>Bb (Nat.beq (Qb c) (Qb d)) (k (g c x y)) none
 | x,y=>oB k (f x y)
def Dr(x:EV)(h:Ab)(k:EV->R):R:=Aqk (fun i off=>oB (fun l=>match l with | [v]=>k v|_=>none) (Aon (h.get i) off 1)) x
def Oc(n:Nat)(x:EV)(h:Ab)(k:EV->R):R:=Aqk (fun i off=>oB (fun l=>k (.agg l)) (Aon (h.get i) off n)) x
def stE(n:Nat)(a v:EV)(h:Ab)(k:Ab->R):R:=Aqk (fun i off=>Bb v.plain (Bb (Nat.beq (F9 v.cells) n) (Agk h i (fun l=>Mf l off v.cells) k) none) none) a
def X8(s:Nat)(x ix:EV)(k:EV->R):R:=Bmt (fun j=>match x with | .slice i off len _ _=>Bb (Nat.ble (Nat.succ j) len) (k (.ptr i (Nat.add off (Nat.mul j s)))) none|_=>none) ix
def Apd(c a b:EV)(k:EV->R):R:=onB (k a) (k b) c
def Af0(f:EV->EV->Option EV)(a b:EV)(k:EV->R):R:=oB k (f a b)
def Afz(v:EV)(k:EV->R):R:=onB (k (.bool false)) (k (.bool true)) v
def A9d(v:EV)(k:EV->R):R:=match v with | .int c n=>k (.int c (Cx c (Int.sub 0 n)))|_=>none
def Ap7(v:EV)(k:EV->R):R:=Aqk (fun i o=>k (.ptr i o)) v
def Ady(c:Nat)(v:EV)(k:EV->R):R:=Aqk (fun i o=>k (.ptr i (Nat.add o c))) v
def Au9(len s:Nat)(v ix:EV)(k:EV->R):R:=Bmt (fun j=>Aqk (fun i off=>Bb (Nat.ble (Nat.succ j) len) (k (.ptr i (Nat.add off (Nat.mul j s)))) none) v) ix
def Aw0(len s:Nat)(agg:Bool)(n:Nat)(v ix:EV)(k:EV->R):R:=Bmt (fun j=>Bjs (fun cs=>Bb (Nat.ble (Nat.succ j) len) (Bbf agg n cs (Nat.mul j s) k) none) v) ix
def Aii(off:Nat)(agg:Bool)(n:Nat)(v:EV)(k:EV->R):R:=Bjs (fun cs=>Bbf agg n cs off k) v
def Sj(c:IntKind)(v:EV)(k:EV->R):R:=Bm7 (fun _ n=>k (.int c (Cx c n))) v
def An9(ix:Nat)(v:EV)(k:EV->R):R:=Bm8 (fun l=>oB k (Ays l ix)) v
def Au8(o:Dz)(h:Ab)(k:EV->Ab->R):R:=k (.ptr h.next 0) (h.new o)
def Py(t:TypeId)(v:EV)(h:Ab)(k:EV->Ab->R):R:=Bb v.plain (k (.ptr h.next 0) (h.new (.cells v.cells t))) none
def Hz(v:EV)(k:EV->R):R:=oB (fun n=>k (.int .i64 (.ofNat n))) (lenOf v)
def Ap(x:R)(k:EV->Ab->R):R:=oB (Ba8 k) x
def Rn(c r:Ai)(f:EV)(args:List EV)(h:Ab):R:=match f with
 | .func g a cs=>c g (Bh8 a (Bh8 args cs)) h
 | .Sy l=>r l args h
 | _=>none
def Bu(place:Nat->Option (Nat × Nat))(z:List EV)(ps:List (Nat × EV))(k:EV->R):R:=oB (fun c=>k (.agg c)) (Aaq place ps z)
def Azf(n:Nat)(v:EV)(k:EV->R):R:=match v with | .slice i off len _ _=>Bb (Nat.ble n len) (k (.ptr i off)) none|_=>none
def Aik(s:Nat)(v:EV)(d e i:Option EV)(k:EV->R):R:=oB k (slc v s d e i)
def Qi(n s:Nat)(v:EV)(d e j:Option EV)(k:EV->R):R:=Aqk (fun i off=>oB k (slc (.slice i off n n false) s d e j)) v
def Vb(z:List EV)(e:TypeId)(l c:EV)(h:Ab):R:=
 match l,c with
 | .int _ (.ofNat n),.int _ (.ofNat m)=>Bb (Nat.ble n m) (Bb (Nat.ble m 65536) (some (.slice h.next 0 n m false,h.new (.cells (rep z m) e))) none) none
 | _,_=>none
def Cd(z:List EV)(e:TypeId)(s n:Nat)(ps:List (Nat × EV))(h:Ab):R:=
 Bb (Nat.ble (Nat.mul n s) 65536) (oB (fun c=>some (.slice h.next 0 n n false,h.new (.cells c e))) (Aaq (Nc s) ps (rep z n))) none
def As6(h:Ab):R:=some (.map h.next,h.new (.map []))
def Apo(s:EV)(h:Ab):R:=match s with | .int _ (.ofNat n)=>Bb (Nat.ble n 65536) (some (.chan h.next,h.new (.chan n []))) none|_=>none
def Aph(T:Ih)(j e:TypeId)(ok:Bool)(m ix:EV)(h:Ab):R:=
 match m with
 | .map i=>Bb (Om T j ix) (match h.get i with
  | some (.map es)=>match H0 ix es 0 with
   | some (some (_,v))=>some (Bb ok (.tuple [v,.bool true]) v,h)
   | some none=>oB (fun d=>some (Bb ok (.tuple [d,.bool false]) d,h)) (zeroOf T e)
   | none=>none
  | _=>none) none
 | _=>none
def Zq(T:Ih)(d:TypeId)(m ix x:EV)(h:Ab):R:=
 match m with
 | .map i=>Bb (Om T d ix) (match h.get i with
  | some (.map es)=>match H0 ix es 0 with
   | some (some (j,_))=>some (.tuple [],h.put i (.map (es.set j (ix,x))))
   | some none=>some (.tuple [],h.put i (.map (es++[(ix,x)])))
   | none=>none
  | _=>none) none
 | _=>none
def Ay1(c x:EV)(h:Ab):R:=
 match c with
 | .chan i=>match h.get i with
  | some (.chan cap buf)=>Bb (Nat.ble (Nat.succ (len buf)) cap) (some (.tuple [.int .i64 0,.bool false],h.put i (.chan cap (buf++[x])))) (some (.tuple [.int .i64 (-1),.bool false],h))
  | _=>none
 | _=>none
def Ay5(d:EV)(c:EV)(h:Ab):R:=
 match c with
 | .chan i=>match h.get i with
  | some (.chan cap buf)=>match buf with
   | v::r=>some (.tuple [.int .i64 0,.bool true,v],h.put i (.chan cap r))
   | []=>some (.tuple [.int .i64 (-1),.bool false,d],h)
  | _=>none
 | _=>none
def A3p(c:EV)(h:Ab):R:=match c with | .chan i=>(match h.get i with|some (.chan _ buf)=>some (.int .i64 (.ofNat (len buf)),h)|_=>none)|_=>none
def ifE(v:EV)(x y:R):R:=onB x y v
inductive RV where
 | v (x:EV)
 | c (a:EV) (t:TypeId)
def Axa(T:Ih)(h:Ab):List RV->Option (List EV)
 | []=>some []
 | .v x::r=>match Axa T h r with|some l=>some (x::l)|none=>none
 | .c a t::r=>match a,Axa T h r,T.size t with
  | .ptr i off,some l,some n=>match Jg h i off n with
   | some cs=>match T.agg t with
    | some true=>some (.agg cs::l)
    | some false=>(match cs with | [v]=>some (v::l)|_=>none)
    | none=>none
   | none=>none
  | _,_,_=>none
def I9(T:Ih)(l:List RV)(h:Ab):R:=match Axa T h l with|some [v]=>some (v,h)|some l=>some (.tuple l,h)|none=>none
def Ff(l:Nat)(h:Ab)(k:Ab->R):R:=match h.get l with
 | some (.loop .ready p f i e ps asg body d)=>k (h.put l (.loop .busy p f i e ps asg body d))
 | _=>none
def A48(l:Nat)(r:R)(k:Ab->R)(ex:Nat->Ab->R)(ret:Ab->R):R:=match r with
 | none=>none
 | some (_,h)=>match h.get l with
  | some (.loop st p f i e ps asg body d)=>match st with
   | .busy=>none
   | _=>match p with
    | none=>k (h.put l (.loop .exhausted p f i e ps asg body d))
    | some (.exit id)=>ex id (h.put l (.loop .exhausted p f i e ps asg body d))
    | some .ret=>ret (h.put l (.loop .exhausted p f i e ps asg body d))
    | some _=>none
  | _=>none
def Su(l:Nat)(v:Bool)(st:LoopState)(jump:Option Code)(h:Ab):R:=match h.get l with
 | some (.loop _ _ f n tm ps asg body d)=>some (.bool v,h.put l (.loop st jump f n tm ps asg body d))
 | _=>none
def Aiq:Code->List (Operand × List Tmp × Code × Code)
 | .seq a b=>Aiq a++Aiq b
 | .cond _ a b=>Aiq a++Aiq b
 | .block _ c=>Aiq c
 | .loop c=>Aiq c
 | .rangeFunc f ps a b=>(f,ps.toList,a,b)::(Aiq a++Aiq b)
 | .scope c=>Aiq c
 | _=>[]
def Bpq {α:Type}:List α->Nat->Option α
 | [],_=>none
 | a::r,n=>Bb (Nat.beq n 0) (some a) (Bpq r (Nat.pred n))
def Dt(T:Ih)(g i:Nat):Operand × List Tmp × Code × Code:=match T.fn g with|some { body:=some c,.. }=>(match Bpq (Aiq c) i with|some x=>x|none=>(.tmp 0,[],.skip,.skip))|_=>(.tmp 0,[],.skip,.skip)
def Q2(c:Ai)(T:Ih)(g n i:Nat)(f:EV)(tm:Ax)(h:Ab)(ds:List Nat)(k:Ab->List Nat->R)(ex:Nat->Ab->List Nat->R)(ret:Ab->List Nat->R):R:=match f with
 | .func q first captured=>A48 (Nat.succ h.next) (c q (first++(.Sy (Nat.succ h.next)::captured)) ((h.new (.deferred true)).new (.loop .ready none g n tm (Dt T g i).2.1 (Dt T g i).2.2.1 (Dt T g i).2.2.2 h.next)))
  (fun h'=>k h' (h.next::ds)) (fun id h'=>ex id h' (h.next::ds)) (fun h'=>ret h' (h.next::ds))
 | _=>none
def Ak2(c:Ai)(T:Ih)(g n i l0:Nat)(f:EV)(tm:Ax)(h:Ab)(ds:List Nat)(k:Ab->List Nat->R)(ex:Nat->Ab->List Nat->R)(ret:Ab->List Nat->R):R:=match f with
 | .func q first captured=>match h.get l0 with
  | some (.loop _ _ _ _ _ _ _ _ d)=>A48 h.next (c q (first++(.Sy h.next::captured)) (h.new (.loop .ready none g n tm (Dt T g i).2.1 (Dt T g i).2.2.1 (Dt T g i).2.2.2 d)))
   (fun h'=>k h' ds) (fun id h'=>ex id h' ds) (fun h'=>ret h' ds)
  | _=>none
 | _=>none
structure DX where
 bg:Nat
 nw:List (Nat × Nat)
 Cy:List (Nat × Nat)
 lou:List (Nat × Nat)
 st:List (Nat × Nat)
def A4k(b base q:Nat)(s:DX):Bool:=Bb (F2 b q s.st) (Bb (Nat.ble (Nat.succ q) base) (Z2 b q s.lou) (Bb (within s.bg b) (match loose b s.nw with | []=>true|_=>false) false)) false
def Bch(b q:Nat)(s:DX):Bool:=Bb (within s.bg b) (Bb (F2 b q s.st) (Bb (F2 b q s.Cy) (Axw q (loose b s.nw)) false) false) false
def Al7(b:Nat)(s:DX):Bool:=Bb (within s.bg b) (Av8 b s.st) false
def DX.ld(s:DX)(i q:Nat):DX:=⟨s.bg,s.nw,(Nat.shiftLeft 1 i,q)::s.Cy,s.lou,s.st⟩
def DX.new(s:DX)(i q:Nat):DX:=⟨s.bg,(Nat.shiftLeft 1 i,q)::s.nw,s.Cy,s.lou,s.st⟩
def DX.sto(s:DX)(i q:Nat):DX:=⟨s.bg,s.nw,s.Cy,s.lou,(Nat.shiftLeft 1 i,q)::s.st⟩
def DX.big(s:DX)(i:Nat):DX:=⟨Nat.lor s.bg (Nat.shiftLeft 1 i),s.nw,s.Cy,s.lou,s.st⟩
def DX.Ai3(s:DX)(i w:Nat):DX:=⟨Nat.lor s.bg (Nat.shiftLeft 1 i),s.nw,s.Cy,(Nat.shiftLeft 1 i,w)::s.lou,s.st⟩
def Po(i b:Nat)(s:DX)(h h':Ab)(k:DX->Ab->R):R:=
 Bb (Nat.ble h.next h'.mw)
  (k (s.big i) ⟨Ab9 h.t h'.t (loose b s.nw),h'.next,h.mw⟩)
  (Bb (Abb b h'.mw s.Cy)
   (k (s.Ai3 i h'.mw) ⟨Ab9 h.t h'.t (loose b s.nw),h'.next,Bb (Nat.ble h.mw h'.mw) h.mw h'.mw⟩)
   none)
def K0(b:Nat)(s:DX)(h:Ab):Ab:=⟨Ab5 h.t (loose b s.nw),h.next,h.next⟩
def Akr(T:Ih)(op:Op):Bool:=
 match cls op with
 | .val=>true
 | .load=>true
 | .pur=>match op with
  | .call { callee:=.builtin .len,argTypes,.. }=>match argTypes.toList with
   | [t]=>match T.Tv t with|some (.slice _)=>true|_=>false
   | _=>false
  | .call { callee:=.builtin .min,.. }=>true
  | .call { callee:=.builtin .max,.. }=>true
  | _=>false
 | _=>false
def Ato(T:Ih)(l:List Oper):Bool:=match l with | []=>true|o::r=>Bb (Akr T o.op) (Ato T r) false
def Ass(T:Ih)(l:List Oper):Bool:=Bb (Ato T l) (Bb (Anb l 0) (Ak9 l (Oh l 0 .nil) l 0 []) false) false
def Ts(h:Ab)(k:Nat->DX->R):R:=k h.next ⟨0,[],[],[],[]⟩
def Hb(i b base:Nat)(x:EV)(s:DX)(k:DX->R):R:=Aqk (fun q _=>Bb (A4k b base q s) (k (s.ld i q)) none) x
def A97(i:Nat)(h:Ab)(s:DX)(k:DX->R):R:=k (s.new i h.next)
def Bdc(i b:Nat)(x:EV)(s:DX)(k:DX->R):R:=Aqk (fun q _=>Bb (Bch b q s) (k (s.sto i q)) none) x
def Bo5(h:Ab)(k:Ab->R):R:=k ⟨.nil,h.next,h.next⟩
def Ds(i b:Nat)(s:DX)(h:Ab)(call:Ab->R)(k:EV->Ab->DX->R):R:=Bb (Al7 b s) (Ap (call (K0 b s h)) fun v h'=>Po i b s h h' fun s h=>k v h s) none
def Fj(v:EV)(w:Bool):Bool:=match v with | .bool b=>Bb b w (Apy w)|_=>false
abbrev VS:=Nat->EV
abbrev CD:=VS->Ax->Ab->List Nat->R
abbrev Bhc(e:VS)(d:Nat)(v:EV):VS:=fun i=>Bb (Nat.beq d i) v (e i)
abbrev Eh(d:VS)(x:Operand):Option EV:=match x with
 | .tmp t=>some (d t)
 | .const v=>ofV v
 | .global _=>none
 | .func f=>some (.func f [] [])
abbrev Ar1(d:VS)(l:List Operand):Option (List EV):=@List.rec Operand (fun _=>Option (List EV)) (some []) (fun x _ i=>match Eh d x,i with|some e,some es=>some (e::es)|_,_=>none) l
abbrev Axg(d:VS)(l:List (Nat × Operand)):Option (List (Nat × EV)):=@List.rec (Nat × Operand) (fun _=>Option (List (Nat × EV))) (some []) (fun x _ i=>match Eh d x.2,i with|some e,some es=>some ((x.1,e)::es)|_,_=>none) l
abbrev A3u(d:VS)(x:Option Operand):Option (Option EV):=match x with
 | none=>some none
 | some x=>(match Eh d x with|some e=>some (some e)|none=>none)
abbrev opD(T:Ih)(call o round:Ai)(op:Op)(d:VS)(h:Ab)(k:EV->Ab->R):R:=
 match op with
 | .move x=>(match Eh d x with|some e=>k e h|none=>none)
 | .assign x=>(match Eh d x with|some e=>k e h|none=>none)
 | .pick c a b=>(match Eh d c,Eh d a,Eh d b with|some c,some a,some b=>Apd c a b fun v=>k v h|_,_,_=>none)
 | .binOp op t x y _=>(match Eh d x,Eh d y with
  | some a,some b=>(match Bn6 op with|some g=>Kv g (bin T op t) a b fun v=>k v h|none=>Af0 (bin T op t) a b fun v=>k v h)
  | _,_=>none)
 | .unOp .not _ x=>(match Eh d x with|some e=>Afz e fun v=>k v h|none=>none)
 | .nilCheck x=>(match Eh d x with|some e=>Ap7 e fun v=>k v h|none=>none)
 | .fieldAddr s x f=>(match Eh d x,T.Tv s with
  | some e,some (.struct fields)=>(match A2q fields.toList f with
   | some fd=>(match T.size fd.type with|some n=>Bb (Nat.beq n 0) none (Ady fd.offset e fun v=>k v h)|none=>none)
   | none=>none)
  | _,_=>none)
 | .indexAddr t x ix=>(match Eh d x,Eh d ix,T.Tv t with
  | some e,some ix,some (.array len j)=>(match T.size j with|some s=>Au9 len s e ix fun v=>k v h|none=>none)
  | some e,some ix,some (.slice j)=>(match T.size j with|some s=>X8 s e ix fun v=>k v h|none=>none)
  | _,_,_=>none)
 | .index t x ix=>(match Eh d x,Eh d ix,T.Tv t with
  | some e,some B,some (.array len j)=>(match T.size j,T.agg j with|some s,some agg=>Aw0 len s agg s e B fun v=>k v h|_,_=>none)
  | _,_,_=>none)
 | .field t x f=>(match Eh d x,T.Tv t with
  | some e,some (.struct fields)=>(match A2q fields.toList f with
   | some fd=>(match T.agg fd.type with
    | some true=>(match T.size fd.type with|some n=>Aii fd.offset true n e fun v=>k v h|none=>none)
    | some false=>Aii fd.offset false 0 e fun v=>k v h
    | none=>none)
   | none=>none)
  | _,_=>none)
 | .convert src dst x=>(match Eh d x,T.Tv src,T.Tv dst with|some e,some _,some (.int c)=>Sj c e fun v=>k v h|_,_,_=>none)
 | .extract x ix=>(match Eh d x with|some e=>An9 ix e fun v=>k v h|none=>none)
 | .load t x=>(match Eh d x,T.agg t with
  | some e,some true=>(match T.size t with|some n=>Oc n e h fun v=>k v h|none=>none)
  | some e,some false=>Dr e h fun v=>k v h
  | _,_=>none)
 | .store t a x=>(match Eh d a,Eh d x,T.size t with|some a,some x,some n=>stE n a x h fun h=>k (.tuple []) h|_,_,_=>none)
 | .alloc t=>(match T.zero t with|some z=>Au8 (.cells z t) h k|none=>none)
 | .box t x=>(match Eh d x with|some e=>Py t e h k|none=>none)
 | .call { callee:=.value (.func g),args,.. }=>(match Ar1 d args.toList with|some xs=>Ap (call g xs h) k|none=>none)
 | .call { callee:=.value f,args,.. }=>(match Eh d f,Ar1 d args.toList with|some e,some xs=>Ap (Rn o round e xs h) k|_,_=>none)
 | .call { callee:=.builtin .append,args,argTypes }=>(match args.toList,argTypes.toList with
  | [s,x],[t,u]=>(match Eh d s,Eh d x,T.Tv u,T.Tv t with
   | some a,some b,some (.slice _),some (.slice e)=>(match T.size e,T.zero e with
    | some size,some _=>Ap (Em e size a b h) k
    | _,_=>none)
   | _,_,_,_=>none)
  | _,_=>none)
 | .call { callee:=.builtin .len,args,argTypes }=>(match args.toList,argTypes.toList with
  | [x],[t]=>(match Eh d x,T.Tv t with
   | some e,some (.slice _)=>Hz e fun v=>k v h
   | some e,some (.chan ..)=>Ap (A3p e h) k
   | some e,_=>Ap (builtin T .len argTypes [e] h) k
   | _,_=>none)
  | _,_=>none)
 | .call { callee:=.builtin b,args,argTypes }=>(match Ar1 d args.toList with|some xs=>Ap (builtin T b argTypes xs h) k|none=>none)
 | .unOp .neg _ x=>(match Eh d x with|some e=>A9d e fun v=>k v h|none=>none)
 | .build t ps=>(match T.zero t,Axg d ps.toList,T.Tv t with
  | some z,some l,some (.struct fields)=>(match placesOf T fields.toList with
   | some ps=>Bu (D5 ps) z l fun v=>k v h
   | none=>none)
  | some z,some l,some (.array _ e)=>(match T.size e with
   | some s=>Bu (Nc s) z l fun v=>k v h
   | none=>none)
  | _,_,_=>none)
 | .buildSlice t n ps=>(match T.Tv t,Axg d ps.toList with
  | some (.slice e),some l=>(match T.size e,T.zero e with
   | some s,some z=>Ap (Cd z e s n l h) k
   | _,_=>none)
  | _,_=>none)
 | .makeFunc (.func f) first captured=>(match Ar1 d first.toList,Ar1 d captured.toList with|some a,some b=>k (.func f a b) h|_,_=>none)
 | .sliceToArrayPointer t x=>(match Eh d x,T.Tv t with|some e,some (.array n _)=>Azf n e fun v=>k v h|_,_=>none)
 | .slice t x p q A=>(match Eh d x,A3u d p,A3u d q,A3u d A with
  | some e,some p,some q,some A=>(match T.Tv t with
   | some (.array n j)=>(match T.size j with|some s=>Qi n s e p q A fun v=>k v h|none=>none)
   | some (.slice j)=>(match T.size j with|some s=>Aik s e p q A fun v=>k v h|none=>none)
   | _=>none)
  | _,_,_,_=>none)
 | .makeSlice t l c=>(match Eh d l,Eh d c,T.Tv t with
  | some l,some c,some (.slice e)=>(match T.zero e with|some z=>Ap (Vb z e l c h) k|none=>none)
  | _,_,_=>none)
 | .makeMap _ none=>Ap (As6 h) k
 | .makeChan t s=>(match Eh d s,T.Tv t with
  | some s,some (.chan _ e)=>(match T.size e with|some _=>Ap (Apo s h) k|none=>none)
  | _,_=>none)
 | .lookup t x ix ok=>(match Eh d x,Eh d ix,T.Tv t with|some m,some i,some (.map C e)=>Ap (Aph T C e ok m i h) k|_,_,_=>none)
 | .mapUpdate t m ix x=>(match Eh d m,Eh d ix,Eh d x,T.Tv t with|some m,some i,some x,some (.map C _)=>Ap (Zq T C m i x h) k|_,_,_,_=>none)
 | .select cs false=>(match cs.toList with
  | [c]=>(match c.send with
   | some x=>(match Eh d c.chan,Eh d x,zeroOf T c.elem with|some c,some x,some _=>Ap (Ay1 c x h) k|_,_,_=>none)
   | none=>(match Eh d c.chan,zeroOf T c.elem with|some c,some D=>Ap (Ay5 D c h) k|_,_=>none))
  | _=>none)
 | _=>none
abbrev Mode:=Option ((Nat × Bool) × Bool)
def eqW(a b:Bool):Bool:=Bb a b (Apy b)
def Avf(m:Mode)(g:Nat × Bool):Option Bool:=match m with|some x=>Bb (Bb (Nat.beq x.1.1 g.1) (eqW x.1.2 g.2) false) (some x.2) none|none=>none
def Ago(ops:List Oper)(g:Nat × Bool)(b:Bool)(dst:Option Tmp):Mode:=
 match Aw5 ops g.1 with
 | some o=>(match o.dst with
  | some d=>(match dst with|some e=>Bb (Nat.beq d e) none (some (g,b))|none=>some (g,b))
  | none=>some (g,b))
 | none=>some (g,b)
abbrev Afx(n:Nat)(d:Option Tmp)(e:VS)(v:EV):VS:=match d with|none=>e|some d=>Bb (Nat.ble (Nat.succ d) n) (Bhc e d v) e
abbrev A7z(ops:List Oper)(e:VS)(g:Nat × Bool):Bool:=match Aw5 ops g.1 with
 | some o=>(match o.dst with|some d=>Fj (e d) g.2|none=>false)
 | none=>false
abbrev Bol(fl:Bool)(n:Nat)(tm:Ax)(d:Option Tmp)(v:EV):Ax:=Bb fl (Ps n tm d v) tm
abbrev Bp1(n:Nat)(tm:Ax)(d:Option Tmp)(v:EV):Ax:=match d with|none=>tm|some d=>@Bool.rec (fun _=>Ax) tm (tm.put d (some v)) (Nat.ble (Nat.succ d) n)
abbrev thn(fl:Bool)(n:Nat)(tm:Ax)(d:Option Tmp)(v:EV)(F:Ax->R):R:=@Bool.rec (fun _=>R) (F tm) (F (Bp1 n tm d v)) fl
def Auf(c:Code):Bool:=@Code.rec (fun _=>Bool) false (fun _ _ _=>false) (fun _ _ a b=>Bb a true b) (fun _ _ _ a b=>Bb a true b) (fun _ _ a=>a) (fun _ a=>a)
 (fun _ _ _ _ _ _=>true) (fun _=>false) (fun _ a=>a) (fun _=>false) (fun _=>false) false (fun _=>false) c
abbrev Bcx(fl:Bool)(T:Ih)(call d round:Ai)(n:Nat)(ops:List Oper)(fin:CD)(l:List Oper):Mode->CD:=
 @List.rec Oper (fun _=>Mode->CD) (fun _=>fin) (fun o _ i m=>@Option.rec (Nat × Bool) (fun _=>CD) (fun e tm h ds=>opD T call d round o.op e h fun v h=>thn fl n tm o.dst v fun tm=>i none (Afx n o.dst e v) tm h ds)
  (fun g e tm h ds=>match Avf m g with
   | some true=>opD T call d round o.op e h fun v h=>thn fl n tm o.dst v fun tm=>i (Ago ops g true o.dst) (Afx n o.dst e v) tm h ds
   | some false=>thn fl n tm o.dst (.tuple []) fun tm=>i (Ago ops g false o.dst) (Afx n o.dst e (.tuple [])) tm h ds
   | none=>Bb (A7z ops e g) (opD T call d round o.op e h fun v h=>thn fl n tm o.dst v fun tm=>i (Ago ops g true o.dst) (Afx n o.dst e v) tm h ds) (thn fl n tm o.dst (.tuple []) fun tm=>i (Ago ops g false o.dst) (Afx n o.dst e (.tuple [])) tm h ds)) o.guard) l
abbrev A69(T:Ih)(call d round:Ai)(op:Op)(i b base:Nat)(s:DX)(j:VS)(h:Ab)(k:DX->EV->Ab->R):R:=
 match cls op with
 | .val=>opD T call d round op j h (k s)
 | .load=>(match op with | .load t x=>(match Eh j x with|some e=>Hb i b base e s fun s=>opD T call d round (.load t x) j h (k s)|none=>none)|_=>none)
 | .new=>A97 i h s fun s=>opD T call d round op j h (k s)
 | .sto=>(match op with | .store t a x=>(match Eh j a with|some e=>Bdc i b e s fun s=>opD T call d round (.store t a x) j h (k s)|none=>none)|_=>none)
 | .pur=>Bo5 h fun h0=>opD T call d round op j h0 fun v _=>k s v h
 | .big=>Bb (Al7 b s) (opD T call d round op j (K0 b s h) fun v h'=>Po i b s h h' fun s h=>k s v h) none
abbrev Aqx(fl:Bool)(T:Ih)(call d round:Ai)(n:Nat)(ops:List Oper)(bs:Tr Nat)(base:Nat)(fin:CD)(l:List Oper):Nat->Mode->DX->CD:=
 @List.rec Oper (fun _=>Nat->Mode->DX->CD) (fun _ _ _=>fin) (fun o _ j i m s e tm h ds=>match bs.get i with
  | none=>none
  | some b=>@Option.rec (Nat × Bool) (fun _=>R) (A69 T call d round o.op i b base s e h fun s v h=>thn fl n tm o.dst v fun tm=>j (Nat.succ i) none s (Afx n o.dst e v) tm h ds)
   (fun g=>match Avf m g with
    | some true=>A69 T call d round o.op i b base s e h fun s v h=>thn fl n tm o.dst v fun tm=>j (Nat.succ i) (Ago ops g true o.dst) s (Afx n o.dst e v) tm h ds
    | some false=>thn fl n tm o.dst (.tuple []) fun tm=>j (Nat.succ i) (Ago ops g false o.dst) s (Afx n o.dst e (.tuple [])) tm h ds
    | none=>Bb (A7z ops e g) (A69 T call d round o.op i b base s e h fun s v h=>thn fl n tm o.dst v fun tm=>j (Nat.succ i) (Ago ops g true o.dst) s (Afx n o.dst e v) tm h ds) (thn fl n tm o.dst (.tuple []) fun tm=>j (Nat.succ i) (Ago ops g false o.dst) s (Afx n o.dst e (.tuple [])) tm h ds)) o.guard) l
abbrev A4b(fl:Bool)(T:Ih)(call d round:Ai)(n:Nat)(ops:List Oper)(fin:CD):CD:=fun e tm h ds=>
 @Bool.rec (fun _=>R) none (@Bool.rec (fun _=>R) none (Ts h fun base s=>Aqx fl T call d round n ops (Oh ops 0 .nil) base fin ops 0 none s e tm h ds) (Ak9 ops (Oh ops 0 .nil) ops 0 [])) (Anb ops 0)
abbrev Afy:=List (Nat × CD)
abbrev A9m(out:Nat->CD)(env:Afy)(id:Nat):CD:=@List.rec (Nat × CD) (fun _=>CD) (out id) (fun p _ e d tm h ds=>@Prod.rec Nat CD (fun _=>R) (fun j k=>Bb (Nat.beq j id) (k d tm h ds) (e d tm h ds)) p) env
abbrev A1x(c:CD->CD)(fuel:Nat):CD:=@Nat.rec (fun _=>CD) (fun _ _ _ _=>none) (fun _ d=>c d) fuel
abbrev Bau(call:Ai)(fn n:Nat)(Dp:Option Nat)(f:EV)(ps:List Tmp)(asg body:Code)(tm:Ax)(h:Ab)(ds:List Nat)(k:Ab->List Nat->R)(ex:Nat->Ab->List Nat->R)(ret:Ab->List Nat->R):R:=match f with
 | .func q first captured=>(match Dp with
  | none=>A48 (Nat.succ h.next) (call q (first++(.Sy (Nat.succ h.next)::captured)) ((h.new (.deferred true)).new (.loop .ready none fn n tm ps asg body h.next))) (fun h'=>k h' (h.next::ds)) (fun id h'=>ex id h' (h.next::ds)) (fun h'=>ret h' (h.next::ds))
  | some l0=>(match h.get l0 with
   | some (.loop _ _ _ _ _ _ _ _ d)=>A48 h.next (call q (first++(.Sy h.next::captured)) (h.new (.loop .ready none fn n tm ps asg body d))) (fun h'=>k h' ds) (fun id h'=>ex id h' ds) (fun h'=>ret h' ds)
   | _=>none))
 | _=>none
abbrev Abo(fl:Bool)(T:Ih)(call d round:Ai)(fuel fn n:Nat)(Dp:Option Nat)(out:Nat->CD)(ret:CD)(c:Code):Afy->CD->CD:=
 @Code.rec (fun _=>Afy->CD->CD) (fun _ k=>k)
  (fun _ ops dr _ k=>@Bool.rec (fun _=>CD) (Bcx fl T call d round n ops.toList k ops.toList none) (@Bool.rec (fun _=>CD) (A4b fl T call d round n ops.toList k) (Bcx fl T call d round n ops.toList k ops.toList none) (Ass T ops.toList)) dr)
  (fun _ _ a b env k=>a env (b env k))
  (fun c _ _ a b env k i tm h ds=>match Eh i c with|some e=>ifE e (a env k i tm h ds) (b env k i tm h ds)|none=>none)
  (fun id _ c env k=>c ((id,k)::env) k)
  (fun _ c env _=>A1x (fun j=>c env j) fuel)
  (fun f ps asg body _ _ env k i tm h ds=>@Bool.rec (fun _=>R) none (match Eh i f with|some e=>Bau d fn n Dp e ps.toList asg body tm h ds (fun h ds=>k i tm h ds) (fun id h ds=>A9m out env id i tm h ds) (fun h ds=>ret i tm h ds)|none=>none) fl)
  (fun id env _=>A9m out env id) (fun _ _ _ _ _ _ _ _=>none) (fun _ _ k=>k) (fun _ _ _ _ _ _ _=>none) (fun _ _=>ret) (fun _ _ _ _ _ _ _=>none) c
def Fp(ds:List Nat)(h:Ab)(k:Ab->R):R:=
 @List.rec Nat (fun _=>Ab->R) k (fun d _ e h=>match h.get d with|some (.deferred true)=>e (h.put d (.deferred false))|_=>none) ds h
abbrev rvD(d:VS):ResultVar->RV
 | .tmp t=>.v (d t)
 | .cell a t=>.c (d a) t
abbrev A20(T:Ih)(res:List ResultVar)(d:VS)(h:Ab):R:=match res with
 | [.tmp t]=>some (d t,h)
 | []=>some (.tuple [],h)
 | [.tmp s,.tmp t]=>some (.tuple [d s,d t],h)
 | res=>I9 T (res.map (rvD d)) h
abbrev Bis(fl:Bool)(T:Ih)(res:List ResultVar):CD:=fun d _ h ds=>@Bool.rec (fun _=>R) (A20 T res d h) (Fp ds h fun h=>A20 T res d h) fl
abbrev A46(l:List EV):Nat->VS->VS:=@List.rec EV (fun _=>Nat->VS->VS) (fun _ d=>d) (fun v _ e i d=>e (Nat.succ i) (Bhc d i v)) l
abbrev u0:VS:=fun _=>.tuple []
abbrev no0:Nat->CD:=fun _ _ _ _ _=>none
def Axb(T:Ih)(call round:Ai)(fuel f:Nat)(args:List EV)(h:Ab):R:=
 match T.fn f with
 | some { ntmps:=n,body:=some c,results:=res,.. }=>Bb (Nat.ble (F9 args) n) (Abo (Auf c) T call call round fuel f n none no0 (Bis (Auf c) T res.toList) c [] (Bis (Auf c) T res.toList) (A46 args 0 u0) (setArgs args 0 .nil) h []) none
 | _=>none
abbrev Bj4(n:Nat)(ps:List Tmp):List EV->VS->VS:=@List.rec Tmp (fun _=>List EV->VS->VS) (fun _ d=>d) (fun p _ e args d=>@List.rec EV (fun _=>VS) d (fun v r _=>e r (Afx n (some p) d v)) args) ps
abbrev Ban(T:Ih)(call d round:Ai)(fuel l f n:Nat)(asg body:Code):CD:=
 Abo true T call d round fuel f n (some l) (fun id _ _ h _=>Su l false .done (some (.exit id)) h) (fun _ _ h _=>Su l false .done (some .ret) h) asg []
  fun e tm h ds=>Ff l h fun h=>Abo true T call d round fuel f n (some l) (fun id _ _ h _=>Su l false .done (some (.exit id)) h) (fun _ _ h _=>Su l false .done (some .ret) h) body [] (fun _ _ h _=>Su l true .ready none h) e tm h ds
def Au6(T:Ih)(call round:Ai)(fuel l:Nat)(args:List EV)(h:Ab):R:=
 match h.get l with
 | some (.loop _ _ f n tm ps asg body _)=>match Vw ps args n tm with
  | some d=>Ban T call call round fuel l f n asg body (Bj4 n ps args (tmp tm)) d h []
  | none=>none
 | _=>none
end
variable {k:List EV->R}{m:Mode}{cf fin:CD}
section
theorem Ahb(l:List EV):F9 l=len l:=by
 induction l with
 | nil=>rfl
 | cons a r d=>exact congrArg Nat.succ d
theorem A3s:∀(l:List EV) (n:Nat),Ays l n=match Yu l n with|v::_=>some v | []=>none
 | [],n=>rfl
 | a::r,n=>by
  have e:Ays (a::r) n=Bb (Nat.beq n 0) (some a) (Ays r (Nat.pred n)):=rfl;rw[e];simp only[Yu];cases Nat.beq n 0
  ·exact A3s r _
  ·rfl
theorem A5a:∀(l:List EV) (n:Nat),Baw l n=Yu l n
 | [],n=>rfl
 | a::r,n=>by
  have e:Baw (a::r) n=Bb (Nat.beq n 0) (a::r) (Baw r (Nat.pred n)):=rfl;rw[e];simp only[Yu];rw[A5a r]
theorem Ay0(a:EV)(x:Option (List EV)):Aye a x=match x with|some x=>some (a::x)|none=>none:=by cases x<;>rfl
theorem Ayb:∀(l:List EV) (n:Nat),A40 l n=takeN l n
 | [],n=>rfl
 | a::r,n=>by
  have e:A40 (a::r) n=Bb (Nat.beq n 0) (some []) (Aye a (A40 r (Nat.pred n))):=rfl;rw[e];simp only[takeN];rw[Ayb r,Ay0];cases takeN r (Nat.pred n)<;>rfl
theorem A14:∀(l:List EV),takeN l (len l)=some l
 | []=>rfl
 | a::r=>by
  simp only[takeN,len];rw[show Nat.beq (Nat.succ (len r)) 0=false from rfl,Bl,Nat.pred_succ,A14 r]
theorem A81(l:List EV):Yu l 0=l:=by cases l<;>rfl
theorem Ag1(l:List EV)(off n:Nat):Mh l off n=takeN (Yu l off) n:=by
 unfold Mh;rw[A5a,Ayb,Ayb,Ahb];cases h:Nat.beq off 0
 ·rfl
 ·have:=aJ h;subst this
  rw[A81];cases d:Nat.beq (len l) n
  ·rfl
  ·have:=aJ d;subst this
   rw[A14];rfl
theorem Ayo:∀(vs l:List EV),Azp vs l=Jt l vs
 | [],l=>by cases l<;>rfl
 | v::vs,[]=>rfl
 | v::vs,a::r=>by
  have e:Azp (v::vs) (a::r)=Aye v (Azp vs r):=rfl;rw[e];simp only[Jt];rw[Ayo vs r,Ay0];cases Jt r vs<;>rfl
theorem Asm(vs:List EV):∀(l:List EV) (n:Nat),Apn vs l n=F6 l n vs
 | [],n=>by
  have e:Apn vs [] n=Bb (Nat.beq n 0) (Azp vs []) none:=rfl;rw[e];simp only[F6];rw[Ayo]
 | a::r,n=>by
  have e:Apn vs (a::r) n=Bb (Nat.beq n 0) (Azp vs (a::r)) (Aye a (Apn vs r (Nat.pred n))):=rfl;rw[e];simp only[F6];rw[Ayo,Asm vs r,Ay0];cases F6 r (Nat.pred n) vs<;>rfl
theorem Awl:∀(l vs:List EV),len l=len vs->Jt l vs=some vs
 | [],[],_=>rfl
 | a::r,[],h=>by simp[len]at h
 | [],v::vs,h=>by simp[len]at h
 | a::r,v::vs,h=>by
  simp only[Jt];rw[Awl r vs (by simpa [len]using h)]
theorem Ui(l:List EV)(off:Nat)(vs:List EV):Mf l off vs=F6 l off vs:=by
 unfold Mf;rw[Asm,Asm,Ahb,Ahb];cases h:Nat.beq off 0
 ·rfl
 ·have:=aJ h;subst this
  cases d:Nat.beq (len l) (len vs)
  ·rfl
  ·have h2:=aJ d
   have:F6 l 0 vs=Jt l vs:=by cases l<;>rfl
   rw[this,Awl l vs h2];rfl
theorem G8 {β:Type}(k:α->Option β)(a:α):oB k (some a)=k a:=rfl
theorem Mu {β:Type}{k:α->Option β}{x:Option α}{r:β}(e:oB k x=some r):∃a,x=some a/\k a=some r:=by
 cases x with
 | none=>cases e
 | some a=>exact⟨a,rfl,e⟩
theorem Ay2 {x y:R}{r:EV × Ab}(e:onB x y v=some r):∃b,v=.bool b/\(Bb b x y)=some r:=by
 cases v with
 | bool b=>exact⟨b,rfl,e⟩
 | _=>cases e
theorem Pu {k:Nat->Nat->R}{r:EV × Ab}(e:Aqk k v=some r):∃i o,v=.ptr i o/\k i o=some r:=by
 cases v with
 | ptr i o=>exact⟨i,o,rfl,e⟩
 | _=>cases e
theorem A79 {k:IntKind->Int->R}{r:EV × Ab}(e:Bm7 k v=some r):∃c n,v=.int c n/\k c n=some r:=by
 cases v with
 | int c n=>exact⟨c,n,rfl,e⟩
 | _=>cases e
theorem Au7 {k:Nat->R}{r:EV × Ab}(e:Bmt k v=some r):∃c n,v=.int c (.ofNat n)/\k n=some r:=by
 cases v with
 | int c n=>
  cases n with
  | ofNat n=>exact⟨c,n,rfl,e⟩
  | negSucc n=>cases e
 | _=>cases e
theorem Ar3{r:EV × Ab}(e:Bjs k v=some r):∃l,v=.agg l/\k l=some r:=by
 cases v with
 | agg l=>exact⟨l,rfl,e⟩
 | _=>cases e
theorem A8t{r:EV × Ab}(e:Bm8 k v=some r):∃l,v=.tuple l/\k l=some r:=by
 cases v with
 | tuple l=>exact⟨l,rfl,e⟩
 | _=>cases e
theorem Bbm(a b:Int):Bmk a b=Int.add a b:=by cases a<;>cases b<;>rfl
theorem Bbt(a b:Int):Bmd a b=Int.sub a b:=by
 cases a with
 | ofNat m=>
  cases b with
  | ofNat n=>
   have e:Bmd (.ofNat m) (.ofNat n)=Bb (Nat.ble n m) (.ofNat (Nat.sub m n)) (.negSucc (Nat.pred (Nat.sub n m))):=rfl;rw[e,Bo];show _=(Int.ofNat m)-(Int.ofNat n);split
   ·rename_i h
    have:=bB h;show((m-n:Nat):Int)=_;simp only[aW];omega
   ·rename_i h
    have:¬n<=m:=fun x=>h (aR x)
    show Int.negSucc ((n-m)-1)=_;simp only[aW,cp];omega
  | negSucc n=>rfl
 | negSucc m=>rfl
theorem A8d(a b:Int):ltI a b=ltB a b:=by cases a<;>cases b<;>rfl
theorem A8n(a b:Int):eqI a b=eqB a b:=by cases a<;>cases b<;>rfl
theorem Bcj(b:Bool):Apy b=Bb b false true:=by cases b<;>rfl
theorem Bkn {op:BinOp}{g:IntKind->Int->Int->EV}(h:Bn6 op=some g):Axp op=false/\∀k a b,Bfl op k a b=some (g k a b):=by
 unfold Bn6 at h;split at h<;>cases h<;>refine⟨rfl,fun k a b=>?_⟩<;>simp only[Bfl,Az0,A85,Bfc,K7,Bad,A7s,A83,Ala,Ake,Bbm,Bbt,A8d,A8n,Bcj]
theorem A51:∀(l:List (Nat × Nat)) (n:Nat),D5 l n=A0m l n
 | [],n=>rfl
 | a::r,n=>by
  have e:D5 (a::r) n=Bb (Nat.beq n 0) (some a) (D5 r (Nat.pred n)):=rfl;rw[e];simp only[A0m];rw[A51 r]
theorem As1(place:Nat->Option (Nat × Nat)):∀(l:List (Nat × EV)) (c:List EV),Aaq place l c=fill place c l
 | [],c=>rfl
 | (i,v)::l,c=>by
  have e:Aaq place ((i,v)::l) c=oB (Ba8 fun off size=>Bb v.plain (Bb (Nat.beq (F9 v.cells) size) (oB (Aaq place l) (Mf c off v.cells)) none) none) (place i):=rfl;rw[e];simp only[fill];cases place i with
  | none=>rfl
  | some x=>
   obtain⟨off,size⟩:=x;simp only;show Bb v.plain (Bb (Nat.beq (F9 v.cells) size) (oB (Aaq place l) (Mf c off v.cells)) none) none=_;rw[Ahb,Ui];cases F6 c off v.cells with
   | none=>rfl
   | some d=>
    show Bb v.plain (Bb (Nat.beq (len v.cells) size) (Aaq place l d) none) none=_;rw[As1 place l d]
theorem Azm(h:Ab)(i off n:Nat):Xo h i off n=Jg h i off n:=by
 unfold Xo Jg As0;cases h.get i with
 | none=>rfl
 | some o=>
  cases o<;>simp only[Ag1];cases Alr _ off<;>rfl
theorem Apk(h:Ab)(size n:Nat)(x:EV):O1 h size n x=cellsOf h size n x:=by
 unfold O1 cellsOf;cases x<;>simp only[Azm]
theorem Aum(a b:List EV):Bh8 a b=a++b:=by
 induction a with
 | nil=>rfl
 | cons x r d=>exact congrArg (x :: ·) d
theorem A87{st e:TypeId}{size:Nat}{z:List EV}(j:T.Tv st=some (.slice e))(h2:T.size e=some size)(p:T.zero e=some z)(s x:EV)(h:Ab):append T st s x h=Em e size s x h:=by
 unfold append Em;simp only[j,h2,p];cases lenOf x with
 | none=>rfl
 | some n=>
  simp only[G8];rw[Apk];cases cellsOf h size n x with
  | none=>rfl
  | some new=>
   simp only[G8];cases s with
   | slice i off d room op=>
    simp only;rw[Apk];cases cellsOf h size d (.slice i off d room op)with
    | none=>rfl
    | some Cr=>
     simp only[G8,Aum,Ahb];cases h.get i with
     | none=>rfl
     | some o=>cases o<;>rfl
   | _=>rfl
theorem Ax9{agg:Bool}(i:T.agg t=some agg)(j:agg=true->T.size t=some n){cs:List EV}{k:EV->R}{r:EV × Ab}(e:Bbf agg n cs off k=some r):
 ∃v,part T t cs off=some v/\k v=some r:=by
 unfold Bbf at e;unfold part;rw[i];cases agg with
 | true=>
  rw[Al]at e;obtain⟨l,d,h2⟩:=Mu e;rw[Ag1]at d;rw[j rfl];simp only;rw[d];exact⟨_,rfl,h2⟩
 | false=>
  rw[Bl]at e;obtain⟨v,d,h2⟩:=Mu e;rw[A3s]at d;exact⟨v,d,h2⟩
theorem Dg(tm:Ax)(x:Operand):Eh (tmp tm) x=Cf tm x:=by cases x<;>rfl
theorem F1(tm:Ax)(l:List Operand):Ar1 (tmp tm) l=Md tm l:=by
 induction l with
 | nil=>rfl
 | cons x r d=>
  show(match Eh (tmp tm) x,Ar1 (tmp tm) r with|some e,some es=>some (e::es)|_,_=>none)=_;rw[d,Dg];simp only[Md];cases Cf tm x<;>cases Md tm r<;>rfl
theorem Fw(tm:Ax)(l:List (Nat × Operand)):Axg (tmp tm) l=Y8 tm l:=by
 induction l with
 | nil=>rfl
 | cons x r d=>
  obtain⟨i,x⟩:=x;show(match Eh (tmp tm) x,Axg (tmp tm) r with|some e,some es=>some ((i,e)::es)|_,_=>none)=_;rw[d,Dg];simp only[Y8];cases Cf tm x<;>cases Y8 tm r<;>rfl
theorem Ho(tm:Ax)(x:Option Operand):A3u (tmp tm) x=Abm tm x:=by
 cases x with
 | none=>rfl
 | some x=>show(match Eh (tmp tm) x with|some e=>some (some e)|none=>none)=_;rw[Dg];rfl
theorem Xg {x:R}{k:EV->Ab->R}{r:EV × Ab}(e:Ap x k=some r):∃v h,x=some (v,h)/\k v h=some r:=by
 obtain⟨⟨v,h⟩,d,h2⟩:=Mu e;exact⟨v,h,d,h2⟩
section
variable{call:Ai}
theorem H6(d:isV op=true)(e:Fg T tm op=some v):aop T call round tm op h=some (v,h):=by
 unfold aop;rw[d,Al,e]
theorem A3z{i:Nat}{vs:List EV}{k:Ab->R}{r:EV × Ab}(e:Agk h i (fun l=>Mf l off vs) k=some r):∃h',L9 h i off vs=some h'/\k h'=some r:=by
 unfold Agk at e;unfold L9;split at e
 ·rename_i l t j
  obtain⟨l',o,h2⟩:=Mu e;have d:F6 l off vs=some l':=by rw[<-Ui];exact o
  simp only[j,d];exact⟨_,rfl,h2⟩
 ·rename_i l t s j
  obtain⟨l',o,h2⟩:=Mu e;have d:F6 l off vs=some l':=by rw[<-Ui];exact o
  simp only[j,d];exact⟨_,rfl,h2⟩
 ·cases e
theorem Ae5{k:EV->Ab->R}{r:EV × Ab}(e:opD T call call round op (tmp tm) h k=some r):
 ∃v h',aop T call round tm op h=some (v,h')/\k v h'=some r:=by
 cases op with
 | move x=>
  simp only[opD,Dg,F1,Fw,Ho]at e;split at e
  ·rename_i e1 he;exact⟨_,_,H6 rfl (he),e⟩
  ·cases e
 | assign x=>
  simp only[opD,Dg,F1,Fw,Ho]at e;split at e
  ·rename_i e1 he;exact⟨_,_,H6 rfl (he),e⟩
  ·cases e
 | pick c a b=>
  simp only[opD,Dg,F1,Fw,Ho]at e;split at e
  ·rename_i c1 W b1 hc C hb
   obtain⟨bb,d,h2⟩:=Ay2 e;have p:=hc;rw[d]at p;cases bb
   ·exact⟨_,_,H6 rfl (by simp only[Fg];rw[p];exact hb),h2⟩
   ·exact⟨_,_,H6 rfl (by simp only[Fg];rw[p];exact C),h2⟩
  ·cases e
 | binOp op t x y yt=>
  simp only[opD,Dg,F1,Fw,Ho]at e;split at e
  ·rename_i W b1 C hb
   have af:=C;have ag:=hb;have key:∀v,bin T op t W b1=some v->aop T call round tm (.binOp op t x y yt) h=some (v,h):=fun v hv=>
    H6 rfl (by simp only[Fg];rw[af];simp only;rw[ag];exact hv)
   split at e
   ·rename_i g O
    obtain⟨s1,s2⟩:=Bkn O;unfold Kv at e;split at e
    ·obtain⟨d,h2⟩:=Aq e
     refine⟨_,_,key _ ?_,h2⟩;simp only[bin];rw[s1,Bl,d,Al,s2]
    ·obtain⟨v,d,h2⟩:=Mu e
     exact⟨v,h,key v d,h2⟩
   ·obtain⟨v,d,h2⟩:=Mu e
    exact⟨v,h,key v d,h2⟩
  ·cases e
 | unOp u t x=>
  cases u with
  | not=>
   simp only[opD,Dg,F1,Fw,Ho]at e;split at e
   ·rename_i e1 he
    obtain⟨b,d,h2⟩:=Ay2 e;have p:=he;rw[d]at p;cases b
    ·exact⟨_,_,H6 rfl (by simp only[Fg];rw[p];rfl),h2⟩
    ·exact⟨_,_,H6 rfl (by simp only[Fg];rw[p];rfl),h2⟩
   ·cases e
  | neg=>
   simp only[opD,Dg,F1,Fw,Ho]at e;split at e
   ·rename_i e1 he
    unfold A9d at e;split at e
    ·exact⟨_,h,H6 rfl (by simp only[Fg];rw[he]),e⟩
    ·cases e
   ·cases e
  | _=>(cases e)
 | nilCheck x=>
  simp only[opD,Dg,F1,Fw,Ho]at e;split at e
  ·rename_i e1 he
   obtain⟨i,o,d,h2⟩:=Pu e;have p:=he;rw[d]at p;exact⟨_,_,H6 rfl (by simp only[Fg];rw[p]),h2⟩
  ·cases e
 | fieldAddr s x f=>
  simp only[opD,Dg,F1,Fw,Ho]at e;split at e
  ·rename_i e1 fields he hu
   split at e
   ·rename_i fd J
    split at e
    ·rename_i n S
     cases hb:Nat.beq n 0 with
     | true=>rw[hb,Al]at e;cases e
     | false=>
      rw[hb,Bl]at e;obtain⟨i,o,d,h2⟩:=Pu e;have p:=he;rw[d]at p;exact⟨_,_,H6 rfl (by simp only[Fg];rw[p];simp only;rw[hu];simp only;rw[J];simp only;rw[S];simp only;rw[hb,Bl]),h2⟩
    ·cases e
   ·cases e
  ·cases e
 | indexAddr t x ix=>
  simp only[opD,Dg,F1,Fw,Ho]at e;split at e
  ·rename_i e1 X ln K he M hu
   split at e
   ·rename_i s hs
    obtain⟨c,j,d,h2⟩:=Au7 e;obtain⟨i,off,p,h4⟩:=Pu h2;obtain⟨D,E⟩:=Aq h4;have A:=M;have B:=he;rw[d]at A;rw[p]at B;exact⟨_,_,H6 rfl (by simp only[Fg];rw[A];simp only;rw[hu,B];simp only;rw[hs];simp only;rw[D,Al]),E⟩
   ·cases e
  ·rename_i e1 X K he M hu
   split at e
   ·rename_i s hs
    obtain⟨c,j,d,h2⟩:=Au7 e;split at h2
    ·obtain⟨D,E⟩:=Aq h2
     have A:=M;have B:=he;rw[d]at A;exact⟨_,_,H6 rfl (by simp only[Fg];rw[A];simp only;rw[hu,B];simp only;rw[hs];simp only;rw[D,Al]),E⟩
    ·cases h2
   ·cases e
  ·cases e
 | index t x ix=>
  simp only[opD,Dg,F1,Fw,Ho]at e;split at e
  ·rename_i e1 X ln K he M hu
   split at e
   ·rename_i s agg hs C
    obtain⟨c,j,d,h2⟩:=Au7 e;obtain⟨cs,p,h4⟩:=Ar3 h2;obtain⟨D,E⟩:=Aq h4;obtain⟨v,U,V⟩:=Ax9 C (fun _=>hs) E;have A:=M;have B:=he;rw[d]at A;rw[p]at B;exact⟨_,_,H6 rfl (by simp only[Fg];rw[A];simp only;rw[hu,B];simp only;rw[hs];simp only;rw[D,Al,U]),V⟩
   ·cases e
  ·(cases e)
 | field t x f=>
  simp only[opD,Dg,F1,Fw,Ho]at e;split at e
  ·rename_i e1 fields he hu
   split at e
   ·rename_i fd J
    have B:=he;split at e
    ·rename_i C
     split at e
     ·rename_i n S
      obtain⟨cs,p,h4⟩:=Ar3 e;obtain⟨v,U,V⟩:=Ax9 C (fun _=>S) h4;rw[p]at B;exact⟨_,_,H6 rfl (by simp only[Fg];rw[hu,B];simp only;rw[J];simp only;rw[U]),V⟩
     ·cases e
    ·rename_i C
     obtain⟨cs,p,h4⟩:=Ar3 e;obtain⟨v,U,V⟩:=Ax9 C (fun x=>by cases x) h4;rw[p]at B;exact⟨_,_,H6 rfl (by simp only[Fg];rw[hu,B];simp only;rw[J];simp only;rw[U]),V⟩
    ·cases e
   ·cases e
  ·cases e
 | convert src dst x=>
  simp only[opD,Dg,F1,Fw,Ho]at e;split at e
  ·rename_i e1 _ c he hs hd
   obtain⟨c',n,d,h2⟩:=A79 e;have q:=he;rw[d]at q;exact⟨_,_,H6 rfl (by simp only[Fg];rw[hs,hd,q]),h2⟩
  ·cases e
 | extract x ix=>
  simp only[opD,Dg,F1,Fw,Ho]at e;split at e
  ·rename_i e1 he
   obtain⟨l,d,h2⟩:=A8t e;obtain⟨v,p,h4⟩:=Mu h2;have q:=he;rw[d]at q;rw[A3s]at p;exact⟨_,_,H6 rfl (by simp only[Fg];rw[q];exact p),h4⟩
  ·cases e
 | load t x=>
  simp only[opD,Dg]at e;split at e
  ·rename_i e1 he C
   split at e
   ·rename_i n S
    obtain⟨i,off,d,h2⟩:=Pu e;obtain⟨l',D,E⟩:=Mu h2;rw[d]at he;refine⟨_,_,?_,E⟩;show Dw T tm (.load t x) h=_;simp only[Dw];rw[he];simp only;rw[C];simp only;rw[S];simp only;rw[<-Azm];rw[show Xo h i off n=some l' from D]
   ·cases e
  ·rename_i e1 he C
   obtain⟨i,off,d,h2⟩:=Pu e;obtain⟨l',D,E⟩:=Mu h2;rw[d]at he;split at E
   ·refine⟨_,_,?_,E⟩
    show Dw T tm (.load t x) h=_;simp only[Dw];rw[he];simp only;rw[C];simp only;rw[<-Azm,show Xo h i off 1=some _ from D]
   ·cases E
  ·cases e
 | store t a x=>
  simp only[opD,Dg,F1,Fw,Ho]at e;split at e
  ·rename_i W x1 n C hx S
   obtain⟨i,off,d,h2⟩:=Pu e;obtain⟨p,h4⟩:=Aq h2;obtain⟨D,E⟩:=Aq h4;obtain⟨h',U,V⟩:=A3z E;rw[Ahb]at D;have A:=C;have B:=hx;rw[d]at A;refine⟨_,_,?_,V⟩;show Dw T tm (.store t a x) h=_;simp only[Dw];rw[A,B,S];simp only;rw[p,Al,D,Al,U]
  ·cases e
 | alloc t=>
  simp only[opD,Dg,F1,Fw,Ho]at e;split at e
  ·rename_i z G
   refine⟨_,_,?_,e⟩;show Dw T tm (.alloc t) h=_;simp only[Dw];rw[G]
  ·cases e
 | box t x=>
  simp only[opD,Dg,F1,Fw,Ho]at e;split at e
  ·rename_i e1 he
   obtain⟨d,h2⟩:=Aq e;refine⟨_,_,?_,h2⟩;show Dw T tm (.box t x) h=_;simp only[Dw];rw[he];simp only;rw[d,Al]
  ·cases e
 | call c=>
  obtain⟨callee,args,Q⟩:=c;have Y:∀{f:Operand} {e1:EV} {as:List EV},Cf tm f=some e1->Md tm args.toList=some as->Ap (Rn call round e1 as h) k=some r->∃v h',aop T call round tm (.call ⟨.value f,args,Q⟩) h=some (v,h')/\k v h'=some r:=by
   intro f e1 as A B hc;obtain⟨v,h',d,h2⟩:=Xg hc;refine⟨v,h',?_,h2⟩;show(match Cf tm f,Md tm args.toList with|some (.func g first captured),some as=>call g (first++(as++captured)) h|some (.Sy l),some as=>round l as h|_,_=>none)=_;rw[A,B];unfold Rn at d;split at d
   ·rw[Aum,Aum]at d;exact d
   ·exact d
   ·cases d
  cases callee with
  | value f=>
   cases f with
   | func g=>
    simp only[opD,Dg,F1]at e;split at e
    ·rename_i as C
     obtain⟨v,h',d,h2⟩:=Xg e;refine⟨v,h',?_,h2⟩;show(match Cf tm (.func g),Md tm args.toList with|some (.func g first captured),some as=>call g (first++(as++captured)) h|some (.Sy l),some as=>round l as h|_,_=>none)=_;rw[C];simp only[Cf,dJ,cR];exact d
    ·cases e
   | global g=>cases e
   | _=>
    simp only[opD,Dg,F1]at e;split at e
    ·rename_i e1 as J C;exact Y J C e
    ·cases e
  | builtin b=>
   have key:∀{as:List EV},Md tm args.toList=some as->∀v h',builtin T b Q as h=some (v,h')->aop T call round tm (.call ⟨.builtin b,args,Q⟩) h=some (v,h'):=by
    intro as C v h' hb;show Dw T tm (.call ⟨.builtin b,args,Q⟩) h=_;simp only[Dw];rw[C];exact hb
   cases b with
   | append=>
    simp only[opD,Dg]at e;split at e
    ·rename_i s x t u H L
     split at e
     ·rename_i W b1 u1 K hs hx hu Z
      split at e
      ·rename_i size z ai G
       obtain⟨v,h',d,h2⟩:=Xg e;refine⟨v,h',key (as:=[W,b1]) (by rw[H];simp only[Md,hs,hx]) v h' ?_,h2⟩;rw[<-A87 Z ai G]at d;simp only[builtin];rw[L];simp only;rw[hu];exact d
      ·cases e
     ·cases e
    ·cases e
   | len=>
    simp only[opD,Dg]at e;split at e
    ·rename_i x t H L
     have ka:∀{e1:EV},Cf tm x=some e1->Md tm args.toList=some [e1]:=by
      intro e1 he;rw[H];simp only[Md,he]
     split at e
     ·rename_i e1 K he Z
      obtain⟨n,d,h2⟩:=Mu e;refine⟨_,_,key (ka he) _ _ ?_,h2⟩;simp only[builtin];rw[L];simp only;rw[Z];simp only;rw[d]
     ·rename_i e1 dd K he Z
      obtain⟨v,h',d,h2⟩:=Xg e;refine⟨_,_,key (ka he) v h' ?_,h2⟩;simp only[builtin];rw[L];simp only;rw[Z];revert d;unfold A3p;cases e1<;>exact id
     ·rename_i e1 _ _ he _ _
      obtain⟨v,h',d,h2⟩:=Xg e;exact⟨_,_,key (ka he) v h' d,h2⟩
     ·cases e
    ·cases e
   | _=>
    simp only[opD,F1]at e;split at e
    ·rename_i as C
     obtain⟨v,h',d,h2⟩:=Xg e;exact⟨v,h',key C v h' d,h2⟩
    ·cases e
  | _=>cases e
 | build t ps=>
  simp only[opD,Fw]at e;split at e
  ·rename_i z l fields G hl hu
   split at e
   ·rename_i pl al
    obtain⟨c,p,h2⟩:=Mu e;refine⟨_,h,H6 rfl ?_,h2⟩;rw[As1,show D5 pl=A0m pl from funext (A51 pl)]at p;simp only[Fg];rw[G,hl,hu];simp only;rw[al];simp only;rw[p]
   ·cases e
  ·rename_i z l n K G hl hu
   split at e
   ·rename_i s hs
    obtain⟨c,p,h2⟩:=Mu e;refine⟨_,h,H6 rfl ?_,h2⟩;rw[As1]at p;simp only[Fg];rw[G,hl,hu];simp only;rw[hs];simp only;have ao:fill (fun i=>some (Nat.mul i s,s)) z l=some c:=p;rw[ao]
   ·cases e
  ·cases e
 | buildSlice t n ps=>
  simp only[opD,Fw]at e;split at e
  ·rename_i K l hu hl
   split at e
   ·rename_i s z hs G
    obtain⟨v,h',d,h2⟩:=Xg e;refine⟨v,h',?_,h2⟩;unfold Cd at d;obtain⟨p,h4⟩:=Aq d;obtain⟨c,D,E⟩:=Mu h4;rw[As1]at D;have aq:fill (fun i=>some (Nat.mul i s,s)) (rep z n) l=some c:=D;show Dw T tm (.buildSlice t n ps) h=_;simp only[Dw];rw[hu,hl];simp only;rw[hs,G];simp only;rw[p,Al,aq];exact E
   ·cases e
  ·cases e
 | makeFunc fo first captured=>
  cases fo with
  | func f=>
   simp only[opD,F1]at e;split at e
   ·rename_i a b C hb
    exact⟨_,h,H6 rfl (by simp only[Fg];rw[C,hb]),e⟩
   ·cases e
  | _=>cases e
 | sliceToArrayPointer t x=>
  simp only[opD,Dg]at e;split at e
  ·rename_i e1 n K he hu
   unfold Azf at e;split at e
   ·obtain⟨d,h2⟩:=Aq e
    exact⟨_,h,H6 rfl (by simp only[Fg];rw[hu,he];simp only;rw[d,Al]),h2⟩
   ·cases e
  ·cases e
 | slice t x lo hi mx=>
  simp only[opD,Dg,Ho]at e;split at e
  ·rename_i e1 ba bf bj A B q3 q4
   split at e
   ·rename_i n K hu
    split at e
    ·rename_i s hs
     obtain⟨i,o,rfl,d⟩:=Pu e;obtain⟨v,h2,p⟩:=Mu d;exact⟨v,h,H6 rfl (by simp only[Fg];rw[B,q3,q4];simp only;rw[hu,A];simp only[hs];exact h2),p⟩
    ·cases e
   ·rename_i K hu
    split at e
    ·rename_i s hs
     obtain⟨v,d,h2⟩:=Mu e;exact⟨v,h,H6 rfl (by simp only[Fg];rw[B,q3,q4];simp only;rw[hu,A];simp only;rw[hs];exact d),h2⟩
    ·cases e
   ·cases e
  ·cases e
 | makeSlice t l c=>
  simp only[opD,Dg]at e;split at e
  ·rename_i l1 c1 K A B hu
   split at e
   ·rename_i z G
    obtain⟨v,h',d,h2⟩:=Xg e;refine⟨v,h',?_,h2⟩;unfold Vb at d;split at d
    ·show Dw T tm (.makeSlice t l c) h=_
     simp only[Dw];rw[hu,A,B];simp only;rw[G];exact d
    ·cases d
   ·cases e
  ·cases e
 | makeMap t rs=>
  cases rs with
  | none=>
   obtain⟨v,h',d,h2⟩:=Xg (show Ap (As6 h) k=some r from e);exact⟨v,h',d,h2⟩
  | some x=>cases e
 | makeChan t s=>
  simp only[opD,Dg]at e;split at e
  ·rename_i s1 dd K A hu
   split at e
   ·rename_i n0 au
    obtain⟨v,h',d,h2⟩:=Xg e;refine⟨v,h',?_,h2⟩;unfold Apo at d;split at d
    ·show Dw T tm (.makeChan t s) h=_
     simp only[Dw];rw[hu,A];simp only;rw[au];exact d
    ·cases d
   ·cases e
  ·cases e
 | lookup t x ix ok=>
  simp only[opD,Dg]at e;split at e
  ·rename_i m1 i1 kt K A B hu
   obtain⟨v,h',d,h2⟩:=Xg e;refine⟨v,h',?_,h2⟩;unfold Aph at d;split at d
   ·show Dw T tm (.lookup t x ix ok) h=_
    simp only[Dw];rw[hu,A,B];simp only;obtain⟨p,h4⟩:=Aq d;rw[p,Al];split at h4
    ·rename_i es O
     rw[O];simp only;split at h4
     ·rename_i J;rw[J];exact h4
     ·rename_i J;rw[J];simp only
      obtain⟨zv,D,E⟩:=Mu h4;rw[D];exact E
     ·cases h4
    ·cases h4
   ·cases d
  ·cases e
 | mapUpdate t m ix x=>
  simp only[opD,Dg]at e;split at e
  ·rename_i m1 i1 x1 kt K A B q3 hu
   obtain⟨v,h',d,h2⟩:=Xg e;refine⟨v,h',?_,h2⟩;unfold Zq at d;split at d
   ·show Dw T tm (.mapUpdate t m ix x) h=_
    simp only[Dw];rw[hu,A,B,q3];simp only;obtain⟨p,h4⟩:=Aq d;rw[p,Al];split at h4
    ·rename_i es O
     rw[O];simp only;split at h4
     ·rename_i J;rw[J];exact h4
     ·rename_i J;rw[J];exact h4
     ·cases h4
    ·cases h4
   ·cases d
  ·cases e
 | select cs bl=>
  cases bl with
  | true=>cases e
  | false=>
   simp only[opD,Dg]at e;split at e
   ·rename_i c ab
    split at e
    ·rename_i x hsend
     split at e
     ·rename_i c1 x1 zv A B G
      obtain⟨v,h',d,h2⟩:=Xg e;refine⟨v,h',?_,h2⟩;unfold Ay1 at d;split at d
      ·show Dw T tm (.select cs false) h=_
       simp only[Dw];rw[ab];simp only;rw[A,hsend];simp only;split at d
       ·rename_i cap buf O
        rw[O,B];simp only;rw[G];exact d
       ·cases d
      ·cases d
     ·cases e
    ·rename_i hsend
     split at e
     ·rename_i c1 zv A G
      obtain⟨v,h',d,h2⟩:=Xg e;refine⟨v,h',?_,h2⟩;unfold Ay5 at d;split at d
      ·show Dw T tm (.select cs false) h=_
       simp only[Dw];rw[ab];simp only;rw[A,hsend];simp only;split at d
       ·rename_i cap buf O
        rw[O,G];exact d
       ·cases d
      ·cases d
     ·cases e
   ·cases e
 | _=>cases e
theorem Ei(tm:Ax)(j i:Nat)(v:EV):tmp (tm.put j (some v)) i=if j=i then v else tmp tm i:=by
 unfold tmp;rw[Tr.get_put];by_cases h:j=i<;>simp[h]
theorem Apw(n:Nat)(d:Option Tmp)(tm:Ax)(v:EV):Afx n d (tmp tm) v=tmp (Ps n tm d v):=by
 cases d with
 | none=>rfl
 | some d=>
  show Bb (Nat.ble (Nat.succ d) n) (Bhc (tmp tm) d v) (tmp tm)=tmp (Bb (Nat.ble (Nat.succ d) n) (tm.put d (some v)) tm);cases Nat.ble (Nat.succ d) n with
  | false=>rfl
  | true=>
   funext i;rw[Al,Al,Ei];show Bb (Nat.beq d i) v (tmp tm i)=_;by_cases e:d=i
   ·subst e;rw[aN rfl,cI,Al]
   ·rw[aK e,beq_false e,Bl]
theorem Bhh(ops:List Oper)(g:Nat × Bool)(tm:Ax):A7z ops (tmp tm) g=wanted ops tm (some g):=by
 obtain⟨j,want⟩:=g;simp only[wanted,yielded];show(match Aw5 ops j with|some o=>(match o.dst with|some d=>Fj (tmp tm d) want|none=>false)|none=>false)=_;cases Aw5 ops j with
 | none=>rfl
 | some o=>
  simp only;cases o.dst with
  | none=>rfl
  | some d=>
   simp only[tmp];cases tm.get d with
   | none=>rfl
   | some v=>cases v<;>first|rfl|(simp only[Fj,Bcj])
def Y9(ops:List Oper)(tm:Ax)(m:Mode):Prop:=∀g b,m=some (g,b)->wanted ops tm (some g)=b
theorem Y9.none(ops:List Oper)(tm:Ax):Y9 ops tm none:=fun _ _ h=>by cases h
theorem Bir(h:eqW a b=true):a=b:=by cases a<;>cases b<;>first|rfl|cases h
theorem Avy(hm:Y9 ops tm m)(h:Avf m g=some b):wanted ops tm (some g)=b:=by
 unfold Avf at h;cases m with
 | none=>cases h
 | some x=>
  obtain⟨⟨j,w⟩,e⟩:=x;simp only at h;obtain⟨d,h2⟩:=Aq h;cases h2;rw[Bo]at d;split at d
  ·rename_i hj
   have e1:j=g.1:=aJ hj;have e2:w=g.2:=Bir d;have:g=(j,w):=by rw[e1,e2]
   rw[this];exact hm _ _ rfl
  ·cases d
theorem Atj(hw:wanted ops tm (some g)=b)(n:Nat)(dst:Option Tmp)(v:EV):Y9 ops (Ps n tm dst v) (Ago ops g b dst):=by
 intro A B h;obtain⟨j,w⟩:=g;unfold Ago at h;simp only[wanted,yielded]at hw⊢;cases i:Aw5 ops j with
 | none=>
  rw[i]at h hw;simp only at h hw;cases h;simp only[i];exact hw
 | some o=>
  rw[i]at h hw;simp only at h hw;cases hd:o.dst with
  | none=>
   rw[hd]at h hw;simp only at h hw;cases h;simp only[i,hd];exact hw
  | some d=>
   rw[hd]at h hw;simp only at h hw;cases dst with
   | none=>
    simp only at h;cases h;simp only[i,hd,Ps];exact hw
   | some q=>
    simp only at h;rw[Bo]at h;split at h
    ·cases h
    ·rename_i u
     cases h;have p:q≠d:=fun e=>u (by rw[e];exact cI _)
     have y:(Ps n tm (some q) v).get d=tm.get d:=by
      show(Bb (Nat.ble (Nat.succ q) n) (tm.put q (some v)) tm).get d=_;rw[Bo];split
      ·rw[Tr.get_put,aK p]
      ·rfl
     simp only[i,hd,y];exact hw
theorem A1f(hm:Y9 ops tm m){A B:R}{r:EV × Ab}(e:(match Avf m g with|some true=>A|some false=>B|none=>Bb (A7z ops (tmp tm) g) A B)=some r):
 (wanted ops tm (some g)=true/\A=some r)\/(wanted ops tm (some g)=false/\B=some r):=by
 split at e
 ·rename_i d;exact .inl ⟨Avy hm d,e⟩
 ·rename_i d;exact .inr ⟨Avy hm d,e⟩
 ·rw[Bhh]at e
  cases hw:wanted ops tm (some g)with
  | true=>rw[hw,Al]at e;exact .inl ⟨rfl,e⟩
  | false=>rw[hw,Bl]at e;exact .inr ⟨rfl,e⟩
theorem A3i{d:Option Tmp}(F:Ax->R):thn fl n tm d v F=F (Bol fl n tm d v):=by cases fl<;>cases d<;>rfl
theorem Avm:∀{l:List Oper} {m:Mode} {tm t2:Ax} {h:Ab} {ds:List Nat} {r:EV × Ab},(fl=true->t2=tm)->Y9 ops tm m->Bcx fl T call call round n ops fin l m (tmp tm) t2 h ds=some r ->
 ∃d h' i,Aqh T call round n ops l tm h=some (d,h')/\(fl=true->i=d)/\fin (tmp d) i h' ds=some r
 | [],m,tm,t2,h,ds,r,j,_,e=>⟨tm,h,t2,rfl,j,e⟩
 | ⟨dst,op,ty,ps,D,g⟩::l,m,tm,t2,h,ds,r,j,hm,e=>by
  have y:∀v,fl=true->Bol fl n t2 dst v=Ps n tm dst v:=fun v e=>by rw[j e];show Bb fl _ _=_;rw[e,Al]
  have run:∀{o:Mode},(∀v,Y9 ops (Ps n tm dst v) o)->opD T call call round op (tmp tm) h (fun v h=>thn fl n t2 dst v fun t2=>Bcx fl T call call round n ops fin l o (Afx n dst (tmp tm) v) t2 h ds)=some r ->
   ∃d h' i,(match aop T call round tm op h with|some (v,h')=>Aqh T call round n ops l (Ps n tm dst v) h'|none=>none)=some (d,h')/\(fl=true->i=d)/\fin (tmp d) i h' ds=some r:=by
   intro o p e;obtain⟨v,h',A,h2⟩:=Ae5 e;rw[A3i,Apw]at h2;obtain⟨q,u,t3,B,h4,C⟩:=Avm (y v) (p v) h2;exact⟨q,u,t3,by rw[A];exact B,h4,C⟩
  simp only[Aqh];cases g with
  | none=>
   simp only[wanted,Al];exact run (fun v=>Y9.none _ _) e
  | some g=>
   rcases A1f hm e with⟨hw,e'⟩|⟨hw,e'⟩
   ·rw[hw,Al];exact run (fun v=>Atj hw n dst v) e'
   ·rw[hw,Bl];rw[A3i,Apw]at e';exact Avm (y _) (Atj hw n dst _) e'
end
end
theorem Ayq(h:Bb a b false=true):a=true/\b=true:=by cases a<;>simp_all [Bo]
theorem A5b(h:cls op=.load):∃t x,op=.load t x:=by
 cases op<;>first|exact⟨_,_,rfl⟩|skip
 all_goals (first|(cases h;done)|skip)
 all_goals (simp only[cls,isV,Al,Bl]at h;first|(cases h;done)|skip)
 all_goals exact absurd h (Aob false _).2.1
theorem Bk7{call:Ai}(i:Akr T op=true)(p:cls op=.pur){h2:Ab}(d:aop T call round tm op h=some (v,h')):
 h'=h/\Dw T tm op h2=some (v,h2):=by
 have q:=Axo p;rw[Ar0 q]at d;refine⟨Bhr q d,?_⟩;unfold Akr at i;rw[p]at i;simp only at i;split at i
 ·rename_i args j
  split at i
  ·rename_i t o
   split at i
   ·rename_i e hu
    simp only[Dw]at d⊢;split at d
    ·rename_i as has
     match as,d with
     | [x],d=>
      simp only[builtin]at d⊢;rw[o]at d⊢;simp only at d⊢;rw[hu]at d⊢;simp only at d⊢;split at d
      ·cases d;first|rfl|(rename_i n u;rw[u])
      ·cases d
     | [],d=>cases d
     | _::_::_,d=>cases d
    ·cases d
   ·cases i
  ·cases i
 ·rename_i args j
  simp only[Dw]at d⊢;split at d
  ·rename_i as has
   match as,d with
   | x::l,d=>
    cases x<;>first|(cases d;done)|skip
    simp only[builtin]at d⊢;split at d
    ·cases d;first|rfl|(rename_i hm;rw[hm])
    ·cases d
   | [],d=>cases d
  ·cases d
 ·rename_i args j
  simp only[Dw]at d⊢;split at d
  ·rename_i as has
   match as,d with
   | x::l,d=>
    cases x<;>first|(cases d;done)|skip
    simp only[builtin]at d⊢;split at d
    ·cases d;first|rfl|(rename_i hm;rw[hm])
    ·cases d
   | [],d=>cases d
  ·cases d
 ·cases i
theorem Akx {T:Ih}{call round:Ai}{n:Nat}{ops:List Oper}{bs:Tr Nat}{h:Ab}{base:Nat}:
 ∀(l:List Oper) (i:Nat) (tm u:Ax) (h':Ab) (Cy:List (Nat × Nat)),Ato T l=true->(∀k,k<l.length->∃b,bs.get (i+k)=some b)->Aqh T call round n ops l tm h=some (u,h') ->
  h'=h/\∃j,Sb T call round n ops bs base l i ⟨tm,h,0,[],Cy,[],[]⟩=some ⟨u,h,0,[],j,[],[]⟩
 | [],i,tm,u,h',Cy,_,_,e=>by cases e;exact⟨rfl,Cy,rfl⟩
 | ⟨dst,op,ty,ps,Q,g⟩::l,i,tm,u,h',Cy,S,D,e=>by
  obtain⟨o,E⟩:=Ayq (show Bb (Akr T op) (Ato T l) false=true from S);have C:∀k,k<l.length->∃b,bs.get (Nat.succ i+k)=some b:=fun k W=>by
   have:=D (k+1) (by simp;omega);rw[show Nat.succ i+k=i+(k+1) by omega];exact this
  obtain⟨b,A⟩:=D 0 (by simp);rw[dC]at A;simp only[Aqh]at e;cases hw:wanted ops tm g with
  | false=>
   rw[hw,Bl]at e;obtain⟨G,j,h2⟩:=Akx l (Nat.succ i) _ _ _ Cy E C e;refine⟨G,j,?_⟩;simp only[Sb,Vr,hw,Bl];exact h2
  | true=>
   rw[hw,Al]at e;split at e
   ·rename_i v G p
    have go:G=h->(∃y,Vr T call round n ops bs base ⟨dst,op,ty,ps,Q,g⟩ i ⟨tm,h,0,[],Cy,[],[]⟩=some ⟨Ps n tm dst v,h,0,[],y,[],[]⟩) ->
     h'=h/\∃j,Sb T call round n ops bs base (⟨dst,op,ty,ps,Q,g⟩::l) i ⟨tm,h,0,[],Cy,[],[]⟩=some ⟨u,h,0,[],j,[],[]⟩:=by
     rintro rfl ⟨y,hd⟩;obtain⟨h2,j,K⟩:=Akx l (Nat.succ i) _ _ _ y E C e;exact⟨h2,j,by simp only[Sb,hd];exact K⟩
    cases B:cls op with
    | val=>
     have U:=A2y B;unfold aop at p;rw[U,Al]at p;split at p
     ·rename_i X L
      cases p;refine go rfl ⟨Cy,?_⟩;simp only[Vr,hw,Al,A,B,L]
     ·cases p
    | load=>
     obtain⟨t,x,rfl⟩:=A5b B;have d:Dw T tm (.load t x) h=some (v,G):=p;have H:=d;simp only[Dw]at d;split at d
     ·rename_i q off V
      have M:G=h:=by
       split at d
       ·split at d
        ·split at d
         ·cases d;rfl
         ·cases d
        ·cases d
       ·split at d
        ·cases d;rfl
        ·cases d
       ·cases d
      subst M;refine go rfl ⟨(Nat.shiftLeft 1 i,q)::Cy,?_⟩;have O:within 0 b=true:=by unfold within;rw[show Nat.land 0 b=0 from Nat.zero_and b];rfl
      have J:Bb (Nat.ble (Nat.succ q) base) true (Bb (within 0 b) true false)=true:=by rw[O];cases Nat.ble (Nat.succ q) base<;>rfl
      simp only[Vr,hw,Al,A,B,V,F2,Z2,loose,J,H]
     ·cases d
    | pur=>
     obtain⟨h2,K⟩:=Bk7 (h2:=⟨.nil,h.next,h.next⟩) o B p;refine go h2 ⟨Cy,?_⟩;simp only[Vr,hw,Al,A,B,K]
    | new=>unfold Akr at o;rw[B]at o;cases o
    | sto=>unfold Akr at o;rw[B]at o;cases o
    | big=>unfold Akr at o;rw[B]at o;cases o
   ·cases e
theorem A6f{call:Ai}(i:Ass T ops=true){d:Ax}(e:Aqh T call round n ops ops tm h=some (d,h')):
 Aq1 T call round n ops tm h=some (d,h'):=by
 obtain⟨p,i⟩:=Ayq i;obtain⟨q,u⟩:=Ayq i;have j:∀k,k<ops.length->∃b,(Oh ops 0 .nil).get (0+k)=some b:=fun k y=>by
  obtain⟨b,hb,_⟩:=Alc ops 0 .nil (fun _ _=>rfl) k ops[k] (aH y);exact⟨b,hb⟩
 obtain⟨rfl,o,A⟩:=Akx (bs:=Oh ops 0 .nil) (base:=h.next) ops 0 tm d h' [] p j e;unfold Aq1;rw[q,Al,u,Al,A]
theorem Bov(h:b=true){x y:α}:Bb b x y=x:=by rw[h];rfl
theorem Bjn{call:Ai}:aop T call round tm (.load t x) h=Dw T tm (.load t x) h:=rfl
theorem Bmz{call:Ai}{a:Operand}:aop T call round tm (.store t a x) h=Dw T tm (.store t a x) h:=rfl
theorem Bl0(h:cls op=.sto):∃t a x,op=.store t a x:=by
 cases op<;>first|exact⟨_,_,_,rfl⟩|skip
 all_goals (first|(cases h;done)|skip)
 all_goals (first
  | (rename_i c;exact absurd (show Bb false Cls.val (Bb (Ath (.call c)) .pur .big)=.sto from h) (Aob _ _).2.2)
  | exact absurd h (Aob _ _).2.2)
theorem A65{call:Ai}(d:cls op=.new):aop T call round tm op h=Dw T tm op h:=by
 rcases A2u d with⟨_,rfl⟩|⟨_,_,rfl⟩|⟨_,_,_,rfl⟩|⟨_,_,_,rfl⟩|⟨_,_,rfl⟩|⟨_,_,rfl⟩<;>rfl
def DX.with(s:DX)(tm:Ax)(h:Ab):DSt:=⟨tm,h,s.bg,s.nw,s.Cy,s.lou,s.st⟩
theorem Ari{call:Ai}{bs:Tr Nat}{base:Nat}{r:EV × Ab}:∀{l:List Oper} {i:Nat} {m:Mode} {s:DX} {tm t2:Ax} {h:Ab},(fl=true->t2=tm)->Y9 ops tm m ->
 Aqx fl T call call round n ops bs base fin l i m s (tmp tm) t2 h ds=some r->∃s' u,Sb T call round n ops bs base l i (s.with tm h)=some s'/\(fl=true->u=s'.tm)/\fin (tmp s'.tm) u s'.h ds=some r
 | [],i,m,s,tm,t2,h,J,_,e=>⟨s.with tm h,t2,rfl,J,e⟩
 | ⟨dst,op,ty,ps,K,g⟩::l,i,m,s,tm,t2,h,J,hm,e=>by
  have S:∀v,fl=true->Bol fl n t2 dst v=Ps n tm dst v:=fun v e=>by rw[J e];show Bb fl _ _=_;rw[e,Al]
  cases hb:bs.get i with
  | none=>simp only[Aqx,hb]at e;cases e
  | some b=>
   have run:∀{mk:Mode},(∀v,Y9 ops (Ps n tm dst v) mk)->wanted ops tm g=true->A69 T call call round op i b base s (tmp tm) h (fun s v h=>thn fl n t2 dst v fun t2=>Aqx fl T call call round n ops bs base fin l (Nat.succ i) mk s (Afx n dst (tmp tm) v) t2 h ds)=some r ->
    ∃s' u,Sb T call round n ops bs base (⟨dst,op,ty,ps,K,g⟩::l) i (s.with tm h)=some s'/\(fl=true->u=s'.tm)/\fin (tmp s'.tm) u s'.h ds=some r:=by
    intro mk L hw e2;have j:∀{v:EV} {A:Ab} {s1:DX},(thn fl n t2 dst v fun t2=>Aqx fl T call call round n ops bs base fin l (Nat.succ i) mk s1 (Afx n dst (tmp tm) v) t2 A ds)=some r ->
     Vr T call round n ops bs base ⟨dst,op,ty,ps,K,g⟩ i (s.with tm h)=some (s1.with (Ps n tm dst v) A) ->
     ∃s' u,Sb T call round n ops bs base (⟨dst,op,ty,ps,K,g⟩::l) i (s.with tm h)=some s'/\(fl=true->u=s'.tm)/\fin (tmp s'.tm) u s'.h ds=some r:=by
     intro v A s1 e3 hd;rw[A3i,Apw]at e3;obtain⟨s',t3,h2,y,h4⟩:=Ari (S v) (L v) e3;exact⟨s',t3,by simp only[Sb,hd];exact h2,y,h4⟩
    unfold A69 at e2;cases p:cls op with
    | val=>
     rw[p]at e2;obtain⟨v,A,h2,y⟩:=Ae5 e2;have U:=A2y p;unfold aop at h2;rw[U,Al]at h2;split at h2
     ·rename_i W M
      cases h2;refine j y ?_;simp only[Vr,DX.with,hw,Al,hb,p,M]
     ·cases h2
    | load=>
     rw[p]at e2;obtain⟨t,x,rfl⟩:=A5b p;simp only[Dg]at e2;split at e2
     ·rename_i ex B
      obtain⟨q,o,A,h2⟩:=Pu e2;obtain⟨y,h4⟩:=Aq h2;obtain⟨v,C,D,E⟩:=Ae5 h4;rw[Bjn]at D;rw[A]at B;have O:C=h:=by
       have d:=D;simp only[Dw]at d;rw[B]at d;simp only at d;split at d
       ·split at d
        ·split at d
         ·cases d;rfl
         ·cases d
        ·cases d
       ·split at d
        ·cases d;rfl
        ·cases d
       ·cases d
      subst O;refine j E ?_;unfold A4k at y;simp only[Vr,DX.with,hw,Al,hb,p,B,D,DX.ld];exact Bov y
     ·cases e2
    | new=>
     rw[p]at e2;simp only[A97]at e2;obtain⟨v,A,h2,y⟩:=Ae5 e2;rw[A65 p]at h2;refine j y ?_;simp only[Vr,DX.with,hw,Al,hb,p,h2,DX.new]
    | sto=>
     rw[p]at e2;obtain⟨t,a,x,rfl⟩:=Bl0 p;simp only[Dg]at e2;split at e2
     ·rename_i ex B
      obtain⟨q,o,A,h2⟩:=Pu e2;obtain⟨y,h4⟩:=Aq h2;obtain⟨v,C,D,E⟩:=Ae5 h4;rw[Bmz]at D;rw[A]at B;refine j E ?_;unfold Bch at y;simp only[Vr,DX.with,hw,Al,hb,p,B,y,D,DX.sto]
     ·cases e2
    | pur=>
     rw[p]at e2;simp only[Bo5]at e2;obtain⟨v,A,h2,y⟩:=Ae5 e2;rw[Ar0 (Axo p)]at h2;refine j y ?_;simp only[Vr,DX.with,hw,Al,hb,p,h2]
    | big=>
     rw[p]at e2;obtain⟨A,h2⟩:=Aq e2;obtain⟨v,y,h4,C⟩:=Ae5 h2;obtain⟨t,nx,mw⟩:=h;obtain⟨V,Q,G⟩:=y;have H:aop T call round tm op ⟨Ab5 t (loose b s.nw),nx,nx⟩=some (v,⟨V,Q,G⟩):=h4;unfold Al7 at A;unfold Po at C;simp only at C;cases hle:Nat.ble nx G with
     | true=>
      rw[hle,Al]at C;refine j C ?_;simp only[Vr,DX.with,hw,Al,hb,p,A,H,hle,DX.big]
     | false=>
      rw[hle,Bl]at C;obtain⟨D,E⟩:=Aq C;refine j E ?_;simp only[Vr,DX.with,hw,Al,Bl,hb,p,A,H,hle,D,DX.Ai3]
   have e1:(match bs.get i with|none=>none|some b=>(@Option.rec (Nat × Bool) (fun _=>R) (A69 T call call round op i b base s (tmp tm) h (fun s v h=>thn fl n t2 dst v fun t2=>Aqx fl T call call round n ops bs base fin l (Nat.succ i) none s (Afx n dst (tmp tm) v) t2 h ds))
    (fun g=>match Avf m g with
     | some true=>A69 T call call round op i b base s (tmp tm) h (fun s v h=>thn fl n t2 dst v fun t2=>Aqx fl T call call round n ops bs base fin l (Nat.succ i) (Ago ops g true dst) s (Afx n dst (tmp tm) v) t2 h ds)
     | some false=>thn fl n t2 dst (.tuple []) fun t2=>Aqx fl T call call round n ops bs base fin l (Nat.succ i) (Ago ops g false dst) s (Afx n dst (tmp tm) (.tuple [])) t2 h ds
     | none=>Bb (A7z ops (tmp tm) g) (A69 T call call round op i b base s (tmp tm) h (fun s v h=>thn fl n t2 dst v fun t2=>Aqx fl T call call round n ops bs base fin l (Nat.succ i) (Ago ops g true dst) s (Afx n dst (tmp tm) v) t2 h ds)) (thn fl n t2 dst (.tuple []) fun t2=>Aqx fl T call call round n ops bs base fin l (Nat.succ i) (Ago ops g false dst) s (Afx n dst (tmp tm) (.tuple [])) t2 h ds)) g:R))=some r:=e
   rw[hb]at e1;cases g with
   | none=>exact run (fun v=>Y9.none _ _) rfl e1
   | some g=>
    rcases A1f hm e1 with⟨hw,e'⟩|⟨hw,e'⟩
    ·exact run (fun v=>Atj hw n dst v) hw e'
    ·rw[A3i,Apw]at e'
     obtain⟨s',t3,h2,y,h4⟩:=Ari (S _) (Atj hw n dst _) e';refine⟨s',t3,?_,y,h4⟩;simp only[Sb,Vr,DX.with,hw,Bl];exact h2
theorem A8c{t2:Ax}{call:Ai}{r:EV × Ab}(o:fl=true->t2=tm)(e:A4b fl T call call round n ops fin (tmp tm) t2 h ds=some r):
 ∃d h' i,Aq1 T call round n ops tm h=some (d,h')/\(fl=true->i=d)/\fin (tmp d) i h' ds=some r:=by
 unfold A4b at e;obtain⟨p,e⟩:=Aq e;obtain⟨h2,e⟩:=Aq e;obtain⟨⟨d,h',q,u,a3,a4,a5⟩,t3,y,h4,A⟩:=Ari o (Y9.none _ _) e;refine⟨d,h',t3,?_,h4,A⟩;unfold Aq1;rw[p,Al,h2,Al];have j:Sb T call round n ops (Oh ops 0 .nil) h.next ops 0 ⟨tm,h,0,[],[],[],[]⟩=some ⟨d,h',q,u,a3,a4,a5⟩:=y
 rw[j]
section
inductive Reach (step:Hv->AR):Hv->Hv->Prop where
 | refl (s:Hv):Reach step s s
 | head {s s1 s2:Hv}:step s=.go s1->Reach step s1 s2->Reach step s s2
def Ends(step:Hv->AR)(s:Hv)(r:EV × Ab):Prop:=∃s1,Reach step s s1/\step s1=.done r.1 r.2
theorem Ends.go {step:Hv->AR}{s s1:Hv}{r:EV × Ab}(h:step s=.go s1)(e:Ends step s1 r):Ends step s r:=by
 obtain⟨s2,d,h2⟩:=e;exact⟨s2,.head h d,h2⟩
theorem Ends.done {step:Hv->AR}{s:Hv}{r:EV × Ab}(h:step s=.done r.1 r.2):Ends step s r:=⟨s,.refl s,h⟩
theorem Ends.congr {step:Hv->AR}{s s':Hv}{r:EV × Ab}(h:step s=step s')(e:Ends step s r):Ends step s' r:=by
 obtain⟨s2,d,h2⟩:=e;cases d with
 | refl=>exact⟨s',.refl s',by rw[<-h];exact h2⟩
 | head i h4=>exact⟨s2,.head (by rw[<-h];exact i) h4,h2⟩
section
variable (fl:Bool)(T:Ih)(call round:Ai)(fn n:Nat)(Dp:Option Nat)
def At(cd:CD)(todo:List Item):Prop:=∀tm t2 h ds r,((fl=true->t2=tm)/\(fl=false->ds = []))->cd (tmp tm) t2 h ds=some r->Ends (Cm T call round) ⟨⟨fn,n,tm,todo,ds,false,Dp⟩,h⟩ r
end
section
variable{call:Ai}{fn:Nat}{Dp:Option Nat}
theorem At.bad(todo:List Item):At fl T call round fn n Dp (fun _ _ _ _=>none) todo:=fun _ _ _ _ _ _ e=>(by cases e)
theorem At.step{a b:List Item}(hs:∀tm h ds,Cm T call round ⟨⟨fn,n,tm,a,ds,false,Dp⟩,h⟩=.go ⟨⟨fn,n,tm,b,ds,false,Dp⟩,h⟩)(h:At fl T call round fn n Dp cf b):At fl T call round fn n Dp cf a:=
 fun tm t2 h' ds r d e=>(h tm t2 h' ds r d e).go (hs tm h' ds)
theorem At.exit{id:Nat}{a b:List Item}(hs:exitTo id a=exitTo id b)(h:At fl T call round fn n Dp cf (.code (.exit id)::a)):At fl T call round fn n Dp cf (.code (.exit id)::b):=by
 intro tm t2 h' ds r d e;refine(h tm t2 h' ds r d e).congr ?_;simp only[Cm];rw[hs];cases exitTo id b with
 | some k=>rfl
 | none=>simp only[leave]
theorem Bfu(out:Nat->CD)(id:Nat)(k:CD)(env:Afy)(d:Nat):A9m out ((id,k)::env) d=Bb (Nat.beq id d) k (A9m out env d):=by
 funext e tm h ds;show Bb (Nat.beq id d) (k e tm h ds) (A9m out env d e tm h ds)=_;cases Nat.beq id d<;>rfl
theorem A15 {k:Ab->R}{ex:Nat->Ab->R}{ret:Ab->R}{kk:List Item}{l:Nat}{r:R}{x:EV × Ab}(j:∀h,k h=some x->Ends (Cm T call round) ⟨⟨fn,n,tm,kk,ds,false,Dp⟩,h⟩ x)
 (hex:∀id h,ex id h=some x->Ends (Cm T call round) ⟨⟨fn,n,tm,.code (.exit id)::kk,ds,false,Dp⟩,h⟩ x) (d:∀h,ret h=some x->Ends (Cm T call round) ⟨⟨fn,n,tm,.code .ret::kk,ds,false,Dp⟩,h⟩ x) (e:A48 l r k ex ret=some x) :
 ∃s',behind fn n tm ds Dp l kk r=.go s'/\Ends (Cm T call round) s' x:=by
 unfold A48 at e;unfold behind;split at e
 ·cases e
 ·split at e
  ·rename_i i
   split at e
   ·cases e
   ·rename_i o
    split at e
    ·simp only;rw[i];simp only;exact⟨_,rfl,j _ e⟩
    ·simp only;rw[i];simp only;exact⟨_,rfl,hex _ _ e⟩
    ·simp only;rw[i];simp only;exact⟨_,rfl,d _ e⟩
    ·cases e
  ·cases e
theorem W9 {fuel:Nat}{out:Nat->CD}{ret:CD}(i:∀kk,At fl T call round fn n Dp ret (.code .ret::kk)):∀(c:Code) (env:Afy) (k:CD) (kk:List Item),
 At fl T call round fn n Dp k kk->(∀id,At fl T call round fn n Dp (A9m out env id) (.code (.exit id)::kk))->At fl T call round fn n Dp (Abo fl T call call round fuel fn n Dp out ret c env k) (.code c::kk)
 | .skip,env,k,kk,j,d=>At.step (fun _ _ _=>rfl) j
 | .region id ops dr,env,k,kk,j,d=>by
  intro tm t2 h ds r o e;have plain:Bcx fl T call call round n ops.toList k ops.toList none (tmp tm) t2 h ds=some r->(∀p h',Aqh T call round n ops.toList ops.toList tm h=some (p,h')->Cm T call round ⟨⟨fn,n,tm,.code (.region id ops dr)::kk,ds,false,Dp⟩,h⟩=.go ⟨⟨fn,n,p,kk,ds,false,Dp⟩,h'⟩) ->
   Ends (Cm T call round) ⟨⟨fn,n,tm,.code (.region id ops dr)::kk,ds,false,Dp⟩,h⟩ r:=fun e hs=>by
   obtain⟨p,h',t3,q,B,h2⟩:=Avm o.1 (Y9.none _ _) e;exact(j _ _ _ _ _ ⟨B,o.2⟩ h2).go (hs _ _ q)
  cases dr with
  | false=>exact plain e fun p h' q=>by simp only[Cm];rw[q]
  | true=>
   have e':Bb (Ass T ops.toList) (Bcx fl T call call round n ops.toList k ops.toList none) (A4b fl T call call round n ops.toList k) (tmp tm) t2 h ds=some r:=e;cases C:Ass T ops.toList with
   | true=>
    rw[C,Al]at e';exact plain e' fun p h' q=>by simp only[Cm];rw[A6f C q]
   | false=>
    rw[C,Bl]at e';obtain⟨p,h',t3,q,B,h2⟩:=A8c o.1 e';exact(j _ _ _ _ _ ⟨B,o.2⟩ h2).go (by simp only[Cm];rw[q])
 | .seq a b,env,k,kk,j,d=>by
  have hb:=W9 (fuel:=fuel) i b env k kk j d;exact At.step (fun _ _ _=>rfl) (W9 (fuel:=fuel) i a env _ (.code b::kk) hb fun id=>At.exit (a:=kk) (b:=.code b::kk) rfl (d id))
 | .cond c a b,env,k,kk,j,d=>by
  have G:=W9 (fuel:=fuel) i a env k kk j d;have hb:=W9 (fuel:=fuel) i b env k kk j d;intro tm t2 h ds r o e;have e':(match Eh (tmp tm) c with|some e=>ifE e (Abo fl T call call round fuel fn n Dp out ret a env k (tmp tm) t2 h ds) (Abo fl T call call round fuel fn n Dp out ret b env k (tmp tm) t2 h ds)|none=>none)=some r:=e;rw[Dg]at e';split at e'
  ·rename_i e1 he
   obtain⟨b,rfl,h2⟩:=Ay2 e';cases b
   ·exact(hb _ _ _ _ _ o h2).go (by simp only[Cm];rw[he])
   ·exact(G _ _ _ _ _ o h2).go (by simp only[Cm];rw[he])
  ·cases e'
 | .block id c,env,k,kk,j,d=>by
  refine At.step (b:=.code c :: .inBlock id::kk) (fun _ _ _=>rfl) (W9 i c ((id,k)::env) k (.inBlock id::kk) (At.step (fun _ _ _=>rfl) j) fun u=>?_);rw[Bfu,Bo];split
  ·rename_i y
   have:=aJ y;subst this;exact At.step (fun _ _ _=>by simp[Cm,exitTo]) j
  ·rename_i y
   refine(d u).exit ?_;have:(id == u)=false:=by
    cases hb:(id == u)with
    | false=>rfl
    | true=>exact absurd (by simpa using hb:id=u) (fun e=>y (by subst e;exact cI _))
   simp[exitTo,this]
 | .loop c,env,k,kk,j,d=>by
  have key:∀m,At fl T call round fn n Dp (A1x (fun D=>Abo fl T call call round fuel fn n Dp out ret c env D) m) (.code c :: .inLoop c::kk):=by
   intro m;induction m with
   | zero=>exact At.bad _
   | succ m D=>exact W9 i c env _ (.inLoop c::kk) (At.step (fun _ _ _=>rfl) D) fun id=>At.exit (a:=kk) (b:=.inLoop c::kk) rfl (d id)
  exact At.step (fun _ _ _=>rfl) (key fuel)
 | .rangeFunc f ps asg body,env,k,kk,j,d=>by
  intro tm t2 h ds r o e;obtain⟨A,e'⟩:=Aq (show Bb fl (match Eh (tmp tm) f with|some e=>Bau call fn n Dp e ps.toList asg body t2 h ds (fun h ds=>k (tmp tm) t2 h ds) (fun id h ds=>A9m out env id (tmp tm) t2 h ds) (fun h ds=>ret (tmp tm) t2 h ds)|none=>none) none=some r from e);have e2:=o.1 A;subst e2;have o:∀{ds:List Nat},((fl=true->t2=t2)/\(fl=false->ds = [])):=fun {_}=>⟨fun _=>rfl,fun x=>by rw[A]at x;cases x⟩
  rw[Dg]at e';split at e'
  ·rename_i e1 E
   unfold Bau at e';split at e'
   ·split at e'
    ·obtain⟨s',q,h2⟩:=A15 (fun h e=>j _ _ _ _ _ o e) (fun id h e=>d id _ _ _ _ _ o e) (fun h e=>i kk _ _ _ _ _ o e) e'
     exact h2.go (by simp only[Cm];rw[E];exact q)
    ·split at e'
     ·rename_i H
      obtain⟨s',q,h2⟩:=A15 (fun h e=>j _ _ _ _ _ o e) (fun id h e=>d id _ _ _ _ _ o e) (fun h e=>i kk _ _ _ _ _ o e) e';exact h2.go (by simp only[Cm];rw[E];simp only;rw[H];exact q)
     ·cases e'
   ·cases e'
  ·cases e'
 | .exit id,env,k,kk,j,d=>d id
 | .scope c,env,k,kk,j,d=>At.bad _
 | .label l,env,k,kk,j,d=>At.step (fun _ _ _=>rfl) j
 | .goto l,env,k,kk,j,d=>At.bad _
 | .ret,env,k,kk,j,d=>i kk
 | .refuse w,env,k,kk,j,d=>At.bad _
theorem Bli(T:Ih)(res:List ResultVar)(tm:Ax)(h:Ab):A20 T res (tmp tm) h=match Mq T tm h res with|some [v]=>some (v,h)|some l=>some (.tuple l,h)|none=>none:=by
 have e:∀l:List ResultVar,Mq T tm h l=Axa T h (l.map (rvD (tmp tm))):=by
  intro l;induction l with
  | nil=>rfl
  | cons a r d=>
   cases a with
   | tmp t=>simp only[Mq,dB,rvD,Axa,d];rfl
   | cell a t=>simp only[Mq,dB,rvD,Axa,d];cases tmp tm a<;>rfl
 unfold A20;split
 ·rfl
 ·rfl
 ·rfl
 ·rw[e];rfl
theorem Apa(o:T.fn fn=some f):∀{ds:List Nat} {h:Ab} {r:EV × Ab},Fp ds h (fun h=>A20 T f.results.toList (tmp tm) h)=some r ->
 Ends (Cm T call round) ⟨⟨fn,n,tm,todo,ds,true,Dp⟩,h⟩ r
 | [],h,r,e=>by
  have e':A20 T f.results.toList (tmp tm) h=some r:=e;rw[Bli]at e';refine .done ?_;simp only[Cm];rw[o];simp only;split at e'
  ·rename_i v p;cases e';rw[p]
  ·rename_i l j q
   cases e';rw[q];split
   ·rename_i v i;cases i;exact(j v rfl).elim
   ·rename_i i;cases i;rfl
   ·rename_i i;cases i
  ·cases e'
 | d::ds,h,r,e=>by
  have e':(match h.get d with|some (.deferred true)=>Fp ds (h.put d (.deferred false)) (fun h=>A20 T f.results.toList (tmp tm) h)|_=>none)=some r:=e;split at e'
  ·rename_i u
   exact(Apa o e').go (by simp only[Cm];rw[u])
  ·cases e'
theorem Bl7(i:T.fn fn=some f):(∀kk,At fl T call round fn n none (Bis fl T f.results.toList) (.code .ret::kk))/\At fl T call round fn n none (Bis fl T f.results.toList) []:=
 by
 have k:∀{tm:Ax} {h:Ab} {ds:List Nat} {r:EV × Ab} {todo:List Item},(fl=false->ds = [])->Bb fl (Fp ds h fun h=>A20 T f.results.toList (tmp tm) h) (A20 T f.results.toList (tmp tm) h)=some r->Ends (Cm T call round) ⟨⟨fn,n,tm,todo,ds,true,none⟩,h⟩ r:=fun hd e=>by
  cases fl with
  | true=>exact Apa i e
  | false=>rw[hd rfl]at *;exact Apa (ds:=[]) i e
 exact⟨fun _ _ _ _ _ _ d e=>(k d.2 e).go rfl,fun _ _ _ _ _ d e=>(k d.2 e).go rfl⟩
theorem Bk2(tm:Ax)(d:Nat)(v:EV):Bhc (tmp tm) d v=tmp (tm.put d (some v)):=by
 have:=Apw (Nat.succ d) (some d) tm v;simp only[Afx,Ps]at this
 rwa [show Nat.ble (Nat.succ d) (Nat.succ d)=true from aR (aC _),Al,Al]at this
theorem A5l:∀(l:List EV) (i:Nat) (tm:Ax),A46 l i (tmp tm)=tmp (setArgs l i tm)
 | [],_,_=>rfl
 | v::r,i,tm=>by
  show A46 r (Nat.succ i) (Bhc (tmp tm) i v)=_;rw[Bk2,A5l r];rfl
theorem Bbw:∀{ps:List Tmp} {args:List EV} {tm d:Ax},Vw ps args n tm=some d->Bj4 n ps args (tmp tm)=tmp d
 | [],[],tm,d,e=>by cases e;rfl
 | [],_::_,_,_,e=>by cases e
 | _::_,[],_,_,e=>by cases e
 | p::r,v::s,tm,d,e=>by
  show Bj4 n r s (Afx n (some p) (tmp tm) v)=_;rw[Apw];exact Bbw e
theorem Bf1 {f:Nat}{r:EV × Ab}(e:Axb T call round fuel f args h=some r):∃fr,enter T f args=some fr/\Ends (Cm T call round) ⟨fr,h⟩ r:=by
 unfold Axb at e;split at e
 ·rename_i name origin targs params j nfree o res c u ours file el y met A d
  obtain⟨i,h2⟩:=Aq e;rw[Ahb]at i;rw[show(u0:VS)=tmp .nil from rfl,A5l]at h2;obtain⟨p,q⟩:=Bl7 (call:=call) (round:=round) (n:=o) d;refine⟨_,by unfold enter;rw[d];simp only;rw[i,Al],?_⟩;exact W9 p _ [] _ [] q (fun id=>At.bad _) _ _ _ _ _ ⟨fun _=>rfl,fun _=>rfl⟩ h2
 ·cases e
theorem Bea(l:Nat):(∀kk,At fl T call round fn n (some l) (fun _ _ h _=>Su l false .done (some .ret) h) (.code .ret::kk)) /\
 (∀id kk,exitTo id kk=none->At fl T call round fn n (some l) (fun _ _ h _=>Su l false .done (some (.exit id)) h) (.code (.exit id)::kk))/\At fl T call round fn n (some l) (fun _ _ h _=>Su l true .ready none h) []:=by
 refine⟨?_,?_,?_⟩
 ·intro kk tm t2 h ds r _ e
  simp only[Su]at e;split at e
  ·rename_i d;cases e;exact .done (by simp only[Cm,leave];rw[d])
  ·cases e
 ·intro id kk i tm t2 h ds r _ e
  simp only[Su]at e;split at e
  ·rename_i d;cases e;exact .done (by simp only[Cm];rw[i];simp only[leave];rw[d])
  ·cases e
 ·intro tm t2 h ds r _ e
  simp only[Su]at e;split at e
  ·rename_i d;cases e;exact .done (by simp only[Cm,leave];rw[d])
  ·cases e
theorem Awm {l:Nat}{r:EV × Ab}(e:Au6 T call round fuel l args h=some r):∃fr,Ak7 l args h=some fr/\Ends (Cm T call round) ⟨fr,h⟩ r:=by
 unfold Au6 at e;split at e
 ·rename_i st C f p tm ps asg body d y
  split at e
  ·rename_i j i
   refine⟨⟨f,p,j,[.code asg,.beginRound,.code body],[],false,some l⟩,by unfold Ak7;rw[y];simp only;rw[i],?_⟩;obtain⟨q,u,A⟩:=Bea (fl:=true) (T:=T) (call:=call) (round:=round) (fn:=f) (n:=p) l;rw[Bbw i]at e;refine W9 (out:=fun id _ _ h _=>Su l false .done (some (.exit id)) h) q asg [] _ [.beginRound,.code body] (fun tm t2 h ds r B e=>?_) (fun id=>u id _ rfl) _ _ _ _ _ ⟨fun _=>rfl,fun x=>by cases x⟩ e;simp only[Ff]at e;split at e
   ·rename_i o
    exact(W9 (fuel:=fuel) (out:=fun id _ _ h _=>Su l false .done (some (.exit id)) h) q body [] _ [] A (fun id=>u id [] rfl) _ _ _ _ _ B e).go (by simp only[Cm];rw[o])
   ·cases e
  ·cases e
 ·cases e
end
structure Good(P:Program)(g:Nat)(args:List EV)(h:Ab)(v:EV)(h':Ab):Prop where
 fn:∃fn,P.funcs[g]? = some fn/\fn.body.isSome=true/\(fn.name == "runtime.NumGoroutine")=false
 run:∀p f w,Tj p h->Te f h w->EV.Tg p args->∀cs,∃fr f' w',Steps P (lone (Frame.enter P g (Bn f args).toArray .normal) cs w) (lone fr cs w')/\fr.fn=g /\
  fr.leaving P w' (.returned (Cj f' v))/\Move p f h w f' h' w'/\Wf p h h'/\v.ok (grow p h h')
 wf:AWf h h'
def Bnl(P:Program)(g:Nat)(F:FnT):Prop:=∀args h v h',F args h=some (v,h')->Good P g args h v h'
def Sound(P:Program)(c:Ai):Prop:=∀g,Bnl P g (c g)
def A4d(P:Program)(c:Ai):Prop:=Ale P c/\Vn c
theorem Sound.call{c:Ai}(h:Sound P c):Aec P c:=fun g args d v h' e=>⟨(h g args d v h' e).fn,(h g args d v h' e).run⟩
theorem Sound.w{c:Ai}(h:Sound P c):Vn c:=fun g args d v h' e=>(h g args d v h' e).wf
theorem Sound.of{c:Ai}(d:Aec P c)(h2:Vn c):Sound P c:=fun g args h v h' e=>⟨(d g args h v h' e).1,(d g args h v h' e).2,h2 g args h v h' e⟩
section
variable(hT:O6 P T){call:Ai}(hC:Sound P call)(hR:A4d P round)
include hT hC hR
theorem Ax1 {s s':Hv}(h:Reach (Cm T call round) s s'):Bc0 P s s'/\AWf s.h s'.h:=by
 induction h with
 | refl s=>exact⟨fun p f w cs d e i=>Sim.refl d e i,.refl _⟩
 | @head s s1 s2 j _ o=>
  have a:Bc0 P s s1:=fun p f w cs d e i=>Bju hT hC.call hR.1 hC.w hR.2 j d e i cs
  exact⟨a.trans o.1,(A3c hC.w hR.2 (.inl ⟨s1,j,rfl⟩)).trans o.2⟩
theorem Bbh(fuel g:Nat):Bnl P g (Axb T call round fuel g):=by
 intro args h v h' hop;obtain⟨fr,hfr,s1,hre,hdone⟩:=Bf1 hop;obtain⟨hruns,hw⟩:=Ax1 hT hC hR hre;simp only at hdone;unfold enter at hfr;split at hfr
 ·rename_i name origin targs params rts nfree n results c nr ours file el ln met tn hfn
  obtain⟨hle,hfr⟩:=Aq hfr;cases hfr;have hle':args.length<=n:=by have:=bB hle;rwa [Uf]at this
  obtain⟨hfn1,hfn2⟩:=hT.fn _ _ hfn;refine⟨⟨_,hfn1,rfl,hfn2⟩,fun p f w hh rp ha cs=>?_,hw.trans (A3c hC.w hR.2 (.inr ⟨v,hdone⟩))⟩;have hfo:Xj p ⟨g,n,setArgs args 0 .nil,[.code c],[],false,none⟩:=⟨Bja hle' ha,fun d hd=>(by cases hd),fun l hl=>(by cases hl),fun x=>(by cases x)⟩;obtain⟨f1,w1,hs,hm,Z1,hf1,e1,e2⟩:=hruns p f w cs hfo hh rp;have hfin:=Ayn hT hdone hf1 Z1.hok hm.rep;unfold Fin at hfin;rw[e2]at hfin;obtain⟨rfl,hlv,hvo⟩:=hfin;refine⟨_,f1,w1,?_,e1,hlv,hm,Z1,hvo⟩;have he:Frame.enter P g (Bn f args).toArray .normal=Od f ⟨g,n,setArgs args 0 .nil,[.code c],[],false,none⟩:=by
   unfold Frame.enter Od;rw[A80 f hle'];simp[hfn1]
  rw[he];exact hs
 ·cases hfr
theorem Bdm(fuel:Nat):A4d P (Au6 T call round fuel):=by
 constructor
 ·intro l args h v h' y
  obtain⟨fr,e,s1,A,i⟩:=Awm y;obtain⟨j,hw⟩:=Ax1 hT hC hR A;simp only at i;unfold Ak7 at e;split at e
  ·rename_i st O fn n tm ps asg body dd D
   split at e
   ·rename_i B C
    cases e;refine⟨st,O,fn,n,tm,ps,asg,body,dd,B,D,C,fun p f w E Q S caller cs=>?_⟩;obtain⟨_,G,_⟩:=Ah9 f C S (E.get l _ D).2.1;have H:Xj p ⟨fn,n,B,[.code asg,.beginRound,.code body],[],false,some l⟩:=⟨G,fun d hd=>(by cases hd),fun l' U=>(by cases U;exact(E.get l _ D).1),fun x=>(by cases x)⟩;obtain⟨f1,w1,hs,hm,Z1,J,e1,e2⟩:=j p f w (caller::cs) H E Q;have o:=Ayn hT i J Z1.hok hm.rep;unfold Fin at o;rw[e2]at o;obtain⟨w2,K,L,u,M⟩:=o caller cs;refine⟨f1,w2,?_,hm.trans L,Z1.trans u,EV.ok.mono (fun q V=>?_) _ M⟩
    ·exact hs.trans K
    ·rw[<-Ad7 p Z1.next u.next];exact .inl V
   ·cases e
  ·cases e
 ·intro l args h v h' y
  obtain⟨fr,e,s1,A,i⟩:=Awm y;obtain⟨j,hw⟩:=Ax1 hT hC hR A;unfold Ak7 at e;split at e
  ·split at e
   ·cases e;exact hw.trans (A3c hC.w hR.2 (.inr ⟨v,i⟩))
   ·cases e
  ·cases e
end
end
noncomputable section
abbrev FT:=Ai->Ai->Nat->FnT
def Am5(P:Program)(g:Nat)(F:FT):Prop:=∀call round K,Sound P call->A4d P round->Bnl P g (F call round K)
def Ag(T:Ih)(disp:Nat->Option FT)(K:Nat):Nat->Bool->Ai:=
 @Nat.rec (fun _=>Bool->Ai) (fun _ _ _ _=>none)
  (fun _ d b=>@Bool.rec (fun _=>Ai) (fun f=>@Option.rec FT (fun _=>FnT) (Axb T (d false) (d true) K f) (fun F=>F (d false) (d true) K) (disp f)) (fun l=>Au6 T (d false) (d true) K l) b)
theorem Am5.of(hT:O6 P T){g:Nat}{F:FT}(h:∀call round K,Axb T call round K g=F call round K):Am5 P g F:=
 fun call round K d e=>by rw[<-h];exact Bbh hT d e K g
theorem Asp(hT:O6 P T){disp:Nat->Option FT}(j:∀g F,disp g=some F->Am5 P g F)(K:Nat):∀d,Sound P (Ag T disp K d false)/\A4d P (Ag T disp K d true)
 | 0=>⟨fun _ _ _ _ _ e=>(by cases e),fun _ _ _ _ _ e=>(by cases e),fun _ _ _ _ _ e=>(by cases e)⟩
 | d+1=>by
  obtain⟨c1,i⟩:=Asp hT j K d;constructor
  ·intro g
   have e:Ag T disp K (d+1) false g = @Option.rec FT (fun _=>FnT) (Axb T (Ag T disp K d false) (Ag T disp K d true) K g) (fun F=>F (Ag T disp K d false) (Ag T disp K d true) K) (disp g):=rfl;rw[e];cases o:disp g with
   | none=>exact Bbh hT c1 i K g
   | some F=>exact j g F o _ _ K c1 i
  ·exact Bdm hT c1 i K
def Axk:List UInt8->List UInt8->Bool
 | [],[]=>true
 | a::r,b::s=>Bb (Nat.beq a.toNat b.toNat) (Axk r s) false
 | _,_=>false
def A9x(a b:Bool):Bool:=Bb a b (Apy b)
mutual
def eqV:EV->EV->Bool
 | .int k n,.int j p=>Bb (Nat.beq (Qb k) (Qb j)) (eqI n p) false
 | .bool a,.bool b=>A9x a b
 | .str a,.str b=>Axk a.data.toList b.data.toList
 | .ptr i o,.ptr d o'=>Bb (Nat.beq i d) (Nat.beq o o') false
 | .Cl,.Cl=>true
 | .slice i o l r op,.slice d o' l' q e=>Bb (Nat.beq i d) (Bb (Nat.beq o o') (Bb (Nat.beq l l') (Bb (Nat.beq r q) (A9x op e) false) false) false) false
 | .Ao,.Ao=>true
 | .map i,.map d=>Nat.beq i d
 | .Akk,.Akk=>true
 | .chan i,.chan d=>Nat.beq i d
 | .Ad3,.Ad3=>true
 | .func f a c,.func f' u y=>Bb (Nat.beq f f') (Bb (A3a a u) (A3a c y) false) false
 | .Sy l,.Sy l'=>Nat.beq l l'
 | .Ahx,.Ahx=>true
 | .Abd,.Abd=>true
 | .agg l,.agg l'=>A3a l l'
 | .tuple l,.tuple l'=>A3a l l'
 | _,_=>false
def A3a:List EV->List EV->Bool
 | [],[]=>true
 | a::r,b::s=>Bb (eqV a b) (A3a r s) false
 | _,_=>false
end
end
variable {F:FT}{disp:Nat->Option FT}
theorem Biu {a b:Int}(h:eqI a b=true):a=b:=by
 cases a<;>cases b
 ·exact congrArg Int.ofNat (aJ h)
 ·cases h
 ·cases h
 ·exact congrArg Int.negSucc (aJ h)
theorem Auy:∀{a b:List UInt8},Axk a b=true->a=b
 | [],[],_=>rfl
 | x::r,y::s,h=>by
  simp only[Axk]at h;rw[Bo]at h;split at h
  ·rename_i e
   rw[UInt8.toNat_inj.1 (aJ e),Auy h]
  ·cases h
 | [],_::_,h=>by cases h
 | _::_,[],h=>by cases h
theorem Awa(h:A9x a b=true):a=b:=by cases a<;>cases b<;>first|rfl|cases h
theorem Bd3 {a b:IntKind}(h:Qb a=Qb b):a=b:=by cases a<;>cases b<;>first|rfl|(simp[Qb]at h)
theorem Adw(h:Bb a b false=true):a=true/\b=true:=by cases a<;>simp_all [Bo]
theorem beq_spec {a b:Nat}(h:Nat.beq a b=true):a=b:=aJ h
mutual
theorem A45:∀{a b:EV},eqV a b=true->a=b
 | .int k n,b,h=>by
  cases b<;>first|(simp[eqV]at h;done)|skip
  simp only[eqV]at h;obtain⟨d,h2⟩:=Adw h;rw[Bd3 (beq_spec d),Biu h2]
 | .bool a,b,h=>by
  cases b<;>first|(simp[eqV]at h;done)|skip
  simp only[eqV]at h;rw[Awa h]
 | .str a,b,h=>by
  cases b<;>first|(simp[eqV]at h;done)|skip
  rename_i b;simp only[eqV]at h;obtain⟨⟨a⟩⟩:=a;obtain⟨⟨b⟩⟩:=b;have:a=b:=Auy h;rw[this]
 | .ptr i o,b,h=>by
  cases b<;>first|(simp[eqV]at h;done)|skip
  simp only[eqV]at h;obtain⟨d,h2⟩:=Adw h;rw[beq_spec d,beq_spec h2]
 | .Cl,b,h=>by cases b<;>first|(simp[eqV]at h;done)|rfl
 | .slice i o l r op,b,h=>by
  cases b<;>first|(simp[eqV]at h;done)|skip
  simp only[eqV]at h;obtain⟨d,h⟩:=Adw h;obtain⟨h2,h⟩:=Adw h;obtain⟨e,h⟩:=Adw h;obtain⟨h4,h⟩:=Adw h;rw[beq_spec d,beq_spec h2,beq_spec e,beq_spec h4,Awa h]
 | .tail i o p,b,h=>by cases b<;>(simp[eqV]at h)
 | .odd a,b,h=>by cases b<;>(simp[eqV]at h)
 | .Ao,b,h=>by cases b<;>first|(simp[eqV]at h;done)|rfl
 | .map i,b,h=>by
  cases b<;>first|(simp[eqV]at h;done)|skip
  simp only[eqV]at h;rw[beq_spec h]
 | .Akk,b,h=>by cases b<;>first|(simp[eqV]at h;done)|rfl
 | .chan i,b,h=>by
  cases b<;>first|(simp[eqV]at h;done)|skip
  simp only[eqV]at h;rw[beq_spec h]
 | .Ad3,b,h=>by cases b<;>first|(simp[eqV]at h;done)|rfl
 | .func f a c,b,h=>by
  cases b<;>first|(simp[eqV]at h;done)|skip
  simp only[eqV]at h;obtain⟨d,h⟩:=Adw h;obtain⟨h2,h⟩:=Adw h;rw[beq_spec d,Ajh h2,Ajh h]
 | .Sy l,b,h=>by
  cases b<;>first|(simp[eqV]at h;done)|skip
  simp only[eqV]at h;rw[beq_spec h]
 | .Ahx,b,h=>by cases b<;>first|(simp[eqV]at h;done)|rfl
 | .Abd,b,h=>by cases b<;>first|(simp[eqV]at h;done)|rfl
 | .agg l,b,h=>by
  cases b<;>first|(simp[eqV]at h;done)|skip
  simp only[eqV]at h;rw[Ajh h]
 | .tuple l,b,h=>by
  cases b<;>first|(simp[eqV]at h;done)|skip
  simp only[eqV]at h;rw[Ajh h]
theorem Ajh:∀{a b:List EV},A3a a b=true->a=b
 | [],[],_=>rfl
 | x::r,y::s,h=>by
  simp only[A3a]at h;obtain⟨d,h2⟩:=Adw h;rw[A45 d,Ajh h2]
 | [],_::_,h=>by simp[A3a]at h
 | _::_,[],h=>by simp[A3a]at h
end
noncomputable section
open Classical in
def Akv(F:FT):FT:=fun call round K args h=>match F call round K args h with
 | some (v,h')=>if ∀i,i<h.next->h'.get i=h.get i then some (v,⟨h'.t,h'.next,h.mw⟩)else some (v,h')
 | none=>none
end
theorem Bee{call:Ai}{K:Nat}(e:F call round K args h=some (v,h'))(s:∀i,i<h.next->h'.get i=h.get i):Akv F call round K args h=some (v,⟨h'.t,h'.next,h.mw⟩):=by
 unfold Akv;rw[e];exact aN s
theorem Bfw{g:Nat}(L:Am5 P g F):Am5 P g (Akv F):=by
 intro call round K M O args h v h' e;have Cr:=L call round K M O args h;unfold Akv at e;cases C:F call round K args h with
 | none=>rw[C]at e;cases e
 | some y=>
  obtain⟨v1,A⟩:=y;rw[C]at e;have G:=Cr v1 A C;simp only at e;split at e
  ·rename_i s
   cases e;have gt:∀i,(⟨A.t,A.next,h.mw⟩:Ab).get i=A.get i:=fun i=>by cases A;rfl
   refine⟨G.fn,fun p f w Q S u cs=>?_,⟨G.wf.next,aC _,fun q _ U=>by rw[gt];exact s q U,fun q o d=>G.wf.live q o (by rw[<-gt];exact d),fun H q o d=>G.wf.lt H q o (by rw[<-gt];exact d)⟩⟩;obtain⟨fr,f',w',D,E,J,mv,wf,V⟩:=G.run p f w Q S u cs;refine⟨fr,f',w',D,E,J,⟨mv.agree,⟨fun i o d=>mv.rep.obj i o (by rw[<-gt];exact d),fun i j o o' B hj=>mv.rep.inj i j o o' (by rw[<-gt];exact B) (by rw[<-gt];exact hj)⟩,mv.kept,mv.size,mv.tape,mv.os,mv.output,fun i o d=>mv.own i o (by rw[<-gt];exact d)⟩,
    ⟨wf.next,aC _,fun i _ B=>by rw[gt];exact s i B,fun i o d=>wf.live i o (by rw[<-gt];exact d),⟨fun i B=>wf.hok.lt i B,fun i o d=>wf.hok.get i o (by rw[<-gt];exact d)⟩⟩,V⟩
  ·cases e
   exact G
end Go.Ev
