import Derived.Test.YtadnemjjlacolaaGreatEvFour
set_option linter.all false
namespace Go.Ev
set_option maxRecDepth 100000
variable {α:Type}{x:Operand}{v:EV}{op:Op}{g:Nat × Bool}{T:Kh}{t:TypeId}{n off fuel:Nat}{tm:Ax}{h h':Ab}{a b fl:Bool}{ops:List Oper}{round:Ah}{ds:List Nat}{f:Func}{args:List EV}{P:Program}
noncomputable section
abbrev R:=Option (EV × Ab)
abbrev FnT:=List EV->Ab->R
def Bvl:Nat->Nat->List Bool:=
 @Nat.rec (fun _=>Nat->List Bool) (fun _=>[]) (fun _ d i=>Bf (Nat.beq i 0) [] (Bf (Nat.beq (Nat.land i 1) 1) (true::d (Nat.div i 2)) (false::d (Nat.pred (Nat.div i 2)))))
def pathOf(i:Nat):List Bool:=Bvl (Nat.succ (Nat.log2 (Nat.succ i))) i
def oB {α β:Type}(k:α->Option β)(x:Option α):Option β:=@Option.rec α (fun _=>Option β) none k x
def Bi1 {α β d:Type}(k:α->β->Option d)(p:α × β):Option d:=@Prod.rec α β (fun _=>Option d) k p
def Gk(l:List EV):Nat:=@List.rec EV (fun _=>Nat) 0 (fun _ _ d=>Nat.succ d) l
def A4e(l:List EV):Nat->Option EV:=@List.rec EV (fun _=>Nat->Option EV) (fun _=>none) (fun a _ d n=>Bf (Nat.beq n 0) (some a) (d (Nat.pred n))) l
def Bi8(l:List EV):Nat->List EV:=@List.rec EV (fun _=>Nat->List EV) (fun _=>[]) (fun a r d n=>Bf (Nat.beq n 0) (a::r) (d (Nat.pred n))) l
def A5o(a:EV)(x:Option (List EV)):Option (List EV):=@Option.rec (List EV) (fun _=>Option (List EV)) none (fun l=>some (a::l)) x
def Bez(l:List EV):Nat->Option (List EV):=@List.rec EV (fun _=>Nat->Option (List EV)) (fun n=>Bf (Nat.beq n 0) (some []) none) (fun a _ d n=>Bf (Nat.beq n 0) (some []) (A5o a (d (Nat.pred n)))) l
def Oy(l:List EV)(off n:Nat):Option (List EV):=Bf (Nat.beq off 0) (Bf (Nat.beq (Gk l) n) (some l) (Bez l n)) (Bez (Bi8 l off) n)
def A4f(vs:List EV):List EV->Option (List EV):=@List.rec EV (fun _=>List EV->Option (List EV)) (fun l=>some l) (fun v _ d l=>@List.rec EV (fun _=>Option (List EV)) none (fun _ r _=>A5o v (d r)) l) vs
def Aux(vs:List EV)(l:List EV):Nat->Option (List EV):=@List.rec EV (fun _=>Nat->Option (List EV)) (fun n=>Bf (Nat.beq n 0) (A4f vs []) none) (fun a r d n=>Bf (Nat.beq n 0) (A4f vs (a::r)) (A5o a (d (Nat.pred n)))) l
def O0(l:List EV)(off:Nat)(vs:List EV):Option (List EV):=Bf (Nat.beq off 0) (Bf (Nat.beq (Gk l) (Gk vs)) (some vs) (Aux vs l 0)) (Aux vs l off)
def Az3 {β:Type}(k:List EV->Nat->Option β)(off:Nat)(x:Option Ec):Option β:=
 match x with|some (.cells l _)=>k l off|some (.vec l _ _)=>k l off|some (.view ws _)=>(match Ara ws off with|some (o,l)=>k l (Nat.sub off o)|none=>none)|_=>none
def Ani(h:Ab)(i:Nat)(f:List EV->Option (List EV))(k:Ab->R):R:=
 match h.get i with
 | some (.cells l t)=>oB (fun l'=>k (h.put i (.cells l' t))) (f l)
 | some (.vec l t s)=>oB (fun l'=>k (h.put i (.vec l' t s))) (f l)
 | _=>none
def Ab4(h:Ab)(i off n:Nat):Option (List EV):=Az3 (fun l o=>Oy l o n) off (h.get i)
def N9(h:Ab)(size n:Nat)(x:EV):Option (List EV):=
 match x with
 | .Ao=>Bf (Nat.beq n 0) (some []) none
 | .slice i off _ _ _=>Bf (Nat.beq n 0) (some []) (Ab4 h i off (Nat.mul n size))
 | .tail ..=>Bf (Nat.beq n 0) (some []) none
 | _=>none
def onB(x y:R)(v:EV):R:=match v with | .bool b=>Bf b x y|_=>none
def Awt(k:Nat->Nat->R)(v:EV):R:=match v with | .ptr i off=>k i off|_=>none
def Brc(k:Nat->R)(v:EV):R:=match v with | .int _ n=>@Int.rec (fun _=>R) k (fun _=>none) n|_=>none
def Btg(k:IntKind->Int->R)(v:EV):R:=match v with | .int c n=>k c n|_=>none
def Bnw(k:List EV->R)(v:EV):R:=match v with | .agg l=>k l|_=>none
def Bti(k:List EV->R)(v:EV):R:=match v with | .tuple l=>k l|_=>none
def Brr(a b:Int):Int:=@Int.rec (fun _=>Int) (fun m=>@Int.rec (fun _=>Int) (fun n=>.ofNat (Nat.add m n)) (fun n=>Int.add (.ofNat m) (.negSucc n)) b) (fun m=>Int.add (.negSucc m) b) a
def Bq8(a b:Int):Int:=@Int.rec (fun _=>Int) (fun m=>@Int.rec (fun _=>Int) (fun n=>Bf (Nat.ble n m) (.ofNat (Nat.sub m n)) (.negSucc (Nat.pred (Nat.sub n m)))) (fun n=>Int.sub (.ofNat m) (.negSucc n)) b) (fun m=>Int.sub (.negSucc m) b) a
def ltI(a b:Int):Bool:=@Int.rec (fun _=>Bool) (fun m=>@Int.rec (fun _=>Bool) (fun n=>Nat.ble (Nat.succ m) n) (fun _=>false) b) (fun m=>ltB (.negSucc m) b) a
def eqI(a b:Int):Bool:=@Int.rec (fun _=>Bool) (fun m=>@Int.rec (fun _=>Bool) (fun n=>Nat.beq m n) (fun _=>false) b) (fun m=>eqB (.negSucc m) b) a
def Av0(b:Bool):Bool:=@Bool.rec (fun _=>Bool) true false b
abbrev IG:=IntKind->Int->Int->EV
def A6b:IG:=fun k a b=>.int k (Dz k (Brr a b))
def Bgm:IG:=fun k a b=>.int k (Dz k (Bq8 a b))
def Bl2:IG:=fun k a b=>.int k (Dz k (Int.mul a b))
def Iq:IG:=fun _ a b=>.bool (ltI a b)
def Bf7:IG:=fun _ a b=>.bool (Av0 (ltI b a))
def Beh:IG:=fun _ a b=>.bool (ltI b a)
def Bfp:IG:=fun _ a b=>.bool (Av0 (ltI a b))
def An2:IG:=fun _ a b=>.bool (eqI a b)
def Alb:IG:=fun _ a b=>.bool (Av0 (eqI a b))
def Bud:BinOp->Option IG
 | .add=>some A6b | .sub=>some Bgm | .mul=>some Bl2 | .lss=>some Iq | .leq=>some Bf7 | .gtr=>some Beh | .geq=>some Bfp | .eql=>some An2 | .neq=>some Alb
 | _=>none
def Bh0(agg:Bool)(n:Nat)(cs:List EV)(off:Nat)(k:EV->R):R:=Bf agg (oB (fun l=>k (.agg l)) (Oy cs off n)) (oB k (A4e cs off))
def Afp(place:Nat->Option (Nat × Nat))(l:List (Nat × EV)):List EV->Option (List EV):=
 @List.rec (Nat × EV) (fun _=>List EV->Option (List EV)) (fun c=>some c) (fun x _ d c=>oB (Bi1 fun off size=>Bf x.2.plain (Bf (Nat.beq (Gk x.2.cells) size) (oB d (O0 c off x.2.cells)) none) none) (place x.1)) l
def Ed(l:List (Nat × Nat)):Nat->Option (Nat × Nat):=@List.rec (Nat × Nat) (fun _=>Nat->Option (Nat × Nat)) (fun _=>none) (fun a _ d i=>Bf (Nat.beq i 0) (some a) (d (Nat.pred i))) l
def Mv(s:Nat):Nat->Option (Nat × Nat):=fun i=>some (Nat.mul i s,s)
def Bo3(a b:List EV):List EV:=@List.rec EV (fun _=>List EV) b (fun x _ d=>x::d) a
def E0(e:TypeId)(size:Nat)(s x:EV)(h:Ab):R:=
 oB (fun n=>Bf (Nat.beq n 0)
  (match s with
   | .slice _ _ d room _=>Bf (Nat.ble d room) (some (s,h)) none
   | .Ao=>some (s,h)
   | _=>none)
  (Bf (Nat.ble n 65536) (oB (fun new=>
   match s with
   | .Ao=>some (.slice h.next 0 n n true,h.new (.vec new e size))
   | .slice i off d room op=>Bf (Nat.ble d 1048576) (oB (fun By=>
    Bf op
     (Bf (Nat.beq off 0) (Bf (Nat.beq room d) (match h.get i with
      | some (.vec l e' s')=>Bf (Nat.beq (Gk l) (Nat.mul d size)) (Bf (Nat.beq s' size) (Bf (Nat.beq e' e)
       (some (.slice h.next 0 (Nat.add d n) (Nat.add d n) true,(h.del i).new (.vec (Bo3 By new) e size))) none) none) none
      | _=>none) none) none)
     (Bf (Nat.ble (Nat.add d n) room) none (some (.slice h.next 0 (Nat.add d n) (Nat.add d n) true,h.new (.vec (Bo3 By new) e size)))))
    (N9 h size d s)) none
   | _=>none) (N9 h size n x)) none)) (lenOf x)
def Aq4(x:Option Ec)(off n:Nat):Option (List EV):=Az3 (fun l o=>Oy l o n) off x
def Kl(g:IG)(f:EV->EV->Option EV)(x y:EV)(k:EV->R):R:=
 match x,y with
 | .int c x,.int d y=>Bf (Nat.beq (T4 c) (T4 d)) (k (g c x y)) none
 | x,y=>oB k (f x y)
def Fm(x:EV)(h:Ab)(k:EV->R):R:=Awt (fun i off=>oB (fun l=>match l with | [v]=>k v|_=>none) (Aq4 (h.get i) off 1)) x
def Oz(n:Nat)(x:EV)(h:Ab)(k:EV->R):R:=Awt (fun i off=>oB (fun l=>k (.agg l)) (Aq4 (h.get i) off n)) x
def stE(n:Nat)(a v:EV)(h:Ab)(k:Ab->R):R:=Awt (fun i off=>Bf v.plain (Bf (Nat.beq (Gk v.cells) n) (Ani h i (fun l=>O0 l off v.cells) k) none) none) a
def Z8(s:Nat)(x ix:EV)(k:EV->R):R:=Brc (fun j=>match x with | .slice i off len _ _=>Bf (Nat.ble (Nat.succ j) len) (k (.ptr i (Nat.add off (Nat.mul j s)))) none|_=>none) ix
def Awc(c a b:EV)(k:EV->R):R:=onB (k a) (k b) c
def Ale(f:EV->EV->Option EV)(a b:EV)(k:EV->R):R:=oB k (f a b)
def Arw(v:EV)(k:EV->R):R:=onB (k (.bool false)) (k (.bool true)) v
def Bgc(v:EV)(k:EV->R):R:=match v with | .int c n=>k (.int c (Dz c (Int.sub 0 n)))|_=>none
def Axv(v:EV)(k:EV->R):R:=Awt (fun i o=>k (.ptr i o)) v
def Alc(c:Nat)(v:EV)(k:EV->R):R:=Awt (fun i o=>k (.ptr i (Nat.add o c))) v
def A0z(len s:Nat)(v ix:EV)(k:EV->R):R:=Brc (fun j=>Awt (fun i off=>Bf (Nat.ble (Nat.succ j) len) (k (.ptr i (Nat.add off (Nat.mul j s)))) none) v) ix
def A08(len s:Nat)(agg:Bool)(n:Nat)(v ix:EV)(k:EV->R):R:=Brc (fun j=>Bnw (fun cs=>Bf (Nat.ble (Nat.succ j) len) (Bh0 agg n cs (Nat.mul j s) k) none) v) ix
def Aej(off:Nat)(agg:Bool)(n:Nat)(v:EV)(k:EV->R):R:=Bnw (fun cs=>Bh0 agg n cs off k) v
def Xp(c:IntKind)(v:EV)(k:EV->R):R:=Btg (fun _ n=>k (.int c (Dz c n))) v
def Aso(ix:Nat)(v:EV)(k:EV->R):R:=Bti (fun l=>oB k (A4e l ix)) v
def Avo(o:Ec)(h:Ab)(k:EV->Ab->R):R:=k (.ptr h.next 0) (h.new o)
def Wy(t:TypeId)(v:EV)(h:Ab)(k:EV->Ab->R):R:=Bf v.plain (k (.ptr h.next 0) (h.new (.cells v.cells t))) none
def F3(v:EV)(k:EV->R):R:=oB (fun n=>k (.int .i64 (.ofNat n))) (lenOf v)
def An(x:R)(k:EV->Ab->R):R:=oB (Bi1 k) x
def Xq(c r:Ah)(f:EV)(args:List EV)(h:Ab):R:=match f with
 | .func g a cs=>c g (Bo3 a (Bo3 args cs)) h
 | .yld l=>r l args h
 | _=>none
def Bv(place:Nat->Option (Nat × Nat))(z:List EV)(ps:List (Nat × EV))(k:EV->R):R:=oB (fun c=>k (.agg c)) (Afp place ps z)
def A3t(n:Nat)(v:EV)(k:EV->R):R:=match v with | .slice i off len _ _=>Bf (Nat.ble n len) (k (.ptr i off)) none|_=>none
def Ant(s:Nat)(v:EV)(d e i:Option EV)(k:EV->R):R:=oB k (slc v s d e i)
def Uk(n s:Nat)(v:EV)(d e j:Option EV)(k:EV->R):R:=Awt (fun i off=>oB k (slc (.slice i off n n false) s d e j)) v
def Mp(z:List EV)(e:TypeId)(l c:EV)(h:Ab):R:=
 match l,c with
 | .int _ (.ofNat n),.int _ (.ofNat m)=>Bf (Nat.ble n m) (Bf (Nat.ble m 65536) (some (.slice h.next 0 n m false,h.new (.cells (rep z m) e))) none) none
 | _,_=>none
def Cd(z:List EV)(e:TypeId)(s n:Nat)(ps:List (Nat × EV))(h:Ab):R:=
 Bf (Nat.ble (Nat.mul n s) 65536) (oB (fun c=>some (.slice h.next 0 n n false,h.new (.cells c e))) (Afp (Mv s) ps (rep z n))) none
def Ayh(h:Ab):R:=some (.map h.next,h.new (.map []))
def Au7(s:EV)(h:Ab):R:=match s with | .int _ (.ofNat n)=>Bf (Nat.ble n 65536) (some (.chan h.next,h.new (.chan n []))) none|_=>none
def Auy(T:Kh)(j e:TypeId)(ok:Bool)(m ix:EV)(h:Ab):R:=
 match m with
 | .map i=>Bf (Q1 T j ix) (match h.get i with
  | some (.map es)=>match J4 ix es 0 with
   | some (some (_,v))=>some (Bf ok (.tuple [v,.bool true]) v,h)
   | some none=>oB (fun d=>some (Bf ok (.tuple [d,.bool false]) d,h)) (zeroOf T e)
   | none=>none
  | _=>none) none
 | _=>none
def Aer(T:Kh)(d:TypeId)(m ix x:EV)(h:Ab):R:=
 match m with
 | .map i=>Bf (Q1 T d ix) (match h.get i with
  | some (.map es)=>match J4 ix es 0 with
   | some (some (j,_))=>some (.tuple [],h.put i (.map (es.set j (ix,x))))
   | some none=>some (.tuple [],h.put i (.map (es++[(ix,x)])))
   | none=>none
  | _=>none) none
 | _=>none
def A43(c x:EV)(h:Ab):R:=
 match c with
 | .chan i=>match h.get i with
  | some (.chan cap buf)=>Bf (Nat.ble (Nat.succ (len buf)) cap) (some (.tuple [.int .i64 0,.bool false],h.put i (.chan cap (buf++[x])))) (some (.tuple [.int .i64 (-1),.bool false],h))
  | _=>none
 | _=>none
def A4z(d:EV)(c:EV)(h:Ab):R:=
 match c with
 | .chan i=>match h.get i with
  | some (.chan cap buf)=>match buf with
   | v::r=>some (.tuple [.int .i64 0,.bool true,v],h.put i (.chan cap r))
   | []=>some (.tuple [.int .i64 (-1),.bool false,d],h)
  | _=>none
 | _=>none
def Bba(c:EV)(h:Ab):R:=match c with | .chan i=>(match h.get i with|some (.chan _ buf)=>some (.int .i64 (.ofNat (len buf)),h)|_=>none)|_=>none
def ifE(v:EV)(x y:R):R:=onB x y v
inductive RV where
 | v (x:EV)
 | c (a:EV) (t:TypeId)
def A22(T:Kh)(h:Ab):List RV->Option (List EV)
 | []=>some []
 | .v x::r=>match A22 T h r with|some l=>some (x::l)|none=>none
 | .c a t::r=>match a,A22 T h r,T.size t with
  | .ptr i off,some l,some n=>match K0 h i off n with
   | some cs=>match T.agg t with
    | some true=>some (.agg cs::l)
    | some false=>(match cs with | [v]=>some (v::l)|_=>none)
    | none=>none
   | none=>none
  | _,_,_=>none
def Ji(T:Kh)(l:List RV)(h:Ab):R:=match A22 T h l with|some [v]=>some (v,h)|some l=>some (.tuple l,h)|none=>none
def Fs(l:Nat)(h:Ab)(k:Ab->R):R:=match h.get l with
 | some (.loop .ready p f i e ps asg body d)=>k (h.put l (.loop .busy p f i e ps asg body d))
 | _=>none
def Bek(l:Nat)(r:R)(k:Ab->R)(ex:Nat->Ab->R)(ret:Ab->R):R:=match r with
 | none=>none
 | some (_,h)=>match h.get l with
  | some (.loop st p f i e ps asg body d)=>match st with
   | .busy=>none
   | _=>match p with
    | none=>k (h.put l (.loop .exhausted p f i e ps asg body d))
    | some (.exit id)=>ex id (h.put l (.loop .exhausted p f i e ps asg body d))
    | some .ret=>ret (h.put l (.loop .exhausted p f i e ps asg body d))
    | some _=>none
  | _=>none
def Vh(l:Nat)(v:Bool)(st:LoopState)(jump:Option Code)(h:Ab):R:=match h.get l with
 | some (.loop _ _ f n tm ps asg body d)=>some (.bool v,h.put l (.loop st jump f n tm ps asg body d))
 | _=>none
def An5:Code->List (Operand × List Tmp × Code × Code)
 | .seq a b=>An5 a++An5 b
 | .cond _ a b=>An5 a++An5 b
 | .block _ c=>An5 c
 | .loop c=>An5 c
 | .rangeFunc f ps a b=>(f,ps.toList,a,b)::(An5 a++An5 b)
 | .scope c=>An5 c
 | _=>[]
def Bvp {α:Type}:List α->Nat->Option α
 | [],_=>none
 | a::r,n=>Bf (Nat.beq n 0) (some a) (Bvp r (Nat.pred n))
def E4(T:Kh)(g i:Nat):Operand × List Tmp × Code × Code:=match T.fn g with|some { body:=some c,.. }=>(match Bvp (An5 c) i with|some x=>x|none=>(.tmp 0,[],.skip,.skip))|_=>(.tmp 0,[],.skip,.skip)
def Zk(c:Ah)(T:Kh)(g n i:Nat)(f:EV)(tm:Ax)(h:Ab)(ds:List Nat)(k:Ab->List Nat->R)(ex:Nat->Ab->List Nat->R)(ret:Ab->List Nat->R):R:=match f with
 | .func q first captured=>Bek (Nat.succ h.next) (c q (first++(.yld (Nat.succ h.next)::captured)) ((h.new (.deferred true)).new (.loop .ready none g n tm (E4 T g i).2.1 (E4 T g i).2.2.1 (E4 T g i).2.2.2 h.next)))
  (fun h'=>k h' (h.next::ds)) (fun id h'=>ex id h' (h.next::ds)) (fun h'=>ret h' (h.next::ds))
 | _=>none
def Au0(c:Ah)(T:Kh)(g n i l0:Nat)(f:EV)(tm:Ax)(h:Ab)(ds:List Nat)(k:Ab->List Nat->R)(ex:Nat->Ab->List Nat->R)(ret:Ab->List Nat->R):R:=match f with
 | .func q first captured=>match h.get l0 with
  | some (.loop _ _ _ _ _ _ _ _ d)=>Bek h.next (c q (first++(.yld h.next::captured)) (h.new (.loop .ready none g n tm (E4 T g i).2.1 (E4 T g i).2.2.1 (E4 T g i).2.2.2 d)))
   (fun h'=>k h' ds) (fun id h'=>ex id h' ds) (fun h'=>ret h' ds)
  | _=>none
 | _=>none
structure DX where
 bg:Nat
 nw:List (Nat × Nat)
 C8:List (Nat × Nat)
 lou:List (Nat × Nat)
 st:List (Nat × Nat)
def Bag(b base q:Nat)(s:DX):Bool:=Bf (Gb b q s.st) (Bf (Nat.ble (Nat.succ q) base) (Acj b q s.lou) (Bf (within s.bg b) (match loose b s.nw with | []=>true|_=>false) false)) false
def Bij(b q:Nat)(s:DX):Bool:=Bf (within s.bg b) (Bf (Gb b q s.st) (Bf (Gb b q s.C8) (A5f q (loose b s.nw)) false) false) false
def Aj0(b:Nat)(s:DX):Bool:=Bf (within s.bg b) (A1z b s.st) false
def DX.ld(s:DX)(i q:Nat):DX:=⟨s.bg,s.nw,(Nat.shiftLeft 1 i,q)::s.C8,s.lou,s.st⟩
def DX.new(s:DX)(i q:Nat):DX:=⟨s.bg,(Nat.shiftLeft 1 i,q)::s.nw,s.C8,s.lou,s.st⟩
def DX.sto(s:DX)(i q:Nat):DX:=⟨s.bg,s.nw,s.C8,s.lou,(Nat.shiftLeft 1 i,q)::s.st⟩
def DX.big(s:DX)(i:Nat):DX:=⟨Nat.lor s.bg (Nat.shiftLeft 1 i),s.nw,s.C8,s.lou,s.st⟩
def DX.Ag7(s:DX)(i w:Nat):DX:=⟨Nat.lor s.bg (Nat.shiftLeft 1 i),s.nw,s.C8,(Nat.shiftLeft 1 i,w)::s.lou,s.st⟩
def Th(i b:Nat)(s:DX)(h h':Ab)(k:DX->Ab->R):R:=
 Bf (Nat.ble h.next h'.mw)
  (k (s.big i) ⟨Agx h.t h'.t (loose b s.nw),h'.next,h.mw⟩)
  (Bf (Ac9 b h'.mw s.C8)
   (k (s.Ag7 i h'.mw) ⟨Agx h.t h'.t (loose b s.nw),h'.next,Bf (Nat.ble h.mw h'.mw) h.mw h'.mw⟩)
   none)
def Mx(b:Nat)(s:DX)(h:Ab):Ab:=⟨Ahc h.t (loose b s.nw),h.next,h.next⟩
def Apq(T:Kh)(op:Op):Bool:=
 match cls op with
 | .val=>true
 | .load=>true
 | .pur=>match op with
  | .call { callee:=.builtin .len,argTypes,.. }=>match argTypes.toList with
   | [t]=>match T.Za t with|some (.slice _)=>true|_=>false
   | _=>false
  | .call { callee:=.builtin .min,.. }=>true
  | .call { callee:=.builtin .max,.. }=>true
  | _=>false
 | _=>false
def Azb(T:Kh)(l:List Oper):Bool:=match l with | []=>true|o::r=>Bf (Apq T o.op) (Azb T r) false
def Ay8(T:Kh)(l:List Oper):Bool:=Bf (Azb T l) (Bf (Atn l 0) (Aqz l (Qw l 0 .nil) l 0 []) false) false
def Adz(h:Ab)(k:Nat->DX->R):R:=k h.next ⟨0,[],[],[],[]⟩
def P8(i b base:Nat)(x:EV)(s:DX)(k:DX->R):R:=Awt (fun q _=>Bf (Bag b base q s) (k (s.ld i q)) none) x
def Bg2(i:Nat)(h:Ab)(s:DX)(k:DX->R):R:=k (s.new i h.next)
def Bmc(i b:Nat)(x:EV)(s:DX)(k:DX->R):R:=Awt (fun q _=>Bf (Bij b q s) (k (s.sto i q)) none) x
def Bvg(h:Ab)(k:Ab->R):R:=k ⟨.nil,h.next,h.next⟩
def L5(i b:Nat)(s:DX)(h:Ab)(call:Ab->R)(k:EV->Ab->DX->R):R:=Bf (Aj0 b s) (An (call (Mx b s h)) fun v h'=>Th i b s h h' fun s h=>k v h s) none
def Cg(v:EV)(w:Bool):Bool:=match v with | .bool b=>Bf b w (Av0 w)|_=>false
abbrev VS:=Nat->EV
abbrev CD:=VS->Ax->Ab->List Nat->R
abbrev Bot(e:VS)(d:Nat)(v:EV):VS:=fun i=>Bf (Nat.beq d i) v (e i)
abbrev E2(d:VS)(x:Operand):Option EV:=match x with
 | .tmp t=>some (d t)
 | .const v=>ofV v
 | .global _=>none
 | .func f=>some (.func f [] [])
abbrev Axo(d:VS)(l:List Operand):Option (List EV):=@List.rec Operand (fun _=>Option (List EV)) (some []) (fun x _ i=>match E2 d x,i with|some e,some es=>some (e::es)|_,_=>none) l
abbrev A3o(d:VS)(l:List (Nat × Operand)):Option (List (Nat × EV)):=@List.rec (Nat × Operand) (fun _=>Option (List (Nat × EV))) (some []) (fun x _ i=>match E2 d x.2,i with|some e,some es=>some ((x.1,e)::es)|_,_=>none) l
abbrev A9l(d:VS)(x:Option Operand):Option (Option EV):=match x with
 | none=>some none
 | some x=>(match E2 d x with|some e=>some (some e)|none=>none)
abbrev opD(T:Kh)(call o round:Ah)(op:Op)(d:VS)(h:Ab)(k:EV->Ab->R):R:=
 match op with
 | .move x=>(match E2 d x with|some e=>k e h|none=>none)
 | .assign x=>(match E2 d x with|some e=>k e h|none=>none)
 | .pick c a b=>(match E2 d c,E2 d a,E2 d b with|some c,some a,some b=>Awc c a b fun v=>k v h|_,_,_=>none)
 | .binOp op t x y _=>(match E2 d x,E2 d y with
  | some a,some b=>(match Bud op with|some g=>Kl g (bin T op t) a b fun v=>k v h|none=>Ale (bin T op t) a b fun v=>k v h)
  | _,_=>none)
 | .unOp .not _ x=>(match E2 d x with|some e=>Arw e fun v=>k v h|none=>none)
 | .nilCheck x=>(match E2 d x with|some e=>Axv e fun v=>k v h|none=>none)
 | .fieldAddr s x f=>(match E2 d x,T.Za s with
  | some e,some (.struct fields)=>(match A8o fields.toList f with
   | some fd=>(match T.size fd.type with|some n=>Bf (Nat.beq n 0) none (Alc fd.offset e fun v=>k v h)|none=>none)
   | none=>none)
  | _,_=>none)
 | .indexAddr t x ix=>(match E2 d x,E2 d ix,T.Za t with
  | some e,some ix,some (.array len j)=>(match T.size j with|some s=>A0z len s e ix fun v=>k v h|none=>none)
  | some e,some ix,some (.slice j)=>(match T.size j with|some s=>Z8 s e ix fun v=>k v h|none=>none)
  | _,_,_=>none)
 | .index t x ix=>(match E2 d x,E2 d ix,T.Za t with
  | some e,some B,some (.array len j)=>(match T.size j,T.agg j with|some s,some agg=>A08 len s agg s e B fun v=>k v h|_,_=>none)
  | _,_,_=>none)
 | .field t x f=>(match E2 d x,T.Za t with
  | some e,some (.struct fields)=>(match A8o fields.toList f with
   | some fd=>(match T.agg fd.type with
    | some true=>(match T.size fd.type with|some n=>Aej fd.offset true n e fun v=>k v h|none=>none)
    | some false=>Aej fd.offset false 0 e fun v=>k v h
    | none=>none)
   | none=>none)
  | _,_=>none)
 | .convert src dst x=>(match E2 d x,T.Za src,T.Za dst with|some e,some _,some (.int c)=>Xp c e fun v=>k v h|_,_,_=>none)
 | .extract x ix=>(match E2 d x with|some e=>Aso ix e fun v=>k v h|none=>none)
 | .load t x=>(match E2 d x,T.agg t with
  | some e,some true=>(match T.size t with|some n=>Oz n e h fun v=>k v h|none=>none)
  | some e,some false=>Fm e h fun v=>k v h
  | _,_=>none)
 | .store t a x=>(match E2 d a,E2 d x,T.size t with|some a,some x,some n=>stE n a x h fun h=>k (.tuple []) h|_,_,_=>none)
 | .alloc t=>(match T.zero t with|some z=>Avo (.cells z t) h k|none=>none)
 | .box t x=>(match E2 d x with|some e=>Wy t e h k|none=>none)
 | .call { callee:=.value (.func g),args,.. }=>(match Axo d args.toList with|some xs=>An (call g xs h) k|none=>none)
 | .call { callee:=.value f,args,.. }=>(match E2 d f,Axo d args.toList with|some e,some xs=>An (Xq o round e xs h) k|_,_=>none)
 | .call { callee:=.builtin .append,args,argTypes }=>(match args.toList,argTypes.toList with
  | [s,x],[t,u]=>(match E2 d s,E2 d x,T.Za u,T.Za t with
   | some a,some b,some (.slice _),some (.slice e)=>(match T.size e,T.zero e with
    | some size,some _=>An (E0 e size a b h) k
    | _,_=>none)
   | _,_,_,_=>none)
  | _,_=>none)
 | .call { callee:=.builtin .len,args,argTypes }=>(match args.toList,argTypes.toList with
  | [x],[t]=>(match E2 d x,T.Za t with
   | some e,some (.slice _)=>F3 e fun v=>k v h
   | some e,some (.chan ..)=>An (Bba e h) k
   | some e,_=>An (builtin T .len argTypes [e] h) k
   | _,_=>none)
  | _,_=>none)
 | .call { callee:=.builtin b,args,argTypes }=>(match Axo d args.toList with|some xs=>An (builtin T b argTypes xs h) k|none=>none)
 | .unOp .neg _ x=>(match E2 d x with|some e=>Bgc e fun v=>k v h|none=>none)
 | .build t ps=>(match T.zero t,A3o d ps.toList,T.Za t with
  | some z,some l,some (.struct fields)=>(match placesOf T fields.toList with
   | some ps=>Bv (Ed ps) z l fun v=>k v h
   | none=>none)
  | some z,some l,some (.array _ e)=>(match T.size e with
   | some s=>Bv (Mv s) z l fun v=>k v h
   | none=>none)
  | _,_,_=>none)
 | .buildSlice t n ps=>(match T.Za t,A3o d ps.toList with
  | some (.slice e),some l=>(match T.size e,T.zero e with
   | some s,some z=>An (Cd z e s n l h) k
   | _,_=>none)
  | _,_=>none)
 | .makeFunc (.func f) first captured=>(match Axo d first.toList,Axo d captured.toList with|some a,some b=>k (.func f a b) h|_,_=>none)
 | .sliceToArrayPointer t x=>(match E2 d x,T.Za t with|some e,some (.array n _)=>A3t n e fun v=>k v h|_,_=>none)
 | .slice t x p q A=>(match E2 d x,A9l d p,A9l d q,A9l d A with
  | some e,some p,some q,some A=>(match T.Za t with
   | some (.array n j)=>(match T.size j with|some s=>Uk n s e p q A fun v=>k v h|none=>none)
   | some (.slice j)=>(match T.size j with|some s=>Ant s e p q A fun v=>k v h|none=>none)
   | _=>none)
  | _,_,_,_=>none)
 | .makeSlice t l c=>(match E2 d l,E2 d c,T.Za t with
  | some l,some c,some (.slice e)=>(match T.zero e with|some z=>An (Mp z e l c h) k|none=>none)
  | _,_,_=>none)
 | .makeMap _ none=>An (Ayh h) k
 | .makeChan t s=>(match E2 d s,T.Za t with
  | some s,some (.chan _ e)=>(match T.size e with|some _=>An (Au7 s h) k|none=>none)
  | _,_=>none)
 | .lookup t x ix ok=>(match E2 d x,E2 d ix,T.Za t with|some m,some i,some (.map C e)=>An (Auy T C e ok m i h) k|_,_,_=>none)
 | .mapUpdate t m ix x=>(match E2 d m,E2 d ix,E2 d x,T.Za t with|some m,some i,some x,some (.map C _)=>An (Aer T C m i x h) k|_,_,_,_=>none)
 | .select cs false=>(match cs.toList with
  | [c]=>(match c.send with
   | some x=>(match E2 d c.chan,E2 d x,zeroOf T c.elem with|some c,some x,some _=>An (A43 c x h) k|_,_,_=>none)
   | none=>(match E2 d c.chan,zeroOf T c.elem with|some c,some D=>An (A4z D c h) k|_,_=>none))
  | _=>none)
 | _=>none
abbrev Mode:=Option ((Nat × Bool) × Bool)
def eqW(a b:Bool):Bool:=Bf a b (Av0 b)
def A0g(m:Mode)(g:Nat × Bool):Option Bool:=match m with|some x=>Bf (Bf (Nat.beq x.1.1 g.1) (eqW x.1.2 g.2) false) (some x.2) none|none=>none
def Ane(ops:List Oper)(g:Nat × Bool)(b:Bool)(dst:Option Tmp):Mode:=
 match A25 ops g.1 with
 | some o=>(match o.dst with
  | some d=>(match dst with|some e=>Bf (Nat.beq d e) none (some (g,b))|none=>some (g,b))
  | none=>some (g,b))
 | none=>some (g,b)
abbrev Alf(n:Nat)(d:Option Tmp)(e:VS)(v:EV):VS:=match d with|none=>e|some d=>Bf (Nat.ble (Nat.succ d) n) (Bot e d v) e
abbrev Bc7(ops:List Oper)(e:VS)(g:Nat × Bool):Bool:=match A25 ops g.1 with
 | some o=>(match o.dst with|some d=>Cg (e d) g.2|none=>false)
 | none=>false
abbrev Buc(fl:Bool)(n:Nat)(tm:Ax)(d:Option Tmp)(v:EV):Ax:=Bf fl (Tj n tm d v) tm
abbrev Bwo(n:Nat)(tm:Ax)(d:Option Tmp)(v:EV):Ax:=match d with|none=>tm|some d=>@Bool.rec (fun _=>Ax) tm (tm.put d (some v)) (Nat.ble (Nat.succ d) n)
abbrev thn(fl:Bool)(n:Nat)(tm:Ax)(d:Option Tmp)(v:EV)(F:Ax->R):R:=@Bool.rec (fun _=>R) (F tm) (F (Bwo n tm d v)) fl
def Aye(c:Code):Bool:=@Code.rec (fun _=>Bool) false (fun _ _ _=>false) (fun _ _ a b=>Bf a true b) (fun _ _ _ a b=>Bf a true b) (fun _ _ a=>a) (fun _ a=>a)
 (fun _ _ _ _ _ _=>true) (fun _=>false) (fun _ a=>a) (fun _=>false) (fun _=>false) false (fun _=>false) c
abbrev Bmp(fl:Bool)(T:Kh)(call d round:Ah)(n:Nat)(ops:List Oper)(fin:CD)(l:List Oper):Mode->CD:=
 @List.rec Oper (fun _=>Mode->CD) (fun _=>fin) (fun o _ i m=>@Option.rec (Nat × Bool) (fun _=>CD) (fun e tm h ds=>opD T call d round o.op e h fun v h=>thn fl n tm o.dst v fun tm=>i none (Alf n o.dst e v) tm h ds)
  (fun g e tm h ds=>match A0g m g with
   | some true=>opD T call d round o.op e h fun v h=>thn fl n tm o.dst v fun tm=>i (Ane ops g true o.dst) (Alf n o.dst e v) tm h ds
   | some false=>thn fl n tm o.dst (.tuple []) fun tm=>i (Ane ops g false o.dst) (Alf n o.dst e (.tuple [])) tm h ds
   | none=>Bf (Bc7 ops e g) (opD T call d round o.op e h fun v h=>thn fl n tm o.dst v fun tm=>i (Ane ops g true o.dst) (Alf n o.dst e v) tm h ds) (thn fl n tm o.dst (.tuple []) fun tm=>i (Ane ops g false o.dst) (Alf n o.dst e (.tuple [])) tm h ds)) o.guard) l
abbrev Ben(T:Kh)(call d round:Ah)(op:Op)(i b base:Nat)(s:DX)(j:VS)(h:Ab)(k:DX->EV->Ab->R):R:=
 match cls op with
 | .val=>opD T call d round op j h (k s)
 | .load=>(match op with | .load t x=>(match E2 j x with|some e=>P8 i b base e s fun s=>opD T call d round (.load t x) j h (k s)|none=>none)|_=>none)
 | .new=>Bg2 i h s fun s=>opD T call d round op j h (k s)
 | .sto=>(match op with | .store t a x=>(match E2 j a with|some e=>Bmc i b e s fun s=>opD T call d round (.store t a x) j h (k s)|none=>none)|_=>none)
 | .pur=>Bvg h fun h0=>opD T call d round op j h0 fun v _=>k s v h
 | .big=>Bf (Aj0 b s) (opD T call d round op j (Mx b s h) fun v h'=>Th i b s h h' fun s h=>k s v h) none
abbrev Awa(fl:Bool)(T:Kh)(call d round:Ah)(n:Nat)(ops:List Oper)(bs:Tr Nat)(base:Nat)(fin:CD)(l:List Oper):Nat->Mode->DX->CD:=
 @List.rec Oper (fun _=>Nat->Mode->DX->CD) (fun _ _ _=>fin) (fun o _ j i m s e tm h ds=>match bs.get i with
  | none=>none
  | some b=>@Option.rec (Nat × Bool) (fun _=>R) (Ben T call d round o.op i b base s e h fun s v h=>thn fl n tm o.dst v fun tm=>j (Nat.succ i) none s (Alf n o.dst e v) tm h ds)
   (fun g=>match A0g m g with
    | some true=>Ben T call d round o.op i b base s e h fun s v h=>thn fl n tm o.dst v fun tm=>j (Nat.succ i) (Ane ops g true o.dst) s (Alf n o.dst e v) tm h ds
    | some false=>thn fl n tm o.dst (.tuple []) fun tm=>j (Nat.succ i) (Ane ops g false o.dst) s (Alf n o.dst e (.tuple [])) tm h ds
    | none=>Bf (Bc7 ops e g) (Ben T call d round o.op i b base s e h fun s v h=>thn fl n tm o.dst v fun tm=>j (Nat.succ i) (Ane ops g true o.dst) s (Alf n o.dst e v) tm h ds) (thn fl n tm o.dst (.tuple []) fun tm=>j (Nat.succ i) (Ane ops g false o.dst) s (Alf n o.dst e (.tuple [])) tm h ds)) o.guard) l
abbrev Ba3(fl:Bool)(T:Kh)(call d round:Ah)(n:Nat)(ops:List Oper)(fin:CD):CD:=fun e tm h ds=>
 @Bool.rec (fun _=>R) none (@Bool.rec (fun _=>R) none (Adz h fun base s=>Awa fl T call d round n ops (Qw ops 0 .nil) base fin ops 0 none s e tm h ds) (Aqz ops (Qw ops 0 .nil) ops 0 [])) (Atn ops 0)
abbrev Anx:=List (Nat × CD)
abbrev Bhi(out:Nat->CD)(env:Anx)(id:Nat):CD:=@List.rec (Nat × CD) (fun _=>CD) (out id) (fun p _ e d tm h ds=>@Prod.rec Nat CD (fun _=>R) (fun j k=>Bf (Nat.beq j id) (k d tm h ds) (e d tm h ds)) p) env
abbrev A7j(c:CD->CD)(fuel:Nat):CD:=@Nat.rec (fun _=>CD) (fun _ _ _ _=>none) (fun _ d=>c d) fuel
abbrev Bgp(call:Ah)(fn n:Nat)(Dx:Option Nat)(f:EV)(ps:List Tmp)(asg body:Code)(tm:Ax)(h:Ab)(ds:List Nat)(k:Ab->List Nat->R)(ex:Nat->Ab->List Nat->R)(ret:Ab->List Nat->R):R:=match f with
 | .func q first captured=>(match Dx with
  | none=>Bek (Nat.succ h.next) (call q (first++(.yld (Nat.succ h.next)::captured)) ((h.new (.deferred true)).new (.loop .ready none fn n tm ps asg body h.next))) (fun h'=>k h' (h.next::ds)) (fun id h'=>ex id h' (h.next::ds)) (fun h'=>ret h' (h.next::ds))
  | some l0=>(match h.get l0 with
   | some (.loop _ _ _ _ _ _ _ _ d)=>Bek h.next (call q (first++(.yld h.next::captured)) (h.new (.loop .ready none fn n tm ps asg body d))) (fun h'=>k h' ds) (fun id h'=>ex id h' ds) (fun h'=>ret h' ds)
   | _=>none))
 | _=>none
abbrev Abj(fl:Bool)(T:Kh)(call d round:Ah)(fuel fn n:Nat)(Dx:Option Nat)(out:Nat->CD)(ret:CD)(c:Code):Anx->CD->CD:=
 @Code.rec (fun _=>Anx->CD->CD) (fun _ k=>k)
  (fun _ ops dr _ k=>@Bool.rec (fun _=>CD) (Bmp fl T call d round n ops.toList k ops.toList none) (@Bool.rec (fun _=>CD) (Ba3 fl T call d round n ops.toList k) (Bmp fl T call d round n ops.toList k ops.toList none) (Ay8 T ops.toList)) dr)
  (fun _ _ a b env k=>a env (b env k))
  (fun c _ _ a b env k i tm h ds=>match E2 i c with|some e=>ifE e (a env k i tm h ds) (b env k i tm h ds)|none=>none)
  (fun id _ c env k=>c ((id,k)::env) k)
  (fun _ c env _=>A7j (fun j=>c env j) fuel)
  (fun f ps asg body _ _ env k i tm h ds=>@Bool.rec (fun _=>R) none (match E2 i f with|some e=>Bgp d fn n Dx e ps.toList asg body tm h ds (fun h ds=>k i tm h ds) (fun id h ds=>Bhi out env id i tm h ds) (fun h ds=>ret i tm h ds)|none=>none) fl)
  (fun id env _=>Bhi out env id) (fun _ _ _ _ _ _ _ _=>none) (fun _ _ k=>k) (fun _ _ _ _ _ _ _=>none) (fun _ _=>ret) (fun _ _ _ _ _ _ _=>none) c
def E1(ds:List Nat)(h:Ab)(k:Ab->R):R:=
 @List.rec Nat (fun _=>Ab->R) k (fun d _ e h=>match h.get d with|some (.deferred true)=>e (h.put d (.deferred false))|_=>none) ds h
abbrev rvD(d:VS):ResultVar->RV
 | .tmp t=>.v (d t)
 | .cell a t=>.c (d a) t
abbrev Bas(T:Kh)(res:List ResultVar)(d:VS)(h:Ab):R:=match res with
 | [.tmp t]=>some (d t,h)
 | []=>some (.tuple [],h)
 | [.tmp s,.tmp t]=>some (.tuple [d s,d t],h)
 | res=>Ji T (res.map (rvD d)) h
abbrev Bo0(fl:Bool)(T:Kh)(res:List ResultVar):CD:=fun d _ h ds=>@Bool.rec (fun _=>R) (Bas T res d h) (E1 ds h fun h=>Bas T res d h) fl
abbrev Bcg(l:List EV):Nat->VS->VS:=@List.rec EV (fun _=>Nat->VS->VS) (fun _ d=>d) (fun v _ e i d=>e (Nat.succ i) (Bot d i v)) l
abbrev u0:VS:=fun _=>.tuple []
abbrev no0:Nat->CD:=fun _ _ _ _ _=>none
def A56(T:Kh)(call round:Ah)(fuel f:Nat)(args:List EV)(h:Ab):R:=
 match T.fn f with
 | some { ntmps:=n,body:=some c,results:=res,.. }=>Bf (Nat.ble (Gk args) n) (Abj (Aye c) T call call round fuel f n none no0 (Bo0 (Aye c) T res.toList) c [] (Bo0 (Aye c) T res.toList) (Bcg args 0 u0) (setArgs args 0 .nil) h []) none
 | _=>none
abbrev Bfc(n:Nat)(ps:List Tmp):List EV->VS->VS:=@List.rec Tmp (fun _=>List EV->VS->VS) (fun _ d=>d) (fun p _ e args d=>@List.rec EV (fun _=>VS) d (fun v r _=>e r (Alf n (some p) d v)) args) ps
abbrev Bgt(T:Kh)(call d round:Ah)(fuel l f n:Nat)(asg body:Code):CD:=
 Abj true T call d round fuel f n (some l) (fun id _ _ h _=>Vh l false .done (some (.exit id)) h) (fun _ _ h _=>Vh l false .done (some .ret) h) asg []
  fun e tm h ds=>Fs l h fun h=>Abj true T call d round fuel f n (some l) (fun id _ _ h _=>Vh l false .done (some (.exit id)) h) (fun _ _ h _=>Vh l false .done (some .ret) h) body [] (fun _ _ h _=>Vh l true .ready none h) e tm h ds
def A0q(T:Kh)(call round:Ah)(fuel l:Nat)(args:List EV)(h:Ab):R:=
 match h.get l with
 | some (.loop _ _ f n tm ps asg body _)=>match Yx ps args n tm with
  | some d=>Bgt T call call round fuel l f n asg body (Bfc n ps args (tmp tm)) d h []
  | none=>none
 | _=>none
end
variable {k:List EV->R}{m:Mode}{cf fin:CD}
section
theorem Al3(l:List EV):Gk l=len l:=by
 induction l with
 | nil=>rfl
 | cons a r d=>exact congrArg Nat.succ d
theorem A8s:∀(l:List EV) (n:Nat),A4e l n=match Ady l n with|v::_=>some v | []=>none
 | [],n=>rfl
 | a::r,n=>by
  have e:A4e (a::r) n=Bf (Nat.beq n 0) (some a) (A4e r (Nat.pred n)):=rfl;rw[e];simp only[Ady];cases Nat.beq n 0
  ·exact A8s r _
  ·rfl
theorem Bcy:∀(l:List EV) (n:Nat),Bi8 l n=Ady l n
 | [],n=>rfl
 | a::r,n=>by
  have e:Bi8 (a::r) n=Bf (Nat.beq n 0) (a::r) (Bi8 r (Nat.pred n)):=rfl;rw[e];simp only[Ady];rw[Bcy r]
theorem A3s(a:EV)(x:Option (List EV)):A5o a x=match x with|some x=>some (a::x)|none=>none:=by cases x<;>rfl
theorem A5z:∀(l:List EV) (n:Nat),Bez l n=takeN l n
 | [],n=>rfl
 | a::r,n=>by
  have e:Bez (a::r) n=Bf (Nat.beq n 0) (some []) (A5o a (Bez r (Nat.pred n))):=rfl;rw[e];simp only[takeN];rw[A5z r,A3s];cases takeN r (Nat.pred n)<;>rfl
theorem A7y:∀(l:List EV),takeN l (len l)=some l
 | []=>rfl
 | a::r=>by
  simp only[takeN,len];rw[show Nat.beq (Nat.succ (len r)) 0=false from rfl,Bo,Nat.pred_succ,A7y r]
theorem Bhd(l:List EV):Ady l 0=l:=by cases l<;>rfl
theorem Aly(l:List EV)(off n:Nat):Oy l off n=takeN (Ady l off) n:=by
 unfold Oy;rw[Bcy,A5z,A5z,Al3];cases h:Nat.beq off 0
 ·rfl
 ·have:=aJ h;subst this
  rw[Bhd];cases d:Nat.beq (len l) n
  ·rfl
  ·have:=aJ d;subst this
   rw[A7y];rfl
theorem A5v:∀(vs l:List EV),A4f vs l=Ld l vs
 | [],l=>by cases l<;>rfl
 | v::vs,[]=>rfl
 | v::vs,a::r=>by
  have e:A4f (v::vs) (a::r)=A5o v (A4f vs r):=rfl;rw[e];simp only[Ld];rw[A5v vs r,A3s];cases Ld r vs<;>rfl
theorem Axl(vs:List EV):∀(l:List EV) (n:Nat),Aux vs l n=Gw l n vs
 | [],n=>by
  have e:Aux vs [] n=Bf (Nat.beq n 0) (A4f vs []) none:=rfl;rw[e];simp only[Gw];rw[A5v]
 | a::r,n=>by
  have e:Aux vs (a::r) n=Bf (Nat.beq n 0) (A4f vs (a::r)) (A5o a (Aux vs r (Nat.pred n))):=rfl;rw[e];simp only[Gw];rw[A5v,Axl vs r,A3s];cases Gw r (Nat.pred n) vs<;>rfl
theorem A1j:∀(l vs:List EV),len l=len vs->Ld l vs=some vs
 | [],[],_=>rfl
 | a::r,[],h=>by simp[len]at h
 | [],v::vs,h=>by simp[len]at h
 | a::r,v::vs,h=>by
  simp only[Ld];rw[A1j r vs (by simpa [len]using h)]
theorem Aab(l:List EV)(off:Nat)(vs:List EV):O0 l off vs=Gw l off vs:=by
 unfold O0;rw[Axl,Axl,Al3,Al3];cases h:Nat.beq off 0
 ·rfl
 ·have:=aJ h;subst this
  cases d:Nat.beq (len l) (len vs)
  ·rfl
  ·have h2:=aJ d
   have:Gw l 0 vs=Ld l vs:=by cases l<;>rfl
   rw[this,A1j l vs h2];rfl
theorem Ia {β:Type}(k:α->Option β)(a:α):oB k (some a)=k a:=rfl
theorem P6 {β:Type}{k:α->Option β}{x:Option α}{r:β}(e:oB k x=some r):∃a,x=some a/\k a=some r:=by
 cases x with
 | none=>cases e
 | some a=>exact⟨a,rfl,e⟩
theorem A4u {x y:R}{r:EV × Ab}(e:onB x y v=some r):∃b,v=.bool b/\(Bf b x y)=some r:=by
 cases v with
 | bool b=>exact⟨b,rfl,e⟩
 | _=>cases e
theorem Td {k:Nat->Nat->R}{r:EV × Ab}(e:Awt k v=some r):∃i o,v=.ptr i o/\k i o=some r:=by
 cases v with
 | ptr i o=>exact⟨i,o,rfl,e⟩
 | _=>cases e
theorem Bgr {k:IntKind->Int->R}{r:EV × Ab}(e:Btg k v=some r):∃c n,v=.int c n/\k c n=some r:=by
 cases v with
 | int c n=>exact⟨c,n,rfl,e⟩
 | _=>cases e
theorem A0r {k:Nat->R}{r:EV × Ab}(e:Brc k v=some r):∃c n,v=.int c (.ofNat n)/\k n=some r:=by
 cases v with
 | int c n=>
  cases n with
  | ofNat n=>exact⟨c,n,rfl,e⟩
  | negSucc n=>cases e
 | _=>cases e
theorem Ax4{r:EV × Ab}(e:Bnw k v=some r):∃l,v=.agg l/\k l=some r:=by
 cases v with
 | agg l=>exact⟨l,rfl,e⟩
 | _=>cases e
theorem Bgz{r:EV × Ab}(e:Bti k v=some r):∃l,v=.tuple l/\k l=some r:=by
 cases v with
 | tuple l=>exact⟨l,rfl,e⟩
 | _=>cases e
theorem Bjm(a b:Int):Brr a b=Int.add a b:=by cases a<;>cases b<;>rfl
theorem Bi3(a b:Int):Bq8 a b=Int.sub a b:=by
 cases a with
 | ofNat m=>
  cases b with
  | ofNat n=>
   have e:Bq8 (.ofNat m) (.ofNat n)=Bf (Nat.ble n m) (.ofNat (Nat.sub m n)) (.negSucc (Nat.pred (Nat.sub n m))):=rfl;rw[e,Bt];show _=(Int.ofNat m)-(Int.ofNat n);split
   ·rename_i h
    have:=bI h;show((m-n:Nat):Int)=_;simp only[bB];omega
   ·rename_i h
    have:¬n<=m:=fun x=>h (aS x)
    show Int.negSucc ((n-m)-1)=_;simp only[bB,dF];omega
  | negSucc n=>rfl
 | negSucc m=>rfl
theorem Bfi(a b:Int):ltI a b=ltB a b:=by cases a<;>cases b<;>rfl
theorem Bgn(a b:Int):eqI a b=eqB a b:=by cases a<;>cases b<;>rfl
theorem Bim(b:Bool):Av0 b=Bf b false true:=by cases b<;>rfl
theorem Bsj {op:BinOp}{g:IntKind->Int->Int->EV}(h:Bud op=some g):A3d op=false/\∀k a b,Bj0 op k a b=some (g k a b):=by
 unfold Bud at h;split at h<;>cases h<;>refine⟨rfl,fun k a b=>?_⟩<;>simp only[Bj0,A6b,Bgm,Bl2,Iq,Bf7,Beh,Bfp,An2,Alb,Bjm,Bi3,Bfi,Bgn,Bim]
theorem Bc9:∀(l:List (Nat × Nat)) (n:Nat),Ed l n=A6k l n
 | [],n=>rfl
 | a::r,n=>by
  have e:Ed (a::r) n=Bf (Nat.beq n 0) (some a) (Ed r (Nat.pred n)):=rfl;rw[e];simp only[A6k];rw[Bc9 r]
theorem Ay3(place:Nat->Option (Nat × Nat)):∀(l:List (Nat × EV)) (c:List EV),Afp place l c=fill place c l
 | [],c=>rfl
 | (i,v)::l,c=>by
  have e:Afp place ((i,v)::l) c=oB (Bi1 fun off size=>Bf v.plain (Bf (Nat.beq (Gk v.cells) size) (oB (Afp place l) (O0 c off v.cells)) none) none) (place i):=rfl;rw[e];simp only[fill];cases place i with
  | none=>rfl
  | some x=>
   obtain⟨off,size⟩:=x;simp only;show Bf v.plain (Bf (Nat.beq (Gk v.cells) size) (oB (Afp place l) (O0 c off v.cells)) none) none=_;rw[Al3,Aab];cases Gw c off v.cells with
   | none=>rfl
   | some d=>
    show Bf v.plain (Bf (Nat.beq (len v.cells) size) (Afp place l d) none) none=_;rw[Ay3 place l d]
theorem A4x(h:Ab)(i off n:Nat):Ab4 h i off n=K0 h i off n:=by
 unfold Ab4 K0 Az3;cases h.get i with
 | none=>rfl
 | some o=>
  cases o<;>simp only[Aly];cases Ara _ off<;>rfl
theorem Au3(h:Ab)(size n:Nat)(x:EV):N9 h size n x=cellsOf h size n x:=by
 unfold N9 cellsOf;cases x<;>simp only[A4x]
theorem Az1(a b:List EV):Bo3 a b=a++b:=by
 induction a with
 | nil=>rfl
 | cons x r d=>exact congrArg (x :: ·) d
theorem Be7{st e:TypeId}{size:Nat}{z:List EV}(j:T.Za st=some (.slice e))(h2:T.size e=some size)(p:T.zero e=some z)(s x:EV)(h:Ab):append T st s x h=E0 e size s x h:=by
 unfold append E0;simp only[j,h2,p];cases lenOf x with
 | none=>rfl
 | some n=>
  simp only[Ia];rw[Au3];cases cellsOf h size n x with
  | none=>rfl
  | some new=>
   simp only[Ia];cases s with
   | slice i off d room op=>
    simp only;rw[Au3];cases cellsOf h size d (.slice i off d room op)with
    | none=>rfl
    | some By=>
     simp only[Ia,Az1,Al3];cases h.get i with
     | none=>rfl
     | some o=>cases o<;>rfl
   | _=>rfl
theorem A3w{agg:Bool}(i:T.agg t=some agg)(j:agg=true->T.size t=some n){cs:List EV}{k:EV->R}{r:EV × Ab}(e:Bh0 agg n cs off k=some r):
 ∃v,part T t cs off=some v/\k v=some r:=by
 unfold Bh0 at e;unfold part;rw[i];cases agg with
 | true=>
  rw[Ak]at e;obtain⟨l,d,h2⟩:=P6 e;rw[Aly]at d;rw[j rfl];simp only;rw[d];exact⟨_,rfl,h2⟩
 | false=>
  rw[Bo]at e;obtain⟨v,d,h2⟩:=P6 e;rw[A8s]at d;exact⟨v,d,h2⟩
theorem Di(tm:Ax)(x:Operand):E2 (tmp tm) x=Cm tm x:=by cases x<;>rfl
theorem Gu(tm:Ax)(l:List Operand):Axo (tmp tm) l=O1 tm l:=by
 induction l with
 | nil=>rfl
 | cons x r d=>
  show(match E2 (tmp tm) x,Axo (tmp tm) r with|some e,some es=>some (e::es)|_,_=>none)=_;rw[d,Di];simp only[O1];cases Cm tm x<;>cases O1 tm r<;>rfl
theorem Gi(tm:Ax)(l:List (Nat × Operand)):A3o (tmp tm) l=Ad2 tm l:=by
 induction l with
 | nil=>rfl
 | cons x r d=>
  obtain⟨i,x⟩:=x;show(match E2 (tmp tm) x,A3o (tmp tm) r with|some e,some es=>some ((i,e)::es)|_,_=>none)=_;rw[d,Di];simp only[Ad2];cases Cm tm x<;>cases Ad2 tm r<;>rfl
theorem I8(tm:Ax)(x:Option Operand):A9l (tmp tm) x=Afl tm x:=by
 cases x with
 | none=>rfl
 | some x=>show(match E2 (tmp tm) x with|some e=>some (some e)|none=>none)=_;rw[Di];rfl
theorem Acf {x:R}{k:EV->Ab->R}{r:EV × Ab}(e:An x k=some r):∃v h,x=some (v,h)/\k v h=some r:=by
 obtain⟨⟨v,h⟩,d,h2⟩:=P6 e;exact⟨v,h,d,h2⟩
section
variable{call:Ah}
theorem Jw(d:isV op=true)(e:Fz T tm op=some v):aop T call round tm op h=some (v,h):=by
 unfold aop;rw[d,Ak,e]
theorem Bae{i:Nat}{vs:List EV}{k:Ab->R}{r:EV × Ab}(e:Ani h i (fun l=>O0 l off vs) k=some r):∃h',Oq h i off vs=some h'/\k h'=some r:=by
 unfold Ani at e;unfold Oq;split at e
 ·rename_i l t j
  obtain⟨l',o,h2⟩:=P6 e;have d:Gw l off vs=some l':=by rw[<-Aab];exact o
  simp only[j,d];exact⟨_,rfl,h2⟩
 ·rename_i l t s j
  obtain⟨l',o,h2⟩:=P6 e;have d:Gw l off vs=some l':=by rw[<-Aab];exact o
  simp only[j,d];exact⟨_,rfl,h2⟩
 ·cases e
theorem Akq{k:EV->Ab->R}{r:EV × Ab}(e:opD T call call round op (tmp tm) h k=some r):
 ∃v h',aop T call round tm op h=some (v,h')/\k v h'=some r:=by
 cases op with
 | move x=>
  simp only[opD,Di,Gu,Gi,I8]at e;split at e
  ·rename_i e1 he;exact⟨_,_,Jw rfl (he),e⟩
  ·cases e
 | assign x=>
  simp only[opD,Di,Gu,Gi,I8]at e;split at e
  ·rename_i e1 he;exact⟨_,_,Jw rfl (he),e⟩
  ·cases e
 | pick c a b=>
  simp only[opD,Di,Gu,Gi,I8]at e;split at e
  ·rename_i c1 V b1 hc C hb
   obtain⟨bb,d,h2⟩:=A4u e;have p:=hc;rw[d]at p;cases bb
   ·exact⟨_,_,Jw rfl (by simp only[Fz];rw[p];exact hb),h2⟩
   ·exact⟨_,_,Jw rfl (by simp only[Fz];rw[p];exact C),h2⟩
  ·cases e
 | binOp op t x y yt=>
  simp only[opD,Di,Gu,Gi,I8]at e;split at e
  ·rename_i V b1 C hb
   have ae:=C;have af:=hb;have key:∀v,bin T op t V b1=some v->aop T call round tm (.binOp op t x y yt) h=some (v,h):=fun v hv=>
    Jw rfl (by simp only[Fz];rw[ae];simp only;rw[af];exact hv)
   split at e
   ·rename_i g M
    obtain⟨s1,s2⟩:=Bsj M;unfold Kl at e;split at e
    ·obtain⟨d,h2⟩:=Aq e
     refine⟨_,_,key _ ?_,h2⟩;simp only[bin];rw[s1,Bo,d,Ak,s2]
    ·obtain⟨v,d,h2⟩:=P6 e
     exact⟨v,h,key v d,h2⟩
   ·obtain⟨v,d,h2⟩:=P6 e
    exact⟨v,h,key v d,h2⟩
  ·cases e
 | unOp u t x=>
  cases u with
  | not=>
   simp only[opD,Di,Gu,Gi,I8]at e;split at e
   ·rename_i e1 he
    obtain⟨b,d,h2⟩:=A4u e;have p:=he;rw[d]at p;cases b
    ·exact⟨_,_,Jw rfl (by simp only[Fz];rw[p];rfl),h2⟩
    ·exact⟨_,_,Jw rfl (by simp only[Fz];rw[p];rfl),h2⟩
   ·cases e
  | neg=>
   simp only[opD,Di,Gu,Gi,I8]at e;split at e
   ·rename_i e1 he
    unfold Bgc at e;split at e
    ·exact⟨_,h,Jw rfl (by simp only[Fz];rw[he]),e⟩
    ·cases e
   ·cases e
  | _=>(cases e)
 | nilCheck x=>
  simp only[opD,Di,Gu,Gi,I8]at e;split at e
  ·rename_i e1 he
   obtain⟨i,o,d,h2⟩:=Td e;have p:=he;rw[d]at p;exact⟨_,_,Jw rfl (by simp only[Fz];rw[p]),h2⟩
  ·cases e
 | fieldAddr s x f=>
  simp only[opD,Di,Gu,Gi,I8]at e;split at e
  ·rename_i e1 fields he hu
   split at e
   ·rename_i fd H
    split at e
    ·rename_i n Q
     cases hb:Nat.beq n 0 with
     | true=>rw[hb,Ak]at e;cases e
     | false=>
      rw[hb,Bo]at e;obtain⟨i,o,d,h2⟩:=Td e;have p:=he;rw[d]at p;exact⟨_,_,Jw rfl (by simp only[Fz];rw[p];simp only;rw[hu];simp only;rw[H];simp only;rw[Q];simp only;rw[hb,Bo]),h2⟩
    ·cases e
   ·cases e
  ·cases e
 | indexAddr t x ix=>
  simp only[opD,Di,Gu,Gi,I8]at e;split at e
  ·rename_i e1 W ln J he L hu
   split at e
   ·rename_i s hs
    obtain⟨c,j,d,h2⟩:=A0r e;obtain⟨i,off,p,h4⟩:=Td h2;obtain⟨D,E⟩:=Aq h4;have A:=L;have B:=he;rw[d]at A;rw[p]at B;exact⟨_,_,Jw rfl (by simp only[Fz];rw[A];simp only;rw[hu,B];simp only;rw[hs];simp only;rw[D,Ak]),E⟩
   ·cases e
  ·rename_i e1 W J he L hu
   split at e
   ·rename_i s hs
    obtain⟨c,j,d,h2⟩:=A0r e;split at h2
    ·obtain⟨D,E⟩:=Aq h2
     have A:=L;have B:=he;rw[d]at A;exact⟨_,_,Jw rfl (by simp only[Fz];rw[A];simp only;rw[hu,B];simp only;rw[hs];simp only;rw[D,Ak]),E⟩
    ·cases h2
   ·cases e
  ·cases e
 | index t x ix=>
  simp only[opD,Di,Gu,Gi,I8]at e;split at e
  ·rename_i e1 W ln J he L hu
   split at e
   ·rename_i s agg hs C
    obtain⟨c,j,d,h2⟩:=A0r e;obtain⟨cs,p,h4⟩:=Ax4 h2;obtain⟨D,E⟩:=Aq h4;obtain⟨v,S,U⟩:=A3w C (fun _=>hs) E;have A:=L;have B:=he;rw[d]at A;rw[p]at B;exact⟨_,_,Jw rfl (by simp only[Fz];rw[A];simp only;rw[hu,B];simp only;rw[hs];simp only;rw[D,Ak,S]),U⟩
   ·cases e
  ·(cases e)
 | field t x f=>
  simp only[opD,Di,Gu,Gi,I8]at e;split at e
  ·rename_i e1 fields he hu
   split at e
   ·rename_i fd H
    have B:=he;split at e
    ·rename_i C
     split at e
     ·rename_i n Q
      obtain⟨cs,p,h4⟩:=Ax4 e;obtain⟨v,S,U⟩:=A3w C (fun _=>Q) h4;rw[p]at B;exact⟨_,_,Jw rfl (by simp only[Fz];rw[hu,B];simp only;rw[H];simp only;rw[S]),U⟩
     ·cases e
    ·rename_i C
     obtain⟨cs,p,h4⟩:=Ax4 e;obtain⟨v,S,U⟩:=A3w C (fun x=>by cases x) h4;rw[p]at B;exact⟨_,_,Jw rfl (by simp only[Fz];rw[hu,B];simp only;rw[H];simp only;rw[S]),U⟩
    ·cases e
   ·cases e
  ·cases e
 | convert src dst x=>
  simp only[opD,Di,Gu,Gi,I8]at e;split at e
  ·rename_i e1 _ c he hs hd
   obtain⟨c',n,d,h2⟩:=Bgr e;have q:=he;rw[d]at q;exact⟨_,_,Jw rfl (by simp only[Fz];rw[hs,hd,q]),h2⟩
  ·cases e
 | extract x ix=>
  simp only[opD,Di,Gu,Gi,I8]at e;split at e
  ·rename_i e1 he
   obtain⟨l,d,h2⟩:=Bgz e;obtain⟨v,p,h4⟩:=P6 h2;have q:=he;rw[d]at q;rw[A8s]at p;exact⟨_,_,Jw rfl (by simp only[Fz];rw[q];exact p),h4⟩
  ·cases e
 | load t x=>
  simp only[opD,Di]at e;split at e
  ·rename_i e1 he C
   split at e
   ·rename_i n Q
    obtain⟨i,off,d,h2⟩:=Td e;obtain⟨l',D,E⟩:=P6 h2;rw[d]at he;refine⟨_,_,?_,E⟩;show D7 T tm (.load t x) h=_;simp only[D7];rw[he];simp only;rw[C];simp only;rw[Q];simp only;rw[<-A4x];rw[show Ab4 h i off n=some l' from D]
   ·cases e
  ·rename_i e1 he C
   obtain⟨i,off,d,h2⟩:=Td e;obtain⟨l',D,E⟩:=P6 h2;rw[d]at he;split at E
   ·refine⟨_,_,?_,E⟩
    show D7 T tm (.load t x) h=_;simp only[D7];rw[he];simp only;rw[C];simp only;rw[<-A4x,show Ab4 h i off 1=some _ from D]
   ·cases E
  ·cases e
 | store t a x=>
  simp only[opD,Di,Gu,Gi,I8]at e;split at e
  ·rename_i V x1 n C hx Q
   obtain⟨i,off,d,h2⟩:=Td e;obtain⟨p,h4⟩:=Aq h2;obtain⟨D,E⟩:=Aq h4;obtain⟨h',S,U⟩:=Bae E;rw[Al3]at D;have A:=C;have B:=hx;rw[d]at A;refine⟨_,_,?_,U⟩;show D7 T tm (.store t a x) h=_;simp only[D7];rw[A,B,Q];simp only;rw[p,Ak,D,Ak,S]
  ·cases e
 | alloc t=>
  simp only[opD,Di,Gu,Gi,I8]at e;split at e
  ·rename_i z F
   refine⟨_,_,?_,e⟩;show D7 T tm (.alloc t) h=_;simp only[D7];rw[F]
  ·cases e
 | box t x=>
  simp only[opD,Di,Gu,Gi,I8]at e;split at e
  ·rename_i e1 he
   obtain⟨d,h2⟩:=Aq e;refine⟨_,_,?_,h2⟩;show D7 T tm (.box t x) h=_;simp only[D7];rw[he];simp only;rw[d,Ak]
  ·cases e
 | call c=>
  obtain⟨callee,args,O⟩:=c;have X:∀{f:Operand} {e1:EV} {as:List EV},Cm tm f=some e1->O1 tm args.toList=some as->An (Xq call round e1 as h) k=some r->∃v h',aop T call round tm (.call ⟨.value f,args,O⟩) h=some (v,h')/\k v h'=some r:=by
   intro f e1 as A B hc;obtain⟨v,h',d,h2⟩:=Acf hc;refine⟨v,h',?_,h2⟩;show(match Cm tm f,O1 tm args.toList with|some (.func g first captured),some as=>call g (first++(as++captured)) h|some (.yld l),some as=>round l as h|_,_=>none)=_;rw[A,B];unfold Xq at d;split at d
   ·rw[Az1,Az1]at d;exact d
   ·exact d
   ·cases d
  cases callee with
  | value f=>
   cases f with
   | func g=>
    simp only[opD,Di,Gu]at e;split at e
    ·rename_i as C
     obtain⟨v,h',d,h2⟩:=Acf e;refine⟨v,h',?_,h2⟩;show(match Cm tm (.func g),O1 tm args.toList with|some (.func g first captured),some as=>call g (first++(as++captured)) h|some (.yld l),some as=>round l as h|_,_=>none)=_;rw[C];simp only[Cm,dS,dK];exact d
    ·cases e
   | global g=>cases e
   | _=>
    simp only[opD,Di,Gu]at e;split at e
    ·rename_i e1 as H C;exact X H C e
    ·cases e
  | builtin b=>
   have key:∀{as:List EV},O1 tm args.toList=some as->∀v h',builtin T b O as h=some (v,h')->aop T call round tm (.call ⟨.builtin b,args,O⟩) h=some (v,h'):=by
    intro as C v h' hb;show D7 T tm (.call ⟨.builtin b,args,O⟩) h=_;simp only[D7];rw[C];exact hb
   cases b with
   | append=>
    simp only[opD,Di]at e;split at e
    ·rename_i s x t u G K
     split at e
     ·rename_i V b1 u1 J hs hx hu Y
      split at e
      ·rename_i size z ah F
       obtain⟨v,h',d,h2⟩:=Acf e;refine⟨v,h',key (as:=[V,b1]) (by rw[G];simp only[O1,hs,hx]) v h' ?_,h2⟩;rw[<-Be7 Y ah F]at d;simp only[builtin];rw[K];simp only;rw[hu];exact d
      ·cases e
     ·cases e
    ·cases e
   | len=>
    simp only[opD,Di]at e;split at e
    ·rename_i x t G K
     have ka:∀{e1:EV},Cm tm x=some e1->O1 tm args.toList=some [e1]:=by
      intro e1 he;rw[G];simp only[O1,he]
     split at e
     ·rename_i e1 J he Y
      obtain⟨n,d,h2⟩:=P6 e;refine⟨_,_,key (ka he) _ _ ?_,h2⟩;simp only[builtin];rw[K];simp only;rw[Y];simp only;rw[d]
     ·rename_i e1 dd J he Y
      obtain⟨v,h',d,h2⟩:=Acf e;refine⟨_,_,key (ka he) v h' ?_,h2⟩;simp only[builtin];rw[K];simp only;rw[Y];revert d;unfold Bba;cases e1<;>exact id
     ·rename_i e1 _ _ he _ _
      obtain⟨v,h',d,h2⟩:=Acf e;exact⟨_,_,key (ka he) v h' d,h2⟩
     ·cases e
    ·cases e
   | _=>
    simp only[opD,Gu]at e;split at e
    ·rename_i as C
     obtain⟨v,h',d,h2⟩:=Acf e;exact⟨v,h',key C v h' d,h2⟩
    ·cases e
  | _=>cases e
 | build t ps=>
  simp only[opD,Gi]at e;split at e
  ·rename_i z l fields F Z hu
   split at e
   ·rename_i pl aj
    obtain⟨c,p,h2⟩:=P6 e;refine⟨_,h,Jw rfl ?_,h2⟩;rw[Ay3,show Ed pl=A6k pl from funext (Bc9 pl)]at p;simp only[Fz];rw[F,Z,hu];simp only;rw[aj];simp only;rw[p]
   ·cases e
  ·rename_i z l n J F Z hu
   split at e
   ·rename_i s hs
    obtain⟨c,p,h2⟩:=P6 e;refine⟨_,h,Jw rfl ?_,h2⟩;rw[Ay3]at p;simp only[Fz];rw[F,Z,hu];simp only;rw[hs];simp only;have al:fill (fun i=>some (Nat.mul i s,s)) z l=some c:=p;rw[al]
   ·cases e
  ·cases e
 | buildSlice t n ps=>
  simp only[opD,Gi]at e;split at e
  ·rename_i J l hu Z
   split at e
   ·rename_i s z hs F
    obtain⟨v,h',d,h2⟩:=Acf e;refine⟨v,h',?_,h2⟩;unfold Cd at d;obtain⟨p,h4⟩:=Aq d;obtain⟨c,D,E⟩:=P6 h4;rw[Ay3]at D;have ao:fill (fun i=>some (Nat.mul i s,s)) (rep z n) l=some c:=D;show D7 T tm (.buildSlice t n ps) h=_;simp only[D7];rw[hu,Z];simp only;rw[hs,F];simp only;rw[p,Ak,ao];exact E
   ·cases e
  ·cases e
 | makeFunc fo first captured=>
  cases fo with
  | func f=>
   simp only[opD,Gu]at e;split at e
   ·rename_i a b C hb
    exact⟨_,h,Jw rfl (by simp only[Fz];rw[C,hb]),e⟩
   ·cases e
  | _=>cases e
 | sliceToArrayPointer t x=>
  simp only[opD,Di]at e;split at e
  ·rename_i e1 n J he hu
   unfold A3t at e;split at e
   ·obtain⟨d,h2⟩:=Aq e
    exact⟨_,h,Jw rfl (by simp only[Fz];rw[hu,he];simp only;rw[d,Ak]),h2⟩
   ·cases e
  ·cases e
 | slice t x lo hi mx=>
  simp only[opD,Di,I8]at e;split at e
  ·rename_i e1 a3 a6 a7 A B q3 q4
   split at e
   ·rename_i n J hu
    split at e
    ·rename_i s hs
     obtain⟨i,o,rfl,d⟩:=Td e;obtain⟨v,h2,p⟩:=P6 d;exact⟨v,h,Jw rfl (by simp only[Fz];rw[B,q3,q4];simp only;rw[hu,A];simp only[hs];exact h2),p⟩
    ·cases e
   ·rename_i J hu
    split at e
    ·rename_i s hs
     obtain⟨v,d,h2⟩:=P6 e;exact⟨v,h,Jw rfl (by simp only[Fz];rw[B,q3,q4];simp only;rw[hu,A];simp only;rw[hs];exact d),h2⟩
    ·cases e
   ·cases e
  ·cases e
 | makeSlice t l c=>
  simp only[opD,Di]at e;split at e
  ·rename_i l1 c1 J A B hu
   split at e
   ·rename_i z F
    obtain⟨v,h',d,h2⟩:=Acf e;refine⟨v,h',?_,h2⟩;unfold Mp at d;split at d
    ·show D7 T tm (.makeSlice t l c) h=_
     simp only[D7];rw[hu,A,B];simp only;rw[F];exact d
    ·cases d
   ·cases e
  ·cases e
 | makeMap t rs=>
  cases rs with
  | none=>
   obtain⟨v,h',d,h2⟩:=Acf (show An (Ayh h) k=some r from e);exact⟨v,h',d,h2⟩
  | some x=>cases e
 | makeChan t s=>
  simp only[opD,Di]at e;split at e
  ·rename_i s1 dd J A hu
   split at e
   ·rename_i n0 aq
    obtain⟨v,h',d,h2⟩:=Acf e;refine⟨v,h',?_,h2⟩;unfold Au7 at d;split at d
    ·show D7 T tm (.makeChan t s) h=_
     simp only[D7];rw[hu,A];simp only;rw[aq];exact d
    ·cases d
   ·cases e
  ·cases e
 | lookup t x ix ok=>
  simp only[opD,Di]at e;split at e
  ·rename_i m1 i1 kt J A B hu
   obtain⟨v,h',d,h2⟩:=Acf e;refine⟨v,h',?_,h2⟩;unfold Auy at d;split at d
   ·show D7 T tm (.lookup t x ix ok) h=_
    simp only[D7];rw[hu,A,B];simp only;obtain⟨p,h4⟩:=Aq d;rw[p,Ak];split at h4
    ·rename_i es M
     rw[M];simp only;split at h4
     ·rename_i H;rw[H];exact h4
     ·rename_i H;rw[H];simp only
      obtain⟨zv,D,E⟩:=P6 h4;rw[D];exact E
     ·cases h4
    ·cases h4
   ·cases d
  ·cases e
 | mapUpdate t m ix x=>
  simp only[opD,Di]at e;split at e
  ·rename_i m1 i1 x1 kt J A B q3 hu
   obtain⟨v,h',d,h2⟩:=Acf e;refine⟨v,h',?_,h2⟩;unfold Aer at d;split at d
   ·show D7 T tm (.mapUpdate t m ix x) h=_
    simp only[D7];rw[hu,A,B,q3];simp only;obtain⟨p,h4⟩:=Aq d;rw[p,Ak];split at h4
    ·rename_i es M
     rw[M];simp only;split at h4
     ·rename_i H;rw[H];exact h4
     ·rename_i H;rw[H];exact h4
     ·cases h4
    ·cases h4
   ·cases d
  ·cases e
 | select cs bl=>
  cases bl with
  | true=>cases e
  | false=>
   simp only[opD,Di]at e;split at e
   ·rename_i c aa
    split at e
    ·rename_i x hsend
     split at e
     ·rename_i c1 x1 zv A B F
      obtain⟨v,h',d,h2⟩:=Acf e;refine⟨v,h',?_,h2⟩;unfold A43 at d;split at d
      ·show D7 T tm (.select cs false) h=_
       simp only[D7];rw[aa];simp only;rw[A,hsend];simp only;split at d
       ·rename_i cap buf M
        rw[M,B];simp only;rw[F];exact d
       ·cases d
      ·cases d
     ·cases e
    ·rename_i hsend
     split at e
     ·rename_i c1 zv A F
      obtain⟨v,h',d,h2⟩:=Acf e;refine⟨v,h',?_,h2⟩;unfold A4z at d;split at d
      ·show D7 T tm (.select cs false) h=_
       simp only[D7];rw[aa];simp only;rw[A,hsend];simp only;split at d
       ·rename_i cap buf M
        rw[M,F];exact d
       ·cases d
      ·cases d
     ·cases e
   ·cases e
 | _=>cases e
theorem Gz(tm:Ax)(j i:Nat)(v:EV):tmp (tm.put j (some v)) i=if j=i then v else tmp tm i:=by
 unfold tmp;rw[Tr.get_put];by_cases h:j=i<;>simp[h]
theorem Avf(n:Nat)(d:Option Tmp)(tm:Ax)(v:EV):Alf n d (tmp tm) v=tmp (Tj n tm d v):=by
 cases d with
 | none=>rfl
 | some d=>
  show Bf (Nat.ble (Nat.succ d) n) (Bot (tmp tm) d v) (tmp tm)=tmp (Bf (Nat.ble (Nat.succ d) n) (tm.put d (some v)) tm);cases Nat.ble (Nat.succ d) n with
  | false=>rfl
  | true=>
   funext i;rw[Ak,Ak,Gz];show Bf (Nat.beq d i) v (tmp tm i)=_;by_cases e:d=i
   ·subst e;rw[aG rfl,cO,Ak]
   ·rw[aF e,beq_false e,Bo]
theorem Bnr(ops:List Oper)(g:Nat × Bool)(tm:Ax):Bc7 ops (tmp tm) g=wanted ops tm (some g):=by
 obtain⟨j,want⟩:=g;simp only[wanted,yielded];show(match A25 ops j with|some o=>(match o.dst with|some d=>Cg (tmp tm d) want|none=>false)|none=>false)=_;cases A25 ops j with
 | none=>rfl
 | some o=>
  simp only;cases o.dst with
  | none=>rfl
  | some d=>
   simp only[tmp];cases tm.get d with
   | none=>rfl
   | some v=>cases v<;>first|rfl|(simp only[Cg,Bim])
def Aey(ops:List Oper)(tm:Ax)(m:Mode):Prop:=∀g b,m=some (g,b)->wanted ops tm (some g)=b
theorem Aey.none(ops:List Oper)(tm:Ax):Aey ops tm none:=fun _ _ h=>by cases h
theorem Bnb(h:eqW a b=true):a=b:=by cases a<;>cases b<;>first|rfl|cases h
theorem A1v(hm:Aey ops tm m)(h:A0g m g=some b):wanted ops tm (some g)=b:=by
 unfold A0g at h;cases m with
 | none=>cases h
 | some x=>
  obtain⟨⟨j,w⟩,e⟩:=x;simp only at h;obtain⟨d,h2⟩:=Aq h;cases h2;rw[Bt]at d;split at d
  ·rename_i hj
   have e1:j=g.1:=aJ hj;have e2:w=g.2:=Bnb d;have:g=(j,w):=by rw[e1,e2]
   rw[this];exact hm _ _ rfl
  ·cases d
theorem Azf(hw:wanted ops tm (some g)=b)(n:Nat)(dst:Option Tmp)(v:EV):Aey ops (Tj n tm dst v) (Ane ops g b dst):=by
 intro A B h;obtain⟨j,w⟩:=g;unfold Ane at h;simp only[wanted,yielded]at hw⊢;cases i:A25 ops j with
 | none=>
  rw[i]at h hw;simp only at h hw;cases h;simp only[i];exact hw
 | some o=>
  rw[i]at h hw;simp only at h hw;cases hd:o.dst with
  | none=>
   rw[hd]at h hw;simp only at h hw;cases h;simp only[i,hd];exact hw
  | some d=>
   rw[hd]at h hw;simp only at h hw;cases dst with
   | none=>
    simp only at h;cases h;simp only[i,hd,Tj];exact hw
   | some q=>
    simp only at h;rw[Bt]at h;split at h
    ·cases h
    ·rename_i u
     cases h;have p:q≠d:=fun e=>u (by rw[e];exact cO _)
     have y:(Tj n tm (some q) v).get d=tm.get d:=by
      show(Bf (Nat.ble (Nat.succ q) n) (tm.put q (some v)) tm).get d=_;rw[Bt];split
      ·rw[Tr.get_put,aF p]
      ·rfl
     simp only[i,hd,y];exact hw
theorem A72(hm:Aey ops tm m){A B:R}{r:EV × Ab}(e:(match A0g m g with|some true=>A|some false=>B|none=>Bf (Bc7 ops (tmp tm) g) A B)=some r):
 (wanted ops tm (some g)=true/\A=some r)\/(wanted ops tm (some g)=false/\B=some r):=by
 split at e
 ·rename_i d;exact .inl ⟨A1v hm d,e⟩
 ·rename_i d;exact .inr ⟨A1v hm d,e⟩
 ·rw[Bnr]at e
  cases hw:wanted ops tm (some g)with
  | true=>rw[hw,Ak]at e;exact .inl ⟨rfl,e⟩
  | false=>rw[hw,Bo]at e;exact .inr ⟨rfl,e⟩
theorem Baw{d:Option Tmp}(F:Ax->R):thn fl n tm d v F=F (Buc fl n tm d v):=by cases fl<;>cases d<;>rfl
theorem A0t:∀{l:List Oper} {m:Mode} {tm t2:Ax} {h:Ab} {ds:List Nat} {r:EV × Ab},(fl=true->t2=tm)->Aey ops tm m->Bmp fl T call call round n ops fin l m (tmp tm) t2 h ds=some r ->
 ∃d h' i,Avx T call round n ops l tm h=some (d,h')/\(fl=true->i=d)/\fin (tmp d) i h' ds=some r
 | [],m,tm,t2,h,ds,r,j,_,e=>⟨tm,h,t2,rfl,j,e⟩
 | ⟨dst,op,ty,ps,C,g⟩::l,m,tm,t2,h,ds,r,j,hm,e=>by
  have hp:∀v,fl=true->Buc fl n t2 dst v=Tj n tm dst v:=fun v e=>by rw[j e];show Bf fl _ _=_;rw[e,Ak]
  have run:∀{o:Mode},(∀v,Aey ops (Tj n tm dst v) o)->opD T call call round op (tmp tm) h (fun v h=>thn fl n t2 dst v fun t2=>Bmp fl T call call round n ops fin l o (Alf n dst (tmp tm) v) t2 h ds)=some r ->
   ∃d h' i,(match aop T call round tm op h with|some (v,h')=>Avx T call round n ops l (Tj n tm dst v) h'|none=>none)=some (d,h')/\(fl=true->i=d)/\fin (tmp d) i h' ds=some r:=by
   intro o p e;obtain⟨v,h',y,h2⟩:=Akq e;rw[Baw,Avf]at h2;obtain⟨q,u,t3,A,h4,B⟩:=A0t (hp v) (p v) h2;exact⟨q,u,t3,by rw[y];exact A,h4,B⟩
  simp only[Avx];cases g with
  | none=>
   simp only[wanted,Ak];exact run (fun v=>Aey.none _ _) e
  | some g=>
   rcases A72 hm e with⟨hw,e'⟩|⟨hw,e'⟩
   ·rw[hw,Ak];exact run (fun v=>Azf hw n dst v) e'
   ·rw[hw,Bo];rw[Baw,Avf]at e';exact A0t (hp _) (Azf hw n dst _) e'
end
end
theorem A50(h:Bf a b false=true):a=true/\b=true:=by cases a<;>simp_all [Bt]
theorem Beq(h:cls op=.load):∃t x,op=.load t x:=by
 cases op<;>first|exact⟨_,_,rfl⟩|skip
 all_goals (first|(cases h;done)|skip)
 all_goals (simp only[cls,isV,Ak,Bo]at h;first|(cases h;done)|skip)
 all_goals exact absurd h (As1 false _).2.1
theorem Bsq{call:Ah}(i:Apq T op=true)(p:cls op=.pur){h2:Ab}(d:aop T call round tm op h=some (v,h')):
 h'=h/\D7 T tm op h2=some (v,h2):=by
 have hp:=A3m p;rw[Axt hp]at d;refine⟨Bm6 hp d,?_⟩;unfold Apq at i;rw[p]at i;simp only at i;split at i
 ·rename_i args j
  split at i
  ·rename_i t o
   split at i
   ·rename_i e hu
    simp only[D7]at d⊢;split at d
    ·rename_i as has
     match as,d with
     | [x],d=>
      simp only[builtin]at d⊢;rw[o]at d⊢;simp only at d⊢;rw[hu]at d⊢;simp only at d⊢;split at d
      ·cases d;first|rfl|(rename_i n q;rw[q])
      ·cases d
     | [],d=>cases d
     | _::_::_,d=>cases d
    ·cases d
   ·cases i
  ·cases i
 ·rename_i args j
  simp only[D7]at d⊢;split at d
  ·rename_i as has
   match as,d with
   | x::l,d=>
    cases x<;>first|(cases d;done)|skip
    simp only[builtin]at d⊢;split at d
    ·cases d;first|rfl|(rename_i hm;rw[hm])
    ·cases d
   | [],d=>cases d
  ·cases d
 ·rename_i args j
  simp only[D7]at d⊢;split at d
  ·rename_i as has
   match as,d with
   | x::l,d=>
    cases x<;>first|(cases d;done)|skip
    simp only[builtin]at d⊢;split at d
    ·cases d;first|rfl|(rename_i hm;rw[hm])
    ·cases d
   | [],d=>cases d
  ·cases d
 ·cases i
theorem Apz {T:Kh}{call round:Ah}{n:Nat}{ops:List Oper}{bs:Tr Nat}{h:Ab}{base:Nat}:
 ∀(l:List Oper) (i:Nat) (tm tm':Ax) (h':Ab) (C8:List (Nat × Nat)),Azb T l=true->(∀k,k<l.length->∃b,bs.get (i+k)=some b)->Avx T call round n ops l tm h=some (tm',h') ->
  h'=h/\∃lds',Xh T call round n ops bs base l i ⟨tm,h,0,[],C8,[],[]⟩=some ⟨tm',h,0,[],lds',[],[]⟩
 | [],i,tm,tm',h',C8,_,_,e=>by cases e;exact⟨rfl,C8,rfl⟩
 | ⟨dst,op,ty,ps,af,g⟩::l,i,tm,tm',h',C8,hq,hbs,e=>by
  obtain⟨hq1,hq2⟩:=A50 (show Bf (Apq T op) (Azb T l) false=true from hq);have hbs':∀k,k<l.length->∃b,bs.get (Nat.succ i+k)=some b:=fun k hk=>by
   have:=hbs (k+1) (by simp;omega);rw[show Nat.succ i+k=i+(k+1) by omega];exact this
  obtain⟨b,hb0⟩:=hbs 0 (by simp);rw[dL]at hb0;simp only[Avx]at e;cases hw:wanted ops tm g with
  | false=>
   rw[hw,Bo]at e;obtain⟨h1,lds',h2⟩:=Apz l (Nat.succ i) _ _ _ C8 hq2 hbs' e;refine⟨h1,lds',?_⟩;simp only[Xh,Abc,hw,Bo];exact h2
  | true=>
   rw[hw,Ak]at e;split at e
   ·rename_i v h1 hop
    have go:h1=h->(∃lds1,Abc T call round n ops bs base ⟨dst,op,ty,ps,af,g⟩ i ⟨tm,h,0,[],C8,[],[]⟩=some ⟨Tj n tm dst v,h,0,[],lds1,[],[]⟩) ->
     h'=h/\∃lds',Xh T call round n ops bs base (⟨dst,op,ty,ps,af,g⟩::l) i ⟨tm,h,0,[],C8,[],[]⟩=some ⟨tm',h,0,[],lds',[],[]⟩:=by
     rintro rfl ⟨lds1,hd⟩;obtain⟨h2,lds',h3⟩:=Apz l (Nat.succ i) _ _ _ lds1 hq2 hbs' e;exact⟨h2,lds',by simp only[Xh,hd];exact h3⟩
    cases hc:cls op with
    | val=>
     have hv:=Bau hc;unfold aop at hop;rw[hv,Ak]at hop;split at hop
     ·rename_i v' hv'
      cases hop;refine go rfl ⟨C8,?_⟩;simp only[Abc,hw,Ak,hb0,hc,hv']
     ·cases hop
    | load=>
     obtain⟨t,x,rfl⟩:=Beq hc;have hop':D7 T tm (.load t x) h=some (v,h1):=hop;have hop2:=hop';simp only[D7]at hop';split at hop'
     ·rename_i q off hx
      have hh1:h1=h:=by
       split at hop'
       ·split at hop'
        ·split at hop'
         ·cases hop';rfl
         ·cases hop'
        ·cases hop'
       ·split at hop'
        ·cases hop';rfl
        ·cases hop'
       ·cases hop'
      subst hh1;refine go rfl ⟨(Nat.shiftLeft 1 i,q)::C8,?_⟩;have hst:within 0 b=true:=by unfold within;rw[show Nat.land 0 b=0 from Nat.zero_and b];rfl
      have hall:Bf (Nat.ble (Nat.succ q) base) true (Bf (within 0 b) true false)=true:=by rw[hst];cases Nat.ble (Nat.succ q) base<;>rfl
      simp only[Abc,hw,Ak,hb0,hc,hx,Gb,Acj,loose,hall,hop2]
     ·cases hop'
    | pur=>
     obtain⟨h2,h3⟩:=Bsq (h2:=⟨.nil,h.next,h.next⟩) hq1 hc hop;refine go h2 ⟨C8,?_⟩;simp only[Abc,hw,Ak,hb0,hc,h3]
    | new=>unfold Apq at hq1;rw[hc]at hq1;cases hq1
    | sto=>unfold Apq at hq1;rw[hc]at hq1;cases hq1
    | big=>unfold Apq at hq1;rw[hc]at hq1;cases hq1
   ·cases e
theorem Bdl{call:Ah}(i:Ay8 T ops=true){d:Ax}(e:Avx T call round n ops ops tm h=some (d,h')):
 Awn T call round n ops tm h=some (d,h'):=by
 obtain⟨p,i⟩:=A50 i;obtain⟨q,u⟩:=A50 i;have j:∀k,k<ops.length->∃b,(Qw ops 0 .nil).get (0+k)=some b:=fun k y=>by
  obtain⟨b,hb,_⟩:=Aqv ops 0 .nil (fun _ _=>rfl) k ops[k] (aC y);exact⟨b,hb⟩
 obtain⟨rfl,o,A⟩:=Apz (bs:=Qw ops 0 .nil) (base:=h.next) ops 0 tm d h' [] p j e;unfold Awn;rw[q,Ak,u,Ak,A]
theorem Buf(h:b=true){x y:α}:Bf b x y=x:=by rw[h];rfl
theorem Bms{call:Ah}:aop T call round tm (.load t x) h=D7 T tm (.load t x) h:=rfl
theorem Bru{call:Ah}{a:Operand}:aop T call round tm (.store t a x) h=D7 T tm (.store t a x) h:=rfl
theorem Brq(h:cls op=.sto):∃t a x,op=.store t a x:=by
 cases op<;>first|exact⟨_,_,_,rfl⟩|skip
 all_goals (first|(cases h;done)|skip)
 all_goals (first
  | (rename_i c;exact absurd (show Bf false Cls.val (Bf (Ay6 (.call c)) .pur .big)=.sto from h) (As1 _ _).2.2)
  | exact absurd h (As1 _ _).2.2)
theorem Bdz{call:Ah}(d:cls op=.new):aop T call round tm op h=D7 T tm op h:=by
 rcases A8p d with⟨_,rfl⟩|⟨_,_,rfl⟩|⟨_,_,_,rfl⟩|⟨_,_,_,rfl⟩|⟨_,_,rfl⟩|⟨_,_,rfl⟩<;>rfl
def DX.with(s:DX)(tm:Ax)(h:Ab):DSt:=⟨tm,h,s.bg,s.nw,s.C8,s.lou,s.st⟩
theorem Axf{call:Ah}{bs:Tr Nat}{base:Nat}{r:EV × Ab}:∀{l:List Oper} {i:Nat} {m:Mode} {s:DX} {tm t2:Ax} {h:Ab},(fl=true->t2=tm)->Aey ops tm m ->
 Awa fl T call call round n ops bs base fin l i m s (tmp tm) t2 h ds=some r->∃s' u,Xh T call round n ops bs base l i (s.with tm h)=some s'/\(fl=true->u=s'.tm)/\fin (tmp s'.tm) u s'.h ds=some r
 | [],i,m,s,tm,t2,h,H,_,e=>⟨s.with tm h,t2,rfl,H,e⟩
 | ⟨dst,op,ty,ps,J,g⟩::l,i,m,s,tm,t2,h,H,hm,e=>by
  have hp:∀v,fl=true->Buc fl n t2 dst v=Tj n tm dst v:=fun v e=>by rw[H e];show Bf fl _ _=_;rw[e,Ak]
  cases hb:bs.get i with
  | none=>simp only[Awa,hb]at e;cases e
  | some b=>
   have run:∀{mk:Mode},(∀v,Aey ops (Tj n tm dst v) mk)->wanted ops tm g=true->Ben T call call round op i b base s (tmp tm) h (fun s v h=>thn fl n t2 dst v fun t2=>Awa fl T call call round n ops bs base fin l (Nat.succ i) mk s (Alf n dst (tmp tm) v) t2 h ds)=some r ->
    ∃s' u,Xh T call round n ops bs base (⟨dst,op,ty,ps,J,g⟩::l) i (s.with tm h)=some s'/\(fl=true->u=s'.tm)/\fin (tmp s'.tm) u s'.h ds=some r:=by
    intro mk K hw e2;have j:∀{v:EV} {A:Ab} {s1:DX},(thn fl n t2 dst v fun t2=>Awa fl T call call round n ops bs base fin l (Nat.succ i) mk s1 (Alf n dst (tmp tm) v) t2 A ds)=some r ->
     Abc T call round n ops bs base ⟨dst,op,ty,ps,J,g⟩ i (s.with tm h)=some (s1.with (Tj n tm dst v) A) ->
     ∃s' u,Xh T call round n ops bs base (⟨dst,op,ty,ps,J,g⟩::l) i (s.with tm h)=some s'/\(fl=true->u=s'.tm)/\fin (tmp s'.tm) u s'.h ds=some r:=by
     intro v A s1 e3 hd;rw[Baw,Avf]at e3;obtain⟨s',t3,h2,y,h4⟩:=Axf (hp v) (K v) e3;exact⟨s',t3,by simp only[Xh,hd];exact h2,y,h4⟩
    unfold Ben at e2;cases p:cls op with
    | val=>
     rw[p]at e2;obtain⟨v,A,h2,y⟩:=Akq e2;have Q:=Bau p;unfold aop at h2;rw[Q,Ak]at h2;split at h2
     ·rename_i U L
      cases h2;refine j y ?_;simp only[Abc,DX.with,hw,Ak,hb,p,L]
     ·cases h2
    | load=>
     rw[p]at e2;obtain⟨t,x,rfl⟩:=Beq p;simp only[Di]at e2;split at e2
     ·rename_i ex B
      obtain⟨q,o,A,h2⟩:=Td e2;obtain⟨y,h4⟩:=Aq h2;obtain⟨v,C,D,E⟩:=Akq h4;rw[Bms]at D;rw[A]at B;have M:C=h:=by
       have d:=D;simp only[D7]at d;rw[B]at d;simp only at d;split at d
       ·split at d
        ·split at d
         ·cases d;rfl
         ·cases d
        ·cases d
       ·split at d
        ·cases d;rfl
        ·cases d
       ·cases d
      subst M;refine j E ?_;unfold Bag at y;simp only[Abc,DX.with,hw,Ak,hb,p,B,D,DX.ld];exact Buf y
     ·cases e2
    | new=>
     rw[p]at e2;simp only[Bg2]at e2;obtain⟨v,A,h2,y⟩:=Akq e2;rw[Bdz p]at h2;refine j y ?_;simp only[Abc,DX.with,hw,Ak,hb,p,h2,DX.new]
    | sto=>
     rw[p]at e2;obtain⟨t,a,x,rfl⟩:=Brq p;simp only[Di]at e2;split at e2
     ·rename_i ex B
      obtain⟨q,o,A,h2⟩:=Td e2;obtain⟨y,h4⟩:=Aq h2;obtain⟨v,C,D,E⟩:=Akq h4;rw[Bru]at D;rw[A]at B;refine j E ?_;unfold Bij at y;simp only[Abc,DX.with,hw,Ak,hb,p,B,y,D,DX.sto]
     ·cases e2
    | pur=>
     rw[p]at e2;simp only[Bvg]at e2;obtain⟨v,A,h2,y⟩:=Akq e2;rw[Axt (A3m p)]at h2;refine j y ?_;simp only[Abc,DX.with,hw,Ak,hb,p,h2]
    | big=>
     rw[p]at e2;obtain⟨A,h2⟩:=Aq e2;obtain⟨v,y,h4,C⟩:=Akq h2;obtain⟨t,nx,mw⟩:=h;obtain⟨S,O,F⟩:=y;have G:aop T call round tm op ⟨Ahc t (loose b s.nw),nx,nx⟩=some (v,⟨S,O,F⟩):=h4;unfold Aj0 at A;unfold Th at C;simp only at C;cases hle:Nat.ble nx F with
     | true=>
      rw[hle,Ak]at C;refine j C ?_;simp only[Abc,DX.with,hw,Ak,hb,p,A,G,hle,DX.big]
     | false=>
      rw[hle,Bo]at C;obtain⟨D,E⟩:=Aq C;refine j E ?_;simp only[Abc,DX.with,hw,Ak,Bo,hb,p,A,G,hle,D,DX.Ag7]
   have e1:(match bs.get i with|none=>none|some b=>(@Option.rec (Nat × Bool) (fun _=>R) (Ben T call call round op i b base s (tmp tm) h (fun s v h=>thn fl n t2 dst v fun t2=>Awa fl T call call round n ops bs base fin l (Nat.succ i) none s (Alf n dst (tmp tm) v) t2 h ds))
    (fun g=>match A0g m g with
     | some true=>Ben T call call round op i b base s (tmp tm) h (fun s v h=>thn fl n t2 dst v fun t2=>Awa fl T call call round n ops bs base fin l (Nat.succ i) (Ane ops g true dst) s (Alf n dst (tmp tm) v) t2 h ds)
     | some false=>thn fl n t2 dst (.tuple []) fun t2=>Awa fl T call call round n ops bs base fin l (Nat.succ i) (Ane ops g false dst) s (Alf n dst (tmp tm) (.tuple [])) t2 h ds
     | none=>Bf (Bc7 ops (tmp tm) g) (Ben T call call round op i b base s (tmp tm) h (fun s v h=>thn fl n t2 dst v fun t2=>Awa fl T call call round n ops bs base fin l (Nat.succ i) (Ane ops g true dst) s (Alf n dst (tmp tm) v) t2 h ds)) (thn fl n t2 dst (.tuple []) fun t2=>Awa fl T call call round n ops bs base fin l (Nat.succ i) (Ane ops g false dst) s (Alf n dst (tmp tm) (.tuple [])) t2 h ds)) g:R))=some r:=e
   rw[hb]at e1;cases g with
   | none=>exact run (fun v=>Aey.none _ _) rfl e1
   | some g=>
    rcases A72 hm e1 with⟨hw,e'⟩|⟨hw,e'⟩
    ·exact run (fun v=>Azf hw n dst v) hw e'
    ·rw[Baw,Avf]at e'
     obtain⟨s',t3,h2,y,h4⟩:=Axf (hp _) (Azf hw n dst _) e';refine⟨s',t3,?_,y,h4⟩;simp only[Xh,Abc,DX.with,hw,Bo];exact h2
theorem Bhz{t2:Ax}{call:Ah}{r:EV × Ab}(o:fl=true->t2=tm)(e:Ba3 fl T call call round n ops fin (tmp tm) t2 h ds=some r):
 ∃d h' i,Awn T call round n ops tm h=some (d,h')/\(fl=true->i=d)/\fin (tmp d) i h' ds=some r:=by
 unfold Ba3 at e;obtain⟨p,e⟩:=Aq e;obtain⟨h2,e⟩:=Aq e;obtain⟨⟨d,h',q,u,y,a4,a5⟩,t3,A,h4,B⟩:=Axf o (Aey.none _ _) e;refine⟨d,h',t3,?_,h4,B⟩;unfold Awn;rw[p,Ak,h2,Ak];have j:Xh T call round n ops (Qw ops 0 .nil) h.next ops 0 ⟨tm,h,0,[],[],[],[]⟩=some ⟨d,h',q,u,y,a4,a5⟩:=A
 rw[j]
section
inductive Reach (step:Jg->AR):Jg->Jg->Prop where
 | refl (s:Jg):Reach step s s
 | head {s s1 s2:Jg}:step s=.go s1->Reach step s1 s2->Reach step s s2
def Ends(step:Jg->AR)(s:Jg)(r:EV × Ab):Prop:=∃s1,Reach step s s1/\step s1=.done r.1 r.2
theorem Ends.go {step:Jg->AR}{s s1:Jg}{r:EV × Ab}(h:step s=.go s1)(e:Ends step s1 r):Ends step s r:=by
 obtain⟨s2,d,h2⟩:=e;exact⟨s2,.head h d,h2⟩
theorem Ends.done {step:Jg->AR}{s:Jg}{r:EV × Ab}(h:step s=.done r.1 r.2):Ends step s r:=⟨s,.refl s,h⟩
theorem Ends.congr {step:Jg->AR}{s s':Jg}{r:EV × Ab}(h:step s=step s')(e:Ends step s r):Ends step s' r:=by
 obtain⟨s2,d,h2⟩:=e;cases d with
 | refl=>exact⟨s',.refl s',by rw[<-h];exact h2⟩
 | head i h4=>exact⟨s2,.head (by rw[<-h];exact i) h4,h2⟩
section
variable (fl:Bool)(T:Kh)(call round:Ah)(fn n:Nat)(Dx:Option Nat)
def At(cd:CD)(todo:List Item):Prop:=∀tm t2 h ds r,((fl=true->t2=tm)/\(fl=false->ds = []))->cd (tmp tm) t2 h ds=some r->Ends (Cw T call round) ⟨⟨fn,n,tm,todo,ds,false,Dx⟩,h⟩ r
end
section
variable{call:Ah}{fn:Nat}{Dx:Option Nat}
theorem At.bad(todo:List Item):At fl T call round fn n Dx (fun _ _ _ _=>none) todo:=fun _ _ _ _ _ _ e=>(by cases e)
theorem At.step{a b:List Item}(hs:∀tm h ds,Cw T call round ⟨⟨fn,n,tm,a,ds,false,Dx⟩,h⟩=.go ⟨⟨fn,n,tm,b,ds,false,Dx⟩,h⟩)(h:At fl T call round fn n Dx cf b):At fl T call round fn n Dx cf a:=
 fun tm t2 h' ds r d e=>(h tm t2 h' ds r d e).go (hs tm h' ds)
theorem At.exit{id:Nat}{a b:List Item}(hs:exitTo id a=exitTo id b)(h:At fl T call round fn n Dx cf (.code (.exit id)::a)):At fl T call round fn n Dx cf (.code (.exit id)::b):=by
 intro tm t2 h' ds r d e;refine(h tm t2 h' ds r d e).congr ?_;simp only[Cw];rw[hs];cases exitTo id b with
 | some k=>rfl
 | none=>simp only[leave]
theorem Blz(out:Nat->CD)(id:Nat)(k:CD)(env:Anx)(d:Nat):Bhi out ((id,k)::env) d=Bf (Nat.beq id d) k (Bhi out env d):=by
 funext e tm h ds;show Bf (Nat.beq id d) (k e tm h ds) (Bhi out env d e tm h ds)=_;cases Nat.beq id d<;>rfl
theorem A70 {k:Ab->R}{ex:Nat->Ab->R}{ret:Ab->R}{i:List Item}{l:Nat}{r:R}{x:EV × Ab}(o:∀h,k h=some x->Ends (Cw T call round) ⟨⟨fn,n,tm,i,ds,false,Dx⟩,h⟩ x)
 (hex:∀id h,ex id h=some x->Ends (Cw T call round) ⟨⟨fn,n,tm,.code (.exit id)::i,ds,false,Dx⟩,h⟩ x) (d:∀h,ret h=some x->Ends (Cw T call round) ⟨⟨fn,n,tm,.code .ret::i,ds,false,Dx⟩,h⟩ x) (e:Bek l r k ex ret=some x) :
 ∃s',behind fn n tm ds Dx l i r=.go s'/\Ends (Cw T call round) s' x:=by
 unfold Bek at e;unfold behind;split at e
 ·cases e
 ·split at e
  ·rename_i j
   split at e
   ·cases e
   ·rename_i p
    split at e
    ·simp only;rw[j];simp only;exact⟨_,rfl,o _ e⟩
    ·simp only;rw[j];simp only;exact⟨_,rfl,hex _ _ e⟩
    ·simp only;rw[j];simp only;exact⟨_,rfl,d _ e⟩
    ·cases e
  ·cases e
theorem Acr {fuel:Nat}{out:Nat->CD}{ret:CD}(hret:∀kk,At fl T call round fn n Dx ret (.code .ret::kk)):∀(c:Code) (env:Anx) (k:CD) (kk:List Item),
 At fl T call round fn n Dx k kk->(∀id,At fl T call round fn n Dx (Bhi out env id) (.code (.exit id)::kk))->At fl T call round fn n Dx (Abj fl T call call round fuel fn n Dx out ret c env k) (.code c::kk)
 | .skip,env,k,kk,hk,henv=>At.step (fun _ _ _=>rfl) hk
 | .region id ops dr,env,k,kk,hk,henv=>by
  intro tm t2 h ds r ht e;have plain:Bmp fl T call call round n ops.toList k ops.toList none (tmp tm) t2 h ds=some r->(∀tm' h',Avx T call round n ops.toList ops.toList tm h=some (tm',h')->Cw T call round ⟨⟨fn,n,tm,.code (.region id ops dr)::kk,ds,false,Dx⟩,h⟩=.go ⟨⟨fn,n,tm',kk,ds,false,Dx⟩,h'⟩) ->
   Ends (Cw T call round) ⟨⟨fn,n,tm,.code (.region id ops dr)::kk,ds,false,Dx⟩,h⟩ r:=fun e hs=>by
   obtain⟨tm',h',t3,h1,h3,h2⟩:=A0t ht.1 (Aey.none _ _) e;exact(hk _ _ _ _ _ ⟨h3,ht.2⟩ h2).go (hs _ _ h1)
  cases dr with
  | false=>exact plain e fun tm' h' h1=>by simp only[Cw];rw[h1]
  | true=>
   have e':Bf (Ay8 T ops.toList) (Bmp fl T call call round n ops.toList k ops.toList none) (Ba3 fl T call call round n ops.toList k) (tmp tm) t2 h ds=some r:=e;cases hq:Ay8 T ops.toList with
   | true=>
    rw[hq,Ak]at e';exact plain e' fun tm' h' h1=>by simp only[Cw];rw[Bdl hq h1]
   | false=>
    rw[hq,Bo]at e';obtain⟨tm',h',t3,h1,h3,h2⟩:=Bhz ht.1 e';exact(hk _ _ _ _ _ ⟨h3,ht.2⟩ h2).go (by simp only[Cw];rw[h1])
 | .seq a b,env,k,kk,hk,henv=>by
  have hb:=Acr (fuel:=fuel) hret b env k kk hk henv;exact At.step (fun _ _ _=>rfl) (Acr (fuel:=fuel) hret a env _ (.code b::kk) hb fun id=>At.exit (a:=kk) (b:=.code b::kk) rfl (henv id))
 | .cond c a b,env,k,kk,hk,henv=>by
  have ha:=Acr (fuel:=fuel) hret a env k kk hk henv;have hb:=Acr (fuel:=fuel) hret b env k kk hk henv;intro tm t2 h ds r ht e;have e':(match E2 (tmp tm) c with|some e=>ifE e (Abj fl T call call round fuel fn n Dx out ret a env k (tmp tm) t2 h ds) (Abj fl T call call round fuel fn n Dx out ret b env k (tmp tm) t2 h ds)|none=>none)=some r:=e;rw[Di]at e';split at e'
  ·rename_i e1 he
   obtain⟨b,rfl,h2⟩:=A4u e';cases b
   ·exact(hb _ _ _ _ _ ht h2).go (by simp only[Cw];rw[he])
   ·exact(ha _ _ _ _ _ ht h2).go (by simp only[Cw];rw[he])
  ·cases e'
 | .block id c,env,k,kk,hk,henv=>by
  refine At.step (b:=.code c :: .inBlock id::kk) (fun _ _ _=>rfl) (Acr hret c ((id,k)::env) k (.inBlock id::kk) (At.step (fun _ _ _=>rfl) hk) fun id'=>?_);rw[Blz,Bt];split
  ·rename_i hid
   have:=aJ hid;subst this;exact At.step (fun _ _ _=>by simp[Cw,exitTo]) hk
  ·rename_i hid
   refine(henv id').exit ?_;have:(id == id')=false:=by
    cases hb:(id == id')with
    | false=>rfl
    | true=>exact absurd (by simpa using hb:id=id') (fun e=>hid (by subst e;exact cO _))
   simp[exitTo,this]
 | .loop c,env,k,kk,hk,henv=>by
  have key:∀m,At fl T call round fn n Dx (A7j (fun ih=>Abj fl T call call round fuel fn n Dx out ret c env ih) m) (.code c :: .inLoop c::kk):=by
   intro m;induction m with
   | zero=>exact At.bad _
   | succ m ih=>exact Acr hret c env _ (.inLoop c::kk) (At.step (fun _ _ _=>rfl) ih) fun id=>At.exit (a:=kk) (b:=.inLoop c::kk) rfl (henv id)
  exact At.step (fun _ _ _=>rfl) (key fuel)
 | .rangeFunc f ps asg body,env,k,kk,hk,henv=>by
  intro tm t2 h ds r ht e;obtain⟨hfl,e'⟩:=Aq (show Bf fl (match E2 (tmp tm) f with|some e=>Bgp call fn n Dx e ps.toList asg body t2 h ds (fun h ds=>k (tmp tm) t2 h ds) (fun id h ds=>Bhi out env id (tmp tm) t2 h ds) (fun h ds=>ret (tmp tm) t2 h ds)|none=>none) none=some r from e);have e2:=ht.1 hfl;subst e2;have ht:∀{ds:List Nat},((fl=true->t2=t2)/\(fl=false->ds = [])):=fun {_}=>⟨fun _=>rfl,fun x=>by rw[hfl]at x;cases x⟩
  rw[Di]at e';split at e'
  ·rename_i e1 hf
   unfold Bgp at e';split at e'
   ·split at e'
    ·obtain⟨s',h1,h2⟩:=A70 (fun h e=>hk _ _ _ _ _ ht e) (fun id h e=>henv id _ _ _ _ _ ht e) (fun h e=>hret kk _ _ _ _ _ ht e) e'
     exact h2.go (by simp only[Cw];rw[hf];exact h1)
    ·split at e'
     ·rename_i hg
      obtain⟨s',h1,h2⟩:=A70 (fun h e=>hk _ _ _ _ _ ht e) (fun id h e=>henv id _ _ _ _ _ ht e) (fun h e=>hret kk _ _ _ _ _ ht e) e';exact h2.go (by simp only[Cw];rw[hf];simp only;rw[hg];exact h1)
     ·cases e'
   ·cases e'
  ·cases e'
 | .exit id,env,k,kk,hk,henv=>henv id
 | .scope c,env,k,kk,hk,henv=>At.bad _
 | .label l,env,k,kk,hk,henv=>At.step (fun _ _ _=>rfl) hk
 | .goto l,env,k,kk,hk,henv=>At.bad _
 | .ret,env,k,kk,hk,henv=>hret kk
 | .refuse w,env,k,kk,hk,henv=>At.bad _
theorem Bs3(T:Kh)(res:List ResultVar)(tm:Ax)(h:Ab):Bas T res (tmp tm) h=match O9 T tm h res with|some [v]=>some (v,h)|some l=>some (.tuple l,h)|none=>none:=by
 have e:∀l:List ResultVar,O9 T tm h l=A22 T h (l.map (rvD (tmp tm))):=by
  intro l;induction l with
  | nil=>rfl
  | cons a r d=>
   cases a with
   | tmp t=>simp only[O9,dQ,rvD,A22,d];rfl
   | cell a t=>simp only[O9,dQ,rvD,A22,d];cases tmp tm a<;>rfl
 unfold Bas;split
 ·rfl
 ·rfl
 ·rfl
 ·rw[e];rfl
theorem At5(o:T.fn fn=some f){todo:List Item}:∀{ds:List Nat} {h:Ab} {r:EV × Ab},E1 ds h (fun h=>Bas T f.results.toList (tmp tm) h)=some r ->
 Ends (Cw T call round) ⟨⟨fn,n,tm,todo,ds,true,Dx⟩,h⟩ r
 | [],h,r,e=>by
  have e':Bas T f.results.toList (tmp tm) h=some r:=e;rw[Bs3]at e';refine .done ?_;simp only[Cw];rw[o];simp only;split at e'
  ·rename_i v p;cases e';rw[p]
  ·rename_i l j q
   cases e';rw[q];split
   ·rename_i v i;cases i;exact(j v rfl).elim
   ·rename_i i;cases i;rfl
   ·rename_i i;cases i
  ·cases e'
 | d::ds,h,r,e=>by
  have e':(match h.get d with|some (.deferred true)=>E1 ds (h.put d (.deferred false)) (fun h=>Bas T f.results.toList (tmp tm) h)|_=>none)=some r:=e;split at e'
  ·rename_i u
   exact(At5 o e').go (by simp only[Cw];rw[u])
  ·cases e'
theorem Bq3(i:T.fn fn=some f):(∀j,At fl T call round fn n none (Bo0 fl T f.results.toList) (.code .ret::j))/\At fl T call round fn n none (Bo0 fl T f.results.toList) []:=
 by
 have k:∀{tm:Ax} {h:Ab} {ds:List Nat} {r:EV × Ab} {todo:List Item},(fl=false->ds = [])->Bf fl (E1 ds h fun h=>Bas T f.results.toList (tmp tm) h) (Bas T f.results.toList (tmp tm) h)=some r->Ends (Cw T call round) ⟨⟨fn,n,tm,todo,ds,true,none⟩,h⟩ r:=fun hd e=>by
  cases fl with
  | true=>exact At5 i e
  | false=>rw[hd rfl]at *;exact At5 (ds:=[]) i e
 exact⟨fun _ _ _ _ _ _ d e=>(k d.2 e).go rfl,fun _ _ _ _ _ d e=>(k d.2 e).go rfl⟩
theorem Bs7(tm:Ax)(d:Nat)(v:EV):Bot (tmp tm) d v=tmp (tm.put d (some v)):=by
 have:=Avf (Nat.succ d) (some d) tm v;simp only[Alf,Tj]at this
 rwa [show Nat.ble (Nat.succ d) (Nat.succ d)=true from aS (aE _),Ak,Ak]at this
theorem Bck:∀(l:List EV) (i:Nat) (tm:Ax),Bcg l i (tmp tm)=tmp (setArgs l i tm)
 | [],_,_=>rfl
 | v::r,i,tm=>by
  show Bcg r (Nat.succ i) (Bot (tmp tm) i v)=_;rw[Bs7,Bck r];rfl
theorem Bjf:∀{ps:List Tmp} {args:List EV} {tm d:Ax},Yx ps args n tm=some d->Bfc n ps args (tmp tm)=tmp d
 | [],[],tm,d,e=>by cases e;rfl
 | [],_::_,_,_,e=>by cases e
 | _::_,[],_,_,e=>by cases e
 | p::r,v::s,tm,d,e=>by
  show Bfc n r s (Alf n (some p) (tmp tm) v)=_;rw[Avf];exact Bjf e
theorem Bj1 {f:Nat}{r:EV × Ab}(e:A56 T call round fuel f args h=some r):∃fr,enter T f args=some fr/\Ends (Cw T call round) ⟨fr,h⟩ r:=by
 unfold A56 at e;split at e
 ·rename_i name origin targs params j nfree o res c u ours file el y met A d
  obtain⟨i,h2⟩:=Aq e;rw[Al3]at i;rw[show(u0:VS)=tmp .nil from rfl,Bck]at h2;obtain⟨p,q⟩:=Bq3 (call:=call) (round:=round) (n:=o) d;refine⟨_,by unfold enter;rw[d];simp only;rw[i,Ak],?_⟩;exact Acr p _ [] _ [] q (fun id=>At.bad _) _ _ _ _ _ ⟨fun _=>rfl,fun _=>rfl⟩ h2
 ·cases e
theorem Blu(l:Nat):(∀d,At fl T call round fn n (some l) (fun _ _ h _=>Vh l false .done (some .ret) h) (.code .ret::d)) /\
 (∀id d,exitTo id d=none->At fl T call round fn n (some l) (fun _ _ h _=>Vh l false .done (some (.exit id)) h) (.code (.exit id)::d))/\At fl T call round fn n (some l) (fun _ _ h _=>Vh l true .ready none h) []:=by
 refine⟨?_,?_,?_⟩
 ·intro d tm t2 h ds r _ e
  simp only[Vh]at e;split at e
  ·rename_i i;cases e;exact .done (by simp only[Cw,leave];rw[i])
  ·cases e
 ·intro id d j tm t2 h ds r _ e
  simp only[Vh]at e;split at e
  ·rename_i i;cases e;exact .done (by simp only[Cw];rw[j];simp only[leave];rw[i])
  ·cases e
 ·intro tm t2 h ds r _ e
  simp only[Vh]at e;split at e
  ·rename_i i;cases e;exact .done (by simp only[Cw,leave];rw[i])
  ·cases e
theorem A18 {l:Nat}{r:EV × Ab}(e:A0q T call round fuel l args h=some r):∃fr,Aqg l args h=some fr/\Ends (Cw T call round) ⟨fr,h⟩ r:=by
 unfold A0q at e;split at e
 ·rename_i st C f p tm ps asg body d y
  split at e
  ·rename_i j i
   refine⟨⟨f,p,j,[.code asg,.beginRound,.code body],[],false,some l⟩,by unfold Aqg;rw[y];simp only;rw[i],?_⟩;obtain⟨q,u,A⟩:=Blu (fl:=true) (T:=T) (call:=call) (round:=round) (fn:=f) (n:=p) l;rw[Bjf i]at e;refine Acr (out:=fun id _ _ h _=>Vh l false .done (some (.exit id)) h) q asg [] _ [.beginRound,.code body] (fun tm t2 h ds r B e=>?_) (fun id=>u id _ rfl) _ _ _ _ _ ⟨fun _=>rfl,fun x=>by cases x⟩ e;simp only[Fs]at e;split at e
   ·rename_i o
    exact(Acr (fuel:=fuel) (out:=fun id _ _ h _=>Vh l false .done (some (.exit id)) h) q body [] _ [] A (fun id=>u id [] rfl) _ _ _ _ _ B e).go (by simp only[Cw];rw[o])
   ·cases e
  ·cases e
 ·cases e
end
structure Good(P:Program)(g:Nat)(args:List EV)(h:Ab)(v:EV)(h':Ab):Prop where
 fn:∃fn,P.funcs[g]? = some fn/\fn.body.isSome=true/\(fn.name == "runtime.NumGoroutine")=false
 run:∀p f w,Y9 p h->Y5 f h w->EV.Wz p args->∀cs,∃fr f' w',Steps P (lone (Frame.enter P g (Bx f args).toArray .normal) cs w) (lone fr cs w')/\fr.fn=g /\
  fr.leaving P w' (.returned (Cr f' v))/\Move p f h w f' h' w'/\Wf p h h'/\v.ok (grow p h h')
 wf:AWf h h'
def Bt9(P:Program)(g:Nat)(F:FnT):Prop:=∀args h v h',F args h=some (v,h')->Good P g args h v h'
def Sound(P:Program)(c:Ah):Prop:=∀g,Bt9 P g (c g)
def A8h(P:Program)(c:Ah):Prop:=Aqx P c/\Aa2 c
theorem Sound.call{c:Ah}(h:Sound P c):Ak3 P c:=fun g args d v h' e=>⟨(h g args d v h' e).fn,(h g args d v h' e).run⟩
theorem Sound.w{c:Ah}(h:Sound P c):Aa2 c:=fun g args d v h' e=>(h g args d v h' e).wf
theorem Sound.of{c:Ah}(d:Ak3 P c)(h2:Aa2 c):Sound P c:=fun g args h v h' e=>⟨(d g args h v h' e).1,(d g args h v h' e).2,h2 g args h v h' e⟩
section
variable(hT:Uf P T){call:Ah}(hC:Sound P call)(hR:A8h P round)
include hT hC hR
theorem A4m {s s':Jg}(h:Reach (Cw T call round) s s'):Bk2 P s s'/\AWf s.h s'.h:=by
 induction h with
 | refl s=>exact⟨fun p f w cs d e i=>Sim.refl d e i,.refl _⟩
 | @head s s1 s2 j _ o=>
  have a:Bk2 P s s1:=fun p f w cs d e i=>Boi hT hC.call hR.1 hC.w hR.2 j d e i cs
  exact⟨a.trans o.1,(A8v hC.w hR.2 (.inl ⟨s1,j,rfl⟩)).trans o.2⟩
theorem Brg(fuel g:Nat):Bt9 P g (A56 T call round fuel g):=by
 intro args h v h' A;obtain⟨fr,i,s1,B,e⟩:=Bj1 A;obtain⟨u,hw⟩:=A4m hT hC hR B;simp only at e;unfold enter at i;split at i
 ·rename_i name origin targs params H nfree n results c O ours file el Q met S C
  obtain⟨hle,i⟩:=Aq i;cases i;have o:args.length<=n:=by have:=bI hle;rwa [Zr]at this
  obtain⟨q,y⟩:=hT.fn _ _ C;refine⟨⟨_,q,rfl,y⟩,fun p f w J K L cs=>?_,hw.trans (A8v hC.w hR.2 (.inr ⟨v,e⟩))⟩;have D:Abx p ⟨g,n,setArgs args 0 .nil,[.code c],[],false,none⟩:=⟨Bqa o L,fun d hd=>(by cases hd),fun l M=>(by cases M),fun x=>(by cases x)⟩;obtain⟨f1,w1,hs,hm,hwf,E,e1,e2⟩:=u p f w cs D J K;have j:=A51 hT e E hwf.hok hm.rep;unfold Fin at j;rw[e2]at j;obtain⟨rfl,F,G⟩:=j;refine⟨_,f1,w1,?_,e1,F,hm,hwf,G⟩;have he:Frame.enter P g (Bx f args).toArray .normal=Q2 f ⟨g,n,setArgs args 0 .nil,[.code c],[],false,none⟩:=by
   unfold Frame.enter Q2;rw[Be8 f o];simp[q]
  rw[he];exact hs
 ·cases i
theorem Bkz(fuel:Nat):A8h P (A0q T call round fuel):=by
 constructor
 ·intro l args h v h' y
  obtain⟨fr,e,s1,A,i⟩:=A18 y;obtain⟨j,hw⟩:=A4m hT hC hR A;simp only at i;unfold Aqg at e;split at e
  ·rename_i st M fn n tm ps asg body dd D
   split at e
   ·rename_i B C
    cases e;refine⟨st,M,fn,n,tm,ps,asg,body,dd,B,D,C,fun p f w E O Q caller cs=>?_⟩;obtain⟨_,F,_⟩:=An1 f C Q (E.get l _ D).2.1;have G:Abx p ⟨fn,n,B,[.code asg,.beginRound,.code body],[],false,some l⟩:=⟨F,fun d hd=>(by cases hd),fun l' S=>(by cases S;exact(E.get l _ D).1),fun x=>(by cases x)⟩;obtain⟨f1,w1,hs,hm,hwf,H,e1,e2⟩:=j p f w (caller::cs) G E O;have o:=A51 hT i H hwf.hok hm.rep;unfold Fin at o;rw[e2]at o;obtain⟨w2,J,K,u,L⟩:=o caller cs;refine⟨f1,w2,?_,hm.trans K,hwf.trans u,EV.ok.mono (fun q U=>?_) _ L⟩
    ·exact hs.trans J
    ·rw[<-Aja p hwf.next u.next];exact .inl U
   ·cases e
  ·cases e
 ·intro l args h v h' y
  obtain⟨fr,e,s1,A,i⟩:=A18 y;obtain⟨j,hw⟩:=A4m hT hC hR A;unfold Aqg at e;split at e
  ·split at e
   ·cases e;exact hw.trans (A8v hC.w hR.2 (.inr ⟨v,i⟩))
   ·cases e
  ·cases e
end
end
noncomputable section
abbrev FT:=Ah->Ah->Nat->FnT
def A6l(P:Program)(g:Nat)(F:FT):Prop:=∀call round K,Sound P call->A8h P round->Bt9 P g (F call round K)
def Ae(T:Kh)(disp:Nat->Option FT)(K:Nat):Nat->Bool->Ah:=
 @Nat.rec (fun _=>Bool->Ah) (fun _ _ _ _=>none)
  (fun _ d b=>@Bool.rec (fun _=>Ah) (fun f=>@Option.rec FT (fun _=>FnT) (A56 T (d false) (d true) K f) (fun F=>F (d false) (d true) K) (disp f)) (fun l=>A0q T (d false) (d true) K l) b)
theorem Acd(hT:Uf P T){disp:Nat->Option FT}(j:∀g F,disp g=some F->A6l P g F)(K:Nat):∀d,Sound P (Ae T disp K d false)/\A8h P (Ae T disp K d true)
 | 0=>⟨fun _ _ _ _ _ e=>(by cases e),fun _ _ _ _ _ e=>(by cases e),fun _ _ _ _ _ e=>(by cases e)⟩
 | d+1=>by
  obtain⟨c1,i⟩:=Acd hT j K d;constructor
  ·intro g
   have e:Ae T disp K (d+1) false g = @Option.rec FT (fun _=>FnT) (A56 T (Ae T disp K d false) (Ae T disp K d true) K g) (fun F=>F (Ae T disp K d false) (Ae T disp K d true) K) (disp g):=rfl;rw[e];cases o:disp g with
   | none=>exact Brg hT c1 i K g
   | some F=>exact j g F o _ _ K c1 i
  ·exact Bkz hT c1 i K
def A3l:List UInt8->List UInt8->Bool
 | [],[]=>true
 | a::r,b::s=>Bf (Nat.beq a.toNat b.toNat) (A3l r s) false
 | _,_=>false
def Bgy(a b:Bool):Bool:=Bf a b (Av0 b)
mutual
def eqV:EV->EV->Bool
 | .int k n,.int j p=>Bf (Nat.beq (T4 k) (T4 j)) (eqI n p) false
 | .bool a,.bool b=>Bgy a b
 | .str a,.str b=>A3l a.data.toList b.data.toList
 | .ptr i o,.ptr d o'=>Bf (Nat.beq i d) (Nat.beq o o') false
 | .E3,.E3=>true
 | .slice i o l r op,.slice d o' l' q e=>Bf (Nat.beq i d) (Bf (Nat.beq o o') (Bf (Nat.beq l l') (Bf (Nat.beq r q) (Bgy op e) false) false) false) false
 | .Ao,.Ao=>true
 | .map i,.map d=>Nat.beq i d
 | .Apt,.Apt=>true
 | .chan i,.chan d=>Nat.beq i d
 | .Ai4,.Ai4=>true
 | .func f a c,.func f' u y=>Bf (Nat.beq f f') (Bf (Bax a u) (Bax c y) false) false
 | .yld l,.yld l'=>Nat.beq l l'
 | .Amp,.Amp=>true
 | .Af8,.Af8=>true
 | .agg l,.agg l'=>Bax l l'
 | .tuple l,.tuple l'=>Bax l l'
 | _,_=>false
def Bax:List EV->List EV->Bool
 | [],[]=>true
 | a::r,b::s=>Bf (eqV a b) (Bax r s) false
 | _,_=>false
end
end
variable {disp:Nat->Option FT}
theorem Bqo {a b:Int}(h:eqI a b=true):a=b:=by
 cases a<;>cases b
 ·exact congrArg Int.ofNat (aJ h)
 ·cases h
 ·cases h
 ·exact congrArg Int.negSucc (aJ h)
theorem Ay0:∀{a b:List UInt8},A3l a b=true->a=b
 | [],[],_=>rfl
 | x::r,y::s,h=>by
  simp only[A3l]at h;rw[Bt]at h;split at h
  ·rename_i e
   rw[UInt8.toNat_inj.1 (aJ e),Ay0 h]
  ·cases h
 | [],_::_,h=>by cases h
 | _::_,[],h=>by cases h
theorem A16(h:Bgy a b=true):a=b:=by cases a<;>cases b<;>first|rfl|cases h
theorem Bj7 {a b:IntKind}(h:T4 a=T4 b):a=b:=by cases a<;>cases b<;>first|rfl|(simp[T4]at h)
theorem Aiz(h:Bf a b false=true):a=true/\b=true:=by cases a<;>simp_all [Bt]
theorem beq_spec {a b:Nat}(h:Nat.beq a b=true):a=b:=aJ h
mutual
theorem Bey:∀{a b:EV},eqV a b=true->a=b
 | .int k n,b,h=>by
  cases b<;>first|(simp[eqV]at h;done)|skip
  simp only[eqV]at h;obtain⟨d,h2⟩:=Aiz h;rw[Bj7 (beq_spec d),Bqo h2]
 | .bool a,b,h=>by
  cases b<;>first|(simp[eqV]at h;done)|skip
  simp only[eqV]at h;rw[A16 h]
 | .str a,b,h=>by
  cases b<;>first|(simp[eqV]at h;done)|skip
  rename_i b;simp only[eqV]at h;obtain⟨⟨a⟩⟩:=a;obtain⟨⟨b⟩⟩:=b;have:a=b:=Ay0 h;rw[this]
 | .ptr i o,b,h=>by
  cases b<;>first|(simp[eqV]at h;done)|skip
  simp only[eqV]at h;obtain⟨d,h2⟩:=Aiz h;rw[beq_spec d,beq_spec h2]
 | .E3,b,h=>by cases b<;>first|(simp[eqV]at h;done)|rfl
 | .slice i o l r op,b,h=>by
  cases b<;>first|(simp[eqV]at h;done)|skip
  simp only[eqV]at h;obtain⟨d,h⟩:=Aiz h;obtain⟨h2,h⟩:=Aiz h;obtain⟨e,h⟩:=Aiz h;obtain⟨h4,h⟩:=Aiz h;rw[beq_spec d,beq_spec h2,beq_spec e,beq_spec h4,A16 h]
 | .tail i o p,b,h=>by cases b<;>(simp[eqV]at h)
 | .odd a,b,h=>by cases b<;>(simp[eqV]at h)
 | .Ao,b,h=>by cases b<;>first|(simp[eqV]at h;done)|rfl
 | .map i,b,h=>by
  cases b<;>first|(simp[eqV]at h;done)|skip
  simp only[eqV]at h;rw[beq_spec h]
 | .Apt,b,h=>by cases b<;>first|(simp[eqV]at h;done)|rfl
 | .chan i,b,h=>by
  cases b<;>first|(simp[eqV]at h;done)|skip
  simp only[eqV]at h;rw[beq_spec h]
 | .Ai4,b,h=>by cases b<;>first|(simp[eqV]at h;done)|rfl
 | .func f a c,b,h=>by
  cases b<;>first|(simp[eqV]at h;done)|skip
  simp only[eqV]at h;obtain⟨d,h⟩:=Aiz h;obtain⟨h2,h⟩:=Aiz h;rw[beq_spec d,Apc h2,Apc h]
 | .yld l,b,h=>by
  cases b<;>first|(simp[eqV]at h;done)|skip
  simp only[eqV]at h;rw[beq_spec h]
 | .Amp,b,h=>by cases b<;>first|(simp[eqV]at h;done)|rfl
 | .Af8,b,h=>by cases b<;>first|(simp[eqV]at h;done)|rfl
 | .agg l,b,h=>by
  cases b<;>first|(simp[eqV]at h;done)|skip
  simp only[eqV]at h;rw[Apc h]
 | .tuple l,b,h=>by
  cases b<;>first|(simp[eqV]at h;done)|skip
  simp only[eqV]at h;rw[Apc h]
theorem Apc:∀{a b:List EV},Bax a b=true->a=b
 | [],[],_=>rfl
 | x::r,y::s,h=>by
  simp only[Bax]at h;obtain⟨d,h2⟩:=Aiz h;rw[Bey d,Apc h2]
 | [],_::_,h=>by simp[Bax]at h
 | _::_,[],h=>by simp[Bax]at h
end
end Go.Ev
