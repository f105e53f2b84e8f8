import Derived.Test.YtadnemjjlacolaaGreatEvFour
set_option linter.all false
namespace Go.Ev
set_option maxRecDepth 100000
variable {α:Type}{x:Operand}{v:EV}{op:Op}{g:Nat × Bool}{T:H7}{t:TypeId}{n off fuel:Nat}{tm:Az}{h h':Aa}{a b fl:Bool}{ops:List Oper}{round:Ai}{ds:List Nat}{f:Func}{todo:List Item}{args:List EV}{P:Program}
noncomputable section
abbrev R:=Option (EV × Aa)
abbrev FnT:=List EV->Aa->R
def Bpg:Nat->Nat->List Bool:=
 @Nat.rec (fun _=>Nat->List Bool) (fun _=>[]) (fun _ d i=>Ba (Nat.beq i 0) [] (Ba (Nat.beq (Nat.land i 1) 1) (true::d (Nat.div i 2)) (false::d (Nat.pred (Nat.div i 2)))))
def pathOf(i:Nat):List Bool:=Bpg (Nat.succ (Nat.log2 (Nat.succ i))) i
def oB {α β:Type}(k:α->Option β)(x:Option α):Option β:=@Option.rec α (fun _=>Option β) none k x
def Baz {α β d:Type}(k:α->β->Option d)(p:α × β):Option d:=@Prod.rec α β (fun _=>Option d) k p
def Fz(l:List EV):Nat:=@List.rec EV (fun _=>Nat) 0 (fun _ _ d=>Nat.succ d) l
def Ayt(l:List EV):Nat->Option EV:=@List.rec EV (fun _=>Nat->Option EV) (fun _=>none) (fun a _ d n=>Ba (Nat.beq n 0) (some a) (d (Nat.pred n))) l
def Bbf(l:List EV):Nat->List EV:=@List.rec EV (fun _=>Nat->List EV) (fun _=>[]) (fun a r d n=>Ba (Nat.beq n 0) (a::r) (d (Nat.pred n))) l
def Axh(a:EV)(x:Option (List EV)):Option (List EV):=@Option.rec (List EV) (fun _=>Option (List EV)) none (fun l=>some (a::l)) x
def A5p(l:List EV):Nat->Option (List EV):=@List.rec EV (fun _=>Nat->Option (List EV)) (fun n=>Ba (Nat.beq n 0) (some []) none) (fun a _ d n=>Ba (Nat.beq n 0) (some []) (Axh a (d (Nat.pred n)))) l
def Mo(l:List EV)(off n:Nat):Option (List EV):=Ba (Nat.beq off 0) (Ba (Nat.beq (Fz l) n) (some l) (A5p l n)) (A5p (Bbf l off) n)
def Ay7(vs:List EV):List EV->Option (List EV):=@List.rec EV (fun _=>List EV->Option (List EV)) (fun l=>some l) (fun v _ d l=>@List.rec EV (fun _=>Option (List EV)) none (fun _ r _=>Axh v (d r)) l) vs
def Ao4(vs:List EV)(l:List EV):Nat->Option (List EV):=@List.rec EV (fun _=>Nat->Option (List EV)) (fun n=>Ba (Nat.beq n 0) (Ay7 vs []) none) (fun a r d n=>Ba (Nat.beq n 0) (Ay7 vs (a::r)) (Axh a (d (Nat.pred n)))) l
def L7(l:List EV)(off:Nat)(vs:List EV):Option (List EV):=Ba (Nat.beq off 0) (Ba (Nat.beq (Fz l) (Fz vs)) (some vs) (Ao4 vs l 0)) (Ao4 vs l off)
def Ash {β:Type}(k:List EV->Nat->Option β)(off:Nat)(x:Option Dt):Option β:=
 match x with|some (.cells l _)=>k l off|some (.vec l _ _)=>k l off|some (.view ws _)=>(match Ak4 ws off with|some (o,l)=>k l (Nat.sub off o)|none=>none)|_=>none
def Afn(h:Aa)(i:Nat)(f:List EV->Option (List EV))(k:Aa->R):R:=
 match h.get i with
 | some (.cells l t)=>oB (fun l'=>k (h.put i (.cells l' t))) (f l)
 | some (.vec l t s)=>oB (fun l'=>k (h.put i (.vec l' t s))) (f l)
 | _=>none
def Xy(h:Aa)(i off n:Nat):Option (List EV):=Ash (fun l o=>Mo l o n) off (h.get i)
def Oq(h:Aa)(size n:Nat)(x:EV):Option (List EV):=
 match x with
 | .Ao=>Ba (Nat.beq n 0) (some []) none
 | .slice i off _ _ _=>Ba (Nat.beq n 0) (some []) (Xy h i off (Nat.mul n size))
 | .tail ..=>Ba (Nat.beq n 0) (some []) none
 | _=>none
def onB(x y:R)(v:EV):R:=match v with | .bool b=>Ba b x y|_=>none
def Ap2(k:Nat->Nat->R)(v:EV):R:=match v with | .ptr i off=>k i off|_=>none
def Bmh(k:Nat->R)(v:EV):R:=match v with | .int _ n=>@Int.rec (fun _=>R) k (fun _=>none) n|_=>none
def Bna(k:IntKind->Int->R)(v:EV):R:=match v with | .int c n=>k c n|_=>none
def Bf9(k:List EV->R)(v:EV):R:=match v with | .agg l=>k l|_=>none
def Bnf(k:List EV->R)(v:EV):R:=match v with | .tuple l=>k l|_=>none
def Bme(a b:Int):Int:=@Int.rec (fun _=>Int) (fun m=>@Int.rec (fun _=>Int) (fun n=>.ofNat (Nat.add m n)) (fun n=>Int.add (.ofNat m) (.negSucc n)) b) (fun m=>Int.add (.negSucc m) b) a
def Bm4(a b:Int):Int:=@Int.rec (fun _=>Int) (fun m=>@Int.rec (fun _=>Int) (fun n=>Ba (Nat.ble n m) (.ofNat (Nat.sub m n)) (.negSucc (Nat.pred (Nat.sub n m)))) (fun n=>Int.sub (.ofNat m) (.negSucc n)) b) (fun m=>Int.sub (.negSucc m) b) a
def ltI(a b:Int):Bool:=@Int.rec (fun _=>Bool) (fun m=>@Int.rec (fun _=>Bool) (fun n=>Nat.ble (Nat.succ m) n) (fun _=>false) b) (fun m=>ltB (.negSucc m) b) a
def eqI(a b:Int):Bool:=@Int.rec (fun _=>Bool) (fun m=>@Int.rec (fun _=>Bool) (fun n=>Nat.beq m n) (fun _=>false) b) (fun m=>eqB (.negSucc m) b) a
def Apa(b:Bool):Bool:=@Bool.rec (fun _=>Bool) true false b
abbrev IG:=IntKind->Int->Int->EV
def A0i:IG:=fun k a b=>.int k (De k (Bme a b))
def A9x:IG:=fun k a b=>.int k (De k (Bm4 a b))
def Bdy:IG:=fun k a b=>.int k (De k (Int.mul a b))
def Ky:IG:=fun _ a b=>.bool (ltI a b)
def Bak:IG:=fun _ a b=>.bool (Apa (ltI b a))
def A62:IG:=fun _ a b=>.bool (ltI b a)
def A9e:IG:=fun _ a b=>.bool (Apa (ltI a b))
def Al0:IG:=fun _ a b=>.bool (eqI a b)
def Ajg:IG:=fun _ a b=>.bool (Apa (eqI a b))
def Bn1:BinOp->Option IG
 | .add=>some A0i | .sub=>some A9x | .mul=>some Bdy | .lss=>some Ky | .leq=>some Bak | .gtr=>some A62 | .geq=>some A9e | .eql=>some Al0 | .neq=>some Ajg
 | _=>none
def Bci(agg:Bool)(n:Nat)(cs:List EV)(off:Nat)(k:EV->R):R:=Ba agg (oB (fun l=>k (.agg l)) (Mo cs off n)) (oB k (Ayt cs off))
def Zr(place:Nat->Option (Nat × Nat))(l:List (Nat × EV)):List EV->Option (List EV):=
 @List.rec (Nat × EV) (fun _=>List EV->Option (List EV)) (fun c=>some c) (fun x _ d c=>oB (Baz fun off size=>Ba x.2.plain (Ba (Nat.beq (Fz x.2.cells) size) (oB d (L7 c off x.2.cells)) none) none) (place x.1)) l
def Dh(l:List (Nat × Nat)):Nat->Option (Nat × Nat):=@List.rec (Nat × Nat) (fun _=>Nat->Option (Nat × Nat)) (fun _=>none) (fun a _ d i=>Ba (Nat.beq i 0) (some a) (d (Nat.pred i))) l
def Nb(s:Nat):Nat->Option (Nat × Nat):=fun i=>some (Nat.mul i s,s)
def Bki(a b:List EV):List EV:=@List.rec EV (fun _=>List EV) b (fun x _ d=>x::d) a
def D9(e:TypeId)(size:Nat)(s x:EV)(h:Aa):R:=
 oB (fun n=>Ba (Nat.beq n 0)
  (match s with
   | .slice _ _ d room _=>Ba (Nat.ble d room) (some (s,h)) none
   | .Ao=>some (s,h)
   | _=>none)
  (Ba (Nat.ble n 65536) (oB (fun new=>
   match s with
   | .Ao=>some (.slice h.next 0 n n true,h.new (.vec new e size))
   | .slice i off d room op=>Ba (Nat.ble d 1048576) (oB (fun Bt=>
    Ba op
     (Ba (Nat.beq off 0) (Ba (Nat.beq room d) (match h.get i with
      | some (.vec l e' s')=>Ba (Nat.beq (Fz l) (Nat.mul d size)) (Ba (Nat.beq s' size) (Ba (Nat.beq e' e)
       (some (.slice h.next 0 (Nat.add d n) (Nat.add d n) true,(h.del i).new (.vec (Bki Bt new) e size))) none) none) none
      | _=>none) none) none)
     (Ba (Nat.ble (Nat.add d n) room) none (some (.slice h.next 0 (Nat.add d n) (Nat.add d n) true,h.new (.vec (Bki Bt new) e size)))))
    (Oq h size d s)) none
   | _=>none) (Oq h size n x)) none)) (lenOf x)
def Aod(x:Option Dt)(off n:Nat):Option (List EV):=Ash (fun l o=>Mo l o n) off x
def Kk(g:IG)(f:EV->EV->Option EV)(x y:EV)(k:EV->R):R:=
 match x,y with
 | .int c x,.int d y=>Ba (Nat.beq (P7 c) (P7 d)) (k (g c x y)) none
 | x,y=>oB k (f x y)
def Ez(x:EV)(h:Aa)(k:EV->R):R:=Ap2 (fun i off=>oB (fun l=>match l with | [v]=>k v|_=>none) (Aod (h.get i) off 1)) x
def Ox(n:Nat)(x:EV)(h:Aa)(k:EV->R):R:=Ap2 (fun i off=>oB (fun l=>k (.agg l)) (Aod (h.get i) off n)) x
def stE(n:Nat)(a v:EV)(h:Aa)(k:Aa->R):R:=Ap2 (fun i off=>Ba v.plain (Ba (Nat.beq (Fz v.cells) n) (Afn h i (fun l=>L7 l off v.cells) k) none) none) a
def Aac(s:Nat)(x ix:EV)(k:EV->R):R:=Bmh (fun j=>match x with | .slice i off len _ _=>Ba (Nat.ble (Nat.succ j) len) (k (.ptr i (Nat.add off (Nat.mul j s)))) none|_=>none) ix
def Aqg(c a b:EV)(k:EV->R):R:=onB (k a) (k b) c
def Afi(f:EV->EV->Option EV)(a b:EV)(k:EV->R):R:=oB k (f a b)
def An0(v:EV)(k:EV->R):R:=onB (k (.bool false)) (k (.bool true)) v
def A8q(v:EV)(k:EV->R):R:=match v with | .int c n=>k (.int c (De c (Int.sub 0 n)))|_=>none
def Arw(v:EV)(k:EV->R):R:=Ap2 (fun i o=>k (.ptr i o)) v
def Aht(c:Nat)(v:EV)(k:EV->R):R:=Ap2 (fun i o=>k (.ptr i (Nat.add o c))) v
def Auo(len s:Nat)(v ix:EV)(k:EV->R):R:=Bmh (fun j=>Ap2 (fun i off=>Ba (Nat.ble (Nat.succ j) len) (k (.ptr i (Nat.add off (Nat.mul j s)))) none) v) ix
def Awy(len s:Nat)(agg:Bool)(n:Nat)(v ix:EV)(k:EV->R):R:=Bmh (fun j=>Bf9 (fun cs=>Ba (Nat.ble (Nat.succ j) len) (Bci agg n cs (Nat.mul j s) k) none) v) ix
def Ahq(off:Nat)(agg:Bool)(n:Nat)(v:EV)(k:EV->R):R:=Bf9 (fun cs=>Bci agg n cs off k) v
def R6(c:IntKind)(v:EV)(k:EV->R):R:=Bna (fun _ n=>k (.int c (De c n))) v
def Ap4(ix:Nat)(v:EV)(k:EV->R):R:=Bnf (fun l=>oB k (Ayt l ix)) v
def Aun(o:Dt)(h:Aa)(k:EV->Aa->R):R:=k (.ptr h.next 0) (h.new o)
def Sh(t:TypeId)(v:EV)(h:Aa)(k:EV->Aa->R):R:=Ba v.plain (k (.ptr h.next 0) (h.new (.cells v.cells t))) none
def H5(v:EV)(k:EV->R):R:=oB (fun n=>k (.int .i64 (.ofNat n))) (lenOf v)
def Ap(x:R)(k:EV->Aa->R):R:=oB (Baz k) x
def S7(c r:Ai)(f:EV)(args:List EV)(h:Aa):R:=match f with
 | .func g a cs=>c g (Bki a (Bki args cs)) h
 | .Uv l=>r l args h
 | _=>none
def Bq(place:Nat->Option (Nat × Nat))(z:List EV)(ps:List (Nat × EV))(k:EV->R):R:=oB (fun c=>k (.agg c)) (Zr place ps z)
def Ay0(n:Nat)(v:EV)(k:EV->R):R:=match v with | .slice i off len _ _=>Ba (Nat.ble n len) (k (.ptr i off)) none|_=>none
def Ah3(s:Nat)(v:EV)(d e i:Option EV)(k:EV->R):R:=oB k (slc v s d e i)
def Ps(n s:Nat)(v:EV)(d e j:Option EV)(k:EV->R):R:=Ap2 (fun i off=>oB k (slc (.slice i off n n false) s d e j)) v
def Uu(z:List EV)(e:TypeId)(l c:EV)(h:Aa):R:=
 match l,c with
 | .int _ (.ofNat n),.int _ (.ofNat m)=>Ba (Nat.ble n m) (Ba (Nat.ble m 65536) (some (.slice h.next 0 n m false,h.new (.cells (rep z m) e))) none) none
 | _,_=>none
def Bx(z:List EV)(e:TypeId)(s n:Nat)(ps:List (Nat × EV))(h:Aa):R:=
 Ba (Nat.ble (Nat.mul n s) 65536) (oB (fun c=>some (.slice h.next 0 n n false,h.new (.cells c e))) (Zr (Nb s) ps (rep z n))) none
def Asd(h:Aa):R:=some (.map h.next,h.new (.map []))
def Ao7(s:EV)(h:Aa):R:=match s with | .int _ (.ofNat n)=>Ba (Nat.ble n 65536) (some (.chan h.next,h.new (.chan n []))) none|_=>none
def Ao0(T:H7)(j e:TypeId)(ok:Bool)(m ix:EV)(h:Aa):R:=
 match m with
 | .map i=>Ba (N5 T j ix) (match h.get i with
  | some (.map es)=>match Hr ix es 0 with
   | some (some (_,v))=>some (Ba ok (.tuple [v,.bool true]) v,h)
   | some none=>oB (fun d=>some (Ba ok (.tuple [d,.bool false]) d,h)) (zeroOf T e)
   | none=>none
  | _=>none) none
 | _=>none
def Ys(T:H7)(d:TypeId)(m ix x:EV)(h:Aa):R:=
 match m with
 | .map i=>Ba (N5 T d ix) (match h.get i with
  | some (.map es)=>match Hr ix es 0 with
   | some (some (j,_))=>some (.tuple [],h.put i (.map (es.set j (ix,x))))
   | some none=>some (.tuple [],h.put i (.map (es++[(ix,x)])))
   | none=>none
  | _=>none) none
 | _=>none
def Ax2(c x:EV)(h:Aa):R:=
 match c with
 | .chan i=>match h.get i with
  | some (.chan cap buf)=>Ba (Nat.ble (Nat.succ (len buf)) cap) (some (.tuple [.int .i64 0,.bool false],h.put i (.chan cap (buf++[x])))) (some (.tuple [.int .i64 (-1),.bool false],h))
  | _=>none
 | _=>none
def Azj(d:EV)(c:EV)(h:Aa):R:=
 match c with
 | .chan i=>match h.get i with
  | some (.chan cap buf)=>match buf with
   | v::r=>some (.tuple [.int .i64 0,.bool true,v],h.put i (.chan cap r))
   | []=>some (.tuple [.int .i64 (-1),.bool false,d],h)
  | _=>none
 | _=>none
def A25(c:EV)(h:Aa):R:=match c with | .chan i=>(match h.get i with|some (.chan _ buf)=>some (.int .i64 (.ofNat (len buf)),h)|_=>none)|_=>none
def ifE(v:EV)(x y:R):R:=onB x y v
inductive RV where
 | v (x:EV)
 | c (a:EV) (t:TypeId)
def Awm(T:H7)(h:Aa):List RV->Option (List EV)
 | []=>some []
 | .v x::r=>match Awm T h r with|some l=>some (x::l)|none=>none
 | .c a t::r=>match a,Awm T h r,T.size t with
  | .ptr i off,some l,some n=>match Ir h i off n with
   | some cs=>match T.agg t with
    | some true=>some (.agg cs::l)
    | some false=>(match cs with | [v]=>some (v::l)|_=>none)
    | none=>none
   | none=>none
  | _,_,_=>none
def It(T:H7)(l:List RV)(h:Aa):R:=match Awm T h l with|some [v]=>some (v,h)|some l=>some (.tuple l,h)|none=>none
def E1(l:Nat)(h:Aa)(k:Aa->R):R:=match h.get l with
 | some (.loop .ready p f i e ps asg body d)=>k (h.put l (.loop .busy p f i e ps asg body d))
 | _=>none
def A5s(l:Nat)(r:R)(k:Aa->R)(ex:Nat->Aa->R)(ret:Aa->R):R:=match r with
 | none=>none
 | some (_,h)=>match h.get l with
  | some (.loop st p f i e ps asg body d)=>match st with
   | .busy=>none
   | _=>match p with
    | none=>k (h.put l (.loop .exhausted p f i e ps asg body d))
    | some (.exit id)=>ex id (h.put l (.loop .exhausted p f i e ps asg body d))
    | some .ret=>ret (h.put l (.loop .exhausted p f i e ps asg body d))
    | some _=>none
  | _=>none
def Wa(l:Nat)(v:Bool)(st:LoopState)(jump:Option Code)(h:Aa):R:=match h.get l with
 | some (.loop _ _ f n tm ps asg body d)=>some (.bool v,h.put l (.loop st jump f n tm ps asg body d))
 | _=>none
def Ahp:Code->List (Operand × List Tmp × Code × Code)
 | .seq a b=>Ahp a++Ahp b
 | .cond _ a b=>Ahp a++Ahp b
 | .block _ c=>Ahp c
 | .loop c=>Ahp c
 | .rangeFunc f ps a b=>(f,ps.toList,a,b)::(Ahp a++Ahp b)
 | .scope c=>Ahp c
 | _=>[]
def Bpd {α:Type}:List α->Nat->Option α
 | [],_=>none
 | a::r,n=>Ba (Nat.beq n 0) (some a) (Bpd r (Nat.pred n))
def E4(T:H7)(g i:Nat):Operand × List Tmp × Code × Code:=match T.fn g with|some { body:=some c,.. }=>(match Bpd (Ahp c) i with|some x=>x|none=>(.tmp 0,[],.skip,.skip))|_=>(.tmp 0,[],.skip,.skip)
def Wd(c:Ai)(T:H7)(g n i:Nat)(f:EV)(tm:Az)(h:Aa)(ds:List Nat)(k:Aa->List Nat->R)(ex:Nat->Aa->List Nat->R)(ret:Aa->List Nat->R):R:=match f with
 | .func q first captured=>A5s (Nat.succ h.next) (c q (first++(.Uv (Nat.succ h.next)::captured)) ((h.new (.deferred true)).new (.loop .ready none g n tm (E4 T g i).2.1 (E4 T g i).2.2.1 (E4 T g i).2.2.2 h.next)))
  (fun h'=>k h' (h.next::ds)) (fun id h'=>ex id h' (h.next::ds)) (fun h'=>ret h' (h.next::ds))
 | _=>none
def Aov(c:Ai)(T:H7)(g n i l0:Nat)(f:EV)(tm:Az)(h:Aa)(ds:List Nat)(k:Aa->List Nat->R)(ex:Nat->Aa->List Nat->R)(ret:Aa->List Nat->R):R:=match f with
 | .func q first captured=>match h.get l0 with
  | some (.loop _ _ _ _ _ _ _ _ d)=>A5s h.next (c q (first++(.Uv h.next::captured)) (h.new (.loop .ready none g n tm (E4 T g i).2.1 (E4 T g i).2.2.1 (E4 T g i).2.2.2 d)))
   (fun h'=>k h' ds) (fun id h'=>ex id h' ds) (fun h'=>ret h' ds)
  | _=>none
 | _=>none
structure DX where
 bg:Nat
 nw:List (Nat × Nat)
 Cs:List (Nat × Nat)
 lou:List (Nat × Nat)
 st:List (Nat × Nat)
def A31(b base q:Nat)(s:DX):Bool:=Ba (E8 b q s.st) (Ba (Nat.ble (Nat.succ q) base) (Wl b q s.lou) (Ba (within s.bg b) (match loose b s.nw with | []=>true|_=>false) false)) false
def Bbm(b q:Nat)(s:DX):Bool:=Ba (within s.bg b) (Ba (E8 b q s.st) (Ba (E8 b q s.Cs) (Ayj q (loose b s.nw)) false) false) false
def Aew(b:Nat)(s:DX):Bool:=Ba (within s.bg b) (Avv b s.st) false
def DX.ld(s:DX)(i q:Nat):DX:=⟨s.bg,s.nw,(Nat.shiftLeft 1 i,q)::s.Cs,s.lou,s.st⟩
def DX.new(s:DX)(i q:Nat):DX:=⟨s.bg,(Nat.shiftLeft 1 i,q)::s.nw,s.Cs,s.lou,s.st⟩
def DX.sto(s:DX)(i q:Nat):DX:=⟨s.bg,s.nw,s.Cs,s.lou,(Nat.shiftLeft 1 i,q)::s.st⟩
def DX.big(s:DX)(i:Nat):DX:=⟨Nat.lor s.bg (Nat.shiftLeft 1 i),s.nw,s.Cs,s.lou,s.st⟩
def DX.Ahr(s:DX)(i w:Nat):DX:=⟨Nat.lor s.bg (Nat.shiftLeft 1 i),s.nw,s.Cs,(Nat.shiftLeft 1 i,w)::s.lou,s.st⟩
def Pk(i b:Nat)(s:DX)(h h':Aa)(k:DX->Aa->R):R:=
 Ba (Nat.ble h.next h'.mw)
  (k (s.big i) ⟨Abf h.t h'.t (loose b s.nw),h'.next,h.mw⟩)
  (Ba (Wz b h'.mw s.Cs)
   (k (s.Ahr i h'.mw) ⟨Abf h.t h'.t (loose b s.nw),h'.next,Ba (Nat.ble h.mw h'.mw) h.mw h'.mw⟩)
   none)
def Ke(b:Nat)(s:DX)(h:Aa):Aa:=⟨Abi h.t (loose b s.nw),h.next,h.next⟩
def Aj6(T:H7)(op:Op):Bool:=
 match cls op with
 | .val=>true
 | .load=>true
 | .pur=>match op with
  | .call { callee:=.builtin .len,argTypes,.. }=>match argTypes.toList with
   | [t]=>match T.Th t with|some (.slice _)=>true|_=>false
   | _=>false
  | .call { callee:=.builtin .min,.. }=>true
  | .call { callee:=.builtin .max,.. }=>true
  | _=>false
 | _=>false
def Atu(T:H7)(l:List Oper):Bool:=match l with | []=>true|o::r=>Ba (Aj6 T o.op) (Atu T r) false
def Aua(T:H7)(l:List Oper):Bool:=Ba (Atu T l) (Ba (Aml l 0) (Aju l (Nz l 0 .nil) l 0 []) false) false
def Aaa(h:Aa)(k:Nat->DX->R):R:=k h.next ⟨0,[],[],[],[]⟩
def Ov(i b base:Nat)(x:EV)(s:DX)(k:DX->R):R:=Ap2 (fun q _=>Ba (A31 b base q s) (k (s.ld i q)) none) x
def A9w(i:Nat)(h:Aa)(s:DX)(k:DX->R):R:=k (s.new i h.next)
def Bfn(i b:Nat)(x:EV)(s:DX)(k:DX->R):R:=Ap2 (fun q _=>Ba (Bbm b q s) (k (s.sto i q)) none) x
def Bpr(h:Aa)(k:Aa->R):R:=k ⟨.nil,h.next,h.next⟩
def L6(i b:Nat)(s:DX)(h:Aa)(call:Aa->R)(k:EV->Aa->DX->R):R:=Ba (Aew b s) (Ap (call (Ke b s h)) fun v h'=>Pk i b s h h' fun s h=>k v h s) none
def Fa(v:EV)(w:Bool):Bool:=match v with | .bool b=>Ba b w (Apa w)|_=>false
abbrev VS:=Nat->EV
abbrev CD:=VS->Az->Aa->List Nat->R
abbrev Bj5(e:VS)(d:Nat)(v:EV):VS:=fun i=>Ba (Nat.beq d i) v (e i)
abbrev D8(d:VS)(x:Operand):Option EV:=match x with
 | .tmp t=>some (d t)
 | .const v=>ofV v
 | .global _=>none
 | .func f=>some (.func f [] [])
abbrev Are(d:VS)(l:List Operand):Option (List EV):=@List.rec Operand (fun _=>Option (List EV)) (some []) (fun x _ i=>match D8 d x,i with|some e,some es=>some (e::es)|_,_=>none) l
abbrev Axb(d:VS)(l:List (Nat × Operand)):Option (List (Nat × EV)):=@List.rec (Nat × Operand) (fun _=>Option (List (Nat × EV))) (some []) (fun x _ i=>match D8 d x.2,i with|some e,some es=>some ((x.1,e)::es)|_,_=>none) l
abbrev A2n(d:VS)(x:Option Operand):Option (Option EV):=match x with
 | none=>some none
 | some x=>(match D8 d x with|some e=>some (some e)|none=>none)
abbrev opD(T:H7)(call o round:Ai)(op:Op)(d:VS)(h:Aa)(k:EV->Aa->R):R:=
 match op with
 | .move x=>(match D8 d x with|some e=>k e h|none=>none)
 | .assign x=>(match D8 d x with|some e=>k e h|none=>none)
 | .pick c a b=>(match D8 d c,D8 d a,D8 d b with|some c,some a,some b=>Aqg c a b fun v=>k v h|_,_,_=>none)
 | .binOp op t x y _=>(match D8 d x,D8 d y with
  | some a,some b=>(match Bn1 op with|some g=>Kk g (bin T op t) a b fun v=>k v h|none=>Afi (bin T op t) a b fun v=>k v h)
  | _,_=>none)
 | .unOp .not _ x=>(match D8 d x with|some e=>An0 e fun v=>k v h|none=>none)
 | .nilCheck x=>(match D8 d x with|some e=>Arw e fun v=>k v h|none=>none)
 | .fieldAddr s x f=>(match D8 d x,T.Th s with
  | some e,some (.struct fields)=>(match A32 fields.toList f with
   | some fd=>(match T.size fd.type with|some n=>Ba (Nat.beq n 0) none (Aht fd.offset e fun v=>k v h)|none=>none)
   | none=>none)
  | _,_=>none)
 | .indexAddr t x ix=>(match D8 d x,D8 d ix,T.Th t with
  | some e,some ix,some (.array len j)=>(match T.size j with|some s=>Auo len s e ix fun v=>k v h|none=>none)
  | some e,some ix,some (.slice j)=>(match T.size j with|some s=>Aac s e ix fun v=>k v h|none=>none)
  | _,_,_=>none)
 | .index t x ix=>(match D8 d x,D8 d ix,T.Th t with
  | some e,some B,some (.array len j)=>(match T.size j,T.agg j with|some s,some agg=>Awy len s agg s e B fun v=>k v h|_,_=>none)
  | _,_,_=>none)
 | .field t x f=>(match D8 d x,T.Th t with
  | some e,some (.struct fields)=>(match A32 fields.toList f with
   | some fd=>(match T.agg fd.type with
    | some true=>(match T.size fd.type with|some n=>Ahq fd.offset true n e fun v=>k v h|none=>none)
    | some false=>Ahq fd.offset false 0 e fun v=>k v h
    | none=>none)
   | none=>none)
  | _,_=>none)
 | .convert src dst x=>(match D8 d x,T.Th src,T.Th dst with|some e,some _,some (.int c)=>R6 c e fun v=>k v h|_,_,_=>none)
 | .extract x ix=>(match D8 d x with|some e=>Ap4 ix e fun v=>k v h|none=>none)
 | .load t x=>(match D8 d x,T.agg t with
  | some e,some true=>(match T.size t with|some n=>Ox n e h fun v=>k v h|none=>none)
  | some e,some false=>Ez e h fun v=>k v h
  | _,_=>none)
 | .store t a x=>(match D8 d a,D8 d x,T.size t with|some a,some x,some n=>stE n a x h fun h=>k (.tuple []) h|_,_,_=>none)
 | .alloc t=>(match T.zero t with|some z=>Aun (.cells z t) h k|none=>none)
 | .box t x=>(match D8 d x with|some e=>Sh t e h k|none=>none)
 | .call { callee:=.value (.func g),args,.. }=>(match Are d args.toList with|some xs=>Ap (call g xs h) k|none=>none)
 | .call { callee:=.value f,args,.. }=>(match D8 d f,Are d args.toList with|some e,some xs=>Ap (S7 o round e xs h) k|_,_=>none)
 | .call { callee:=.builtin .append,args,argTypes }=>(match args.toList,argTypes.toList with
  | [s,x],[t,u]=>(match D8 d s,D8 d x,T.Th u,T.Th t with
   | some a,some b,some (.slice _),some (.slice e)=>(match T.size e,T.zero e with
    | some size,some _=>Ap (D9 e size a b h) k
    | _,_=>none)
   | _,_,_,_=>none)
  | _,_=>none)
 | .call { callee:=.builtin .len,args,argTypes }=>(match args.toList,argTypes.toList with
  | [x],[t]=>(match D8 d x,T.Th t with
   | some e,some (.slice _)=>H5 e fun v=>k v h
   | some e,some (.chan ..)=>Ap (A25 e h) k
   | some e,_=>Ap (builtin T .len argTypes [e] h) k
   | _,_=>none)
  | _,_=>none)
 | .call { callee:=.builtin b,args,argTypes }=>(match Are d args.toList with|some xs=>Ap (builtin T b argTypes xs h) k|none=>none)
 | .unOp .neg _ x=>(match D8 d x with|some e=>A8q e fun v=>k v h|none=>none)
 | .build t ps=>(match T.zero t,Axb d ps.toList,T.Th t with
  | some z,some l,some (.struct fields)=>(match placesOf T fields.toList with
   | some ps=>Bq (Dh ps) z l fun v=>k v h
   | none=>none)
  | some z,some l,some (.array _ e)=>(match T.size e with
   | some s=>Bq (Nb s) z l fun v=>k v h
   | none=>none)
  | _,_,_=>none)
 | .buildSlice t n ps=>(match T.Th t,Axb d ps.toList with
  | some (.slice e),some l=>(match T.size e,T.zero e with
   | some s,some z=>Ap (Bx z e s n l h) k
   | _,_=>none)
  | _,_=>none)
 | .makeFunc (.func f) first captured=>(match Are d first.toList,Are d captured.toList with|some a,some b=>k (.func f a b) h|_,_=>none)
 | .sliceToArrayPointer t x=>(match D8 d x,T.Th t with|some e,some (.array n _)=>Ay0 n e fun v=>k v h|_,_=>none)
 | .slice t x p q A=>(match D8 d x,A2n d p,A2n d q,A2n d A with
  | some e,some p,some q,some A=>(match T.Th t with
   | some (.array n j)=>(match T.size j with|some s=>Ps n s e p q A fun v=>k v h|none=>none)
   | some (.slice j)=>(match T.size j with|some s=>Ah3 s e p q A fun v=>k v h|none=>none)
   | _=>none)
  | _,_,_,_=>none)
 | .makeSlice t l c=>(match D8 d l,D8 d c,T.Th t with
  | some l,some c,some (.slice e)=>(match T.zero e with|some z=>Ap (Uu z e l c h) k|none=>none)
  | _,_,_=>none)
 | .makeMap _ none=>Ap (Asd h) k
 | .makeChan t s=>(match D8 d s,T.Th t with
  | some s,some (.chan _ e)=>(match T.size e with|some _=>Ap (Ao7 s h) k|none=>none)
  | _,_=>none)
 | .lookup t x ix ok=>(match D8 d x,D8 d ix,T.Th t with|some m,some i,some (.map C e)=>Ap (Ao0 T C e ok m i h) k|_,_,_=>none)
 | .mapUpdate t m ix x=>(match D8 d m,D8 d ix,D8 d x,T.Th t with|some m,some i,some x,some (.map C _)=>Ap (Ys T C m i x h) k|_,_,_,_=>none)
 | .select cs false=>(match cs.toList with
  | [c]=>(match c.send with
   | some x=>(match D8 d c.chan,D8 d x,zeroOf T c.elem with|some c,some x,some _=>Ap (Ax2 c x h) k|_,_,_=>none)
   | none=>(match D8 d c.chan,zeroOf T c.elem with|some c,some D=>Ap (Azj D c h) k|_,_=>none))
  | _=>none)
 | _=>none
abbrev Mode:=Option ((Nat × Bool) × Bool)
def eqW(a b:Bool):Bool:=Ba a b (Apa b)
def Au0(m:Mode)(g:Nat × Bool):Option Bool:=match m with|some x=>Ba (Ba (Nat.beq x.1.1 g.1) (eqW x.1.2 g.2) false) (some x.2) none|none=>none
def Aho(ops:List Oper)(g:Nat × Bool)(b:Bool)(dst:Option Tmp):Mode:=
 match Awr ops g.1 with
 | some o=>(match o.dst with
  | some d=>(match dst with|some e=>Ba (Nat.beq d e) none (some (g,b))|none=>some (g,b))
  | none=>some (g,b))
 | none=>some (g,b)
abbrev Afh(n:Nat)(d:Option Tmp)(e:VS)(v:EV):VS:=match d with|none=>e|some d=>Ba (Nat.ble (Nat.succ d) n) (Bj5 e d v) e
abbrev A7o(ops:List Oper)(e:VS)(g:Nat × Bool):Bool:=match Awr ops g.1 with
 | some o=>(match o.dst with|some d=>Fa (e d) g.2|none=>false)
 | none=>false
abbrev Bnv(fl:Bool)(n:Nat)(tm:Az)(d:Option Tmp)(v:EV):Az:=Ba fl (Pc n tm d v) tm
abbrev Bqm(n:Nat)(tm:Az)(d:Option Tmp)(v:EV):Az:=match d with|none=>tm|some d=>@Bool.rec (fun _=>Az) tm (tm.put d (some v)) (Nat.ble (Nat.succ d) n)
abbrev thn(fl:Bool)(n:Nat)(tm:Az)(d:Option Tmp)(v:EV)(F:Az->R):R:=@Bool.rec (fun _=>R) (F tm) (F (Bqm n tm d v)) fl
def At7(c:Code):Bool:=@Code.rec (fun _=>Bool) false (fun _ _ _=>false) (fun _ _ a b=>Ba a true b) (fun _ _ _ a b=>Ba a true b) (fun _ _ a=>a) (fun _ a=>a)
 (fun _ _ _ _ _ _=>true) (fun _=>false) (fun _ a=>a) (fun _=>false) (fun _=>false) false (fun _=>false) c
abbrev Bdw(fl:Bool)(T:H7)(call d round:Ai)(n:Nat)(ops:List Oper)(fin:CD)(l:List Oper):Mode->CD:=
 @List.rec Oper (fun _=>Mode->CD) (fun _=>fin) (fun o _ i m=>@Option.rec (Nat × Bool) (fun _=>CD) (fun e tm h ds=>opD T call d round o.op e h fun v h=>thn fl n tm o.dst v fun tm=>i none (Afh n o.dst e v) tm h ds)
  (fun g e tm h ds=>match Au0 m g with
   | some true=>opD T call d round o.op e h fun v h=>thn fl n tm o.dst v fun tm=>i (Aho ops g true o.dst) (Afh n o.dst e v) tm h ds
   | some false=>thn fl n tm o.dst (.tuple []) fun tm=>i (Aho ops g false o.dst) (Afh n o.dst e (.tuple [])) tm h ds
   | none=>Ba (A7o ops e g) (opD T call d round o.op e h fun v h=>thn fl n tm o.dst v fun tm=>i (Aho ops g true o.dst) (Afh n o.dst e v) tm h ds) (thn fl n tm o.dst (.tuple []) fun tm=>i (Aho ops g false o.dst) (Afh n o.dst e (.tuple [])) tm h ds)) o.guard) l
abbrev A4v(T:H7)(call d round:Ai)(op:Op)(i b base:Nat)(s:DX)(j:VS)(h:Aa)(k:DX->EV->Aa->R):R:=
 match cls op with
 | .val=>opD T call d round op j h (k s)
 | .load=>(match op with | .load t x=>(match D8 j x with|some e=>Ov i b base e s fun s=>opD T call d round (.load t x) j h (k s)|none=>none)|_=>none)
 | .new=>A9w i h s fun s=>opD T call d round op j h (k s)
 | .sto=>(match op with | .store t a x=>(match D8 j a with|some e=>Bfn i b e s fun s=>opD T call d round (.store t a x) j h (k s)|none=>none)|_=>none)
 | .pur=>Bpr h fun h0=>opD T call d round op j h0 fun v _=>k s v h
 | .big=>Ba (Aew b s) (opD T call d round op j (Ke b s h) fun v h'=>Pk i b s h h' fun s h=>k s v h) none
abbrev Ap1(fl:Bool)(T:H7)(call d round:Ai)(n:Nat)(ops:List Oper)(bs:Tr Nat)(base:Nat)(fin:CD)(l:List Oper):Nat->Mode->DX->CD:=
 @List.rec Oper (fun _=>Nat->Mode->DX->CD) (fun _ _ _=>fin) (fun o _ j i m s e tm h ds=>match bs.get i with
  | none=>none
  | some b=>@Option.rec (Nat × Bool) (fun _=>R) (A4v T call d round o.op i b base s e h fun s v h=>thn fl n tm o.dst v fun tm=>j (Nat.succ i) none s (Afh n o.dst e v) tm h ds)
   (fun g=>match Au0 m g with
    | some true=>A4v T call d round o.op i b base s e h fun s v h=>thn fl n tm o.dst v fun tm=>j (Nat.succ i) (Aho ops g true o.dst) s (Afh n o.dst e v) tm h ds
    | some false=>thn fl n tm o.dst (.tuple []) fun tm=>j (Nat.succ i) (Aho ops g false o.dst) s (Afh n o.dst e (.tuple [])) tm h ds
    | none=>Ba (A7o ops e g) (A4v T call d round o.op i b base s e h fun s v h=>thn fl n tm o.dst v fun tm=>j (Nat.succ i) (Aho ops g true o.dst) s (Afh n o.dst e v) tm h ds) (thn fl n tm o.dst (.tuple []) fun tm=>j (Nat.succ i) (Aho ops g false o.dst) s (Afh n o.dst e (.tuple [])) tm h ds)) o.guard) l
abbrev A4e(fl:Bool)(T:H7)(call d round:Ai)(n:Nat)(ops:List Oper)(fin:CD):CD:=fun e tm h ds=>
 @Bool.rec (fun _=>R) none (@Bool.rec (fun _=>R) none (Aaa h fun base s=>Ap1 fl T call d round n ops (Nz ops 0 .nil) base fin ops 0 none s e tm h ds) (Aju ops (Nz ops 0 .nil) ops 0 [])) (Aml ops 0)
abbrev Aih:=List (Nat × CD)
abbrev A8y(out:Nat->CD)(env:Aih)(id:Nat):CD:=@List.rec (Nat × CD) (fun _=>CD) (out id) (fun p _ e d tm h ds=>@Prod.rec Nat CD (fun _=>R) (fun j k=>Ba (Nat.beq j id) (k d tm h ds) (e d tm h ds)) p) env
abbrev A1l(c:CD->CD)(fuel:Nat):CD:=@Nat.rec (fun _=>CD) (fun _ _ _ _=>none) (fun _ d=>c d) fuel
abbrev A8z(call:Ai)(fn n:Nat)(Dc:Option Nat)(f:EV)(ps:List Tmp)(asg body:Code)(tm:Az)(h:Aa)(ds:List Nat)(k:Aa->List Nat->R)(ex:Nat->Aa->List Nat->R)(ret:Aa->List Nat->R):R:=match f with
 | .func q first captured=>(match Dc with
  | none=>A5s (Nat.succ h.next) (call q (first++(.Uv (Nat.succ h.next)::captured)) ((h.new (.deferred true)).new (.loop .ready none fn n tm ps asg body h.next))) (fun h'=>k h' (h.next::ds)) (fun id h'=>ex id h' (h.next::ds)) (fun h'=>ret h' (h.next::ds))
  | some l0=>(match h.get l0 with
   | some (.loop _ _ _ _ _ _ _ _ d)=>A5s h.next (call q (first++(.Uv h.next::captured)) (h.new (.loop .ready none fn n tm ps asg body d))) (fun h'=>k h' ds) (fun id h'=>ex id h' ds) (fun h'=>ret h' ds)
   | _=>none))
 | _=>none
abbrev Aad(fl:Bool)(T:H7)(call d round:Ai)(fuel fn n:Nat)(Dc:Option Nat)(out:Nat->CD)(ret:CD)(c:Code):Aih->CD->CD:=
 @Code.rec (fun _=>Aih->CD->CD) (fun _ k=>k)
  (fun _ ops dr _ k=>@Bool.rec (fun _=>CD) (Bdw fl T call d round n ops.toList k ops.toList none) (@Bool.rec (fun _=>CD) (A4e fl T call d round n ops.toList k) (Bdw fl T call d round n ops.toList k ops.toList none) (Aua T ops.toList)) dr)
  (fun _ _ a b env k=>a env (b env k))
  (fun c _ _ a b env k i tm h ds=>match D8 i c with|some e=>ifE e (a env k i tm h ds) (b env k i tm h ds)|none=>none)
  (fun id _ c env k=>c ((id,k)::env) k)
  (fun _ c env _=>A1l (fun j=>c env j) fuel)
  (fun f ps asg body _ _ env k i tm h ds=>@Bool.rec (fun _=>R) none (match D8 i f with|some e=>A8z d fn n Dc e ps.toList asg body tm h ds (fun h ds=>k i tm h ds) (fun id h ds=>A8y out env id i tm h ds) (fun h ds=>ret i tm h ds)|none=>none) fl)
  (fun id env _=>A8y out env id) (fun _ _ _ _ _ _ _ _=>none) (fun _ _ k=>k) (fun _ _ _ _ _ _ _=>none) (fun _ _=>ret) (fun _ _ _ _ _ _ _=>none) c
def Fp(ds:List Nat)(h:Aa)(k:Aa->R):R:=
 @List.rec Nat (fun _=>Aa->R) k (fun d _ e h=>match h.get d with|some (.deferred true)=>e (h.put d (.deferred false))|_=>none) ds h
abbrev rvD(d:VS):ResultVar->RV
 | .tmp t=>.v (d t)
 | .cell a t=>.c (d a) t
abbrev A2x(T:H7)(res:List ResultVar)(d:VS)(h:Aa):R:=match res with
 | [.tmp t]=>some (d t,h)
 | []=>some (.tuple [],h)
 | [.tmp s,.tmp t]=>some (.tuple [d s,d t],h)
 | res=>It T (res.map (rvD d)) h
abbrev Bgm(fl:Bool)(T:H7)(res:List ResultVar):CD:=fun d _ h ds=>@Bool.rec (fun _=>R) (A2x T res d h) (Fp ds h fun h=>A2x T res d h) fl
abbrev A79(l:List EV):Nat->VS->VS:=@List.rec EV (fun _=>Nat->VS->VS) (fun _ d=>d) (fun v _ e i d=>e (Nat.succ i) (Bj5 d i v)) l
abbrev u0:VS:=fun _=>.tuple []
abbrev no0:Nat->CD:=fun _ _ _ _ _=>none
def A0c(T:H7)(call round:Ai)(fuel f:Nat)(args:List EV)(h:Aa):R:=
 match T.fn f with
 | some { ntmps:=n,body:=some c,results:=res,.. }=>Ba (Nat.ble (Fz args) n) (Aad (At7 c) T call call round fuel f n none no0 (Bgm (At7 c) T res.toList) c [] (Bgm (At7 c) T res.toList) (A79 args 0 u0) (setArgs args 0 .nil) h []) none
 | _=>none
abbrev Bi9(n:Nat)(ps:List Tmp):List EV->VS->VS:=@List.rec Tmp (fun _=>List EV->VS->VS) (fun _ d=>d) (fun p _ e args d=>@List.rec EV (fun _=>VS) d (fun v r _=>e r (Afh n (some p) d v)) args) ps
abbrev A9p(T:H7)(call d round:Ai)(fuel l f n:Nat)(asg body:Code):CD:=
 Aad true T call d round fuel f n (some l) (fun id _ _ h _=>Wa l false .done (some (.exit id)) h) (fun _ _ h _=>Wa l false .done (some .ret) h) asg []
  fun e tm h ds=>E1 l h fun h=>Aad true T call d round fuel f n (some l) (fun id _ _ h _=>Wa l false .done (some (.exit id)) h) (fun _ _ h _=>Wa l false .done (some .ret) h) body [] (fun _ _ h _=>Wa l true .ready none h) e tm h ds
def Auy(T:H7)(call round:Ai)(fuel l:Nat)(args:List EV)(h:Aa):R:=
 match h.get l with
 | some (.loop _ _ f n tm ps asg body _)=>match Vg ps args n tm with
  | some d=>A9p T call call round fuel l f n asg body (Bi9 n ps args (tmp tm)) d h []
  | none=>none
 | _=>none
end
variable {k:List EV->R}{m:Mode}{cf fin:CD}
section
theorem Afz(l:List EV):Fz l=len l:=by
 induction l with
 | nil=>rfl
 | cons a r d=>exact congrArg Nat.succ d
theorem A4i:∀(l:List EV) (n:Nat),Ayt l n=match X9 l n with|v::_=>some v | []=>none
 | [],n=>rfl
 | a::r,n=>by
  have e:Ayt (a::r) n=Ba (Nat.beq n 0) (some a) (Ayt r (Nat.pred n)):=rfl;rw[e];simp only[X9];cases Nat.beq n 0
  ·exact A4i r _
  ·rfl
theorem A7c:∀(l:List EV) (n:Nat),Bbf l n=X9 l n
 | [],n=>rfl
 | a::r,n=>by
  have e:Bbf (a::r) n=Ba (Nat.beq n 0) (a::r) (Bbf r (Nat.pred n)):=rfl;rw[e];simp only[X9];rw[A7c r]
theorem Ay4(a:EV)(x:Option (List EV)):Axh a x=match x with|some x=>some (a::x)|none=>none:=by cases x<;>rfl
theorem Ayu:∀(l:List EV) (n:Nat),A5p l n=takeN l n
 | [],n=>rfl
 | a::r,n=>by
  have e:A5p (a::r) n=Ba (Nat.beq n 0) (some []) (Axh a (A5p r (Nat.pred n))):=rfl;rw[e];simp only[takeN];rw[Ayu r,Ay4];cases takeN r (Nat.pred n)<;>rfl
theorem A1n:∀(l:List EV),takeN l (len l)=some l
 | []=>rfl
 | a::r=>by
  simp only[takeN,len];rw[show Nat.beq (Nat.succ (len r)) 0=false from rfl,Bl,Nat.pred_succ,A1n r]
theorem Bad(l:List EV):X9 l 0=l:=by cases l<;>rfl
theorem Agm(l:List EV)(off n:Nat):Mo l off n=takeN (X9 l off) n:=by
 unfold Mo;rw[A7c,Ayu,Ayu,Afz];cases h:Nat.beq off 0
 ·rfl
 ·have:=aJ h;subst this
  rw[Bad];cases d:Nat.beq (len l) n
  ·rfl
  ·have:=aJ d;subst this
   rw[A1n];rfl
theorem Axp:∀(vs l:List EV),Ay7 vs l=Jd l vs
 | [],l=>by cases l<;>rfl
 | v::vs,[]=>rfl
 | v::vs,a::r=>by
  have e:Ay7 (v::vs) (a::r)=Axh v (Ay7 vs r):=rfl;rw[e];simp only[Jd];rw[Axp vs r,Ay4];cases Jd r vs<;>rfl
theorem Aqq(vs:List EV):∀(l:List EV) (n:Nat),Ao4 vs l n=Fq l n vs
 | [],n=>by
  have e:Ao4 vs [] n=Ba (Nat.beq n 0) (Ay7 vs []) none:=rfl;rw[e];simp only[Fq];rw[Axp]
 | a::r,n=>by
  have e:Ao4 vs (a::r) n=Ba (Nat.beq n 0) (Ay7 vs (a::r)) (Axh a (Ao4 vs r (Nat.pred n))):=rfl;rw[e];simp only[Fq];rw[Axp,Aqq vs r,Ay4];cases Fq r (Nat.pred n) vs<;>rfl
theorem Avl:∀(l vs:List EV),len l=len vs->Jd l vs=some vs
 | [],[],_=>rfl
 | a::r,[],h=>by simp[len]at h
 | [],v::vs,h=>by simp[len]at h
 | a::r,v::vs,h=>by
  simp only[Jd];rw[Avl r vs (by simpa [len]using h)]
theorem Ue(l:List EV)(off:Nat)(vs:List EV):L7 l off vs=Fq l off vs:=by
 unfold L7;rw[Aqq,Aqq,Afz,Afz];cases h:Nat.beq off 0
 ·rfl
 ·have:=aJ h;subst this
  cases d:Nat.beq (len l) (len vs)
  ·rfl
  ·have h2:=aJ d
   have:Fq l 0 vs=Jd l vs:=by cases l<;>rfl
   rw[this,Avl l vs h2];rfl
theorem Gx {β:Type}(k:α->Option β)(a:α):oB k (some a)=k a:=rfl
theorem Ng {β:Type}{k:α->Option β}{x:Option α}{r:β}(e:oB k x=some r):∃a,x=some a/\k a=some r:=by
 cases x with
 | none=>cases e
 | some a=>exact⟨a,rfl,e⟩
theorem Ax1 {x y:R}{r:EV × Aa}(e:onB x y v=some r):∃b,v=.bool b/\(Ba b x y)=some r:=by
 cases v with
 | bool b=>exact⟨b,rfl,e⟩
 | _=>cases e
theorem O5 {k:Nat->Nat->R}{r:EV × Aa}(e:Ap2 k v=some r):∃i o,v=.ptr i o/\k i o=some r:=by
 cases v with
 | ptr i o=>exact⟨i,o,rfl,e⟩
 | _=>cases e
theorem A9z {k:IntKind->Int->R}{r:EV × Aa}(e:Bna k v=some r):∃c n,v=.int c n/\k c n=some r:=by
 cases v with
 | int c n=>exact⟨c,n,rfl,e⟩
 | _=>cases e
theorem Aug {k:Nat->R}{r:EV × Aa}(e:Bmh k v=some r):∃c n,v=.int c (.ofNat n)/\k n=some r:=by
 cases v with
 | int c n=>
  cases n with
  | ofNat n=>exact⟨c,n,rfl,e⟩
  | negSucc n=>cases e
 | _=>cases e
theorem Aqm{r:EV × Aa}(e:Bf9 k v=some r):∃l,v=.agg l/\k l=some r:=by
 cases v with
 | agg l=>exact⟨l,rfl,e⟩
 | _=>cases e
theorem Baf{r:EV × Aa}(e:Bnf k v=some r):∃l,v=.tuple l/\k l=some r:=by
 cases v with
 | tuple l=>exact⟨l,rfl,e⟩
 | _=>cases e
theorem Ba9(a b:Int):Bme a b=Int.add a b:=by cases a<;>cases b<;>rfl
theorem Bbi(a b:Int):Bm4 a b=Int.sub a b:=by
 cases a with
 | ofNat m=>
  cases b with
  | ofNat n=>
   have e:Bm4 (.ofNat m) (.ofNat n)=Ba (Nat.ble n m) (.ofNat (Nat.sub m n)) (.negSucc (Nat.pred (Nat.sub n m))):=rfl;rw[e,Bn];show _=(Int.ofNat m)-(Int.ofNat n);split
   ·rename_i h
    have:=bG h;show((m-n:Nat):Int)=_;simp only[aZ];omega
   ·rename_i h
    have:¬n<=m:=fun x=>h (aQ x)
    show Int.negSucc ((n-m)-1)=_;simp only[aZ,dA];omega
  | negSucc n=>rfl
 | negSucc m=>rfl
theorem Bae(a b:Int):ltI a b=ltB a b:=by cases a<;>cases b<;>rfl
theorem Bao(a b:Int):eqI a b=eqB a b:=by cases a<;>cases b<;>rfl
theorem Bb3(b:Bool):Apa b=Ba b false true:=by cases b<;>rfl
theorem Bk8 {op:BinOp}{g:IntKind->Int->Int->EV}(h:Bn1 op=some g):Aw8 op=false/\∀k a b,Bfi op k a b=some (g k a b):=by
 unfold Bn1 at h;split at h<;>cases h<;>refine⟨rfl,fun k a b=>?_⟩<;>simp only[Bfi,A0i,A9x,Bdy,Ky,Bak,A62,A9e,Al0,Ajg,Ba9,Bbi,Bae,Bao,Bb3]
theorem A41:∀(l:List (Nat × Nat)) (n:Nat),Dh l n=Azx l n
 | [],n=>rfl
 | a::r,n=>by
  have e:Dh (a::r) n=Ba (Nat.beq n 0) (some a) (Dh r (Nat.pred n)):=rfl;rw[e];simp only[Azx];rw[A41 r]
theorem Aso(place:Nat->Option (Nat × Nat)):∀(l:List (Nat × EV)) (c:List EV),Zr place l c=fill place c l
 | [],c=>rfl
 | (i,v)::l,c=>by
  have e:Zr place ((i,v)::l) c=oB (Baz fun off size=>Ba v.plain (Ba (Nat.beq (Fz v.cells) size) (oB (Zr place l) (L7 c off v.cells)) none) none) (place i):=rfl;rw[e];simp only[fill];cases place i with
  | none=>rfl
  | some x=>
   obtain⟨off,size⟩:=x;simp only;show Ba v.plain (Ba (Nat.beq (Fz v.cells) size) (oB (Zr place l) (L7 c off v.cells)) none) none=_;rw[Afz,Ue];cases Fq c off v.cells with
   | none=>rfl
   | some d=>
    show Ba v.plain (Ba (Nat.beq (len v.cells) size) (Zr place l d) none) none=_;rw[Aso place l d]
theorem Axw(h:Aa)(i off n:Nat):Xy h i off n=Ir h i off n:=by
 unfold Xy Ir Ash;cases h.get i with
 | none=>rfl
 | some o=>
  cases o<;>simp only[Agm];cases Ak4 _ off<;>rfl
theorem Ao1(h:Aa)(size n:Nat)(x:EV):Oq h size n x=cellsOf h size n x:=by
 unfold Oq cellsOf;cases x<;>simp only[Axw]
theorem As2(a b:List EV):Bki a b=a++b:=by
 induction a with
 | nil=>rfl
 | cons x r d=>exact congrArg (x :: ·) d
theorem Baj{st e:TypeId}{size:Nat}{z:List EV}(j:T.Th st=some (.slice e))(h2:T.size e=some size)(p:T.zero e=some z)(s x:EV)(h:Aa):append T st s x h=D9 e size s x h:=by
 unfold append D9;simp only[j,h2,p];cases lenOf x with
 | none=>rfl
 | some n=>
  simp only[Gx];rw[Ao1];cases cellsOf h size n x with
  | none=>rfl
  | some new=>
   simp only[Gx];cases s with
   | slice i off d room op=>
    simp only;rw[Ao1];cases cellsOf h size d (.slice i off d room op)with
    | none=>rfl
    | some Bt=>
     simp only[Gx,As2,Afz];cases h.get i with
     | none=>rfl
     | some o=>cases o<;>rfl
   | _=>rfl
theorem Ay5{agg:Bool}(i:T.agg t=some agg)(j:agg=true->T.size t=some n){cs:List EV}{k:EV->R}{r:EV × Aa}(e:Bci agg n cs off k=some r):
 ∃v,part T t cs off=some v/\k v=some r:=by
 unfold Bci at e;unfold part;rw[i];cases agg with
 | true=>
  rw[Aj]at e;obtain⟨l,d,h2⟩:=Ng e;rw[Agm]at d;rw[j rfl];simp only;rw[d];exact⟨_,rfl,h2⟩
 | false=>
  rw[Bl]at e;obtain⟨v,d,h2⟩:=Ng e;rw[A4i]at d;exact⟨v,d,h2⟩
theorem C7(tm:Az)(x:Operand):D8 (tmp tm) x=Cf tm x:=by cases x<;>rfl
theorem Fo(tm:Az)(l:List Operand):Are (tmp tm) l=L8 tm l:=by
 induction l with
 | nil=>rfl
 | cons x r d=>
  show(match D8 (tmp tm) x,Are (tmp tm) r with|some e,some es=>some (e::es)|_,_=>none)=_;rw[d,C7];simp only[L8];cases Cf tm x<;>cases L8 tm r<;>rfl
theorem Fi(tm:Az)(l:List (Nat × Operand)):Axb (tmp tm) l=Yi tm l:=by
 induction l with
 | nil=>rfl
 | cons x r d=>
  obtain⟨i,x⟩:=x;show(match D8 (tmp tm) x,Axb (tmp tm) r with|some e,some es=>some ((i,e)::es)|_,_=>none)=_;rw[d,C7];simp only[Yi];cases Cf tm x<;>cases Yi tm r<;>rfl
theorem Ha(tm:Az)(x:Option Operand):A2n (tmp tm) x=Aah tm x:=by
 cases x with
 | none=>rfl
 | some x=>show(match D8 (tmp tm) x with|some e=>some (some e)|none=>none)=_;rw[C7];rfl
theorem Wv {x:R}{k:EV->Aa->R}{r:EV × Aa}(e:Ap x k=some r):∃v h,x=some (v,h)/\k v h=some r:=by
 obtain⟨⟨v,h⟩,d,h2⟩:=Ng e;exact⟨v,h,d,h2⟩
section
variable{call:Ai}
theorem Hv(d:isV op=true)(e:Eu T tm op=some v):aop T call round tm op h=some (v,h):=by
 unfold aop;rw[d,Aj,e]
theorem A34{i:Nat}{vs:List EV}{k:Aa->R}{r:EV × Aa}(e:Afn h i (fun l=>L7 l off vs) k=some r):∃h',L5 h i off vs=some h'/\k h'=some r:=by
 unfold Afn at e;unfold L5;split at e
 ·rename_i l t j
  obtain⟨l',o,h2⟩:=Ng e;have d:Fq l off vs=some l':=by rw[<-Ue];exact o
  simp only[j,d];exact⟨_,rfl,h2⟩
 ·rename_i l t s j
  obtain⟨l',o,h2⟩:=Ng e;have d:Fq l off vs=some l':=by rw[<-Ue];exact o
  simp only[j,d];exact⟨_,rfl,h2⟩
 ·cases e
theorem Ae3{k:EV->Aa->R}{r:EV × Aa}(e:opD T call call round op (tmp tm) h k=some r):
 ∃v h',aop T call round tm op h=some (v,h')/\k v h'=some r:=by
 cases op with
 | move x=>
  simp only[opD,C7,Fo,Fi,Ha]at e;split at e
  ·rename_i e1 he;exact⟨_,_,Hv rfl (he),e⟩
  ·cases e
 | assign x=>
  simp only[opD,C7,Fo,Fi,Ha]at e;split at e
  ·rename_i e1 he;exact⟨_,_,Hv rfl (he),e⟩
  ·cases e
 | pick c a b=>
  simp only[opD,C7,Fo,Fi,Ha]at e;split at e
  ·rename_i c1 V b1 hc C hb
   obtain⟨bb,d,h2⟩:=Ax1 e;have p:=hc;rw[d]at p;cases bb
   ·exact⟨_,_,Hv rfl (by simp only[Eu];rw[p];exact hb),h2⟩
   ·exact⟨_,_,Hv rfl (by simp only[Eu];rw[p];exact C),h2⟩
  ·cases e
 | binOp op t x y yt=>
  simp only[opD,C7,Fo,Fi,Ha]at e;split at e
  ·rename_i V b1 C hb
   have ae:=C;have af:=hb;have key:∀v,bin T op t V b1=some v->aop T call round tm (.binOp op t x y yt) h=some (v,h):=fun v hv=>
    Hv rfl (by simp only[Eu];rw[ae];simp only;rw[af];exact hv)
   split at e
   ·rename_i g M
    obtain⟨s1,s2⟩:=Bk8 M;unfold Kk at e;split at e
    ·obtain⟨d,h2⟩:=An e
     refine⟨_,_,key _ ?_,h2⟩;simp only[bin];rw[s1,Bl,d,Aj,s2]
    ·obtain⟨v,d,h2⟩:=Ng e
     exact⟨v,h,key v d,h2⟩
   ·obtain⟨v,d,h2⟩:=Ng e
    exact⟨v,h,key v d,h2⟩
  ·cases e
 | unOp u t x=>
  cases u with
  | not=>
   simp only[opD,C7,Fo,Fi,Ha]at e;split at e
   ·rename_i e1 he
    obtain⟨b,d,h2⟩:=Ax1 e;have p:=he;rw[d]at p;cases b
    ·exact⟨_,_,Hv rfl (by simp only[Eu];rw[p];rfl),h2⟩
    ·exact⟨_,_,Hv rfl (by simp only[Eu];rw[p];rfl),h2⟩
   ·cases e
  | neg=>
   simp only[opD,C7,Fo,Fi,Ha]at e;split at e
   ·rename_i e1 he
    unfold A8q at e;split at e
    ·exact⟨_,h,Hv rfl (by simp only[Eu];rw[he]),e⟩
    ·cases e
   ·cases e
  | _=>(cases e)
 | nilCheck x=>
  simp only[opD,C7,Fo,Fi,Ha]at e;split at e
  ·rename_i e1 he
   obtain⟨i,o,d,h2⟩:=O5 e;have p:=he;rw[d]at p;exact⟨_,_,Hv rfl (by simp only[Eu];rw[p]),h2⟩
  ·cases e
 | fieldAddr s x f=>
  simp only[opD,C7,Fo,Fi,Ha]at e;split at e
  ·rename_i e1 fields he hu
   split at e
   ·rename_i fd H
    split at e
    ·rename_i n Q
     cases hb:Nat.beq n 0 with
     | true=>rw[hb,Aj]at e;cases e
     | false=>
      rw[hb,Bl]at e;obtain⟨i,o,d,h2⟩:=O5 e;have p:=he;rw[d]at p;exact⟨_,_,Hv rfl (by simp only[Eu];rw[p];simp only;rw[hu];simp only;rw[H];simp only;rw[Q];simp only;rw[hb,Bl]),h2⟩
    ·cases e
   ·cases e
  ·cases e
 | indexAddr t x ix=>
  simp only[opD,C7,Fo,Fi,Ha]at e;split at e
  ·rename_i e1 W ln J he L hu
   split at e
   ·rename_i s hs
    obtain⟨c,j,d,h2⟩:=Aug e;obtain⟨i,off,p,h4⟩:=O5 h2;obtain⟨D,E⟩:=An h4;have A:=L;have B:=he;rw[d]at A;rw[p]at B;exact⟨_,_,Hv rfl (by simp only[Eu];rw[A];simp only;rw[hu,B];simp only;rw[hs];simp only;rw[D,Aj]),E⟩
   ·cases e
  ·rename_i e1 W J he L hu
   split at e
   ·rename_i s hs
    obtain⟨c,j,d,h2⟩:=Aug e;split at h2
    ·obtain⟨D,E⟩:=An h2
     have A:=L;have B:=he;rw[d]at A;exact⟨_,_,Hv rfl (by simp only[Eu];rw[A];simp only;rw[hu,B];simp only;rw[hs];simp only;rw[D,Aj]),E⟩
    ·cases h2
   ·cases e
  ·cases e
 | index t x ix=>
  simp only[opD,C7,Fo,Fi,Ha]at e;split at e
  ·rename_i e1 W ln J he L hu
   split at e
   ·rename_i s agg hs C
    obtain⟨c,j,d,h2⟩:=Aug e;obtain⟨cs,p,h4⟩:=Aqm h2;obtain⟨D,E⟩:=An h4;obtain⟨v,S,U⟩:=Ay5 C (fun _=>hs) E;have A:=L;have B:=he;rw[d]at A;rw[p]at B;exact⟨_,_,Hv rfl (by simp only[Eu];rw[A];simp only;rw[hu,B];simp only;rw[hs];simp only;rw[D,Aj,S]),U⟩
   ·cases e
  ·(cases e)
 | field t x f=>
  simp only[opD,C7,Fo,Fi,Ha]at e;split at e
  ·rename_i e1 fields he hu
   split at e
   ·rename_i fd H
    have B:=he;split at e
    ·rename_i C
     split at e
     ·rename_i n Q
      obtain⟨cs,p,h4⟩:=Aqm e;obtain⟨v,S,U⟩:=Ay5 C (fun _=>Q) h4;rw[p]at B;exact⟨_,_,Hv rfl (by simp only[Eu];rw[hu,B];simp only;rw[H];simp only;rw[S]),U⟩
     ·cases e
    ·rename_i C
     obtain⟨cs,p,h4⟩:=Aqm e;obtain⟨v,S,U⟩:=Ay5 C (fun x=>by cases x) h4;rw[p]at B;exact⟨_,_,Hv rfl (by simp only[Eu];rw[hu,B];simp only;rw[H];simp only;rw[S]),U⟩
    ·cases e
   ·cases e
  ·cases e
 | convert src dst x=>
  simp only[opD,C7,Fo,Fi,Ha]at e;split at e
  ·rename_i e1 _ c he hs hd
   obtain⟨c',n,d,h2⟩:=A9z e;have q:=he;rw[d]at q;exact⟨_,_,Hv rfl (by simp only[Eu];rw[hs,hd,q]),h2⟩
  ·cases e
 | extract x ix=>
  simp only[opD,C7,Fo,Fi,Ha]at e;split at e
  ·rename_i e1 he
   obtain⟨l,d,h2⟩:=Baf e;obtain⟨v,p,h4⟩:=Ng h2;have q:=he;rw[d]at q;rw[A4i]at p;exact⟨_,_,Hv rfl (by simp only[Eu];rw[q];exact p),h4⟩
  ·cases e
 | load t x=>
  simp only[opD,C7]at e;split at e
  ·rename_i e1 he C
   split at e
   ·rename_i n Q
    obtain⟨i,off,d,h2⟩:=O5 e;obtain⟨l',D,E⟩:=Ng h2;rw[d]at he;refine⟨_,_,?_,E⟩;show Dj T tm (.load t x) h=_;simp only[Dj];rw[he];simp only;rw[C];simp only;rw[Q];simp only;rw[<-Axw];rw[show Xy h i off n=some l' from D]
   ·cases e
  ·rename_i e1 he C
   obtain⟨i,off,d,h2⟩:=O5 e;obtain⟨l',D,E⟩:=Ng h2;rw[d]at he;split at E
   ·refine⟨_,_,?_,E⟩
    show Dj T tm (.load t x) h=_;simp only[Dj];rw[he];simp only;rw[C];simp only;rw[<-Axw,show Xy h i off 1=some _ from D]
   ·cases E
  ·cases e
 | store t a x=>
  simp only[opD,C7,Fo,Fi,Ha]at e;split at e
  ·rename_i V x1 n C hx Q
   obtain⟨i,off,d,h2⟩:=O5 e;obtain⟨p,h4⟩:=An h2;obtain⟨D,E⟩:=An h4;obtain⟨h',S,U⟩:=A34 E;rw[Afz]at D;have A:=C;have B:=hx;rw[d]at A;refine⟨_,_,?_,U⟩;show Dj T tm (.store t a x) h=_;simp only[Dj];rw[A,B,Q];simp only;rw[p,Aj,D,Aj,S]
  ·cases e
 | alloc t=>
  simp only[opD,C7,Fo,Fi,Ha]at e;split at e
  ·rename_i z F
   refine⟨_,_,?_,e⟩;show Dj T tm (.alloc t) h=_;simp only[Dj];rw[F]
  ·cases e
 | box t x=>
  simp only[opD,C7,Fo,Fi,Ha]at e;split at e
  ·rename_i e1 he
   obtain⟨d,h2⟩:=An e;refine⟨_,_,?_,h2⟩;show Dj T tm (.box t x) h=_;simp only[Dj];rw[he];simp only;rw[d,Aj]
  ·cases e
 | call c=>
  obtain⟨callee,args,O⟩:=c;have X:∀{f:Operand} {e1:EV} {as:List EV},Cf tm f=some e1->L8 tm args.toList=some as->Ap (S7 call round e1 as h) k=some r->∃v h',aop T call round tm (.call ⟨.value f,args,O⟩) h=some (v,h')/\k v h'=some r:=by
   intro f e1 as A B hc;obtain⟨v,h',d,h2⟩:=Wv hc;refine⟨v,h',?_,h2⟩;show(match Cf tm f,L8 tm args.toList with|some (.func g first captured),some as=>call g (first++(as++captured)) h|some (.Uv l),some as=>round l as h|_,_=>none)=_;rw[A,B];unfold S7 at d;split at d
   ·rw[As2,As2]at d;exact d
   ·exact d
   ·cases d
  cases callee with
  | value f=>
   cases f with
   | func g=>
    simp only[opD,C7,Fo]at e;split at e
    ·rename_i as C
     obtain⟨v,h',d,h2⟩:=Wv e;refine⟨v,h',?_,h2⟩;show(match Cf tm (.func g),L8 tm args.toList with|some (.func g first captured),some as=>call g (first++(as++captured)) h|some (.Uv l),some as=>round l as h|_,_=>none)=_;rw[C];simp only[Cf,dQ,dE];exact d
    ·cases e
   | global g=>cases e
   | _=>
    simp only[opD,C7,Fo]at e;split at e
    ·rename_i e1 as H C;exact X H C e
    ·cases e
  | builtin b=>
   have key:∀{as:List EV},L8 tm args.toList=some as->∀v h',builtin T b O as h=some (v,h')->aop T call round tm (.call ⟨.builtin b,args,O⟩) h=some (v,h'):=by
    intro as C v h' hb;show Dj T tm (.call ⟨.builtin b,args,O⟩) h=_;simp only[Dj];rw[C];exact hb
   cases b with
   | append=>
    simp only[opD,C7]at e;split at e
    ·rename_i s x t u G K
     split at e
     ·rename_i V b1 u1 J hs hx hu Y
      split at e
      ·rename_i size z ah F
       obtain⟨v,h',d,h2⟩:=Wv e;refine⟨v,h',key (as:=[V,b1]) (by rw[G];simp only[L8,hs,hx]) v h' ?_,h2⟩;rw[<-Baj Y ah F]at d;simp only[builtin];rw[K];simp only;rw[hu];exact d
      ·cases e
     ·cases e
    ·cases e
   | len=>
    simp only[opD,C7]at e;split at e
    ·rename_i x t G K
     have ka:∀{e1:EV},Cf tm x=some e1->L8 tm args.toList=some [e1]:=by
      intro e1 he;rw[G];simp only[L8,he]
     split at e
     ·rename_i e1 J he Y
      obtain⟨n,d,h2⟩:=Ng e;refine⟨_,_,key (ka he) _ _ ?_,h2⟩;simp only[builtin];rw[K];simp only;rw[Y];simp only;rw[d]
     ·rename_i e1 dd J he Y
      obtain⟨v,h',d,h2⟩:=Wv e;refine⟨_,_,key (ka he) v h' ?_,h2⟩;simp only[builtin];rw[K];simp only;rw[Y];revert d;unfold A25;cases e1<;>exact id
     ·rename_i e1 _ _ he _ _
      obtain⟨v,h',d,h2⟩:=Wv e;exact⟨_,_,key (ka he) v h' d,h2⟩
     ·cases e
    ·cases e
   | _=>
    simp only[opD,Fo]at e;split at e
    ·rename_i as C
     obtain⟨v,h',d,h2⟩:=Wv e;exact⟨v,h',key C v h' d,h2⟩
    ·cases e
  | _=>cases e
 | build t ps=>
  simp only[opD,Fi]at e;split at e
  ·rename_i z l fields F Z hu
   split at e
   ·rename_i pl aj
    obtain⟨c,p,h2⟩:=Ng e;refine⟨_,h,Hv rfl ?_,h2⟩;rw[Aso,show Dh pl=Azx pl from funext (A41 pl)]at p;simp only[Eu];rw[F,Z,hu];simp only;rw[aj];simp only;rw[p]
   ·cases e
  ·rename_i z l n J F Z hu
   split at e
   ·rename_i s hs
    obtain⟨c,p,h2⟩:=Ng e;refine⟨_,h,Hv rfl ?_,h2⟩;rw[Aso]at p;simp only[Eu];rw[F,Z,hu];simp only;rw[hs];simp only;have al:fill (fun i=>some (Nat.mul i s,s)) z l=some c:=p;rw[al]
   ·cases e
  ·cases e
 | buildSlice t n ps=>
  simp only[opD,Fi]at e;split at e
  ·rename_i J l hu Z
   split at e
   ·rename_i s z hs F
    obtain⟨v,h',d,h2⟩:=Wv e;refine⟨v,h',?_,h2⟩;unfold Bx at d;obtain⟨p,h4⟩:=An d;obtain⟨c,D,E⟩:=Ng h4;rw[Aso]at D;have ao:fill (fun i=>some (Nat.mul i s,s)) (rep z n) l=some c:=D;show Dj T tm (.buildSlice t n ps) h=_;simp only[Dj];rw[hu,Z];simp only;rw[hs,F];simp only;rw[p,Aj,ao];exact E
   ·cases e
  ·cases e
 | makeFunc fo first captured=>
  cases fo with
  | func f=>
   simp only[opD,Fo]at e;split at e
   ·rename_i a b C hb
    exact⟨_,h,Hv rfl (by simp only[Eu];rw[C,hb]),e⟩
   ·cases e
  | _=>cases e
 | sliceToArrayPointer t x=>
  simp only[opD,C7]at e;split at e
  ·rename_i e1 n J he hu
   unfold Ay0 at e;split at e
   ·obtain⟨d,h2⟩:=An e
    exact⟨_,h,Hv rfl (by simp only[Eu];rw[hu,he];simp only;rw[d,Aj]),h2⟩
   ·cases e
  ·cases e
 | slice t x lo hi mx=>
  simp only[opD,C7,Ha]at e;split at e
  ·rename_i e1 a3 a4 a5 A B q3 q4
   split at e
   ·rename_i n J hu
    split at e
    ·rename_i s hs
     obtain⟨i,o,rfl,d⟩:=O5 e;obtain⟨v,h2,p⟩:=Ng d;exact⟨v,h,Hv rfl (by simp only[Eu];rw[B,q3,q4];simp only;rw[hu,A];simp only[hs];exact h2),p⟩
    ·cases e
   ·rename_i J hu
    split at e
    ·rename_i s hs
     obtain⟨v,d,h2⟩:=Ng e;exact⟨v,h,Hv rfl (by simp only[Eu];rw[B,q3,q4];simp only;rw[hu,A];simp only;rw[hs];exact d),h2⟩
    ·cases e
   ·cases e
  ·cases e
 | makeSlice t l c=>
  simp only[opD,C7]at e;split at e
  ·rename_i l1 c1 J A B hu
   split at e
   ·rename_i z F
    obtain⟨v,h',d,h2⟩:=Wv e;refine⟨v,h',?_,h2⟩;unfold Uu at d;split at d
    ·show Dj T tm (.makeSlice t l c) h=_
     simp only[Dj];rw[hu,A,B];simp only;rw[F];exact d
    ·cases d
   ·cases e
  ·cases e
 | makeMap t rs=>
  cases rs with
  | none=>
   obtain⟨v,h',d,h2⟩:=Wv (show Ap (Asd h) k=some r from e);exact⟨v,h',d,h2⟩
  | some x=>cases e
 | makeChan t s=>
  simp only[opD,C7]at e;split at e
  ·rename_i s1 dd J A hu
   split at e
   ·rename_i n0 aq
    obtain⟨v,h',d,h2⟩:=Wv e;refine⟨v,h',?_,h2⟩;unfold Ao7 at d;split at d
    ·show Dj T tm (.makeChan t s) h=_
     simp only[Dj];rw[hu,A];simp only;rw[aq];exact d
    ·cases d
   ·cases e
  ·cases e
 | lookup t x ix ok=>
  simp only[opD,C7]at e;split at e
  ·rename_i m1 i1 kt J A B hu
   obtain⟨v,h',d,h2⟩:=Wv e;refine⟨v,h',?_,h2⟩;unfold Ao0 at d;split at d
   ·show Dj T tm (.lookup t x ix ok) h=_
    simp only[Dj];rw[hu,A,B];simp only;obtain⟨p,h4⟩:=An d;rw[p,Aj];split at h4
    ·rename_i es M
     rw[M];simp only;split at h4
     ·rename_i H;rw[H];exact h4
     ·rename_i H;rw[H];simp only
      obtain⟨zv,D,E⟩:=Ng h4;rw[D];exact E
     ·cases h4
    ·cases h4
   ·cases d
  ·cases e
 | mapUpdate t m ix x=>
  simp only[opD,C7]at e;split at e
  ·rename_i m1 i1 x1 kt J A B q3 hu
   obtain⟨v,h',d,h2⟩:=Wv e;refine⟨v,h',?_,h2⟩;unfold Ys at d;split at d
   ·show Dj T tm (.mapUpdate t m ix x) h=_
    simp only[Dj];rw[hu,A,B,q3];simp only;obtain⟨p,h4⟩:=An d;rw[p,Aj];split at h4
    ·rename_i es M
     rw[M];simp only;split at h4
     ·rename_i H;rw[H];exact h4
     ·rename_i H;rw[H];exact h4
     ·cases h4
    ·cases h4
   ·cases d
  ·cases e
 | select cs bl=>
  cases bl with
  | true=>cases e
  | false=>
   simp only[opD,C7]at e;split at e
   ·rename_i c aa
    split at e
    ·rename_i x hsend
     split at e
     ·rename_i c1 x1 zv A B F
      obtain⟨v,h',d,h2⟩:=Wv e;refine⟨v,h',?_,h2⟩;unfold Ax2 at d;split at d
      ·show Dj T tm (.select cs false) h=_
       simp only[Dj];rw[aa];simp only;rw[A,hsend];simp only;split at d
       ·rename_i cap buf M
        rw[M,B];simp only;rw[F];exact d
       ·cases d
      ·cases d
     ·cases e
    ·rename_i hsend
     split at e
     ·rename_i c1 zv A F
      obtain⟨v,h',d,h2⟩:=Wv e;refine⟨v,h',?_,h2⟩;unfold Azj at d;split at d
      ·show Dj T tm (.select cs false) h=_
       simp only[Dj];rw[aa];simp only;rw[A,hsend];simp only;split at d
       ·rename_i cap buf M
        rw[M,F];exact d
       ·cases d
      ·cases d
     ·cases e
   ·cases e
 | _=>cases e
theorem Ih(tm:Az)(j i:Nat)(v:EV):tmp (tm.put j (some v)) i=if j=i then v else tmp tm i:=by
 unfold tmp;rw[Tr.get_put];by_cases h:j=i<;>simp[h]
theorem Aox(n:Nat)(d:Option Tmp)(tm:Az)(v:EV):Afh n d (tmp tm) v=tmp (Pc n tm d v):=by
 cases d with
 | none=>rfl
 | some d=>
  show Ba (Nat.ble (Nat.succ d) n) (Bj5 (tmp tm) d v) (tmp tm)=tmp (Ba (Nat.ble (Nat.succ d) n) (tm.put d (some v)) tm);cases Nat.ble (Nat.succ d) n with
  | false=>rfl
  | true=>
   funext i;rw[Aj,Aj,Ih];show Ba (Nat.beq d i) v (tmp tm i)=_;by_cases e:d=i
   ·subst e;rw[aH rfl,cK,Aj]
   ·rw[aF e,beq_false e,Bl]
theorem Biw(ops:List Oper)(g:Nat × Bool)(tm:Az):A7o ops (tmp tm) g=wanted ops tm (some g):=by
 obtain⟨j,want⟩:=g;simp only[wanted,yielded];show(match Awr ops j with|some o=>(match o.dst with|some d=>Fa (tmp tm d) want|none=>false)|none=>false)=_;cases Awr ops j with
 | none=>rfl
 | some o=>
  simp only;cases o.dst with
  | none=>rfl
  | some d=>
   simp only[tmp];cases tm.get d with
   | none=>rfl
   | some v=>cases v<;>first|rfl|(simp only[Fa,Bb3])
def Y8(ops:List Oper)(tm:Az)(m:Mode):Prop:=∀g b,m=some (g,b)->wanted ops tm (some g)=b
theorem Y8.none(ops:List Oper)(tm:Az):Y8 ops tm none:=fun _ _ h=>by cases h
theorem Bit(h:eqW a b=true):a=b:=by cases a<;>cases b<;>first|rfl|cases h
theorem Au7(hm:Y8 ops tm m)(h:Au0 m g=some b):wanted ops tm (some g)=b:=by
 unfold Au0 at h;cases m with
 | none=>cases h
 | some x=>
  obtain⟨⟨j,w⟩,e⟩:=x;simp only at h;obtain⟨d,h2⟩:=An h;cases h2;rw[Bn]at d;split at d
  ·rename_i hj
   have e1:j=g.1:=aJ hj;have e2:w=g.2:=Bit d;have:g=(j,w):=by rw[e1,e2]
   rw[this];exact hm _ _ rfl
  ·cases d
theorem Asp(hw:wanted ops tm (some g)=b)(n:Nat)(dst:Option Tmp)(v:EV):Y8 ops (Pc n tm dst v) (Aho ops g b dst):=by
 intro A B h;obtain⟨j,w⟩:=g;unfold Aho at h;simp only[wanted,yielded]at hw⊢;cases i:Awr ops j with
 | none=>
  rw[i]at h hw;simp only at h hw;cases h;simp only[i];exact hw
 | some o=>
  rw[i]at h hw;simp only at h hw;cases hd:o.dst with
  | none=>
   rw[hd]at h hw;simp only at h hw;cases h;simp only[i,hd];exact hw
  | some d=>
   rw[hd]at h hw;simp only at h hw;cases dst with
   | none=>
    simp only at h;cases h;simp only[i,hd,Pc];exact hw
   | some q=>
    simp only at h;rw[Bn]at h;split at h
    ·cases h
    ·rename_i u
     cases h;have p:q≠d:=fun e=>u (by rw[e];exact cK _)
     have y:(Pc n tm (some q) v).get d=tm.get d:=by
      show(Ba (Nat.ble (Nat.succ q) n) (tm.put q (some v)) tm).get d=_;rw[Bn];split
      ·rw[Tr.get_put,aF p]
      ·rfl
     simp only[i,hd,y];exact hw
theorem A1q(hm:Y8 ops tm m){A B:R}{r:EV × Aa}(e:(match Au0 m g with|some true=>A|some false=>B|none=>Ba (A7o ops (tmp tm) g) A B)=some r):
 (wanted ops tm (some g)=true/\A=some r)\/(wanted ops tm (some g)=false/\B=some r):=by
 split at e
 ·rename_i d;exact .inl ⟨Au7 hm d,e⟩
 ·rename_i d;exact .inr ⟨Au7 hm d,e⟩
 ·rw[Biw]at e
  cases hw:wanted ops tm (some g)with
  | true=>rw[hw,Aj]at e;exact .inl ⟨rfl,e⟩
  | false=>rw[hw,Bl]at e;exact .inr ⟨rfl,e⟩
theorem A2d{d:Option Tmp}(F:Az->R):thn fl n tm d v F=F (Bnv fl n tm d v):=by cases fl<;>cases d<;>rfl
theorem Auc:∀{l:List Oper} {m:Mode} {tm t2:Az} {h:Aa} {ds:List Nat} {r:EV × Aa},(fl=true->t2=tm)->Y8 ops tm m->Bdw fl T call call round n ops fin l m (tmp tm) t2 h ds=some r ->
 ∃d h' i,Api T call round n ops l tm h=some (d,h')/\(fl=true->i=d)/\fin (tmp d) i h' ds=some r
 | [],m,tm,t2,h,ds,r,j,_,e=>⟨tm,h,t2,rfl,j,e⟩
 | ⟨dst,op,ty,ps,C,g⟩::l,m,tm,t2,h,ds,r,j,hm,e=>by
  have hp:∀v,fl=true->Bnv fl n t2 dst v=Pc n tm dst v:=fun v e=>by rw[j e];show Ba fl _ _=_;rw[e,Aj]
  have run:∀{o:Mode},(∀v,Y8 ops (Pc n tm dst v) o)->opD T call call round op (tmp tm) h (fun v h=>thn fl n t2 dst v fun t2=>Bdw fl T call call round n ops fin l o (Afh n dst (tmp tm) v) t2 h ds)=some r ->
   ∃d h' i,(match aop T call round tm op h with|some (v,h')=>Api T call round n ops l (Pc n tm dst v) h'|none=>none)=some (d,h')/\(fl=true->i=d)/\fin (tmp d) i h' ds=some r:=by
   intro o p e;obtain⟨v,h',y,h2⟩:=Ae3 e;rw[A2d,Aox]at h2;obtain⟨q,u,t3,A,h4,B⟩:=Auc (hp v) (p v) h2;exact⟨q,u,t3,by rw[y];exact A,h4,B⟩
  simp only[Api];cases g with
  | none=>
   simp only[wanted,Aj];exact run (fun v=>Y8.none _ _) e
  | some g=>
   rcases A1q hm e with⟨hw,e'⟩|⟨hw,e'⟩
   ·rw[hw,Aj];exact run (fun v=>Asp hw n dst v) e'
   ·rw[hw,Bl];rw[A2d,Aox]at e';exact Auc (hp _) (Asp hw n dst _) e'
end
end
theorem Ayh(h:Ba a b false=true):a=true/\b=true:=by cases a<;>simp_all [Bn]
theorem A6v(h:cls op=.load):∃t x,op=.load t x:=by
 cases op<;>first|exact⟨_,_,rfl⟩|skip
 all_goals (first|(cases h;done)|skip)
 all_goals (simp only[cls,isV,Aj,Bl]at h;first|(cases h;done)|skip)
 all_goals exact absurd h (An6 false _).2.1
theorem Bld{call:Ai}(i:Aj6 T op=true)(p:cls op=.pur){h2:Aa}(d:aop T call round tm op h=some (v,h')):
 h'=h/\Dj T tm op h2=some (v,h2):=by
 have hp:=Aw5 p;rw[Aq7 hp]at d;refine⟨Bi8 hp d,?_⟩;unfold Aj6 at i;rw[p]at i;simp only at i;split at i
 ·rename_i args j
  split at i
  ·rename_i t o
   split at i
   ·rename_i e hu
    simp only[Dj]at d⊢;split at d
    ·rename_i as has
     match as,d with
     | [x],d=>
      simp only[builtin]at d⊢;rw[o]at d⊢;simp only at d⊢;rw[hu]at d⊢;simp only at d⊢;split at d
      ·cases d;first|rfl|(rename_i n q;rw[q])
      ·cases d
     | [],d=>cases d
     | _::_::_,d=>cases d
    ·cases d
   ·cases i
  ·cases i
 ·rename_i args j
  simp only[Dj]at d⊢;split at d
  ·rename_i as has
   match as,d with
   | x::l,d=>
    cases x<;>first|(cases d;done)|skip
    simp only[builtin]at d⊢;split at d
    ·cases d;first|rfl|(rename_i hm;rw[hm])
    ·cases d
   | [],d=>cases d
  ·cases d
 ·rename_i args j
  simp only[Dj]at d⊢;split at d
  ·rename_i as has
   match as,d with
   | x::l,d=>
    cases x<;>first|(cases d;done)|skip
    simp only[builtin]at d⊢;split at d
    ·cases d;first|rfl|(rename_i hm;rw[hm])
    ·cases d
   | [],d=>cases d
  ·cases d
 ·cases i
theorem Aj1 {T:H7}{call round:Ai}{n:Nat}{ops:List Oper}{bs:Tr Nat}{h:Aa}{base:Nat}:
 ∀(l:List Oper) (i:Nat) (tm tm':Az) (h':Aa) (Cs:List (Nat × Nat)),Atu T l=true->(∀k,k<l.length->∃b,bs.get (i+k)=some b)->Api T call round n ops l tm h=some (tm',h') ->
  h'=h/\∃lds',Rn T call round n ops bs base l i ⟨tm,h,0,[],Cs,[],[]⟩=some ⟨tm',h,0,[],lds',[],[]⟩
 | [],i,tm,tm',h',Cs,_,_,e=>by cases e;exact⟨rfl,Cs,rfl⟩
 | ⟨dst,op,ty,ps,af,g⟩::l,i,tm,tm',h',Cs,hq,hbs,e=>by
  obtain⟨hq1,hq2⟩:=Ayh (show Ba (Aj6 T op) (Atu T l) false=true from hq);have hbs':∀k,k<l.length->∃b,bs.get (Nat.succ i+k)=some b:=fun k hk=>by
   have:=hbs (k+1) (by simp;omega);rw[show Nat.succ i+k=i+(k+1) by omega];exact this
  obtain⟨b,hb0⟩:=hbs 0 (by simp);rw[dO]at hb0;simp only[Api]at e;cases hw:wanted ops tm g with
  | false=>
   rw[hw,Bl]at e;obtain⟨h1,lds',h2⟩:=Aj1 l (Nat.succ i) _ _ _ Cs hq2 hbs' e;refine⟨h1,lds',?_⟩;simp only[Rn,U9,hw,Bl];exact h2
  | true=>
   rw[hw,Aj]at e;split at e
   ·rename_i v h1 hop
    have go:h1=h->(∃lds1,U9 T call round n ops bs base ⟨dst,op,ty,ps,af,g⟩ i ⟨tm,h,0,[],Cs,[],[]⟩=some ⟨Pc n tm dst v,h,0,[],lds1,[],[]⟩) ->
     h'=h/\∃lds',Rn T call round n ops bs base (⟨dst,op,ty,ps,af,g⟩::l) i ⟨tm,h,0,[],Cs,[],[]⟩=some ⟨tm',h,0,[],lds',[],[]⟩:=by
     rintro rfl ⟨lds1,hd⟩;obtain⟨h2,lds',h3⟩:=Aj1 l (Nat.succ i) _ _ _ lds1 hq2 hbs' e;exact⟨h2,lds',by simp only[Rn,hd];exact h3⟩
    cases hc:cls op with
    | val=>
     have hv:=A3t hc;unfold aop at hop;rw[hv,Aj]at hop;split at hop
     ·rename_i v' hv'
      cases hop;refine go rfl ⟨Cs,?_⟩;simp only[U9,hw,Aj,hb0,hc,hv']
     ·cases hop
    | load=>
     obtain⟨t,x,rfl⟩:=A6v hc;have hop':Dj T tm (.load t x) h=some (v,h1):=hop;have hop2:=hop';simp only[Dj]at hop';split at hop'
     ·rename_i q off hx
      have hh1:h1=h:=by
       split at hop'
       ·split at hop'
        ·split at hop'
         ·cases hop';rfl
         ·cases hop'
        ·cases hop'
       ·split at hop'
        ·cases hop';rfl
        ·cases hop'
       ·cases hop'
      subst hh1;refine go rfl ⟨(Nat.shiftLeft 1 i,q)::Cs,?_⟩;have hst:within 0 b=true:=by unfold within;rw[show Nat.land 0 b=0 from Nat.zero_and b];rfl
      have hall:Ba (Nat.ble (Nat.succ q) base) true (Ba (within 0 b) true false)=true:=by rw[hst];cases Nat.ble (Nat.succ q) base<;>rfl
      simp only[U9,hw,Aj,hb0,hc,hx,E8,Wl,loose,hall,hop2]
     ·cases hop'
    | pur=>
     obtain⟨h2,h3⟩:=Bld (h2:=⟨.nil,h.next,h.next⟩) hq1 hc hop;refine go h2 ⟨Cs,?_⟩;simp only[U9,hw,Aj,hb0,hc,h3]
    | new=>unfold Aj6 at hq1;rw[hc]at hq1;cases hq1
    | sto=>unfold Aj6 at hq1;rw[hc]at hq1;cases hq1
    | big=>unfold Aj6 at hq1;rw[hc]at hq1;cases hq1
   ·cases e
theorem A7j{call:Ai}(i:Aua T ops=true){d:Az}(e:Api T call round n ops ops tm h=some (d,h')):
 Ap6 T call round n ops tm h=some (d,h'):=by
 obtain⟨p,i⟩:=Ayh i;obtain⟨q,u⟩:=Ayh i;have j:∀k,k<ops.length->∃b,(Nz ops 0 .nil).get (0+k)=some b:=fun k y=>by
  obtain⟨b,hb,_⟩:=Ajr ops 0 .nil (fun _ _=>rfl) k ops[k] (aD y);exact⟨b,hb⟩
 obtain⟨rfl,o,A⟩:=Aj1 (bs:=Nz ops 0 .nil) (base:=h.next) ops 0 tm d h' [] p j e;unfold Ap6;rw[q,Aj,u,Aj,A]
theorem Bn2(h:b=true){x y:α}:Ba b x y=x:=by rw[h];rfl
theorem Bf7{call:Ai}:aop T call round tm (.load t x) h=Dj T tm (.load t x) h:=rfl
theorem Bl8{call:Ai}{a:Operand}:aop T call round tm (.store t a x) h=Dj T tm (.store t a x) h:=rfl
theorem Bmd(h:cls op=.sto):∃t a x,op=.store t a x:=by
 cases op<;>first|exact⟨_,_,_,rfl⟩|skip
 all_goals (first|(cases h;done)|skip)
 all_goals (first
  | (rename_i c;exact absurd (show Ba false Cls.val (Ba (Atf (.call c)) .pur .big)=.sto from h) (An6 _ _).2.2)
  | exact absurd h (An6 _ _).2.2)
theorem A7g{call:Ai}(d:cls op=.new):aop T call round tm op h=Dj T tm op h:=by
 rcases A3b d with⟨_,rfl⟩|⟨_,_,rfl⟩|⟨_,_,_,rfl⟩|⟨_,_,_,rfl⟩|⟨_,_,rfl⟩|⟨_,_,rfl⟩<;>rfl
def DX.with(s:DX)(tm:Az)(h:Aa):DSt:=⟨tm,h,s.bg,s.nw,s.Cs,s.lou,s.st⟩
theorem Ar0{call:Ai}{bs:Tr Nat}{base:Nat}{r:EV × Aa}:∀{l:List Oper} {i:Nat} {m:Mode} {s:DX} {tm t2:Az} {h:Aa},(fl=true->t2=tm)->Y8 ops tm m ->
 Ap1 fl T call call round n ops bs base fin l i m s (tmp tm) t2 h ds=some r->∃s' u,Rn T call round n ops bs base l i (s.with tm h)=some s'/\(fl=true->u=s'.tm)/\fin (tmp s'.tm) u s'.h ds=some r
 | [],i,m,s,tm,t2,h,H,_,e=>⟨s.with tm h,t2,rfl,H,e⟩
 | ⟨dst,op,ty,ps,J,g⟩::l,i,m,s,tm,t2,h,H,hm,e=>by
  have hp:∀v,fl=true->Bnv fl n t2 dst v=Pc n tm dst v:=fun v e=>by rw[H e];show Ba fl _ _=_;rw[e,Aj]
  cases hb:bs.get i with
  | none=>simp only[Ap1,hb]at e;cases e
  | some b=>
   have run:∀{mk:Mode},(∀v,Y8 ops (Pc n tm dst v) mk)->wanted ops tm g=true->A4v T call call round op i b base s (tmp tm) h (fun s v h=>thn fl n t2 dst v fun t2=>Ap1 fl T call call round n ops bs base fin l (Nat.succ i) mk s (Afh n dst (tmp tm) v) t2 h ds)=some r ->
    ∃s' u,Rn T call round n ops bs base (⟨dst,op,ty,ps,J,g⟩::l) i (s.with tm h)=some s'/\(fl=true->u=s'.tm)/\fin (tmp s'.tm) u s'.h ds=some r:=by
    intro mk K hw e2;have j:∀{v:EV} {A:Aa} {s1:DX},(thn fl n t2 dst v fun t2=>Ap1 fl T call call round n ops bs base fin l (Nat.succ i) mk s1 (Afh n dst (tmp tm) v) t2 A ds)=some r ->
     U9 T call round n ops bs base ⟨dst,op,ty,ps,J,g⟩ i (s.with tm h)=some (s1.with (Pc n tm dst v) A) ->
     ∃s' u,Rn T call round n ops bs base (⟨dst,op,ty,ps,J,g⟩::l) i (s.with tm h)=some s'/\(fl=true->u=s'.tm)/\fin (tmp s'.tm) u s'.h ds=some r:=by
     intro v A s1 e3 hd;rw[A2d,Aox]at e3;obtain⟨s',t3,h2,y,h4⟩:=Ar0 (hp v) (K v) e3;exact⟨s',t3,by simp only[Rn,hd];exact h2,y,h4⟩
    unfold A4v at e2;cases p:cls op with
    | val=>
     rw[p]at e2;obtain⟨v,A,h2,y⟩:=Ae3 e2;have Q:=A3t p;unfold aop at h2;rw[Q,Aj]at h2;split at h2
     ·rename_i U L
      cases h2;refine j y ?_;simp only[U9,DX.with,hw,Aj,hb,p,L]
     ·cases h2
    | load=>
     rw[p]at e2;obtain⟨t,x,rfl⟩:=A6v p;simp only[C7]at e2;split at e2
     ·rename_i ex B
      obtain⟨q,o,A,h2⟩:=O5 e2;obtain⟨y,h4⟩:=An h2;obtain⟨v,C,D,E⟩:=Ae3 h4;rw[Bf7]at D;rw[A]at B;have M:C=h:=by
       have d:=D;simp only[Dj]at d;rw[B]at d;simp only at d;split at d
       ·split at d
        ·split at d
         ·cases d;rfl
         ·cases d
        ·cases d
       ·split at d
        ·cases d;rfl
        ·cases d
       ·cases d
      subst M;refine j E ?_;unfold A31 at y;simp only[U9,DX.with,hw,Aj,hb,p,B,D,DX.ld];exact Bn2 y
     ·cases e2
    | new=>
     rw[p]at e2;simp only[A9w]at e2;obtain⟨v,A,h2,y⟩:=Ae3 e2;rw[A7g p]at h2;refine j y ?_;simp only[U9,DX.with,hw,Aj,hb,p,h2,DX.new]
    | sto=>
     rw[p]at e2;obtain⟨t,a,x,rfl⟩:=Bmd p;simp only[C7]at e2;split at e2
     ·rename_i ex B
      obtain⟨q,o,A,h2⟩:=O5 e2;obtain⟨y,h4⟩:=An h2;obtain⟨v,C,D,E⟩:=Ae3 h4;rw[Bl8]at D;rw[A]at B;refine j E ?_;unfold Bbm at y;simp only[U9,DX.with,hw,Aj,hb,p,B,y,D,DX.sto]
     ·cases e2
    | pur=>
     rw[p]at e2;simp only[Bpr]at e2;obtain⟨v,A,h2,y⟩:=Ae3 e2;rw[Aq7 (Aw5 p)]at h2;refine j y ?_;simp only[U9,DX.with,hw,Aj,hb,p,h2]
    | big=>
     rw[p]at e2;obtain⟨A,h2⟩:=An e2;obtain⟨v,y,h4,C⟩:=Ae3 h2;obtain⟨t,nx,mw⟩:=h;obtain⟨S,O,F⟩:=y;have G:aop T call round tm op ⟨Abi t (loose b s.nw),nx,nx⟩=some (v,⟨S,O,F⟩):=h4;unfold Aew at A;unfold Pk at C;simp only at C;cases hle:Nat.ble nx F with
     | true=>
      rw[hle,Aj]at C;refine j C ?_;simp only[U9,DX.with,hw,Aj,hb,p,A,G,hle,DX.big]
     | false=>
      rw[hle,Bl]at C;obtain⟨D,E⟩:=An C;refine j E ?_;simp only[U9,DX.with,hw,Aj,Bl,hb,p,A,G,hle,D,DX.Ahr]
   have e1:(match bs.get i with|none=>none|some b=>(@Option.rec (Nat × Bool) (fun _=>R) (A4v T call call round op i b base s (tmp tm) h (fun s v h=>thn fl n t2 dst v fun t2=>Ap1 fl T call call round n ops bs base fin l (Nat.succ i) none s (Afh n dst (tmp tm) v) t2 h ds))
    (fun g=>match Au0 m g with
     | some true=>A4v T call call round op i b base s (tmp tm) h (fun s v h=>thn fl n t2 dst v fun t2=>Ap1 fl T call call round n ops bs base fin l (Nat.succ i) (Aho ops g true dst) s (Afh n dst (tmp tm) v) t2 h ds)
     | some false=>thn fl n t2 dst (.tuple []) fun t2=>Ap1 fl T call call round n ops bs base fin l (Nat.succ i) (Aho ops g false dst) s (Afh n dst (tmp tm) (.tuple [])) t2 h ds
     | none=>Ba (A7o ops (tmp tm) g) (A4v T call call round op i b base s (tmp tm) h (fun s v h=>thn fl n t2 dst v fun t2=>Ap1 fl T call call round n ops bs base fin l (Nat.succ i) (Aho ops g true dst) s (Afh n dst (tmp tm) v) t2 h ds)) (thn fl n t2 dst (.tuple []) fun t2=>Ap1 fl T call call round n ops bs base fin l (Nat.succ i) (Aho ops g false dst) s (Afh n dst (tmp tm) (.tuple [])) t2 h ds)) g:R))=some r:=e
   rw[hb]at e1;cases g with
   | none=>exact run (fun v=>Y8.none _ _) rfl e1
   | some g=>
    rcases A1q hm e1 with⟨hw,e'⟩|⟨hw,e'⟩
    ·exact run (fun v=>Asp hw n dst v) hw e'
    ·rw[A2d,Aox]at e'
     obtain⟨s',t3,h2,y,h4⟩:=Ar0 (hp _) (Asp hw n dst _) e';refine⟨s',t3,?_,y,h4⟩;simp only[Rn,U9,DX.with,hw,Bl];exact h2
theorem A9s{t2:Az}{call:Ai}{r:EV × Aa}(o:fl=true->t2=tm)(e:A4e fl T call call round n ops fin (tmp tm) t2 h ds=some r):
 ∃d h' i,Ap6 T call round n ops tm h=some (d,h')/\(fl=true->i=d)/\fin (tmp d) i h' ds=some r:=by
 unfold A4e at e;obtain⟨p,e⟩:=An e;obtain⟨h2,e⟩:=An e;obtain⟨⟨d,h',q,u,y,A,B⟩,t3,C,h4,D⟩:=Ar0 o (Y8.none _ _) e;refine⟨d,h',t3,?_,h4,D⟩;unfold Ap6;rw[p,Aj,h2,Aj];have j:Rn T call round n ops (Nz ops 0 .nil) h.next ops 0 ⟨tm,h,0,[],[],[],[]⟩=some ⟨d,h',q,u,y,A,B⟩:=C
 rw[j]
section
inductive Reach (step:Hi->AR):Hi->Hi->Prop where
 | refl (s:Hi):Reach step s s
 | head {s s1 s2:Hi}:step s=.go s1->Reach step s1 s2->Reach step s s2
def Ends(step:Hi->AR)(s:Hi)(r:EV × Aa):Prop:=∃s1,Reach step s s1/\step s1=.done r.1 r.2
theorem Ends.go {step:Hi->AR}{s s1:Hi}{r:EV × Aa}(h:step s=.go s1)(e:Ends step s1 r):Ends step s r:=by
 obtain⟨s2,d,h2⟩:=e;exact⟨s2,.head h d,h2⟩
theorem Ends.done {step:Hi->AR}{s:Hi}{r:EV × Aa}(h:step s=.done r.1 r.2):Ends step s r:=⟨s,.refl s,h⟩
theorem Ends.congr {step:Hi->AR}{s s':Hi}{r:EV × Aa}(h:step s=step s')(e:Ends step s r):Ends step s' r:=by
 obtain⟨s2,d,h2⟩:=e;cases d with
 | refl=>exact⟨s',.refl s',by rw[<-h];exact h2⟩
 | head i h4=>exact⟨s2,.head (by rw[<-h];exact i) h4,h2⟩
section
variable (fl:Bool)(T:H7)(call round:Ai)(fn n:Nat)(Dc:Option Nat)
def At(cd:CD)(todo:List Item):Prop:=∀tm t2 h ds r,((fl=true->t2=tm)/\(fl=false->ds = []))->cd (tmp tm) t2 h ds=some r->Ends (Cl T call round) ⟨⟨fn,n,tm,todo,ds,false,Dc⟩,h⟩ r
end
section
variable{call:Ai}{fn:Nat}{Dc:Option Nat}
theorem At.bad(todo:List Item):At fl T call round fn n Dc (fun _ _ _ _=>none) todo:=fun _ _ _ _ _ _ e=>(by cases e)
theorem At.step{a b:List Item}(hs:∀tm h ds,Cl T call round ⟨⟨fn,n,tm,a,ds,false,Dc⟩,h⟩=.go ⟨⟨fn,n,tm,b,ds,false,Dc⟩,h⟩)(h:At fl T call round fn n Dc cf b):At fl T call round fn n Dc cf a:=
 fun tm t2 h' ds r d e=>(h tm t2 h' ds r d e).go (hs tm h' ds)
theorem At.exit{id:Nat}{a b:List Item}(hs:exitTo id a=exitTo id b)(h:At fl T call round fn n Dc cf (.code (.exit id)::a)):At fl T call round fn n Dc cf (.code (.exit id)::b):=by
 intro tm t2 h' ds r d e;refine(h tm t2 h' ds r d e).congr ?_;simp only[Cl];rw[hs];cases exitTo id b with
 | some k=>rfl
 | none=>simp only[leave]
theorem Bef(out:Nat->CD)(id:Nat)(k:CD)(env:Aih)(d:Nat):A8y out ((id,k)::env) d=Ba (Nat.beq id d) k (A8y out env d):=by
 funext e tm h ds;show Ba (Nat.beq id d) (k e tm h ds) (A8y out env d e tm h ds)=_;cases Nat.beq id d<;>rfl
theorem A13 {k:Aa->R}{ex:Nat->Aa->R}{ret:Aa->R}{i:List Item}{l:Nat}{r:R}{x:EV × Aa}(o:∀h,k h=some x->Ends (Cl T call round) ⟨⟨fn,n,tm,i,ds,false,Dc⟩,h⟩ x)
 (hex:∀id h,ex id h=some x->Ends (Cl T call round) ⟨⟨fn,n,tm,.code (.exit id)::i,ds,false,Dc⟩,h⟩ x) (d:∀h,ret h=some x->Ends (Cl T call round) ⟨⟨fn,n,tm,.code .ret::i,ds,false,Dc⟩,h⟩ x) (e:A5s l r k ex ret=some x) :
 ∃s',behind fn n tm ds Dc l i r=.go s'/\Ends (Cl T call round) s' x:=by
 unfold A5s at e;unfold behind;split at e
 ·cases e
 ·split at e
  ·rename_i j
   split at e
   ·cases e
   ·rename_i p
    split at e
    ·simp only;rw[j];simp only;exact⟨_,rfl,o _ e⟩
    ·simp only;rw[j];simp only;exact⟨_,rfl,hex _ _ e⟩
    ·simp only;rw[j];simp only;exact⟨_,rfl,d _ e⟩
    ·cases e
  ·cases e
theorem Xh {fuel:Nat}{out:Nat->CD}{ret:CD}(hret:∀kk,At fl T call round fn n Dc ret (.code .ret::kk)):∀(c:Code) (env:Aih) (k:CD) (kk:List Item),
 At fl T call round fn n Dc k kk->(∀id,At fl T call round fn n Dc (A8y out env id) (.code (.exit id)::kk))->At fl T call round fn n Dc (Aad fl T call call round fuel fn n Dc out ret c env k) (.code c::kk)
 | .skip,env,k,kk,hk,henv=>At.step (fun _ _ _=>rfl) hk
 | .region id ops dr,env,k,kk,hk,henv=>by
  intro tm t2 h ds r ht e;have plain:Bdw fl T call call round n ops.toList k ops.toList none (tmp tm) t2 h ds=some r->(∀tm' h',Api T call round n ops.toList ops.toList tm h=some (tm',h')->Cl T call round ⟨⟨fn,n,tm,.code (.region id ops dr)::kk,ds,false,Dc⟩,h⟩=.go ⟨⟨fn,n,tm',kk,ds,false,Dc⟩,h'⟩) ->
   Ends (Cl T call round) ⟨⟨fn,n,tm,.code (.region id ops dr)::kk,ds,false,Dc⟩,h⟩ r:=fun e hs=>by
   obtain⟨tm',h',t3,h1,h3,h2⟩:=Auc ht.1 (Y8.none _ _) e;exact(hk _ _ _ _ _ ⟨h3,ht.2⟩ h2).go (hs _ _ h1)
  cases dr with
  | false=>exact plain e fun tm' h' h1=>by simp only[Cl];rw[h1]
  | true=>
   have e':Ba (Aua T ops.toList) (Bdw fl T call call round n ops.toList k ops.toList none) (A4e fl T call call round n ops.toList k) (tmp tm) t2 h ds=some r:=e;cases hq:Aua T ops.toList with
   | true=>
    rw[hq,Aj]at e';exact plain e' fun tm' h' h1=>by simp only[Cl];rw[A7j hq h1]
   | false=>
    rw[hq,Bl]at e';obtain⟨tm',h',t3,h1,h3,h2⟩:=A9s ht.1 e';exact(hk _ _ _ _ _ ⟨h3,ht.2⟩ h2).go (by simp only[Cl];rw[h1])
 | .seq a b,env,k,kk,hk,henv=>by
  have hb:=Xh (fuel:=fuel) hret b env k kk hk henv;exact At.step (fun _ _ _=>rfl) (Xh (fuel:=fuel) hret a env _ (.code b::kk) hb fun id=>At.exit (a:=kk) (b:=.code b::kk) rfl (henv id))
 | .cond c a b,env,k,kk,hk,henv=>by
  have ha:=Xh (fuel:=fuel) hret a env k kk hk henv;have hb:=Xh (fuel:=fuel) hret b env k kk hk henv;intro tm t2 h ds r ht e;have e':(match D8 (tmp tm) c with|some e=>ifE e (Aad fl T call call round fuel fn n Dc out ret a env k (tmp tm) t2 h ds) (Aad fl T call call round fuel fn n Dc out ret b env k (tmp tm) t2 h ds)|none=>none)=some r:=e;rw[C7]at e';split at e'
  ·rename_i e1 he
   obtain⟨b,rfl,h2⟩:=Ax1 e';cases b
   ·exact(hb _ _ _ _ _ ht h2).go (by simp only[Cl];rw[he])
   ·exact(ha _ _ _ _ _ ht h2).go (by simp only[Cl];rw[he])
  ·cases e'
 | .block id c,env,k,kk,hk,henv=>by
  refine At.step (b:=.code c :: .inBlock id::kk) (fun _ _ _=>rfl) (Xh hret c ((id,k)::env) k (.inBlock id::kk) (At.step (fun _ _ _=>rfl) hk) fun id'=>?_);rw[Bef,Bn];split
  ·rename_i hid
   have:=aJ hid;subst this;exact At.step (fun _ _ _=>by simp[Cl,exitTo]) hk
  ·rename_i hid
   refine(henv id').exit ?_;have:(id == id')=false:=by
    cases hb:(id == id')with
    | false=>rfl
    | true=>exact absurd (by simpa using hb:id=id') (fun e=>hid (by subst e;exact cK _))
   simp[exitTo,this]
 | .loop c,env,k,kk,hk,henv=>by
  have key:∀m,At fl T call round fn n Dc (A1l (fun ih=>Aad fl T call call round fuel fn n Dc out ret c env ih) m) (.code c :: .inLoop c::kk):=by
   intro m;induction m with
   | zero=>exact At.bad _
   | succ m ih=>exact Xh hret c env _ (.inLoop c::kk) (At.step (fun _ _ _=>rfl) ih) fun id=>At.exit (a:=kk) (b:=.inLoop c::kk) rfl (henv id)
  exact At.step (fun _ _ _=>rfl) (key fuel)
 | .rangeFunc f ps asg body,env,k,kk,hk,henv=>by
  intro tm t2 h ds r ht e;obtain⟨hfl,e'⟩:=An (show Ba fl (match D8 (tmp tm) f with|some e=>A8z call fn n Dc e ps.toList asg body t2 h ds (fun h ds=>k (tmp tm) t2 h ds) (fun id h ds=>A8y out env id (tmp tm) t2 h ds) (fun h ds=>ret (tmp tm) t2 h ds)|none=>none) none=some r from e);have e2:=ht.1 hfl;subst e2;have ht:∀{ds:List Nat},((fl=true->t2=t2)/\(fl=false->ds = [])):=fun {_}=>⟨fun _=>rfl,fun x=>by rw[hfl]at x;cases x⟩
  rw[C7]at e';split at e'
  ·rename_i e1 hf
   unfold A8z at e';split at e'
   ·split at e'
    ·obtain⟨s',h1,h2⟩:=A13 (fun h e=>hk _ _ _ _ _ ht e) (fun id h e=>henv id _ _ _ _ _ ht e) (fun h e=>hret kk _ _ _ _ _ ht e) e'
     exact h2.go (by simp only[Cl];rw[hf];exact h1)
    ·split at e'
     ·rename_i hg
      obtain⟨s',h1,h2⟩:=A13 (fun h e=>hk _ _ _ _ _ ht e) (fun id h e=>henv id _ _ _ _ _ ht e) (fun h e=>hret kk _ _ _ _ _ ht e) e';exact h2.go (by simp only[Cl];rw[hf];simp only;rw[hg];exact h1)
     ·cases e'
   ·cases e'
  ·cases e'
 | .exit id,env,k,kk,hk,henv=>henv id
 | .scope c,env,k,kk,hk,henv=>At.bad _
 | .label l,env,k,kk,hk,henv=>At.step (fun _ _ _=>rfl) hk
 | .goto l,env,k,kk,hk,henv=>At.bad _
 | .ret,env,k,kk,hk,henv=>hret kk
 | .refuse w,env,k,kk,hk,henv=>At.bad _
theorem Bl2(T:H7)(res:List ResultVar)(tm:Az)(h:Aa):A2x T res (tmp tm) h=match Mb T tm h res with|some [v]=>some (v,h)|some l=>some (.tuple l,h)|none=>none:=by
 have e:∀l:List ResultVar,Mb T tm h l=Awm T h (l.map (rvD (tmp tm))):=by
  intro l;induction l with
  | nil=>rfl
  | cons a r d=>
   cases a with
   | tmp t=>simp only[Mb,dL,rvD,Awm,d];rfl
   | cell a t=>simp only[Mb,dL,rvD,Awm,d];cases tmp tm a<;>rfl
 unfold A2x;split
 ·rfl
 ·rfl
 ·rfl
 ·rw[e];rfl
theorem Amf(o:T.fn fn=some f):∀{ds:List Nat} {h:Aa} {r:EV × Aa},Fp ds h (fun h=>A2x T f.results.toList (tmp tm) h)=some r ->
 Ends (Cl T call round) ⟨⟨fn,n,tm,todo,ds,true,Dc⟩,h⟩ r
 | [],h,r,e=>by
  have e':A2x T f.results.toList (tmp tm) h=some r:=e;rw[Bl2]at e';refine .done ?_;simp only[Cl];rw[o];simp only;split at e'
  ·rename_i v p;cases e';rw[p]
  ·rename_i l j q
   cases e';rw[q];split
   ·rename_i v i;cases i;exact(j v rfl).elim
   ·rename_i i;cases i;rfl
   ·rename_i i;cases i
  ·cases e'
 | d::ds,h,r,e=>by
  have e':(match h.get d with|some (.deferred true)=>Fp ds (h.put d (.deferred false)) (fun h=>A2x T f.results.toList (tmp tm) h)|_=>none)=some r:=e;split at e'
  ·rename_i u
   exact(Amf o e').go (by simp only[Cl];rw[u])
  ·cases e'
theorem Bk0(i:T.fn fn=some f):(∀j,At fl T call round fn n none (Bgm fl T f.results.toList) (.code .ret::j))/\At fl T call round fn n none (Bgm fl T f.results.toList) []:=
 by
 have k:∀{tm:Az} {h:Aa} {ds:List Nat} {r:EV × Aa} {todo:List Item},(fl=false->ds = [])->Ba fl (Fp ds h fun h=>A2x T f.results.toList (tmp tm) h) (A2x T f.results.toList (tmp tm) h)=some r->Ends (Cl T call round) ⟨⟨fn,n,tm,todo,ds,true,none⟩,h⟩ r:=fun hd e=>by
  cases fl with
  | true=>exact Amf i e
  | false=>rw[hd rfl]at *;exact Amf (ds:=[]) i e
 exact⟨fun _ _ _ _ _ _ d e=>(k d.2 e).go rfl,fun _ _ _ _ _ d e=>(k d.2 e).go rfl⟩
theorem Bkw(tm:Az)(d:Nat)(v:EV):Bj5 (tmp tm) d v=tmp (tm.put d (some v)):=by
 have:=Aox (Nat.succ d) (some d) tm v;simp only[Afh,Pc]at this
 rwa [show Nat.ble (Nat.succ d) (Nat.succ d)=true from aQ (aE _),Aj,Aj]at this
theorem A6s:∀(l:List EV) (i:Nat) (tm:Az),A79 l i (tmp tm)=tmp (setArgs l i tm)
 | [],_,_=>rfl
 | v::r,i,tm=>by
  show A79 r (Nat.succ i) (Bj5 (tmp tm) i v)=_;rw[Bkw,A6s r];rfl
theorem Bcb:∀{ps:List Tmp} {args:List EV} {tm d:Az},Vg ps args n tm=some d->Bi9 n ps args (tmp tm)=tmp d
 | [],[],tm,d,e=>by cases e;rfl
 | [],_::_,_,_,e=>by cases e
 | _::_,[],_,_,e=>by cases e
 | p::r,v::s,tm,d,e=>by
  show Bi9 n r s (Afh n (some p) (tmp tm) v)=_;rw[Aox];exact Bcb e
theorem Bdq {f:Nat}{r:EV × Aa}(e:A0c T call round fuel f args h=some r):∃fr,enter T f args=some fr/\Ends (Cl T call round) ⟨fr,h⟩ r:=by
 unfold A0c at e;split at e
 ·rename_i name origin targs params j nfree o res c u ours file el y met A d
  obtain⟨i,h2⟩:=An e;rw[Afz]at i;rw[show(u0:VS)=tmp .nil from rfl,A6s]at h2;obtain⟨p,q⟩:=Bk0 (call:=call) (round:=round) (n:=o) d;refine⟨_,by unfold enter;rw[d];simp only;rw[i,Aj],?_⟩;exact Xh p _ [] _ [] q (fun id=>At.bad _) _ _ _ _ _ ⟨fun _=>rfl,fun _=>rfl⟩ h2
 ·cases e
theorem Bfz(l:Nat):(∀d,At fl T call round fn n (some l) (fun _ _ h _=>Wa l false .done (some .ret) h) (.code .ret::d)) /\
 (∀id d,exitTo id d=none->At fl T call round fn n (some l) (fun _ _ h _=>Wa l false .done (some (.exit id)) h) (.code (.exit id)::d))/\At fl T call round fn n (some l) (fun _ _ h _=>Wa l true .ready none h) []:=by
 refine⟨?_,?_,?_⟩
 ·intro d tm t2 h ds r _ e
  simp only[Wa]at e;split at e
  ·rename_i i;cases e;exact .done (by simp only[Cl,leave];rw[i])
  ·cases e
 ·intro id d j tm t2 h ds r _ e
  simp only[Wa]at e;split at e
  ·rename_i i;cases e;exact .done (by simp only[Cl];rw[j];simp only[leave];rw[i])
  ·cases e
 ·intro tm t2 h ds r _ e
  simp only[Wa]at e;split at e
  ·rename_i i;cases e;exact .done (by simp only[Cl,leave];rw[i])
  ·cases e
theorem Avx {l:Nat}{r:EV × Aa}(e:Auy T call round fuel l args h=some r):∃fr,Akv l args h=some fr/\Ends (Cl T call round) ⟨fr,h⟩ r:=by
 unfold Auy at e;split at e
 ·rename_i st C f p tm ps asg body d y
  split at e
  ·rename_i j i
   refine⟨⟨f,p,j,[.code asg,.beginRound,.code body],[],false,some l⟩,by unfold Akv;rw[y];simp only;rw[i],?_⟩;obtain⟨q,u,A⟩:=Bfz (fl:=true) (T:=T) (call:=call) (round:=round) (fn:=f) (n:=p) l;rw[Bcb i]at e;refine Xh (out:=fun id _ _ h _=>Wa l false .done (some (.exit id)) h) q asg [] _ [.beginRound,.code body] (fun tm t2 h ds r B e=>?_) (fun id=>u id _ rfl) _ _ _ _ _ ⟨fun _=>rfl,fun x=>by cases x⟩ e;simp only[E1]at e;split at e
   ·rename_i o
    exact(Xh (fuel:=fuel) (out:=fun id _ _ h _=>Wa l false .done (some (.exit id)) h) q body [] _ [] A (fun id=>u id [] rfl) _ _ _ _ _ B e).go (by simp only[Cl];rw[o])
   ·cases e
  ·cases e
 ·cases e
end
structure Good(P:Program)(g:Nat)(args:List EV)(h:Aa)(v:EV)(h':Aa):Prop where
 fn:∃fn,P.funcs[g]? = some fn/\fn.body.isSome=true/\(fn.name == "runtime.NumGoroutine")=false
 run:∀p f w,S9 p h->S8 f h w->EV.Tf p args->∀cs,∃fr f' w',Steps P (lone (Frame.enter P g (Br f args).toArray .normal) cs w) (lone fr cs w')/\fr.fn=g /\
  fr.leaving P w' (.returned (Cn f' v))/\Move p f h w f' h' w'/\Wf p h h'/\v.ok (grow p h h')
 wf:AWf h h'
def Boe(P:Program)(g:Nat)(F:FnT):Prop:=∀args h v h',F args h=some (v,h')->Good P g args h v h'
def Sound(P:Program)(c:Ai):Prop:=∀g,Boe P g (c g)
def A2w(P:Program)(c:Ai):Prop:=Ajt P c/\U7 c
theorem Sound.call{c:Ai}(h:Sound P c):Aeh P c:=fun g args d v h' e=>⟨(h g args d v h' e).fn,(h g args d v h' e).run⟩
theorem Sound.w{c:Ai}(h:Sound P c):U7 c:=fun g args d v h' e=>(h g args d v h' e).wf
theorem Sound.of{c:Ai}(d:Aeh P c)(h2:U7 c):Sound P c:=fun g args h v h' e=>⟨(d g args h v h' e).1,(d g args h v h' e).2,h2 g args h v h' e⟩
section
variable(hT:P6 P T){call:Ai}(hC:Sound P call)(hR:A2w P round)
include hT hC hR
theorem Azl {s s':Hi}(h:Reach (Cl T call round) s s'):Beo P s s'/\AWf s.h s'.h:=by
 induction h with
 | refl s=>exact⟨fun p f w cs d e i=>Sim.refl d e i,.refl _⟩
 | @head s s1 s2 j _ o=>
  have a:Beo P s s1:=fun p f w cs d e i=>Bjy hT hC.call hR.1 hC.w hR.2 j d e i cs
  exact⟨a.trans o.1,(A3j hC.w hR.2 (.inl ⟨s1,j,rfl⟩)).trans o.2⟩
theorem Bku(fuel g:Nat):Boe P g (A0c T call round fuel g):=by
 intro args h v h' A;obtain⟨fr,i,s1,B,e⟩:=Bdq A;obtain⟨u,hw⟩:=Azl hT hC hR B;simp only at e;unfold enter at i;split at i
 ·rename_i name origin targs params H nfree n results c O ours file el Q met S C
  obtain⟨hle,i⟩:=An i;cases i;have o:args.length<=n:=by have:=bG hle;rwa [Tq]at this
  obtain⟨q,y⟩:=hT.fn _ _ C;refine⟨⟨_,q,rfl,y⟩,fun p f w J K L cs=>?_,hw.trans (A3j hC.w hR.2 (.inr ⟨v,e⟩))⟩;have D:V9 p ⟨g,n,setArgs args 0 .nil,[.code c],[],false,none⟩:=⟨Bgf o L,fun d hd=>(by cases hd),fun l M=>(by cases M),fun x=>(by cases x)⟩;obtain⟨f1,w1,hs,hm,hwf,E,e1,e2⟩:=u p f w cs D J K;have j:=Ayx hT e E hwf.hok hm.rep;unfold Fin at j;rw[e2]at j;obtain⟨rfl,F,G⟩:=j;refine⟨_,f1,w1,?_,e1,F,hm,hwf,G⟩;have he:Frame.enter P g (Br f args).toArray .normal=N1 f ⟨g,n,setArgs args 0 .nil,[.code c],[],false,none⟩:=by
   unfold Frame.enter N1;rw[A8t f o];simp[q]
  rw[he];exact hs
 ·cases i
theorem Ben(fuel:Nat):A2w P (Auy T call round fuel):=by
 constructor
 ·intro l args h v h' y
  obtain⟨fr,e,s1,A,i⟩:=Avx y;obtain⟨j,hw⟩:=Azl hT hC hR A;simp only at i;unfold Akv at e;split at e
  ·rename_i st M fn n tm ps asg body dd D
   split at e
   ·rename_i B C
    cases e;refine⟨st,M,fn,n,tm,ps,asg,body,dd,B,D,C,fun p f w E O Q caller cs=>?_⟩;obtain⟨_,F,_⟩:=Ah8 f C Q (E.get l _ D).2.1;have G:V9 p ⟨fn,n,B,[.code asg,.beginRound,.code body],[],false,some l⟩:=⟨F,fun d hd=>(by cases hd),fun l' S=>(by cases S;exact(E.get l _ D).1),fun x=>(by cases x)⟩;obtain⟨f1,w1,hs,hm,hwf,H,e1,e2⟩:=j p f w (caller::cs) G E O;have o:=Ayx hT i H hwf.hok hm.rep;unfold Fin at o;rw[e2]at o;obtain⟨w2,J,K,u,L⟩:=o caller cs;refine⟨f1,w2,?_,hm.trans K,hwf.trans u,EV.ok.mono (fun q U=>?_) _ L⟩
    ·exact hs.trans J
    ·rw[<-Adh p hwf.next u.next];exact .inl U
   ·cases e
  ·cases e
 ·intro l args h v h' y
  obtain⟨fr,e,s1,A,i⟩:=Avx y;obtain⟨j,hw⟩:=Azl hT hC hR A;unfold Akv at e;split at e
  ·split at e
   ·cases e;exact hw.trans (A3j hC.w hR.2 (.inr ⟨v,i⟩))
   ·cases e
  ·cases e
end
end
noncomputable section
abbrev FT:=Ai->Ai->Nat->FnT
def A0g(P:Program)(g:Nat)(F:FT):Prop:=∀call round K,Sound P call->A2w P round->Boe P g (F call round K)
def Ag(T:H7)(disp:Nat->Option FT)(K:Nat):Nat->Bool->Ai:=
 @Nat.rec (fun _=>Bool->Ai) (fun _ _ _ _=>none)
  (fun _ d b=>@Bool.rec (fun _=>Ai) (fun f=>@Option.rec FT (fun _=>FnT) (A0c T (d false) (d true) K f) (fun F=>F (d false) (d true) K) (disp f)) (fun l=>Auy T (d false) (d true) K l) b)
theorem At1(hT:P6 P T){disp:Nat->Option FT}(j:∀g F,disp g=some F->A0g P g F)(K:Nat):∀d,Sound P (Ag T disp K d false)/\A2w P (Ag T disp K d true)
 | 0=>⟨fun _ _ _ _ _ e=>(by cases e),fun _ _ _ _ _ e=>(by cases e),fun _ _ _ _ _ e=>(by cases e)⟩
 | d+1=>by
  obtain⟨c1,i⟩:=At1 hT j K d;constructor
  ·intro g
   have e:Ag T disp K (d+1) false g = @Option.rec FT (fun _=>FnT) (A0c T (Ag T disp K d false) (Ag T disp K d true) K g) (fun F=>F (Ag T disp K d false) (Ag T disp K d true) K) (disp g):=rfl;rw[e];cases o:disp g with
   | none=>exact Bku hT c1 i K g
   | some F=>exact j g F o _ _ K c1 i
  ·exact Ben hT c1 i K
def Aw9:List UInt8->List UInt8->Bool
 | [],[]=>true
 | a::r,b::s=>Ba (Nat.beq a.toNat b.toNat) (Aw9 r s) false
 | _,_=>false
def Bap(a b:Bool):Bool:=Ba a b (Apa b)
mutual
def eqV:EV->EV->Bool
 | .int k n,.int j p=>Ba (Nat.beq (P7 k) (P7 j)) (eqI n p) false
 | .bool a,.bool b=>Bap a b
 | .str a,.str b=>Aw9 a.data.toList b.data.toList
 | .ptr i o,.ptr d o'=>Ba (Nat.beq i d) (Nat.beq o o') false
 | .Ga,.Ga=>true
 | .slice i o l r op,.slice d o' l' q e=>Ba (Nat.beq i d) (Ba (Nat.beq o o') (Ba (Nat.beq l l') (Ba (Nat.beq r q) (Bap op e) false) false) false) false
 | .Ao,.Ao=>true
 | .map i,.map d=>Nat.beq i d
 | .Akg,.Akg=>true
 | .chan i,.chan d=>Nat.beq i d
 | .Ac8,.Ac8=>true
 | .func f a c,.func f' u y=>Ba (Nat.beq f f') (Ba (A4b a u) (A4b c y) false) false
 | .Uv l,.Uv l'=>Nat.beq l l'
 | .Aft,.Aft=>true
 | .Z8,.Z8=>true
 | .agg l,.agg l'=>A4b l l'
 | .tuple l,.tuple l'=>A4b l l'
 | _,_=>false
def A4b:List EV->List EV->Bool
 | [],[]=>true
 | a::r,b::s=>Ba (eqV a b) (A4b r s) false
 | _,_=>false
end
end
variable {disp:Nat->Option FT}
theorem Bjg {a b:Int}(h:eqI a b=true):a=b:=by
 cases a<;>cases b
 ·exact congrArg Int.ofNat (aJ h)
 ·cases h
 ·cases h
 ·exact congrArg Int.negSucc (aJ h)
theorem As7:∀{a b:List UInt8},Aw9 a b=true->a=b
 | [],[],_=>rfl
 | x::r,y::s,h=>by
  simp only[Aw9]at h;rw[Bn]at h;split at h
  ·rename_i e
   rw[UInt8.toNat_inj.1 (aJ e),As7 h]
  ·cases h
 | [],_::_,h=>by cases h
 | _::_,[],h=>by cases h
theorem Avc(h:Bap a b=true):a=b:=by cases a<;>cases b<;>first|rfl|cases h
theorem Bek {a b:IntKind}(h:P7 a=P7 b):a=b:=by cases a<;>cases b<;>first|rfl|(simp[P7]at h)
theorem Adf(h:Ba a b false=true):a=true/\b=true:=by cases a<;>simp_all [Bn]
theorem beq_spec {a b:Nat}(h:Nat.beq a b=true):a=b:=aJ h
mutual
theorem A5w:∀{a b:EV},eqV a b=true->a=b
 | .int k n,b,h=>by
  cases b<;>first|(simp[eqV]at h;done)|skip
  simp only[eqV]at h;obtain⟨d,h2⟩:=Adf h;rw[Bek (beq_spec d),Bjg h2]
 | .bool a,b,h=>by
  cases b<;>first|(simp[eqV]at h;done)|skip
  simp only[eqV]at h;rw[Avc h]
 | .str a,b,h=>by
  cases b<;>first|(simp[eqV]at h;done)|skip
  rename_i b;simp only[eqV]at h;obtain⟨⟨a⟩⟩:=a;obtain⟨⟨b⟩⟩:=b;have:a=b:=As7 h;rw[this]
 | .ptr i o,b,h=>by
  cases b<;>first|(simp[eqV]at h;done)|skip
  simp only[eqV]at h;obtain⟨d,h2⟩:=Adf h;rw[beq_spec d,beq_spec h2]
 | .Ga,b,h=>by cases b<;>first|(simp[eqV]at h;done)|rfl
 | .slice i o l r op,b,h=>by
  cases b<;>first|(simp[eqV]at h;done)|skip
  simp only[eqV]at h;obtain⟨d,h⟩:=Adf h;obtain⟨h2,h⟩:=Adf h;obtain⟨e,h⟩:=Adf h;obtain⟨h4,h⟩:=Adf h;rw[beq_spec d,beq_spec h2,beq_spec e,beq_spec h4,Avc h]
 | .tail i o p,b,h=>by cases b<;>(simp[eqV]at h)
 | .odd a,b,h=>by cases b<;>(simp[eqV]at h)
 | .Ao,b,h=>by cases b<;>first|(simp[eqV]at h;done)|rfl
 | .map i,b,h=>by
  cases b<;>first|(simp[eqV]at h;done)|skip
  simp only[eqV]at h;rw[beq_spec h]
 | .Akg,b,h=>by cases b<;>first|(simp[eqV]at h;done)|rfl
 | .chan i,b,h=>by
  cases b<;>first|(simp[eqV]at h;done)|skip
  simp only[eqV]at h;rw[beq_spec h]
 | .Ac8,b,h=>by cases b<;>first|(simp[eqV]at h;done)|rfl
 | .func f a c,b,h=>by
  cases b<;>first|(simp[eqV]at h;done)|skip
  simp only[eqV]at h;obtain⟨d,h⟩:=Adf h;obtain⟨h2,h⟩:=Adf h;rw[beq_spec d,Aiz h2,Aiz h]
 | .Uv l,b,h=>by
  cases b<;>first|(simp[eqV]at h;done)|skip
  simp only[eqV]at h;rw[beq_spec h]
 | .Aft,b,h=>by cases b<;>first|(simp[eqV]at h;done)|rfl
 | .Z8,b,h=>by cases b<;>first|(simp[eqV]at h;done)|rfl
 | .agg l,b,h=>by
  cases b<;>first|(simp[eqV]at h;done)|skip
  simp only[eqV]at h;rw[Aiz h]
 | .tuple l,b,h=>by
  cases b<;>first|(simp[eqV]at h;done)|skip
  simp only[eqV]at h;rw[Aiz h]
theorem Aiz:∀{a b:List EV},A4b a b=true->a=b
 | [],[],_=>rfl
 | x::r,y::s,h=>by
  simp only[A4b]at h;obtain⟨d,h2⟩:=Adf h;rw[A5w d,Aiz h2]
 | [],_::_,h=>by simp[A4b]at h
 | _::_,[],h=>by simp[A4b]at h
end
end Go.Ev
