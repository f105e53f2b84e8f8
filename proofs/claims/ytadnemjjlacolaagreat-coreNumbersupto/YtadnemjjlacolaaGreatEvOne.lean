import GoSem.Step
import Derived.Control
import Derived.Calls
import Derived.Laws.CopyRow
import Derived.Great.FillDense
set_option linter.all false
namespace Go.Ev
def aA:=@decide_false
def aB:=@decide_true
def aC:=@not_true_eq_false
def aD.{u}:=@List.getElem?_eq_getElem.{u}
def aE:=@Nat.le_refl
def aF.{u}:=@if_neg.{u}
def aG.{u}:=@List.length_append.{u}
def aH.{u}:=@if_pos.{u}
def aI:=@Result.andThen_ok
def aJ:=@Nat.eq_of_beq_eq_true
def aK:=@Nat.lt_of_lt_of_le
def aL:=@Nat.lt_succ_self
def aM.{u}:=@List.mem_singleton.{u}
def aN:=@not_false_eq_true
def aO:=@decide_eq_false
def aP:=@decide_eq_true
def aQ:=@Nat.ble_eq_true_of_le
def aR.{u}:=@List.mem_cons_of_mem.{u}
def aS.{u}:=@List.mem_of_mem_drop.{u}
def aT:=@Sem.run_pure
def aU:=@decide_eq_true_eq
def aV:=@Bool.and_eq_true
def aW.{u}:=@List.mem_cons_self.{u}
def aX:=@Bool.false_eq_true
def aY.{u}:=@List.getElem?_eq_some_iff.{u}
def aZ:=@Int.ofNat_eq_natCast
def ak.{u}:=@if_false.{u}
def av:=@Bool.false_and
def a8:=@Int.eq_ofNat_of_zero_le
def a9.{u}:=@List.getElem_mem.{u}
def bA:=@Bool.true_and
def bB.{u,v}:=@List.getElem?_map.{u,v}
def bD:=@Int.toNat_natCast
def bF.{u}:=@List.length_cons.{u}
def bG:=@Nat.le_of_ble_eq_true
def bH.{u}:=@List.getElem?_cons_zero.{u}
def bI.{u}:=@if_true.{u}
def bJ.{u}:=@List.mem_append.{u}
def bK:=@Nat.zero_add
def bL.{u}:=@List.eq_of_mem_replicate.{u}
def bM.{u}:=@List.length_set.{u}
def bN:=@Nat.le_trans
def bO:=@Nat.lt_irrefl
def bP:=@Int.mul_le_mul_of_nonneg_left
def bQ.{u}:=@List.take_of_length_le.{u}
def bR.{u}:=@List.getElem?_append_right.{u}
def bS.{u}:=@List.mem_cons.{u}
def bT.{u}:=@List.length_drop.{u}
def bU.{u}:=@List.mem_of_getElem?.{u}
def bV.{u}:=@List.length_replicate.{u}
def bW:=@Nat.mul_one
def bX.{u}:=@List.getElem?_append_left.{u}
def bY.{u}:=@List.getElem?_cons_succ.{u}
def bZ.{u,v}:=@List.length_map.{u,v}
def bc.{u}:=@List.mem_of_mem_take.{u}
def bh.{u}:=@List.getElem?_eq_none.{u}
def bm:=@Nat.not_lt_zero
def br.{u}:=@List.flatten_cons.{u}
def b9.{u}:=@List.length_take.{u}
def cA.{u,v}:=@List.mem_map.{u,v}
def cB.{u}:=@List.nodup_cons.{u}
def cC:=@step_lone_go
def cD.{u}:=@List.getElem?_toArray.{u}
def cF.{u}:=@Array.getElem?_toList.{u}
def cI:=@Nat.lt_succ_iff_lt_or_eq
def cJ:=@List.getElem?_range
def cK:=@Nat.beq_refl
def cL.{u}:=@Array.getElem?_eq_some_iff.{u}
def cM.{u}:=@List.length_eq_zero_iff.{u}
def cN.{u}:=@Option.some.injEq.{u}
def cO.{u}:=@List.take_length.{u}
def cP.{u}:=@Ne.symm.{u}
def cQ:=@Nat.zero_le
def cR.{u}:=@List.append_assoc.{u}
def cS.{u,v}:=@List.map_append.{u,v}
def cU:=@Nat.lt_or_ge
def cV.{u}:=@List.mem_iff_getElem?.{u}
def cW.{u,v}:=@List.map_congr_left.{u,v}
def cX.{u}:=@Array.getElem?_eq_getElem.{u}
def cY:=@Int.le_refl
def cZ:=@decide_eq_false_iff_not
def cb:=@List.range_succ
def cj.{u}:=@List.eq_nil_of_length_eq_zero.{u}
def cm.{u}:=@List.mem_or_eq_of_mem_set.{u}
def cq.{u}:=@List.drop_eq_getElem_cons.{u}
def cr:=@Bool.and_false
def cu:=@Bool.not_false
def dA:=@Int.negSucc_eq
def dB.{u}:=@Array.mem_toList_iff.{u}
def dC:=@Nat.eq_zero_or_pos
def dD:=@Nat.ble_eq
def dE.{u}:=@List.append_nil.{u}
def dF.{u}:=@List.drop_zero.{u}
def dG.{u}:=@List.nodup_nil.{u}
def dH.{u}:=@List.getElem?_set.{u}
def dI:=@of_decide_eq_true
def dJ.{u}:=@List.getElem?_drop.{u}
def dK:=@List.mem_range
def dL.{u,v}:=@List.map_cons.{u,v}
def dM:=@Bool.not_true
def dN.{u}:=@List.all_eq_true.{u}
def dO:=@Nat.add_zero
def dP:=@Int.mul_nonneg
def dQ.{u}:=@List.nil_append.{u}
def dR:=@Bool.or_eq_true
def dS.{u}:=@List.mem_filter.{u}
def dT:=@Nat.zero_testBit
def dU.{u}:=@List.take_succ_eq_append_getElem.{u}
def dV.{u}:=@List.drop_of_length_le.{u}
def dW.{u}:=@List.ext_getElem?.{u}
def dX.{u}:=@List.flatten_append.{u}
def dY.{u}:=@List.size_toArray.{u}
def dZ.{u}:=@List.drop_drop.{u}
def dc.{u,v}:=@Option.map_some.{u,v}
def dh:=@Nat.xor_lt_two_pow
def eA.{u}:=@Array.toArray_toList.{u}
def eB.{u}:=@List.replicate_succ.{u}
def eC.{u}:=@Array.getD_eq_getD_getElem?.{u}
def eD:=@Bool.eq_iff_iff
def eH:=@Nat.min_eq_left
def eI:=@decide_eq_decide
def eJ.{u}:=@List.filter_cons.{u}
def eK.{u}:=@Array.ext'.{u}
def eL:=@Nat.pow_succ
def eO.{u}:=@List.filter_append.{u}
def eP.{u}:=@List.length_filter_le.{u}
def eQ.{u}:=@List.set_append_right.{u}
def eR.{u}:=@List.getElem?_take.{u}
def eT:=@List.length_range
def eU:=@Int.mul_le_mul_of_nonneg_right
def eV.{u}:=@List.take_append_of_le_length.{u}
def eW.{u}:=@List.take_left.{u}
def eX:=@Nat.div_div_eq_div_mul
def eh:=@decide_eq_true_iff
def fC:=@Bool.true_eq_false
def fD:=@Nat.succ_mul
def fF.{u}:=@List.length_nil.{u}
def fG:=@Classical.em
def fH.{u}:=@List.take_add_one.{u}
def fI:=@Int.fdiv_eq_ediv_of_nonneg
def fJ:=@Nat.div_lt_of_lt_mul
def fK:=@Nat.pow_le_pow_right
def fL:=@Nat.shiftRight_eq_div_pow
def fM:=@List.range'_succ
def fN:=@Nat.mod_eq_of_lt
def fO:=@Int.toNat_of_nonneg
def fP.{u}:=@List.take_succ_cons.{u}
def fQ:=@Nat.add_mul
def fR:=@run_program
def fS:=@Nat.zero_mul
def fT:=@Nat.mul_comm
def fU.{u,v}:=@List.map_replicate.{u,v}
def fV.{u}:=@Array.ext_getElem?.{u}
def fW.{u}:=@Option.some.inj.{u}
def fZ:=@Nat.add_sub_cancel
def fm.{u}:=@List.drop_left.{u}
def gA:=@Nat.mul_le_mul
def gC:=@Int.lt_or_le
def gE:=@Nat.sub_self
def gF:=@false_and
def gG:=@true_and
variable {b:Bool}{a x:Operand}{i n off dflt:Nat}{p q:Nat->Prop}{ρ:Operand->Value}{k k':IntKind}{op:BinOp}{t:TypeId}{w':World}{α:Type}{P:Program}
noncomputable section
inductive Tr (α:Type) where
 | nil
 | node (l:Tr α) (v:Option α) (r:Tr α)
noncomputable def Ba {α:Type}(b:Bool)(x y:α):α:=@Bool.rec (fun _=>α) y x b
noncomputable def Tr.get {α:Type}(t:Tr α):Nat->Option α:=
 @Tr.rec α (fun _=>Nat->Option α) (fun _=>none)
  (fun _ v _ d e i=>@Bool.rec (fun _=>Option α) (@Bool.rec (fun _=>Option α) (e (Nat.pred (Nat.div i 2))) (d (Nat.div i 2)) (Nat.beq (Nat.land i 1) 1)) v (Nat.beq i 0)) t
noncomputable def Tr.lf {α:Type}(x:Option α)(r:Tr α)(t:Tr α):Tr α:=@Tr.rec α (fun _=>Tr α) .nil (fun a b c _ _=>.node (.node a b c) x r) t
noncomputable def Tr.rt {α:Type}(l:Tr α)(x:Option α)(t:Tr α):Tr α:=@Tr.rec α (fun _=>Tr α) .nil (fun a b c _ _=>.node l x (.node a b c)) t
noncomputable def Tr.set {α:Type}(n:Nat):Tr α->Nat->Option α->Tr α:=
 @Nat.rec (fun _=>Tr α->Nat->Option α->Tr α) (fun t _ _=>t)
  (fun _ d t i v=>@Tr.rec α (fun _=>Tr α)
   (@Bool.rec (fun _=>Tr α) (@Bool.rec (fun _=>Tr α) (Tr.rt .nil none (d .nil (Nat.pred (Nat.div i 2)) v)) (Tr.lf none .nil (d .nil (Nat.div i 2) v)) (Nat.beq (Nat.land i 1) 1)) (.node .nil v .nil) (Nat.beq i 0))
   (fun l x r _ _=>@Bool.rec (fun _=>Tr α) (@Bool.rec (fun _=>Tr α) (Tr.rt l x (d r (Nat.pred (Nat.div i 2)) v)) (Tr.lf x r (d l (Nat.div i 2) v)) (Nat.beq (Nat.land i 1) 1)) (.node l v r) (Nat.beq i 0)) t) n
noncomputable def Tr.put {α:Type}(t:Tr α)(i:Nat)(v:Option α):Tr α:=Tr.set (Nat.succ (Nat.log2 (Nat.succ i))) t i v
inductive EV where
 | int (k:IntKind) (n:Int)
 | bool (b:Bool)
 | str (s:ByteArray)
 | ptr (i off:Nat)
 | Ga
 | slice (i off len room:Nat) (op:Bool)
 | tail (i off poff:Nat)
 | Ao
 | odd (a:Addr)
 | map (i:Nat)
 | Akg
 | chan (i:Nat)
 | Ac8
 | func (f:Nat) (first captured:List EV)
 | Uv (l:Nat)
 | Aft
 | Z8
 | agg (l:List EV)
 | tuple (l:List EV)
 deriving Inhabited
def EV.cells:EV->List EV
 | .agg l=>l
 | v=>[v]
def EV.plain:EV->Bool
 | .tuple _=>false
 | _=>true
inductive Dt where
 | cells (l:List EV) (elem:TypeId)
 | vec (l:List EV) (elem:TypeId) (size:Nat)
 | map (es:List (EV × EV))
 | chan (cap:Nat) (buf:List EV)
 | loop (state:LoopState) (pending:Option Code) (fn:FuncId) (n:Nat) (tmps:Tr EV) (params:List Tmp) (assign body:Code) (defers:Nat)
 | deferred (open_:Bool)
 | view (ws:List (Nat × List EV)) (r:Obj)
structure Aa where
 t:Tr Dt
 next:Nat
 mw:Nat
def Aa.get:Aa->Nat->Option Dt
 | ⟨t,_,_⟩,i=>t.get i
def Aa.put:Aa->Nat->Dt->Aa
 | ⟨t,n,m⟩,i,o=>⟨t.put i (some o),n,Ba (Nat.ble i m) i m⟩
def Aa.del:Aa->Nat->Aa
 | ⟨t,n,m⟩,i=>⟨t.put i none,n,Ba (Nat.ble i m) i m⟩
def Aa.new:Aa->Dt->Aa
 | ⟨t,n,m⟩,o=>⟨t.put n (some o),Nat.succ n,m⟩
structure Ah5 where
 fn:Nat
 n:Nat
 tmps:Tr EV
 todo:List Item
 defers:List Nat
 ret:Bool
 Dc:Option Nat
structure Hi where
 fr:Ah5
 h:Aa
structure H7 where
 fn:Nat->Option Func
 Th:Nat->Option TypeDesc
 size:Nat->Option Nat
 zero:Nat->Option (List EV)
 agg:Nat->Option Bool
 eqs:Nat->Option (List Nat)
 key:Nat->Bool
abbrev Ai:=Nat->List EV->Aa->Option (EV × Aa)
def Bcv:Value->Option EV
 | .int k n=>some (.int k n)
 | .bool b=>some (.bool b)
 | .string s=>some (.str s)
 | .pointer none=>some .Ga
 | .slice none 0 0=>some .Ao
 | .map none=>some .Akg
 | .chan none=>some .Ac8
 | .nilFunc=>some .Aft
 | .nilIface=>some .Z8
 | _=>none
def Bcr:List Value->Option (List EV)
 | []=>some []
 | v::r=>match Bcv v with
  | some x=>match Bcr r with
   | some y=>some (x::y)
   | none=>none
  | none=>none
def ofV:Value->Option EV
 | .agg cs=>match Bcr cs.toList with|some l=>some (.agg l)|none=>none
 | .tuple cs=>match cs.toList with | []=>some (.tuple [])|_=>none
 | v=>Bcv v
abbrev Az:=Tr EV
def tmp(tm:Az)(t:Nat):EV:=match tm.get t with|some v=>v|none=>.tuple []
def Cf(tm:Az):Operand->Option EV
 | .tmp t=>some (match tm.get t with|some v=>v|none=>.tuple [])
 | .const v=>ofV v
 | .global _=>none
 | .func f=>some (.func f [] [])
def L8(tm:Az):List Operand->Option (List EV)
 | []=>some []
 | x::r=>match Cf tm x with
  | some a=>match L8 tm r with
   | some b=>some (a::b)
   | none=>none
  | none=>none
def Pc(n:Nat)(tm:Az)(d:Option Tmp)(v:EV):Az:=
 match d with
 | none=>tm
 | some d=>Ba (Nat.ble (Nat.succ d) n) (tm.put d (some v)) tm
def len(l:List EV):Nat:=match l with | []=>0|_::r=>Nat.succ (len r)
def X9:List EV->Nat->List EV
 | [],_=>[]
 | a::r,n=>Ba (Nat.beq n 0) (a::r) (X9 r (Nat.pred n))
def takeN:List EV->Nat->Option (List EV)
 | [],n=>Ba (Nat.beq n 0) (some []) none
 | a::r,n=>Ba (Nat.beq n 0) (some []) (match takeN r (Nat.pred n)with|some x=>some (a::x)|none=>none)
def Jd:List EV->List EV->Option (List EV)
 | l,[]=>some l
 | a::r,v::vs=>match Jd r vs with|some x=>some (v::x)|none=>none
 | [],_::_=>none
def Fq:List EV->Nat->List EV->Option (List EV)
 | [],off,vs=>Ba (Nat.beq off 0) (Jd [] vs) none
 | a::r,off,vs=>Ba (Nat.beq off 0) (Jd (a::r) vs) (match Fq r (Nat.pred off) vs with|some x=>some (a::x)|none=>none)
def Ak4(ws:List (Nat × List EV))(off:Nat):Option (Nat × List EV):=
 match ws with
 | []=>none
 | (o,l)::r=>Ba (Ba (Nat.ble o off) (Nat.ble (Nat.succ (Nat.sub off o)) (len l)) false) (some (o,l)) (Ak4 r off)
def Ir(h:Aa)(i off n:Nat):Option (List EV):=
 match h.get i with
 | some (.cells l _)=>takeN (X9 l off) n
 | some (.vec l _ _)=>takeN (X9 l off) n
 | some (.view ws _)=>match Ak4 ws off with|some (o,l)=>takeN (X9 l (Nat.sub off o)) n|none=>none
 | _=>none
def L5(h:Aa)(i off:Nat)(vs:List EV):Option Aa:=
 match h.get i with
 | some (.cells l t)=>match Fq l off vs with|some l'=>some (h.put i (.cells l' t))|none=>none
 | some (.vec l t s)=>match Fq l off vs with|some l'=>some (h.put i (.vec l' t s))|none=>none
 | _=>none
def lid:IntKind->Nat
 | .u8=>256 | .u16=>65536 | .u32=>4294967296 | .u64=>18446744073709551616 | .i8=>128 | .i16=>32768 | .i32=>2147483648 | .i64=>9223372036854775808
def floor:IntKind->Nat
 | .i8=>128 | .i16=>32768 | .i32=>2147483648 | .i64=>9223372036854775808|_=>0
def De(k:IntKind)(n:Int):Int:=
 match n with
 | .ofNat m=>Ba (Nat.ble (Nat.succ m) (lid k)) (.ofNat m) (k.wrap (.ofNat m))
 | .negSucc m=>Ba (Nat.ble (Nat.succ m) (floor k)) (.negSucc m) (k.wrap (.negSucc m))
def P7:IntKind->Nat
 | .u8=>0 | .u16=>1 | .u32=>2 | .u64=>3 | .i8=>4 | .i16=>5 | .i32=>6 | .i64=>7
def ltB:Int->Int->Bool
 | .ofNat a,.ofNat b=>Nat.ble (Nat.succ a) b
 | .ofNat _,.negSucc _=>false
 | .negSucc _,.ofNat _=>true
 | .negSucc a,.negSucc b=>Nat.ble (Nat.succ b) a
def eqB:Int->Int->Bool
 | .ofNat a,.ofNat b=>Nat.beq a b
 | .negSucc a,.negSucc b=>Nat.beq a b
 | _,_=>false
def Beu:List UInt8->List UInt8->Bool
 | [],[]=>true
 | a::r,b::s=>Ba (Nat.beq a.toNat b.toNat) (Beu r s) false
 | _,_=>false
def Aje:EV->EV->Option Bool
 | .int k a,.int k' b=>Ba (Nat.beq (P7 k) (P7 k')) (some (eqB a b)) none
 | .str a,.str b=>some (Beu a.data.toList b.data.toList)
 | .bool a,.bool b=>some (Ba a b (Ba b false true))
 | _,_=>none
def E2:List EV->List EV->Option Bool
 | [],[]=>some true
 | a::r,b::s=>match Aje a b with
  | some true=>E2 r s
  | some false=>match E2 r s with|some _=>some false|none=>none
  | none=>none
 | _,_=>none
def shaped:List Nat->List EV->Bool
 | [],[]=>true
 | b::s,.int _ _::l=>Ba (Nat.beq b 0) (shaped s l) false
 | b::s,.bool _::l=>Ba (Nat.beq b 1) (shaped s l) false
 | b::s,.str _::l=>Ba (Nat.beq b 2) (shaped s l) false
 | _,_=>false
def Aqr(T:H7)(t:TypeId):EV->EV->Option Bool
 | .agg a,.agg b=>match T.eqs t with|some sh=>Ba (shaped sh a) (E2 a b) none|none=>none
 | .bool a,.bool b=>match T.Th t with
  | some .bool=>some (Ba a b (Ba b false true))
  | _=>none
 | .Ga,.Ga=>match T.Th t with|some (.pointer _)=>some true|_=>none
 | .Ga,.ptr _ _=>match T.Th t with|some (.pointer _)=>some false|_=>none
 | .ptr _ _,.Ga=>match T.Th t with|some (.pointer _)=>some false|_=>none
 | .ptr i o,.ptr j p=>match T.Th t with|some (.pointer e)=>(match T.size e with|some _=>Ba (Nat.beq i j) (Ba (Nat.beq o p) (some true) none) none|none=>none)|_=>none
 | .Ao,.Ao=>match T.Th t with|some (.slice _)=>some true|_=>none
 | .slice ..,.Ao=>match T.Th t with|some (.slice _)=>some false|_=>none
 | .tail ..,.Ao=>match T.Th t with|some (.slice _)=>some false|_=>none
 | _,_=>none
def Bfi(op:BinOp)(k:IntKind)(a b:Int):Option EV:=
 match op with
 | .add=>some (.int k (De k (Int.add a b)))
 | .sub=>some (.int k (De k (Int.sub a b)))
 | .mul=>some (.int k (De k (Int.mul a b)))
 | .quo=>Ba (eqB b 0) none (some (.int k (De k (a.tdiv b))))
 | .rem=>Ba (eqB b 0) none (some (.int k (a.tmod b)))
 | .and=>match a,b with | .ofNat a,.ofNat b=>some (.int k (De k (.ofNat (Nat.land a b))))|_,_=>none
 | .or=>match a,b with | .ofNat a,.ofNat b=>some (.int k (De k (.ofNat (Nat.lor a b))))|_,_=>none
 | .xor=>match a,b with | .ofNat a,.ofNat b=>some (.int k (De k (.ofNat (Nat.xor a b))))|_,_=>none
 | .lss=>some (.bool (ltB a b))
 | .leq=>some (.bool (Ba (ltB b a) false true))
 | .gtr=>some (.bool (ltB b a))
 | .geq=>some (.bool (Ba (ltB a b) false true))
 | .eql=>some (.bool (eqB a b))
 | .neq=>some (.bool (Ba (eqB a b) false true))
 | _=>none
def A3s(op:BinOp)(k:IntKind)(a:Int)(b:Nat):Option EV:=
 match op with
 | .shl=>some (.int k (De k (Int.mul a (.ofNat (Nat.pow 2 (Ba (Nat.ble b k.bits) b k.bits))))))
 | .shr=>match a with
  | .ofNat a=>some (.int k (.ofNat (Nat.shiftRight a (Ba (Nat.ble b k.bits) b k.bits))))
  | .negSucc _=>some (.int k (a.fdiv (.ofNat (Nat.pow 2 (Ba (Nat.ble b k.bits) b k.bits)))))
 | _=>none
def Aw8:BinOp->Bool
 | .shl=>true
 | .shr=>true
 | _=>false
def bin(T:H7)(op:BinOp)(t:TypeId)(x y:EV):Option EV:=
 match x,y with
 | .int k a,.int k' b=>Ba (Aw8 op) (match b with | .ofNat b=>A3s op k a b | .negSucc _=>none)
  (Ba (Nat.beq (P7 k) (P7 k')) (Bfi op k a b) none)
 | x,y=>match op with
  | .eql=>match Aqr T t x y with|some b=>some (.bool b)|none=>none
  | .neq=>match Aqr T t x y with|some b=>some (.bool (Ba b false true))|none=>none
  | _=>none
def fill(place:Nat->Option (Nat × Nat))(cells:List EV):List (Nat × EV)->Option (List EV)
 | []=>some cells
 | (i,v)::rest=>
  match place i with
  | none=>none
  | some (off,size)=>Ba (v.plain) (Ba (Nat.beq (len v.cells) size) (match Fq cells off v.cells with
   | some c=>fill place c rest
   | none=>none) none) none
def Yi(tm:Az):List (Nat × Operand)->Option (List (Nat × EV))
 | []=>some []
 | (i,x)::r=>match Cf tm x with
  | some a=>match Yi tm r with
   | some b=>some ((i,a)::b)
   | none=>none
  | none=>none
def rep(l:List EV):Nat->List EV
 | 0=>[]
 | n+1=>l++rep l n
def bound(x:Option EV)(hi dflt:Nat):Option Nat:=
 match x with
 | none=>some dflt
 | some (.int _ (.ofNat n))=>Ba (Nat.ble n hi) (some n) none
 | _=>none
def slc(x:EV)(size:Nat)(lo hi d:Option EV):Option EV:=
 match x with
 | .slice i off len room op=>
  match d with
  | none=>
   match bound hi room len with
   | none=>none
   | some h=>match bound lo h 0 with
    | none=>none
    | some l=>
     Ba op
      (Ba (Nat.beq l 0) (some (.slice i off h room true))
       (Ba (Nat.ble (Nat.succ l) room) (some (.slice i (Nat.add off (Nat.mul l size)) (Nat.sub h l) (Nat.sub room l) true))
        (Ba (Nat.beq l room) (Ba (Nat.beq h l) (some (.tail i (Nat.add off (Nat.mul l size)) off)) none) none)))
      (Ba (Nat.ble l room) (some (.slice i (Ba (Nat.beq room l) off (Nat.add off (Nat.mul l size))) (Nat.sub h l) (Nat.sub room l) false)) none)
  | some _=>
   match bound d room 0,hi with
   | some m,some _=>match bound hi m 0 with
    | none=>none
    | some h=>match bound lo h 0 with
     | none=>none
     | some l=>some (.slice i (Ba (Nat.beq m l) off (Nat.add off (Nat.mul l size))) (Nat.sub h l) (Nat.sub m l) false)
   | _,_=>none
 | .Ao=>
  match d with
  | none=>
   match bound hi 0 0 with
   | none=>none
   | some h=>match bound lo h 0 with
    | none=>none
    | some _=>some .Ao
  | some _=>none
 | _=>none
def Aah(tm:Az):Option Operand->Option (Option EV)
 | none=>some none
 | some x=>match Cf tm x with
  | some v=>some (some v)
  | none=>none
def lenOf:EV->Option Nat
 | .Ao=>some 0
 | .slice _ _ n _ _=>some n
 | .tail ..=>some 0
 | .odd _=>some 0
 | _=>none
def cellsOf(h:Aa)(size n:Nat):EV->Option (List EV)
 | .Ao=>Ba (Nat.beq n 0) (some []) none
 | .slice i off _ _ _=>Ba (Nat.beq n 0) (some []) (Ir h i off (Nat.mul n size))
 | .tail ..=>Ba (Nat.beq n 0) (some []) none
 | _=>none
def append(T:H7)(st:TypeId)(s x:EV)(h:Aa):Option (EV × Aa):=
 match T.Th st with
 | some (.slice e)=>match T.size e,T.zero e with
  | some size,some _=>match lenOf x with
   | some n=>Ba (Nat.beq n 0)
    (match s with
     | .slice _ _ d room _=>Ba (Nat.ble d room) (some (s,h)) none
     | .Ao=>some (s,h)
     | _=>none)
    (Ba (Nat.ble n 65536) (match cellsOf h size n x with
    | some new=>
     (match s with
     | .Ao=>some (.slice h.next 0 n n true,h.new (.vec new e size))
     | .slice i off d room op=>Ba (Nat.ble d 1048576) (match cellsOf h size d s with
      | some Bt=>
       Ba op
        (Ba (Nat.beq off 0) (Ba (Nat.beq room d) (match h.get i with
         | some (.vec l e' s')=>Ba (Nat.beq (len l) (Nat.mul d size)) (Ba (Nat.beq s' size) (Ba (Nat.beq e' e)
          (some (.slice h.next 0 (Nat.add d n) (Nat.add d n) true,(h.del i).new (.vec (Bt++new) e size))) none) none) none
         | _=>none) none) none)
        (Ba (Nat.ble (Nat.add d n) room) none (some (.slice h.next 0 (Nat.add d n) (Nat.add d n) true,h.new (.vec (Bt++new) e size))))
      | none=>none) none
     | _=>none)
    | none=>none) none)
   | none=>none
  | _,_=>none
 | _=>none
def Asy:EV->EV->Option Bool
 | .agg a,.agg b=>E2 a b
 | .int k a,.int k' b=>Ba (Nat.beq (P7 k) (P7 k')) (some (eqB a b)) none
 | _,_=>none
def N5(T:H7)(t:TypeId):EV->Bool
 | .agg a=>Ba (T.key t) (match T.eqs t with
  | some sh=>Ba (shaped sh a) (match E2 a a with|some _=>true|none=>false) false
  | none=>false) false
 | .int k _=>match T.Th t with
  | some (.int k')=>Nat.beq (P7 k) (P7 k')
  | _=>false
 | _=>false
def Hr(k:EV):List (EV × EV)->Nat->Option (Option (Nat × EV))
 | [],_=>some none
 | (a,b)::r,i=>match Asy k a with
  | some true=>some (some (i,b))
  | some false=>Hr k r (Nat.succ i)
  | none=>none
def Abo(d:Bool)(k:IntKind)(a:Int):List EV->Option EV
 | []=>some (.int k a)
 | .int _ b::r=>Abo d k (Ba (Ba d (ltB a b) (ltB b a)) b a) r
 | _=>none
def Bnw(l:List UInt8):Nat:=match l with | []=>0|_::r=>Nat.succ (Bnw r)
def builtin(T:H7)(b:Builtin)(y:Array TypeId)(args:List EV)(h:Aa):Option (EV × Aa):=
 match b,args with
 | .append,[s,x]=>match y.toList with | [t,u]=>(match T.Th u with|some (.slice _)=>append T t s x h|_=>none)|_=>none
 | .len,[x]=>match y.toList with
  | [t]=>match T.Th t,x with
   | some (.array n _),_=>some (.int .i64 (.ofNat n),h)
   | some (.slice _),x=>match lenOf x with|some n=>some (.int .i64 (.ofNat n),h)|none=>none
   | some .string,.str s=>some (.int .i64 (.ofNat (Bnw s.data.toList)),h)
   | some (.chan ..),.chan i=>match h.get i with|some (.chan _ buf)=>some (.int .i64 (.ofNat (len buf)),h)|_=>none
   | _,_=>none
  | _=>none
 | .copy,[d,s]=>match y.toList with
  | [t,u]=>match T.Th t,T.Th u with
   | some (.slice e),some (.slice _)=>match T.size e,lenOf d,lenOf s with
    | some size,some dn,some A=>
     let n:=Ba (Nat.ble A dn) A dn
     Ba (Nat.beq n 0) none (match cellsOf h size n s with
     | some cs=>(match d with
      | .slice i off _ _ _=>match L5 h i off cs with|some h'=>some (.int .i64 (.ofNat n),h')|none=>none
      | _=>none)
     | none=>none)
    | _,_,_=>none
   | _,_=>none
  | _=>none
 | .delete,[m,k]=>match y.toList with
  | t::_=>match T.Th t,m with
   | some (.map B _),.map i=>Ba (N5 T B k) (match h.get i with
    | some (.map es)=>match Hr k es 0 with
     | some (some (j,_))=>some (.tuple [],h.put i (.map (es.eraseIdx j)))
     | some none=>some (.tuple [],h.put i (.map es))
     | none=>none
    | _=>none) none
   | _,_=>none
  | _=>none
 | .min,.int k a::l=>match Abo false k a l with|some v=>some (v,h)|none=>none
 | .max,.int k a::l=>match Abo true k a l with|some v=>some (v,h)|none=>none
 | _,_=>none
def part(T:H7)(t:TypeId)(cs:List EV)(off:Nat):Option EV:=
 match T.agg t with
 | some true=>(match T.size t with
  | some n=>match takeN (X9 cs off) n with|some l=>some (.agg l)|none=>none
  | none=>none)
 | some false=>(match X9 cs off with|v::_=>some v | []=>none)
 | none=>none
def A32(l:List Field)(i:Nat):Option Field:=
 match l with
 | []=>none
 | a::r=>Ba (Nat.beq i 0) (some a) (A32 r (Nat.pred i))
def zeroOf(T:H7)(t:TypeId):Option EV:=
 match T.zero t with
 | some z=>match T.agg t with
  | some true=>some (.agg z)
  | some false=>(match z with | [v]=>some v|_=>none)
  | none=>none
 | none=>none
def placesOf(T:H7):List Field->Option (List (Nat × Nat))
 | []=>some []
 | f::r=>match T.size f.type with
  | some n=>match placesOf T r with
   | some l=>some ((f.offset,n)::l)
   | none=>none
  | none=>none
def Azx(l:List (Nat × Nat))(i:Nat):Option (Nat × Nat):=
 match l with
 | []=>none
 | a::r=>Ba (Nat.beq i 0) (some a) (Azx r (Nat.pred i))
def Bd3(l:List UInt8)(i:Nat):Option UInt8:=
 match l with
 | []=>none
 | a::r=>Ba (Nat.beq i 0) (some a) (Bd3 r (Nat.pred i))
def Eu(T:H7)(tm:Az)(op:Op):Option EV:=
 match op with
 | .move x=>Cf tm x
 | .assign x=>Cf tm x
 | .pick c a b=>match Cf tm c with
  | some (.bool true)=>Cf tm a
  | some (.bool false)=>Cf tm b
  | _=>none
 | .binOp op t x y _=>match Cf tm x with
  | some a=>match Cf tm y with
   | some b=>bin T op t a b
   | none=>none
  | none=>none
 | .unOp .not _ x=>match Cf tm x with
  | some (.bool b)=>some (.bool (Ba b false true))
  | _=>none
 | .unOp .neg _ x=>match Cf tm x with
  | some (.int k n)=>some (.int k (De k (Int.sub 0 n)))
  | _=>none
 | .nilCheck x=>match Cf tm x with
  | some (.ptr i o)=>some (.ptr i o)
  | _=>none
 | .fieldAddr s x f=>match Cf tm x with
  | some (.ptr i off)=>match T.Th s with
   | some (.struct fields)=>match A32 fields.toList f with
    | some fd=>match T.size fd.type with
     | some n=>Ba (Nat.beq n 0) none (some (.ptr i (Nat.add off fd.offset)))
     | none=>none
    | none=>none
   | _=>none
  | _=>none
 | .indexAddr t x ix=>match Cf tm ix with
  | some (.int _ (.ofNat n))=>match T.Th t,Cf tm x with
   | some (.array len e),some (.ptr i off)=>match T.size e with
    | some s=>Ba (Nat.ble (Nat.succ n) len) (some (.ptr i (Nat.add off (Nat.mul n s)))) none
    | none=>none
   | some (.slice e),some (.slice i off len _ _)=>match T.size e with
    | some s=>Ba (Nat.ble (Nat.succ n) len) (some (.ptr i (Nat.add off (Nat.mul n s)))) none
    | none=>none
   | _,_=>none
  | _=>none
 | .index t x ix=>match Cf tm ix with
  | some (.int _ (.ofNat n))=>match T.Th t,Cf tm x with
   | some (.array len e),some (.agg cs)=>match T.size e with
    | some s=>Ba (Nat.ble (Nat.succ n) len) (part T e cs (Nat.mul n s)) none
    | none=>none
   | some .string,some (.str s)=>match Bd3 s.data.toList n with
    | some b=>some (.int .u8 (.ofNat b.toNat))
    | none=>none
   | _,_=>none
  | _=>none
 | .field t x f=>match T.Th t,Cf tm x with
  | some (.struct fields),some (.agg cs)=>match A32 fields.toList f with
   | some fd=>part T fd.type cs fd.offset
   | none=>none
  | _,_=>none
 | .convert src dst x=>match T.Th src,T.Th dst,Cf tm x with
  | some _,some (.int k),some (.int _ n)=>some (.int k (De k n))
  | _,_,_=>none
 | .extract x ix=>match Cf tm x with
  | some (.tuple l)=>match X9 l ix with|v::_=>some v | []=>none
  | _=>none
 | .slice t x lo hi d=>
  match Aah tm lo,Aah tm hi,Aah tm d with
  | some lo,some hi,some d=>match T.Th t,Cf tm x with
   | some (.array n e),some (.ptr i off)=>match T.size e with
    | some s=>slc (.slice i off n n false) s lo hi d
    | none=>none
   | some (.slice e),some v=>match T.size e with
    | some s=>slc v s lo hi d
    | none=>none
   | _,_=>none
  | _,_,_=>none
 | .build t ps=>match T.zero t,Yi tm ps.toList,T.Th t with
  | some z,some l,some (.struct fields)=>match placesOf T fields.toList with
   | some ps=>match fill (Azx ps) z l with
    | some c=>some (.agg c)
    | none=>none
   | none=>none
  | some z,some l,some (.array _ e)=>match T.size e with
   | some s=>match fill (fun i=>some (Nat.mul i s,s)) z l with
    | some c=>some (.agg c)
    | none=>none
   | none=>none
  | _,_,_=>none
 | .makeFunc (.func f) first captured=>match L8 tm first.toList,L8 tm captured.toList with
  | some a,some b=>some (.func f a b)
  | _,_=>none
 | .sliceToArrayPointer t x=>match T.Th t,Cf tm x with
  | some (.array n _),some (.slice i off len _ _)=>Ba (Nat.ble n len) (some (.ptr i off)) none
  | _,_=>none
 | _=>none
def isV:Op->Bool
 | .move _=>true | .assign _=>true | .pick ..=>true | .binOp ..=>true | .unOp ..=>true | .nilCheck _=>true | .fieldAddr ..=>true | .indexAddr ..=>true | .index ..=>true
 | .field ..=>true | .convert ..=>true | .extract ..=>true | .slice ..=>true | .build ..=>true | .makeFunc ..=>true | .sliceToArrayPointer ..=>true
 | _=>false
def Dj(T:H7)(tm:Az)(op:Op)(h:Aa):Option (EV × Aa):=
 match op with
 | .load t a=>match Cf tm a with
  | some (.ptr i off)=>match T.agg t with
   | some true=>(match T.size t with
    | some n=>match Ir h i off n with|some l=>some (.agg l,h)|none=>none
    | none=>none)
   | some false=>(match Ir h i off 1 with|some [v]=>some (v,h)|_=>none)
   | none=>none
  | _=>none
 | .store t a x=>match Cf tm a,Cf tm x,T.size t with
  | some (.ptr i off),some v,some n=>Ba (v.plain) (Ba (Nat.beq (len v.cells) n)
   (match L5 h i off v.cells with|some h'=>some (.tuple [],h')|none=>none) none) none
  | _,_,_=>none
 | .alloc t=>match T.zero t with
  | some z=>some (.ptr h.next 0,h.new (.cells z t))
  | none=>none
 | .box t x=>match Cf tm x with
  | some v=>Ba v.plain (some (.ptr h.next 0,h.new (.cells v.cells t))) none
  | none=>none
 | .call { callee:=.builtin b,args,argTypes }=>match L8 tm args.toList with
  | some as=>builtin T b argTypes as h
  | none=>none
 | .buildSlice t n ps=>match T.Th t,Yi tm ps.toList with
  | some (.slice e),some l=>match T.size e,T.zero e with
   | some s,some z=>Ba (Nat.ble (Nat.mul n s) 65536) (match fill (fun i=>some (Nat.mul i s,s)) (rep z n) l with
    | some c=>some (.slice h.next 0 n n false,h.new (.cells c e))
    | none=>none) none
   | _,_=>none
  | _,_=>none
 | .makeSlice t l c=>match T.Th t,Cf tm l,Cf tm c with
  | some (.slice e),some (.int _ (.ofNat n)),some (.int _ (.ofNat m))=>match T.zero e with
   | some z=>Ba (Nat.ble n m) (Ba (Nat.ble m 65536) (some (.slice h.next 0 n m false,h.new (.cells (rep z m) e))) none) none
   | none=>none
  | _,_,_=>none
 | .makeMap _ none=>some (.map h.next,h.new (.map []))
 | .makeChan t s=>match T.Th t,Cf tm s with
  | some (.chan _ e),some (.int _ (.ofNat n))=>match T.size e with
   | some _=>Ba (Nat.ble n 65536) (some (.chan h.next,h.new (.chan n []))) none
   | none=>none
  | _,_=>none
 | .lookup t x k ok=>match T.Th t,Cf tm x,Cf tm k with
  | some (.map y e),some (.map i),some d=>Ba (N5 T y d) (match h.get i with
   | some (.map es)=>match Hr d es 0 with
    | some (some (_,v))=>some (Ba ok (.tuple [v,.bool true]) v,h)
    | some none=>match zeroOf T e with
     | some u=>some (Ba ok (.tuple [u,.bool false]) u,h)
     | none=>none
    | none=>none
   | _=>none) none
  | _,_,_=>none
 | .mapUpdate t m k x=>match T.Th t,Cf tm m,Cf tm k,Cf tm x with
  | some (.map y _),some (.map i),some d,some v=>Ba (N5 T y d) (match h.get i with
   | some (.map es)=>match Hr d es 0 with
    | some (some (j,_))=>some (.tuple [],h.put i (.map (es.set j (d,v))))
    | some none=>some (.tuple [],h.put i (.map (es++[(d,v)])))
    | none=>none
   | _=>none) none
  | _,_,_,_=>none
 | .select cs false=>match cs.toList with
  | [c]=>match Cf tm c.chan,c.send with
   | some (.chan i),some x=>match h.get i,Cf tm x with
    | some (.chan cap buf),some v=>match zeroOf T c.elem with
     | some _=>Ba (Nat.ble (Nat.succ (len buf)) cap) (some (.tuple [.int .i64 0,.bool false],h.put i (.chan cap (buf++[v]))))
      (some (.tuple [.int .i64 (-1),.bool false],h))
     | none=>none
    | _,_=>none
   | some (.chan i),none=>match h.get i,zeroOf T c.elem with
    | some (.chan cap buf),some u=>
     match buf with
     | v::r=>some (.tuple [.int .i64 0,.bool true,v],h.put i (.chan cap r))
     | []=>some (.tuple [.int .i64 (-1),.bool false,u],h)
    | _,_=>none
   | _,_=>none
  | _=>none
 | _=>none
def setArgs:List EV->Nat->Tr EV->Tr EV
 | [],_,t=>t
 | v::r,i,t=>setArgs r (Nat.succ i) (t.put i (some v))
def Vg:List Tmp->List EV->Nat->Tr EV->Option (Tr EV)
 | [],[],_,t=>some t
 | p::r,v::s,n,t=>Vg r s n (Ba (Nat.ble (Nat.succ p) n) (t.put p (some v)) t)
 | _,_,_,_=>none
def enter(T:H7)(f:Nat)(args:List EV):Option Ah5:=
 match T.fn f with
 | some { ntmps:=n,body:=some c,.. }=>Ba (Nat.ble (len args) n) (some ⟨f,n,setArgs args 0 .nil,[.code c],[],false,none⟩) none
 | _=>none
def Awr(l:List Oper)(i:Nat):Option Oper:=
 match l with
 | []=>none
 | a::r=>Ba (Nat.beq i 0) (some a) (Awr r (Nat.pred i))
def yielded(ops:List Oper)(tm:Az)(j:Nat):Option Bool:=
 match Awr ops j with
 | some o=>match o.dst with
  | some d=>match tm.get d with
   | some (.bool b)=>some b
   | _=>none
  | none=>none
 | none=>none
def wanted(ops:List Oper)(tm:Az)(g:Option (Nat × Bool)):Bool:=
 match g with
 | none=>true
 | some (j,want)=>match yielded ops tm j with|some b=>Ba b want (Ba want false true)|none=>false
def aop(T:H7)(call round:Ai)(tm:Az)(op:Op)(h:Aa):Option (EV × Aa):=
 Ba (isV op) (match Eu T tm op with|some v=>some (v,h)|none=>none)
  (match op with
  | .call { callee:=.value f,args,.. }=>match Cf tm f,L8 tm args.toList with
   | some (.func g first captured),some as=>call g (first++(as++captured)) h
   | some (.Uv l),some as=>round l as h
   | _,_=>none
  | op=>Dj T tm op h)
def Api(T:H7)(call round:Ai)(n:Nat)(ops:List Oper):List Oper->Az->Aa->Option (Az × Aa)
 | [],tm,h=>some (tm,h)
 | ⟨dst,op,_,_,_,g⟩::r,tm,h=>Ba (wanted ops tm g)
  (match aop T call round tm op h with
   | some (v,h')=>Api T call round n ops r (Pc n tm dst v) h'
   | none=>none)
  (Api T call round n ops r (Pc n tm dst (.tuple [])) h)
inductive Cls where
 | val|load|new|pur|sto|big
def Atf:Op->Bool
 | .call { callee:=.builtin .len,.. }=>true
 | .call { callee:=.builtin .min,.. }=>true
 | .call { callee:=.builtin .max,.. }=>true
 | _=>false
def cls:Op->Cls
 | .load ..=>.load
 | .store ..=>.sto
 | .alloc _=>.new | .box ..=>.new | .buildSlice ..=>.new | .makeSlice ..=>.new | .makeMap ..=>.new | .makeChan ..=>.new
 | op=>Ba (isV op) .val (Ba (Atf op) .pur .big)
def Aa1(e:Edge):Bool:=
 match e.ground with
 | .textOnly _=>false
 | .gcOnly _=>false
 | _=>true
def Aiq(bs:Tr Nat):List Edge->Nat->Nat
 | [],x=>x
 | e::r,x=>Aiq bs r (Ba (Aa1 e) (Nat.lor x (Nat.lor (Nat.shiftLeft 1 e.on) (match bs.get e.on with|some y=>y|none=>0))) x)
def Nz:List Oper->Nat->Tr Nat->Tr Nat
 | [],_,bs=>bs
 | o::r,i,bs=>Nz r (Nat.succ i) (bs.put i (some (Aiq bs o.after.toList 0)))
def Adg:List Operand->Nat->Nat
 | [],x=>x
 | .tmp t::r,x=>Adg r (Nat.lor x (Nat.shiftLeft 1 t))
 | _::r,x=>Adg r x
def Ahn(o:Oper):Nat:=match o.dst with|some d=>Nat.shiftLeft 1 d|none=>0
def Yw(ops:List Oper)(o:Oper):Nat:=
 Nat.lor (Adg o.op.operands.toList 0) (match o.guard with|some (j,_)=>(match Awr ops j with|some g=>Ahn g|none=>0)|none=>0)
def A4p(j d l e l' b:Nat):Bool:=
 Ba (Nat.beq (Nat.land b (Nat.shiftLeft 1 j)) 0) (Nat.beq (Nat.lor (Nat.land d (Nat.lor e l')) (Nat.land l e)) 0) true
def As6(e l' b:Nat):List (Nat × Nat)->Nat->Bool
 | [],_=>true
 | (d,l)::r,j=>Ba (A4p j d l e l' b) (As6 e l' b r (Nat.succ j)) false
def Aju(ops:List Oper)(bs:Tr Nat):List Oper->Nat->List (Nat × Nat)->Bool
 | [],_,_=>true
 | o::r,i,ms=>match bs.get i with
  | some b=>Ba (As6 (Ahn o) (Yw ops o) b ms 0) (Aju ops bs r (Nat.succ i) (ms++[(Ahn o,Yw ops o)])) false
  | none=>false
def within(x b:Nat):Bool:=Nat.beq (Nat.land x b) x
def Wl(b q:Nat):List (Nat × Nat)->Bool
 | []=>true
 | (m,w)::r=>Ba (Ba (within m b) true (Nat.ble (Nat.succ q) w)) (Wl b q r) false
def Wz(b w:Nat):List (Nat × Nat)->Bool
 | []=>true
 | (m,q)::r=>Ba (Ba (within m b) true (Nat.ble (Nat.succ q) w)) (Wz b w r) false
def loose(b:Nat):List (Nat × Nat)->List Nat
 | []=>[]
 | (m,q)::r=>Ba (within m b) (loose b r) (q::loose b r)
def Abi(t:Tr Dt):List Nat->Tr Dt
 | []=>t
 | q::r=>(Abi t r).put q none
def Abf(t d:Tr Dt):List Nat->Tr Dt
 | []=>d
 | q::r=>(Abf t d r).put q (t.get q)
structure DSt where
 tm:Az
 h:Aa
 bg:Nat
 nw:List (Nat × Nat)
 Cs:List (Nat × Nat)
 lou:List (Nat × Nat)
 st:List (Nat × Nat)
def E8(b q:Nat):List (Nat × Nat)->Bool
 | []=>true
 | (m,r)::l=>Ba (Ba (within m b) true (Ba (Nat.beq q r) false true)) (E8 b q l) false
def Avv(b:Nat):List (Nat × Nat)->Bool
 | []=>true
 | (m,_)::l=>Ba (within m b) (Avv b l) false
def Ayj(q:Nat):List Nat->Bool
 | []=>true
 | r::l=>Ba (Nat.beq q r) false (Ayj q l)
def U9(T:H7)(call round:Ai)(n:Nat)(ops:List Oper)(bs:Tr Nat)(base:Nat)(o:Oper)(i:Nat)(s:DSt):Option DSt:=
 match o,s with
 | ⟨dst,op,_,_,_,g⟩,⟨tm,h,bg,nw,Cs,lou,st⟩=>Ba (wanted ops tm g)
  (match bs.get i with
  | none=>none
  | some b=>match cls op with
   | .val=>match Eu T tm op with
    | some v=>some ⟨Pc n tm dst v,h,bg,nw,Cs,lou,st⟩
    | none=>none
   | .load=>match op with
    | .load t x=>match Cf tm x with
     | some (.ptr q _)=>
      Ba (Ba (E8 b q st) (Ba (Nat.ble (Nat.succ q) base) (Wl b q lou) (Ba (within bg b) (match loose b nw with | []=>true|_=>false) false)) false) (match Dj T tm (.load t x) h with
      | some (v,_)=>some ⟨Pc n tm dst v,h,bg,nw,(Nat.shiftLeft 1 i,q)::Cs,lou,st⟩
      | none=>none) none
     | _=>none
    | _=>none
   | .new=>match Dj T tm op h with
    | some (v,h')=>some ⟨Pc n tm dst v,h',bg,(Nat.shiftLeft 1 i,h.next)::nw,Cs,lou,st⟩
    | none=>none
   | .sto=>match op with
    | .store t a x=>match Cf tm a with
     | some (.ptr q _)=>
      Ba (Ba (within bg b) (Ba (E8 b q st) (Ba (E8 b q Cs) (Ayj q (loose b nw)) false) false) false) (match Dj T tm (.store t a x) h with
      | some (v,h')=>some ⟨Pc n tm dst v,h',bg,nw,Cs,lou,(Nat.shiftLeft 1 i,q)::st⟩
      | none=>none) none
     | _=>none
    | _=>none
   | .pur=>match Dj T tm op ⟨.nil,h.next,h.next⟩with
    | some (v,_)=>some ⟨Pc n tm dst v,h,bg,nw,Cs,lou,st⟩
    | none=>none
   | .big=>Ba (Ba (within bg b) (Avv b st) false) (match h with
    | ⟨t,nx,mw⟩=>match aop T call round tm op ⟨Abi t (loose b nw),nx,nx⟩with
     | some (v,⟨j,e,d⟩)=>
      Ba (Nat.ble nx d)
       (some ⟨Pc n tm dst v,⟨Abf t j (loose b nw),e,mw⟩,Nat.lor bg (Nat.shiftLeft 1 i),nw,Cs,lou,st⟩)
       (Ba (Wz b d Cs)
        (some ⟨Pc n tm dst v,⟨Abf t j (loose b nw),e,Ba (Nat.ble mw d) mw d⟩,Nat.lor bg (Nat.shiftLeft 1 i),nw,Cs,(Nat.shiftLeft 1 i,d)::lou,st⟩)
        none)
     | none=>none) none)
  (some ⟨Pc n tm dst (.tuple []),h,bg,nw,Cs,lou,st⟩)
def Rn(T:H7)(call round:Ai)(n:Nat)(ops:List Oper)(bs:Tr Nat)(base:Nat):List Oper->Nat->DSt->Option DSt
 | [],_,s=>some s
 | o::r,i,s=>match U9 T call round n ops bs base o i s with
  | some s'=>Rn T call round n ops bs base r (Nat.succ i) s'
  | none=>none
def Ba0(i:Nat):List Edge->Bool
 | []=>true
 | e::r=>Ba (Ba (Aa1 e) (Nat.ble (Nat.succ e.on) i) true) (Ba0 i r) false
def Aml:List Oper->Nat->Bool
 | [],_=>true
 | o::r,i=>Ba (Ba0 i o.after.toList) (Aml r (Nat.succ i)) false
def Ap6(T:H7)(call round:Ai)(n:Nat)(ops:List Oper)(tm:Az)(h:Aa):Option (Az × Aa):=
 Ba (Aml ops 0) (Ba (Aju ops (Nz ops 0 .nil) ops 0 []) (match Rn T call round n ops (Nz ops 0 .nil) h.next ops 0 ⟨tm,h,0,[],[],[],[]⟩with
  | some ⟨d,h',_,_,_,_,_⟩=>some (d,h')
  | none=>none) none) none
def Mb(T:H7)(tm:Az)(h:Aa):List ResultVar->Option (List EV)
 | []=>some []
 | .tmp t::r=>match Mb T tm h r with|some l=>some (tmp tm t::l)|none=>none
 | .cell a t::r=>match tmp tm a,Mb T tm h r,T.size t with
  | .ptr i off,some l,some n=>match Ir h i off n with
   | some cs=>match T.agg t with
    | some true=>some (.agg cs::l)
    | some false=>(match cs with | [v]=>some (v::l)|_=>none)
    | none=>none
   | none=>none
  | _,_,_=>none
inductive AR where
 | go (s:Hi)
 | done (v:EV) (h:Aa)
 | fail
def leave(fn n:Nat)(tm:Az)(todo:List Item)(defers:List Nat)(Dc:Option Nat)(h:Aa)(jump:Option Code):AR:=
 match Dc with
 | none=>match jump with
  | none=>.go ⟨⟨fn,n,tm,todo,defers,true,Dc⟩,h⟩
  | some .ret=>.go ⟨⟨fn,n,tm,todo,defers,true,Dc⟩,h⟩
  | some _=>.fail
 | some l=>match h.get l with
  | some (.loop _ _ f n tm ps asg body d)=>
   match jump with
   | none=>.done (.bool true) (h.put l (.loop .ready none f n tm ps asg body d))
   | some c=>.done (.bool false) (h.put l (.loop .done (some c) f n tm ps asg body d))
  | _=>.fail
def behind(fn n:Nat)(tm:Az)(defers:List Nat)(Dc:Option Nat)(l:Nat)(k:List Item)(r:Option (EV × Aa)):AR:=
 match r with
 | none=>.fail
 | some (_,h)=>match h.get l with
  | some (.loop st p f j e ps asg body d)=>match st with
   | .busy=>.fail
   | _=>.go ⟨⟨fn,n,tm,(match p with|some c=>.code c::k|none=>k),defers,false,Dc⟩,h.put l (.loop .exhausted p f j e ps asg body d)⟩
  | _=>.fail
def Cl(T:H7)(call round:Ai):Hi->AR
 | ⟨⟨fn,n,tm,todo,defers,true,Dc⟩,h⟩=>match defers with
  | d::ds=>match h.get d with
   | some (.deferred true)=>.go ⟨⟨fn,n,tm,todo,ds,true,Dc⟩,h.put d (.deferred false)⟩
   | _=>.fail
  | []=>match T.fn fn with
   | some f=>match Mb T tm h f.results.toList with
    | some [v]=>.done v h
    | some l=>.done (.tuple l) h
    | none=>.fail
   | none=>.fail
 | ⟨⟨fn,n,tm,todo,defers,false,Dc⟩,h⟩=>
  match todo with
  | []=>leave fn n tm todo defers Dc h none
  | .code c::k=>match c with
   | .region _ ops false=>match Api T call round n ops.toList ops.toList tm h with
    | some (e,h')=>.go ⟨⟨fn,n,e,k,defers,false,Dc⟩,h'⟩
    | none=>.fail
   | .region _ ops true=>match Ap6 T call round n ops.toList tm h with
    | some (e,h')=>.go ⟨⟨fn,n,e,k,defers,false,Dc⟩,h'⟩
    | none=>.fail
   | .seq a b=>.go ⟨⟨fn,n,tm,.code a :: .code b::k,defers,false,Dc⟩,h⟩
   | .skip=>.go ⟨⟨fn,n,tm,k,defers,false,Dc⟩,h⟩
   | .cond c a b=>match Cf tm c with
    | some (.bool true)=>.go ⟨⟨fn,n,tm,.code a::k,defers,false,Dc⟩,h⟩
    | some (.bool false)=>.go ⟨⟨fn,n,tm,.code b::k,defers,false,Dc⟩,h⟩
    | _=>.fail
   | .block id c=>.go ⟨⟨fn,n,tm,.code c :: .inBlock id::k,defers,false,Dc⟩,h⟩
   | .loop c=>.go ⟨⟨fn,n,tm,.code c :: .inLoop c::k,defers,false,Dc⟩,h⟩
   | .label _=>.go ⟨⟨fn,n,tm,k,defers,false,Dc⟩,h⟩
   | .exit id=>match exitTo id k with
    | some k'=>.go ⟨⟨fn,n,tm,k',defers,false,Dc⟩,h⟩
    | none=>leave fn n tm todo defers Dc h (some (.exit id))
   | .ret=>leave fn n tm todo defers Dc h (some .ret)
   | .rangeFunc f params asg body=>
    match Cf tm f with
    | some (.func g first captured)=>
     match Dc with
     | none=>
      behind fn n tm (h.next::defers) Dc (Nat.succ h.next) k (call g (first++(.Uv (Nat.succ h.next)::captured)) ((h.new (.deferred true)).new (.loop .ready none fn n tm params.toList asg body h.next)))
     | some l0=>match h.get l0 with
      | some (.loop _ _ _ _ _ _ _ _ d)=>
       behind fn n tm defers Dc h.next k (call g (first++(.Uv h.next::captured)) (h.new (.loop .ready none fn n tm params.toList asg body d)))
      | _=>.fail
    | _=>.fail
   | _=>.fail
  | .inBlock _::k=>.go ⟨⟨fn,n,tm,k,defers,false,Dc⟩,h⟩
  | .inLoop c::k=>.go ⟨⟨fn,n,tm,.code c :: .inLoop c::k,defers,false,Dc⟩,h⟩
  | .beginRound::k=>match Dc with
   | some l=>match h.get l with
    | some (.loop .ready p f j e ps asg body d)=>.go ⟨⟨fn,n,tm,k,defers,false,Dc⟩,h.put l (.loop .busy p f j e ps asg body d)⟩
    | _=>.fail
   | none=>.fail
  | _=>.fail
def Akv(l:Nat)(args:List EV)(h:Aa):Option Ah5:=
 match h.get l with
 | some (.loop _ _ f n tm ps asg body _)=>match Vg ps args n tm with
  | some d=>some ⟨f,n,d,[.code asg,.beginRound,.code body],[],false,some l⟩
  | none=>none
 | _=>none
end
variable {h h' h1 h2:Aa}{v:EV}{tm:Az}{vs:List EV}{hi lo:Option EV}{o o':Dt}{ws:List (Nat × List EV)}{T:H7}
section
section Ba
@[simp] theorem Aj(x y:α):Ba true x y=x:=rfl
@[simp] theorem Bl(x y:α):Ba false x y=y:=rfl
theorem Bn(b:Bool)(x y:α):Ba b x y=if b=true then x else y:=by cases b<;>rfl
theorem An{x:Option α}{r:α}(h:Ba b x none=some r):b=true/\x=some r:=by cases b<;>simp_all [Bn]
theorem Sv{x:Option α}{r:α}(h:Ba b none x=some r):b=false/\x=some r:=by cases b<;>simp_all [Bn]
end Ba
theorem Aap {a b:Nat}(h:a<=b):Nat.ble a b=true:=aQ h
theorem Adj {a b:Nat}(h:¬a<=b):Nat.ble a b=false:=Bool.eq_false_iff.2 fun e=>h (bG e)
theorem beq_false {a b:Nat}(h:a≠b):Nat.beq a b=false:=Bool.eq_false_iff.2 fun e=>h (aJ e)
section tree
theorem Tr.get_nil(i:Nat):(Tr.nil:Tr α).get i=none:=rfl
theorem Tr.Vu(l r:Tr α)(v:Option α)(i:Nat):(Tr.node l v r).get i=if i=0 then v else if i%2=1 then l.get (i/2)else r.get (i/2-1):=by
 have e:(Tr.node l v r).get i=Ba (Nat.beq i 0) v (Ba (Nat.beq (Nat.land i 1) 1) (l.get (Nat.div i 2)) (r.get (Nat.pred (Nat.div i 2)))):=rfl;have e2:Nat.land i 1=i%2:=Nat.and_one_is_mod i;rw[e,Bn,Bn,e2];simp only[Nat.beq_eq];rfl
theorem Tr.set_nil(n i:Nat)(v:Option α):Tr.set (n+1) (.nil:Tr α) i v =
 Ba (Nat.beq i 0) (.node .nil v .nil) (Ba (Nat.beq (Nat.land i 1) 1) (Tr.lf none .nil (Tr.set n .nil (Nat.div i 2) v)) (Tr.rt .nil none (Tr.set n .nil (Nat.pred (Nat.div i 2)) v))):=rfl
theorem Tr.Aoj(n i:Nat)(l r:Tr α)(x v:Option α):Tr.set (n+1) (.node l x r) i v =
 Ba (Nat.beq i 0) (.node l v r) (Ba (Nat.beq (Nat.land i 1) 1) (Tr.lf x r (Tr.set n l (Nat.div i 2) v)) (Tr.rt l x (Tr.set n r (Nat.pred (Nat.div i 2)) v))):=rfl
theorem Tr.Bb8(x:Option α)(r a c:Tr α)(b:Option α):Tr.lf x r (.node a b c)=.node (.node a b c) x r:=rfl
theorem Tr.Bbc(x:Option α)(l a c:Tr α)(b:Option α):Tr.rt l x (.node a b c)=.node l x (.node a b c):=rfl
theorem Tr.Rv:∀(n:Nat) (t:Tr α) (i:Nat) (v:Option α),i+1<2^n->∃a b c,Tr.set n t i v=.node a b c
 | 0,_,i,_,h=>by simp at h
 | n+1,t,i,v,h=>by
  have e2:Nat.land i 1=i%2:=Nat.and_one_is_mod i;rw[eL]at h;by_cases h0:i=0
  ·subst h0
   cases t with
   | nil=>exact⟨_,_,_,rfl⟩
   | node l x r=>exact⟨_,_,_,rfl⟩
  ·have b0:Nat.beq i 0=false:=by cases hb:Nat.beq i 0 with|false=>rfl|true=>exact absurd (aJ hb) h0
   by_cases h1:i%2=1
   ·have b1:Nat.beq (i%2) 1=true:=by rw[h1];rfl
    cases t with
    | nil=>
     obtain⟨a,b,c,e⟩:=Tr.Rv n (.nil:Tr α) (i/2) v (by omega);exact⟨_,_,_,by rw[Tr.set_nil,b0,Bl,e2,b1,Aj];exact congrArg (Tr.lf none .nil) e⟩
    | node l x r=>
     obtain⟨a,b,c,e⟩:=Tr.Rv n l (i/2) v (by omega);exact⟨_,_,_,by rw[Tr.Aoj,b0,Bl,e2,b1,Aj];exact congrArg (Tr.lf x r) e⟩
   ·have b1:Nat.beq (i%2) 1=false:=by cases hb:Nat.beq (i%2) 1 with|false=>rfl|true=>exact absurd (aJ hb) h1
    cases t with
    | nil=>
     obtain⟨a,b,c,e⟩:=Tr.Rv n (.nil:Tr α) (i/2-1) v (by omega);exact⟨_,_,_,by rw[Tr.set_nil,b0,Bl,e2,b1,Bl];exact congrArg (Tr.rt .nil none) e⟩
    | node l x r=>
     obtain⟨a,b,c,e⟩:=Tr.Rv n r (i/2-1) v (by omega);exact⟨_,_,_,by rw[Tr.Aoj,b0,Bl,e2,b1,Bl];exact congrArg (Tr.rt l x) e⟩
theorem Tr.Atp:∀(n:Nat) (t:Tr α) (i:Nat) (v:Option α) (j:Nat),i+1<2^n->(Tr.set n t i v).get j=if i=j then v else t.get j
 | 0,_,i,_,_,h=>by simp at h
 | n+1,t,i,v,j,h=>by
  have e2:Nat.land i 1=i%2:=Nat.and_one_is_mod i;rw[eL]at h;by_cases h0:i=0
  ·subst h0
   cases t with
   | nil=>
    rw[Tr.set_nil,show Nat.beq 0 0=true from rfl,Aj,Tr.Vu];by_cases hj:j=0
    ·simp[hj]
    ·rw[aF hj,aF (cP hj)];simp only[Tr.get_nil,ite_self]
   | node l x r=>
    rw[Tr.Aoj,show Nat.beq 0 0=true from rfl,Aj,Tr.Vu,Tr.Vu];by_cases hj:j=0
    ·simp[hj]
    ·rw[aF hj,aF (cP hj),aF hj]
  ·have b0:Nat.beq i 0=false:=by cases hb:Nat.beq i 0 with|false=>rfl|true=>exact absurd (aJ hb) h0
   by_cases h1:i%2=1
   ·have b1:Nat.beq (i%2) 1=true:=by rw[h1];rfl
    have hs:i/2+1<2^n:=by omega
    cases t with
    | nil=>
     obtain⟨a,b,c,e⟩:=Tr.Rv n (.nil:Tr α) (i/2) v hs;have m:=Tr.Atp n (.nil:Tr α) (i/2) v (j/2) hs;rw[e]at m;have e':Tr.set n (.nil:Tr α) (Nat.div i 2) v=.node a b c:=e;rw[Tr.set_nil,b0,Bl,e2,b1,Aj,e',Tr.Bb8,Tr.Vu];by_cases hj:j=0
     ·subst hj;simp[h0,Tr.get_nil]
     ·rw[aF hj]
      by_cases d:j%2=1
      ·rw[aH d,m]
       by_cases he:i=j
       ·subst he;simp
       ·rw[aF he,aF (by omega)];rfl
      ·rw[aF d,aF (by rintro rfl;exact d h1)];rfl
    | node l x r=>
     obtain⟨a,b,c,e⟩:=Tr.Rv n l (i/2) v hs;have m:=Tr.Atp n l (i/2) v (j/2) hs;rw[e]at m;have e':Tr.set n l (Nat.div i 2) v=.node a b c:=e;rw[Tr.Aoj,b0,Bl,e2,b1,Aj,e',Tr.Bb8,Tr.Vu,Tr.Vu l r x j];by_cases hj:j=0
     ·subst hj;simp[h0]
     ·rw[aF hj,aF hj]
      by_cases d:j%2=1
      ·rw[aH d,aH d,m]
       by_cases he:i=j
       ·subst he;simp
       ·rw[aF he,aF (by omega)]
      ·rw[aF d,aF d,aF (by rintro rfl;exact d h1)]
   ·have b1:Nat.beq (i%2) 1=false:=by cases hb:Nat.beq (i%2) 1 with|false=>rfl|true=>exact absurd (aJ hb) h1
    have hs:i/2-1+1<2^n:=by omega
    cases t with
    | nil=>
     obtain⟨a,b,c,e⟩:=Tr.Rv n (.nil:Tr α) (i/2-1) v hs;have m:=Tr.Atp n (.nil:Tr α) (i/2-1) v (j/2-1) hs;rw[e]at m;have e':Tr.set n (.nil:Tr α) (Nat.pred (Nat.div i 2)) v=.node a b c:=e;rw[Tr.set_nil,b0,Bl,e2,b1,Bl,e',Tr.Bbc,Tr.Vu];by_cases hj:j=0
     ·subst hj;simp[h0,Tr.get_nil]
     ·rw[aF hj]
      by_cases d:j%2=1
      ·rw[aH d,aF (by rintro rfl;exact h1 d)];rfl
      ·rw[aF d,m]
       by_cases he:i=j
       ·subst he;simp
       ·rw[aF he,aF (by omega)];rfl
    | node l x r=>
     obtain⟨a,b,c,e⟩:=Tr.Rv n r (i/2-1) v hs;have m:=Tr.Atp n r (i/2-1) v (j/2-1) hs;rw[e]at m;have e':Tr.set n r (Nat.pred (Nat.div i 2)) v=.node a b c:=e;rw[Tr.Aoj,b0,Bl,e2,b1,Bl,e',Tr.Bbc,Tr.Vu,Tr.Vu l r x j];by_cases hj:j=0
     ·subst hj;simp[h0]
     ·rw[aF hj,aF hj]
      by_cases d:j%2=1
      ·rw[aH d,aH d,aF (by rintro rfl;exact h1 d)]
      ·rw[aF d,aF d,m]
       by_cases he:i=j
       ·subst he;simp
       ·rw[aF he,aF (by omega)]
theorem Tr.get_put(t:Tr α)(i:Nat)(v:Option α)(j:Nat):(t.put i v).get j=if i=j then v else t.get j:=
 Tr.Atp _ t i v j Nat.lt_log2_self
theorem Tr.Ae(t:Tr α)(i:Nat)(v:Option α):(t.put i v).get i=v:=by rw[Tr.get_put,aH rfl]
theorem Tr.Af(t:Tr α){j:Nat}(v:Option α)(h:i≠j):(t.put i v).get j=t.get j:=by rw[Tr.get_put,aF h]
end tree
structure Loc where
 b:Nat->Nat
 sp:Nat->Nat
mutual
def Cn(f:Loc):EV->Value
 | .int k n=>.int k n
 | .bool b=>.bool b
 | .str s=>.string s
 | .ptr i off=>.pointer (some ⟨f.b i,off,none⟩)
 | .Ga=>.pointer none
 | .slice i off len room op=>.slice (some ⟨f.b i,off,none⟩) len (if op=true then room+f.sp i else room)
 | .tail i off poff=>.slice (some ⟨f.b i,if f.sp i=0 then poff else off,none⟩) 0 (f.sp i)
 | .Ao=>.slice none 0 0
 | .odd a=>.slice (some a) 0 0
 | .map i=>.map (some (f.b i))
 | .Akg=>.map none
 | .chan i=>.chan (some (f.b i))
 | .Ac8=>.chan none
 | .func g a c=>.func (.func g) (Br f a).toArray (Br f c).toArray
 | .Uv l=>.func (.yield (f.b l)) #[] #[]
 | .Aft=>.nilFunc
 | .Z8=>.nilIface
 | .agg l=>.agg (Br f l).toArray
 | .tuple l=>.tuple (Br f l).toArray
def Br(f:Loc):List EV->List Value
 | []=>[]
 | v::r=>Cn f v::Br f r
end
theorem Py(f:Loc):∀l:List EV,Br f l=l.map (Cn f)
 | []=>rfl
 | v::r=>by rw[Br,Py f r];rfl
theorem C0(f:Loc)(l:List EV):(Br f l).length=l.length:=by rw[Py,bZ]
theorem Rz(f:Loc)(a b:List EV):Br f (a++b)=Br f a++Br f b:=by simp only[Py,cS]
def EV.one:EV->Bool
 | .agg _=>false
 | .tuple _=>false
 | _=>true
theorem A7k(f:Loc)(v:EV)(h:v.one=true):(Cn f v).oneCell'=true:=by
 cases v<;>first|rfl|(simp[EV.one]at h)
theorem Ar7(f:Loc)(l:List EV)(h:∀v∈l,v.one=true):∀x∈Br f l,x.oneCell'=true:=by
 intro x d;rw[Py,cA]at d;obtain⟨v,e,rfl⟩:=d;exact A7k f v (h v e)
mutual
def EV.ok(p:Nat->Prop):EV->Prop
 | .ptr i _=>p i
 | .slice i _ _ _ _=>p i
 | .tail i _ _=>p i
 | .map i=>p i
 | .chan i=>p i
 | .Uv l=>p l
 | .func _ a c=>EV.Tf p a/\EV.Tf p c
 | .agg l=>EV.Tf p l/\l.all EV.one=true
 | .tuple l=>EV.Tf p l
 | _=>True
def EV.Tf(p:Nat->Prop):List EV->Prop
 | []=>True
 | v::r=>EV.ok p v/\EV.Tf p r
end
theorem Ic(p:Nat->Prop):∀l:List EV,EV.Tf p l↔∀v∈l,v.ok p
 | []=>by simp[EV.Tf]
 | v::r=>by rw[EV.Tf,Ic p r];simp
def Loc.E9(p:Nat->Prop)(f g:Loc):Prop:=∀i,p i->f.b i=g.b i/\f.sp i=g.sp i
theorem Loc.Akl(p:Nat->Prop)(f:Loc):Loc.E9 p f f:=fun _ _=>⟨rfl,rfl⟩
theorem Loc.E9.trans{f g h:Loc}(a:Loc.E9 p f g)(b:Loc.E9 p g h):Loc.E9 p f h:=fun i hi=>⟨(a i hi).1.trans (b i hi).1,(a i hi).2.trans (b i hi).2⟩
theorem Loc.E9.mono{f g:Loc}(a:Loc.E9 p f g)(h:∀i,q i->p i):Loc.E9 q f g:=fun i hi=>a i (h i hi)
mutual
theorem Adi{f g:Loc}(d:Loc.E9 p f g):∀v:EV,v.ok p->Cn f v=Cn g v
 | .int _ _,_=>rfl
 | .bool _,_=>rfl
 | .str _,_=>rfl
 | .ptr i off,h=>by simp only[Cn];rw[(d i h).1]
 | .Ga,_=>rfl
 | .slice i off len room op,h=>by simp only[Cn];rw[(d i h).1,(d i h).2]
 | .tail i off poff,h=>by simp only[Cn];rw[(d i h).1,(d i h).2]
 | .Ao,_=>rfl
 | .odd _,_=>rfl
 | .map i,h=>by simp only[Cn];rw[(d i h).1]
 | .Akg,_=>rfl
 | .chan i,h=>by simp only[Cn];rw[(d i h).1]
 | .Ac8,_=>rfl
 | .func a b c,h=>by simp only[Cn];rw[G7 d b h.1,G7 d c h.2]
 | .Uv l,h=>by simp only[Cn];rw[(d l h).1]
 | .Aft,_=>rfl
 | .Z8,_=>rfl
 | .agg l,h=>by simp only[Cn];rw[G7 d l h.1]
 | .tuple l,h=>by simp only[Cn];rw[G7 d l h]
theorem G7{f g:Loc}(d:Loc.E9 p f g):∀l:List EV,EV.Tf p l->Br f l=Br g l
 | [],_=>rfl
 | v::r,h=>by simp only[Br];rw[Adi d v h.1,G7 d r h.2]
end
mutual
theorem EV.ok.mono(d:∀i,p i->q i):∀v:EV,v.ok p->v.ok q
 | .int _ _,_=>trivial
 | .bool _,_=>trivial
 | .str _,_=>trivial
 | .ptr i _,h=>d i h
 | .Ga,_=>trivial
 | .slice i _ _ _ _,h=>d i h
 | .tail i _ _,h=>d i h
 | .Ao,_=>trivial
 | .odd _,_=>trivial
 | .map i,h=>d i h
 | .Akg,_=>trivial
 | .chan i,h=>d i h
 | .Ac8,_=>trivial
 | .func _ b c,h=>⟨EV.Tf.mono d b h.1,EV.Tf.mono d c h.2⟩
 | .Uv l,h=>d l h
 | .Aft,_=>trivial
 | .Z8,_=>trivial
 | .agg l,h=>⟨EV.Tf.mono d l h.1,h.2⟩
 | .tuple l,h=>EV.Tf.mono d l h
theorem EV.Tf.mono(d:∀i,p i->q i):∀l:List EV,EV.Tf p l->EV.Tf q l
 | [],_=>trivial
 | v::r,h=>⟨EV.ok.mono d v h.1,EV.Tf.mono d r h.2⟩
end
theorem T4(h:v.ok p)(hp:v.plain=true):EV.Tf p v.cells/\∀x∈v.cells,x.one=true:=by
 cases v with
 | tuple l=>simp[EV.plain]at hp
 | agg l=>obtain⟨h1,h2⟩:=h;exact⟨h1,by simpa [EV.cells]using h2⟩
 | _=>exact⟨⟨h,trivial⟩,by simp[EV.cells,EV.one]⟩
theorem Ss(f:Loc)(v:EV):(Cn f v).cells=(Br f v.cells).toArray:=by
 cases v<;>rfl
theorem A73(f:Loc){v:Value}{x:EV}(h:Bcv v=some x):Cn f x=v:=by
 unfold Bcv at h;split at h<;>first|(cases h;rfl)|(cases h)
theorem Bbv(p:Nat->Prop){v:Value}{x:EV}(h:Bcv v=some x):x.ok p/\x.one=true:=by
 unfold Bcv at h;split at h<;>first|(cases h;exact⟨trivial,rfl⟩)|(cases h)
theorem A1y(f:Loc):∀{l:List Value} {xs:List EV},Bcr l=some xs->Br f xs=l
 | [],_,h=>by cases h;rfl
 | v::r,_,h=>by
  unfold Bcr at h;split at h
  ·rename_i x d
   split at h
   ·rename_i y e
    cases h;rw[Br,A73 f d,A1y f e]
   ·cases h
  ·cases h
theorem Bcm(p:Nat->Prop):∀{l:List Value} {xs:List EV},Bcr l=some xs->EV.Tf p xs/\xs.all EV.one=true
 | [],_,h=>by cases h;exact⟨trivial,rfl⟩
 | v::r,_,h=>by
  unfold Bcr at h;split at h
  ·rename_i x d
   split at h
   ·rename_i y e
    cases h;have h1:=Bbv p d;have h2:=Bcm p e;exact⟨⟨h1.1,h2.1⟩,by simp[h1.2];simpa using h2.2⟩
   ·cases h
  ·cases h
theorem Bat(f:Loc){v:Value}{x:EV}(h:ofV v=some x):Cn f x=v:=by
 unfold ofV at h;split at h
 ·rename_i cs
  split at h
  ·rename_i l d
   cases h;rw[Cn,A1y f d]
  ·cases h
 ·rename_i cs
  split at h
  ·rename_i d
   cases h;rw[Cn,Br];congr 1;apply eK;simpa using d.symm
  ·cases h
 ·exact A73 f h
theorem A87(p:Nat->Prop){v:Value}{x:EV}(h:ofV v=some x):x.ok p:=by
 unfold ofV at h;split at h
 ·split at h
  ·rename_i l d
   cases h;exact Bcm p d
  ·cases h
 ·split at h
  ·cases h;trivial
  ·cases h
 ·exact(Bbv p h).1
noncomputable def Be(f:Loc)(n:Nat)(tm:Az):Array Value:=((List.range n).map fun t=>Cn f (tmp tm t)).toArray
structure Lb(p:Nat->Prop)(n:Nat)(tm:Az):Prop where
 ok:∀t v,tm.get t=some v->v.ok p
 out:∀t,n<=t->tm.get t=none
theorem Lb.tmp(h:Lb p n tm)(t:Nat):(tmp tm t).ok p:=by
 unfold Go.Ev.tmp;split
 ·rename_i v d;exact h.ok t v d
 ·trivial
theorem Lb.mono(h:Lb p n tm)(d:∀i,p i->q i):Lb q n tm:=⟨fun t v e=>EV.ok.mono d v (h.ok t v e),h.out⟩
theorem A55(f:Loc)(n:Nat)(tm:Az):(Be f n tm).size=n:=by simp[Be]
theorem Aem(f:Loc)(n:Nat)(tm:Az)(t:Nat):(Be f n tm)[t]? = if t<n then some (Cn f (tmp tm t))else none:=by
 unfold Be;simp only[cD,bB];by_cases h:t<n
 ·simp[h]
 ·simp[h,bh (l:=List.range n) (i:=t) (by simp;omega)]
theorem Z6(f:Loc)(h:Lb p n tm)(t:Nat):(Be f n tm).getD t undef=Cn f (tmp tm t):=by
 rw[eC,Aem];by_cases d:t<n
 ·simp[d]
 ·have:tmp tm t=.tuple []:=by unfold tmp;rw[h.out t (by omega)]
  simp[d,this,Cn,Br,undef]
theorem Bbx(n:Nat)(tm:Az)(d:Nat)(v:EV)(t:Nat):tmp (Pc n tm (some d) v) t=if d=t/\d<n then v else tmp tm t:=by
 unfold Pc;by_cases hd:d<n
 ·simp only[show Nat.ble (Nat.succ d) n=true from Aap hd,Aj]
  unfold tmp;rw[Tr.get_put];by_cases e:d=t
  ·simp[e,e▸hd]
  ·simp[e]
 ·simp only[show Nat.ble (Nat.succ d) n=false from Adj hd,Bl]
  rw[aF (by omega)]
theorem Ayc(f:Loc)(n:Nat)(tm:Az)(d:Nat)(v:EV):(Be f n tm).setIfInBounds d (Cn f v)=Be f n (Pc n tm (some d) v):=by
 apply fV;intro t;rw[Aem,Array.getElem?_setIfInBounds,A55,Aem,Bbx];by_cases hd:d=t
 ·subst hd
  by_cases e:d<n<;>simp[e]
 ·simp[hd]
theorem Lb.put(h:Lb p n tm)(d:Option Tmp)(y:v.ok p):Lb p n (Pc n tm d v):=by
 cases d with
 | none=>exact h
 | some d=>
  unfold Pc;by_cases hd:d<n
  ·simp only[show Nat.ble (Nat.succ d) n=true from Aap hd,Aj]
   refine⟨fun t x j=>?_,fun t u=>?_⟩
   ·rw[Tr.get_put]at j
    split at j
    ·cases j;exact y
    ·exact h.ok t x j
   ·have m:(d:Nat)≠t:=fun e=>by have h1:(d:Nat)<n:=hd;have h2:n<=t:=u;rw[<-e]at h2;exact absurd h1 (Nat.not_lt.2 h2)
    rw[Tr.Af _ _ m];exact h.out t u
  ·simp only[show Nat.ble (Nat.succ d) n=false from Adj hd,Bl]
   exact h
theorem Ku{f g:Loc}(d:Loc.E9 p f g)(h:Lb p n tm):Be f n tm=Be g n tm:=by
 unfold Be;congr 1;apply cW;intro t _;exact Adi d _ (h.tmp t)
structure Reads(f:Loc)(tm:Az)(ρ:Operand->Value):Prop where
 tmp:∀t,ρ (.tmp t)=Cn f (tmp tm t)
 const:∀v,ρ (.const v)=v
 func:∀g,ρ (.func g)=.func (.func g) #[] #[]
theorem Bh {f:Loc}(d:Reads f tm ρ)(h:Cf tm x=some v):ρ x=Cn f v:=by
 cases x with
 | tmp t=>rw[d.tmp];simp only[Cf]at h;cases h;rfl
 | const c=>rw[d.const];exact(Bat f h).symm
 | global g=>cases h
 | func g=>rw[d.func];cases h;rfl
theorem Em(d:Lb p n tm)(h:Cf tm x=some v):v.ok p:=by
 cases x with
 | tmp t=>simp only[Cf]at h;cases h;exact d.tmp t
 | const c=>exact A87 p h
 | global g=>cases h
 | func g=>cases h;exact⟨trivial,trivial⟩
theorem Yu {f:Loc}(d:Reads f tm ρ):∀{xs:List Operand} {l:List EV},L8 tm xs=some l->xs.map ρ=Br f l
 | [],_,h=>by cases h;rfl
 | x::r,_,h=>by
  unfold L8 at h;split at h
  ·rename_i a e
   split at h
   ·rename_i b hb
    cases h;rw[dL,Bh d e,Yu d hb,Br]
   ·cases h
  ·cases h
theorem Aik(d:Lb p n tm):∀{xs:List Operand} {l:List EV},L8 tm xs=some l->EV.Tf p l
 | [],_,h=>by cases h;trivial
 | x::r,_,h=>by
  unfold L8 at h;split at h
  ·rename_i a e
   split at h
   ·rename_i b hb
    cases h;exact⟨Em d e,Aik d hb⟩
   ·cases h
  ·cases h
theorem Aj2 {f:Loc}(d:Reads f tm ρ):∀{xs:List (Nat × Operand)} {l:List (Nat × EV)},Yi tm xs=some l->xs.map (fun(i,x)=>(i,ρ x))=l.map (fun(i,v)=>(i,Cn f v))
 | [],_,h=>by cases h;rfl
 | (i,x)::r,_,h=>by
  unfold Yi at h;split at h
  ·rename_i a e
   split at h
   ·rename_i b hb
    cases h;rw[dL,dL,Aj2 d hb];show(i,ρ x)::_=(i,Cn f a)::_;rw[Bh d e]
   ·cases h
  ·cases h
theorem Asm(e:Lb p n tm):∀{xs:List (Nat × Operand)} {l:List (Nat × EV)},Yi tm xs=some l->∀q∈l,q.2.ok p
 | [],_,h=>by cases h;simp
 | (i,x)::r,_,h=>by
  unfold Yi at h;split at h
  ·rename_i a j
   split at h
   ·rename_i b hb
    cases h;intro q d;rcases bS.1 d with rfl|d
    ·exact Em e j
    ·exact Asm e hb q d
   ·cases h
  ·cases h
end
variable {f g:Loc}
section
theorem Tq:∀l:List EV,len l=l.length
 | []=>rfl
 | _::r=>by rw[len,Tq r];rfl
theorem Rp:∀(l:List EV) (n:Nat),X9 l n=l.drop n
 | [],n=>by simp[X9]
 | a::r,0=>rfl
 | a::r,n+1=>by
  have:X9 (a::r) (n+1)=X9 r n:=rfl;rw[this,Rp r n];rfl
theorem Adn:∀{l:List EV} {n:Nat} {x:List EV},takeN l n=some x->n<=l.length/\x=l.take n
 | [],0,x,h=>by cases h;exact⟨aE _,rfl⟩
 | [],n+1,x,h=>by cases h
 | a::r,0,x,h=>by cases h;exact⟨cQ _,rfl⟩
 | a::r,n+1,x,h=>by
  have e:takeN (a::r) (n+1)=match takeN r n with|some x=>some (a::x)|none=>none:=rfl
  rw[e]at h;split at h
  ·rename_i y d
   cases h;obtain⟨h1,rfl⟩:=Adn d;exact⟨by simp;omega,rfl⟩
  ·cases h
theorem Akb:∀{l vs x:List EV},Jd l vs=some x->vs.length<=l.length/\x=vs++l.drop vs.length
 | l,[],x,h=>by
  have:Jd l []=some l:=by cases l<;>rfl
  rw[this]at h;cases h;exact⟨cQ _,rfl⟩
 | [],v::vs,x,h=>by cases h
 | a::r,v::vs,x,h=>by
  have e:Jd (a::r) (v::vs)=match Jd r vs with|some x=>some (v::x)|none=>none:=rfl
  rw[e]at h;split at h
  ·rename_i y d
   cases h;obtain⟨h1,rfl⟩:=Akb d;exact⟨by simp;omega,rfl⟩
  ·cases h
theorem V7:∀{l:List EV} {off:Nat} {vs x:List EV},Fq l off vs=some x->off+vs.length<=l.length/\x=l.take off++vs++l.drop (off+vs.length)
 | [],0,vs,x,h=>by
  have e:Fq [] 0 vs=Jd [] vs:=rfl;rw[e]at h;obtain⟨h1,rfl⟩:=Akb h;exact⟨by omega,by simp⟩
 | [],off+1,vs,x,h=>by cases h
 | a::r,0,vs,x,h=>by
  have e:Fq (a::r) 0 vs=Jd (a::r) vs:=rfl;rw[e]at h;obtain⟨h1,rfl⟩:=Akb h;exact⟨by omega,by simp⟩
 | a::r,off+1,vs,x,h=>by
  have e:Fq (a::r) (off+1) vs=match Fq r off vs with|some x=>some (a::x)|none=>none:=rfl
  rw[e]at h;split at h
  ·rename_i y d
   cases h;obtain⟨h1,rfl⟩:=V7 d;refine⟨by simp;omega,?_⟩;rw[show off+1+vs.length=(off+vs.length)+1 from by omega];simp
  ·cases h
theorem Aq8 {l:List EV}{x:List EV}(h:Fq l off vs=some x)(d:v∈x):v∈l\/v∈vs:=by
 obtain⟨h1,rfl⟩:=V7 h;simp only[bJ]at d;rcases d with(d|d)|d
 ·exact .inl (bc d)
 ·exact .inr d
 ·exact .inl (aS d)
theorem A30:∀(l:List Field) (i:Nat),A32 l i=l[i]?
 | [],i=>by simp[A32]
 | a::r,0=>rfl
 | a::r,i+1=>by
  have:A32 (a::r) (i+1)=A32 r i:=rfl;rw[this,A30 r i];simp
theorem Aw2:∀(l:List Oper) (i:Nat),Awr l i=l[i]?
 | [],i=>by simp[Awr]
 | a::r,0=>rfl
 | a::r,i+1=>by
  have:Awr (a::r) (i+1)=Awr r i:=rfl;rw[this,Aw2 r i];simp
theorem Ajx(l:List EV):∀n,(rep l n).length=n*l.length
 | 0=>by simp[rep]
 | n+1=>by rw[rep,aG,Ajx l n,fQ];omega
theorem Ast {l:List EV}:∀{n:Nat},v∈rep l n->v∈l
 | 0,h=>by simp[rep]at h
 | n+1,h=>by
  rw[rep,bJ]at h;rcases h with h|h
  ·exact h
  ·exact Ast h
theorem Bav(l:List EV):∀(n i:Nat),i<n*l.length->(rep l n)[i]? = l[i%l.length]?
 | 0,i,h=>by simp at h
 | n+1,i,h=>by
  rw[rep];by_cases hi:i<l.length
  ·rw[bX hi,fN hi]
  ·rw[bR (by omega),Bav l n (i-l.length) (by rw[fQ]at h;omega)]
   rw[<-Nat.mod_eq_sub_mod (by omega)]
theorem Ans(h:Nat.beq (P7 k) (P7 k')=true):k=k':=by
 cases k<;>cases k'<;>first|rfl|(cases h)
theorem A4t(k:IntKind)(hs:k.signed=false)(n:Int)(h0:0<=n)(h1:n<2^k.bits):k.wrap n=n:=by
 unfold IntKind.wrap;simp only[hs,av,aX,ak];exact Int.emod_eq_of_lt h0 h1
theorem Ahv(k:IntKind)(hs:k.signed=true)(n M:Int)(j:(2:Int)^k.bits=2*M)(d:(2:Int)^(k.bits-1)=M)(h0 : -M<=n)(h1:n<M):k.wrap n=n:=by
 unfold IntKind.wrap;simp only[hs,bA,aU,j,d,ge_iff_le];by_cases m:0<=n
 ·rw[Int.emod_eq_of_lt m (by omega),aF (by omega)]
 ·have e:n%(2*M)=n+2*M:=by
   rw[<-Int.add_emod_right];exact Int.emod_eq_of_lt (by omega) (by omega)
  rw[e,aH (by omega)];omega
theorem Lc(k:IntKind)(n:Int):De k n=k.wrap n:=by
 cases n with
 | ofNat m=>
  show Ba (Nat.ble (Nat.succ m) (lid k)) (Int.ofNat m) (k.wrap (Int.ofNat m))=_;rw[Bn];split
  ·rename_i h
   have h:=bG h;symm;cases k<;>simp only[lid]at h
   case u8=>exact A4t _ rfl _ (by simp) (by simp only[IntKind.bits,aZ];omega)
   case u16=>exact A4t _ rfl _ (by simp) (by simp only[IntKind.bits,aZ];omega)
   case u32=>exact A4t _ rfl _ (by simp) (by simp only[IntKind.bits,aZ];omega)
   case u64=>exact A4t _ rfl _ (by simp) (by simp only[IntKind.bits,aZ];omega)
   case i8=>exact Ahv _ rfl _ 128 rfl rfl (by simp only[aZ];omega) (by simp only[aZ];omega)
   case i16=>exact Ahv _ rfl _ 32768 rfl rfl (by simp only[aZ];omega) (by simp only[aZ];omega)
   case i32=>exact Ahv _ rfl _ 2147483648 rfl rfl (by simp only[aZ];omega) (by simp only[aZ];omega)
   case i64=>exact Ahv _ rfl _ 9223372036854775808 rfl rfl (by simp only[aZ];omega) (by simp only[aZ];omega)
  ·rfl
 | negSucc m=>
  show Ba (Nat.ble (Nat.succ m) (floor k)) (Int.negSucc m) (k.wrap (Int.negSucc m))=_;rw[Bn];split
  ·rename_i h
   have h:=bG h;symm;cases k<;>simp only[floor]at h
   case i8=>exact Ahv _ rfl _ 128 rfl rfl (by rw[dA];omega) (by rw[dA];omega)
   case i16=>exact Ahv _ rfl _ 32768 rfl rfl (by rw[dA];omega) (by rw[dA];omega)
   case i32=>exact Ahv _ rfl _ 2147483648 rfl rfl (by rw[dA];omega) (by rw[dA];omega)
   case i64=>exact Ahv _ rfl _ 9223372036854775808 rfl rfl (by rw[dA];omega) (by rw[dA];omega)
   all_goals exact absurd h (by omega)
  ·rfl
theorem Auv(a b:Int):ltB a b=decide (a<b):=by
 cases a<;>cases b<;>simp only[ltB]<;>(first
  | (rw[eD];simp only[dD,aU];simp only[aZ,dA];omega)
  | (simp only[aZ,dA];symm;first|(rw[cZ];omega)|(rw[aU];omega)))
theorem Ah1(a b:Int):eqB a b=decide (a=b):=by
 cases a<;>cases b<;>simp only[eqB]<;>(first
  | (rw[eD];simp only[Nat.beq_eq,aU];simp only[aZ,dA];omega)
  | (simp only[aZ,dA];symm;rw[cZ];omega))
theorem Axf(k:IntKind)(x:Nat):k.wrap ((x%2^k.bits:Nat):Int)=k.wrap (x:Int):=by
 unfold IntKind.wrap;have:((x%2^k.bits:Nat):Int)%(2^k.bits:Int)=(x:Int)%(2^k.bits:Int):=by
  rw[Int.natCast_emod];simp
 simp only[this]
theorem Bhf(k:IntKind)(a b:Nat):k.wrap (((BitVec.ofInt k.bits (Int.ofNat a)&&& BitVec.ofInt k.bits (Int.ofNat b)).toNat:Nat):Int)=k.wrap (Int.ofNat (Nat.land a b)):=by
 have:(BitVec.ofInt k.bits (Int.ofNat a)&&& BitVec.ofInt k.bits (Int.ofNat b)).toNat=(a&&& b)%2^k.bits:=by
  simp only[aZ,BitVec.ofInt_natCast,BitVec.toNat_and,BitVec.toNat_ofNat];rw[Nat.and_mod_two_pow]
 rw[this,Axf];rfl
theorem Bla(k:IntKind)(a b:Nat):k.wrap (((BitVec.ofInt k.bits (Int.ofNat a)||| BitVec.ofInt k.bits (Int.ofNat b)).toNat:Nat):Int)=k.wrap (Int.ofNat (Nat.lor a b)):=by
 have:(BitVec.ofInt k.bits (Int.ofNat a)||| BitVec.ofInt k.bits (Int.ofNat b)).toNat=(a||| b)%2^k.bits:=by
  simp only[aZ,BitVec.ofInt_natCast,BitVec.toNat_or,BitVec.toNat_ofNat];rw[Nat.or_mod_two_pow]
 rw[this,Axf];rfl
theorem Bhz(k:IntKind)(a b:Nat):k.wrap (((BitVec.ofInt k.bits (Int.ofNat a) ^^^ BitVec.ofInt k.bits (Int.ofNat b)).toNat:Nat):Int)=k.wrap (Int.ofNat (Nat.xor a b)):=by
 have:(BitVec.ofInt k.bits (Int.ofNat a) ^^^ BitVec.ofInt k.bits (Int.ofNat b)).toNat=(a ^^^ b)%2^k.bits:=by
  simp only[aZ,BitVec.ofInt_natCast,BitVec.toNat_xor,BitVec.toNat_ofNat];rw[Nat.xor_mod_two_pow]
 rw[this,Axf];rfl
section
variable(f:Loc)(w:World)
theorem Bjl{a b:Int}(t:TypeId)(hs:Aw8 op=false)(h:Bfi op k a b=some v):
 (binOp op t (.int k a) (.int k b)).run P w=.ok (Cn f v) w:=by
 cases op<;>simp only[Bfi]at h
 case add=>cases h;simp[binOp,Op.intArith,Cn,Lc];try rfl
 case sub=>cases h;simp[binOp,Op.intArith,Cn,Lc];try rfl
 case mul=>cases h;simp[binOp,Op.intArith,Cn,Lc];try rfl
 case quo=>
  obtain⟨h1,h2⟩:=Sv h;cases h2;rw[Ah1,cZ]at h1;simp[binOp,Op.intDiv,Cn,Lc,h1]
 case rem=>
  obtain⟨h1,h2⟩:=Sv h;cases h2;rw[Ah1,cZ]at h1;simp[binOp,Op.intDiv,Cn,h1]
 case and=>
  split at h
  ·cases h;simp only[binOp,ne_eq,aC,ak,Op.intBits,aT,Bhf,Cn,Lc]
  ·cases h
 case or=>
  split at h
  ·cases h;simp only[binOp,ne_eq,aC,ak,Op.intBits,aT,Bla,Cn,Lc]
  ·cases h
 case xor=>
  split at h
  ·cases h;simp only[binOp,ne_eq,aC,ak,Op.intBits,aT,Bhz,Cn,Lc]
  ·cases h
 case lss=>cases h;simp only[binOp,ne_eq,aC,ak,Op.intCmp,aT,Cn,Auv]
 case gtr=>cases h;simp only[binOp,ne_eq,aC,ak,Op.intCmp,aT,Cn,Auv,gt_iff_lt]
 case eql=>
  cases h;simp only[binOp,ne_eq,aC,ak,Op.intCmp,aT,Cn,Ah1];congr 2
 case neq=>
  cases h;simp only[binOp,ne_eq,aC,ak,Op.intCmp,aT,Cn,Ah1,Bn];congr 2;by_cases e:a=b<;>simp[e]
 case leq=>
  cases h;simp only[binOp,ne_eq,aC,ak,Op.intCmp,aT,Cn,Auv,Bn];congr 2;by_cases e:b<a
  ·simp[e]
  ·simp[e,Int.not_lt.1 e]
 case geq=>
  cases h;simp only[binOp,ne_eq,aC,ak,Op.intCmp,aT,Cn,Auv,Bn];congr 2;by_cases e:a<b
  ·simp[e]
  ·simp[e,Int.not_lt.1 e]
 all_goals first|(cases h;done)|(simp[Aw8]at hs;done)
theorem Bes{a:Int}{b:Nat}(t:TypeId)(h:A3s op k a b=some v):
 (binOp op t (.int k a) (.int k' (.ofNat b))).run P w=.ok (Cn f v) w:=by
 have hm:Ba (Nat.ble b k.bits) b k.bits=min b k.bits:=by
  rw[Bn];simp only[dD];split<;>omega
 have hb:¬(Int.ofNat b<0):=by simp
 cases op<;>simp only[A3s]at h
 case shl=>
  cases h;simp only[binOp,Op.shift,hb,ak,aT,Cn,Lc,hm];congr 3
 case shr=>
  split at h
  ·cases h
   simp only[binOp,Op.shift,hb,ak,aT,Cn,hm];congr 2;simp only[aZ,bD];have e:Nat.shiftRight=fun(a b:Nat)=>a >>> b:=rfl
   simp only[e];rw[fL,fI _ (by exact_mod_cast cQ _)];simp
  ·cases h
   simp only[binOp,Op.shift,hb,ak,aT,Cn,hm];congr 2
 all_goals (cases h;done)
end
end
section
def Auh:TypeDesc->Bool
 | .struct _=>true
 | .array _ _=>true
 | _=>false
structure P6(P:Program)(T:H7):Prop where
 mixed:P.follows .mixedOrders=true
 fn:∀g fn,T.fn g=some fn->P.funcs[g]? = some fn/\(fn.name == "runtime.NumGoroutine")=false
 Th:∀t d,T.Th t=some d->P.underlying t=some d
 size:∀t n,T.size t=some n->∃i,P.info? t=some i/\i.size=n/\i.bytes<=1048576
 zero:∀t z,T.zero t=some z->∃i v x,P.info? t=some i/\i.zero=some v/\ofV v=some x/\x.plain=true/\z=x.cells/\i.size=z.length/\i.bytes<=1048576 /\
  (T.agg t=some true->x=.agg z)/\(T.agg t=some false->z = [x])
 agg:∀t b,T.agg t=some b->∃d,P.underlying t=some d/\Auh d=b
 eqs:∀t sh,T.eqs t=some sh->P.eqGuardType P.depth t=false/\∀(f:Loc) (w:World) (a b:List EV) (r:Bool),E2 a b=some r->shaped sh a=true ->
  (Op.equal t (.agg (Br f a).toArray) (.agg (Br f b).toArray)).run P w=.ok r w
 key:∀t,T.key t=true->(∃d,P.underlying t=some d/\Auh d=true)/\∀(f:Loc) (w:World) (e:Bool) (a:List EV) (sh:List Nat),T.eqs t=some sh->shaped sh a=true ->
  (Instr.checkKey e 10000 t (.agg (Br f a).toArray)).run P w=.ok () w
section
variable(hT:P6 P T)(w:World)
include hT
theorem Ds{d:TypeDesc}(h:T.Th t=some d):(underlying t).run P w=.ok d w:=by
 simp[underlying,hT.Th t d h]
theorem Gq(h:T.size t=some n):(sizeOf t).run P w=.ok n w:=by
 obtain⟨i,h1,h2,_⟩:=hT.size t n h;simp[sizeOf,typeInfo,h1,h2]
theorem Ao2(h:T.agg t=some b):(isAgg t).run P w=.ok b w:=by
 obtain⟨d,h1,h2⟩:=hT.agg t b h;subst h2;cases d<;>simp[isAgg,underlying,h1,Auh]
theorem A6c(f:Loc){cs:List EV}(h:part T t cs off=some v):(Go.part t (Br f cs).toArray off).run P w=.ok (Cn f v) w:=by
 unfold part at h;split at h
 ·rename_i e
  split at h
  ·rename_i n m
   split at h
   ·rename_i l d
    cases h;obtain⟨h1,rfl⟩:=Adn d;rw[Rp]at h1⊢;simp only[Go.part,Sem.run_bind,Ao2 hT w e,aI,bI,Gq hT w m,aT,Cn];congr 2;apply eK;simp[Py,List.extract_eq_take_drop]
   ·cases h
  ·cases h
 ·rename_i e
  split at h
  ·rename_i x r d
   cases h;rw[Rp]at d;have:(Br f cs).toArray[off]? = some (Cn f v):=by
    have h1:cs[off]? = some v:=by
     have:=dJ (xs:=cs) (i:=off) (j:=0);rw[d]at this;simpa using this.symm
    simp[Py,h1]
   simp only[Go.part,Sem.run_bind,Ao2 hT w e,aI,aX,ak,this,aT]
  ·cases h
 ·cases h
end
theorem T8(b o n:Nat):(⟨b,o,none⟩:Addr).add n=⟨b,o+n,none⟩:=by
 unfold Addr.add;split
 ·rename_i h;subst h;rfl
 ·rfl
theorem Bah(cells vs:List Value)(off:Nat)(h:off+vs.length<=cells.length):
 vs.toArray.zipIdx.foldl (fun cs (x:Value × Nat)=>cs.setIfInBounds (off+x.2) x.1) cells.toArray=(cells.take off++vs++cells.drop (off+vs.length)).toArray:=by
 obtain⟨h1,h2⟩:=Great.foldl_set off vs 0 cells.toArray;have e:vs.toArray.zipIdx.foldl (fun cs (x:Value × Nat)=>cs.setIfInBounds (off+x.2) x.1) cells.toArray=(vs.zipIdx 0).foldl (fun cs (x:Value × Nat)=>cs.setIfInBounds (off+x.2) x.1) cells.toArray:=by
  simp
 rw[e];apply fV;intro k;rw[h2 k];simp only[dO,dY,cD];by_cases c1:k<off
 ·rw[aF (by omega),cR,bX (by simp;omega),List.getElem?_take_of_lt c1]
 ·by_cases c2:k<off+vs.length
  ·rw[aH (by omega),bX (by simp;omega),bR (by simp;omega)]
   congr 1;simp;omega
  ·rw[aF (by omega),bR (by simp;omega),dJ]
   congr 1;simp;omega
theorem Amj(f:Loc)(l vs:List EV)(off:Nat):Br f (l.take off++vs++l.drop (off+vs.length))=(Br f l).take off++Br f vs++(Br f l).drop (off+(Br f vs).length):=by
 simp[Py,List.map_take,List.map_drop]
theorem Ase(f:Loc)(place:Nat->Option (Nat × Nat))(d:Nat->Option (Nat × Nat))(hp:∀i q,place i=some q->d i=some q):
 ∀{cells:List EV} {l:List (Nat × EV)} {c:List EV},fill place cells l=some c->Instr.fill d (Br f cells).toArray (l.map fun(i,v)=>(i,Cn f v))=some (Br f c).toArray
 | cells,[],c,h=>by cases h;rfl
 | cells,(i,v)::r,c,h=>by
  unfold fill at h;split at h
  ·cases h
  ·rename_i off size u
   obtain⟨_,h⟩:=An h;obtain⟨h1,h2⟩:=An h;split at h2
   ·rename_i x y
    rw[Tq]at h1;have m:v.cells.length=size:=aJ h1;obtain⟨B,h4⟩:=V7 y;simp only[dL,Instr.fill,hp i _ u];have A:(Cn f v).cells=(Br f v.cells).toArray:=Ss f v;rw[A];simp only[dY,C0];rw[aF (by simp[m];omega)];have e:=Bah (Br f cells) (Br f v.cells) off (by simp only[C0];omega);have e2:(fun(cs:Array Value) (x:Value × Nat)=>match x with|(c,j)=>cs.setIfInBounds (off+j) c)=fun cs x=>cs.setIfInBounds (off+x.2) x.1:=rfl
    rw[e2,e,<-Amj,<-h4];exact Ase f place d hp h2
   ·cases h2
theorem Amm(place:Nat->Option (Nat × Nat)){q:EV->Prop}:∀{cells:List EV} {l:List (Nat × EV)} {c:List EV},fill place cells l=some c->(∀v∈cells,q v)->(∀x∈l,∀v∈x.2.cells,q v)->∀v∈c,q v
 | cells,[],c,h,d,_=>by cases h;exact d
 | cells,(i,v)::r,c,h,d,e=>by
  unfold fill at h;split at h
  ·cases h
  ·obtain⟨_,h⟩:=An h
   obtain⟨h1,h2⟩:=An h;split at h2
   ·rename_i x j
    refine Amm place h2 (fun u hu=>?_) (fun y m=>e y (by simp[m]));rcases Aq8 j hu with hu|hu
    ·exact d u hu
    ·exact e (i,v) (by simp) u hu
   ·cases h2
theorem Akj(place:Nat->Option (Nat × Nat)):∀{cells:List EV} {l:List (Nat × EV)} {c:List EV},fill place cells l=some c->∀q∈l,q.2.plain=true
 | cells,[],c,h=>by simp
 | cells,(i,v)::r,c,h=>by
  unfold fill at h;split at h
  ·cases h
  ·obtain⟨h0,h⟩:=An h
   obtain⟨h1,h2⟩:=An h;split at h2
   ·intro q d
    rcases bS.1 d with rfl|d
    ·exact h0
    ·exact Akj place h2 q d
   ·cases h2
theorem Ao8:∀(a b:List UInt8),Beu a b=decide (a=b)
 | [],[]=>rfl
 | a::r,b::s=>by
  simp only[Beu];rw[Bn,Ao8 r s];by_cases h:a=b
  ·subst h
   rw[aH (by simp)];simp
  ·rw[aF]
   ·simp[h]
   ·intro e;exact h (UInt8.toNat_inj.1 (aJ e))
 | [],_::_=>rfl
 | _::_,[]=>rfl
theorem Aw6(a b:ByteArray):Beu a.data.toList b.data.toList=(a == b):=by
 obtain⟨⟨x⟩⟩:=a;obtain⟨⟨y⟩⟩:=b;show Beu x y=((⟨x⟩:Array UInt8) == ⟨y⟩);rw[Ao8];simp only[List.beq_toArray];by_cases h:x=y
 ·subst h;simp
 ·have:(x == y)=false:=by simpa using h
  rw[this];simp[h]
theorem Bdd {a b:ByteArray}(h:(a == b)=true):a=b:=by
 rw[<-Aw6,Ao8]at h;have:=dI h;cases a;cases b;simp only[ByteArray.mk.injEq];apply eK;exact this
section
variable(hT:P6 P T)(f:Loc)(w:World)
theorem Ja(op:BinOp)(t:TypeId)(x y:Operand)(a b:Value)(h1:∀c d,¬(a=.agg c/\b=.agg d))(h2:¬(a=.nilIface/\b=.nilIface)):(eqGuard op t x y a b).run P w=.ok () w:=by
 unfold eqGuard;cases op<;>simp<;>(split<;>first|rfl|(rename_i e1 e2;exact absurd ⟨rfl,rfl⟩ h2)|(rename_i c d;exact absurd ⟨rfl,rfl⟩ (h1 c d))|simp_all)
theorem A40(op:BinOp)(t:TypeId)(x y:Operand)(c d:Array Value)(h:P.eqGuardType P.depth t=false):(eqGuard op t x y (.agg c) (.agg d)).run P w=.ok () w:=by
 unfold eqGuard;cases op<;>simp[h]
theorem A01(d:Nat)(t:TypeId)(a b:Bool)(hu:P.underlying t=some .bool):(Op.equalIn (d+1) t (.bool a) (.bool b)).run P w=.ok (a == b) w:=by
 simp[Op.equalIn,underlying,hu]
theorem Bju(d:Nat)(t:TypeId)(a b:ByteArray)(hu:P.underlying t=some .string):(Op.equalIn (d+1) t (.string a) (.string b)).run P w=.ok (a == b) w:=by
 simp[Op.equalIn,underlying,hu]
theorem A54(d:Nat)(t:TypeId)(e:TypeId)(b:Option Addr)(hu:P.underlying t=some (.pointer e)):(Op.equalIn (d+1) t (.pointer none) (.pointer b)).run P w=.ok b.isNone w:=by
 simp[Op.equalIn,underlying,hu]
theorem Bjf(d:Nat)(t:TypeId)(e:TypeId)(b:Addr)(hu:P.underlying t=some (.pointer e)):(Op.equalIn (d+1) t (.pointer (some b)) (.pointer none)).run P w=.ok false w:=by
 simp[Op.equalIn,underlying,hu]
theorem Bfd(d:Nat)(t:TypeId)(e:TypeId)(n:Nat)(b:Addr)(hu:P.underlying t=some (.pointer e))(hs:(sizeOf e).run P w=.ok n w):(Op.equalIn (d+1) t (.pointer (some b)) (.pointer (some b))).run P w=.ok true w:=by
 simp only[Op.equalIn,underlying,hu,Sem.run_bind,hs];simp only[Sem.run_bind,hs,aI,samePointer,sameAddr];simp[hu,hs,aI]
theorem Bea(d:Nat)(t:TypeId)(e:TypeId)(b:Option Addr)(n m:Nat)(hu:P.underlying t=some (.slice e)):(Op.equalIn (d+1) t (.slice none 0 0) (.slice b n m)).run P w=.ok b.isNone w:=by
 simp[Op.equalIn,underlying,hu]
theorem Axs(d:Nat)(t:TypeId)(e:TypeId)(b:Addr)(n m:Nat)(hu:P.underlying t=some (.slice e)):(Op.equalIn (d+1) t (.slice (some b) n m) (.slice none 0 0)).run P w=.ok false w:=by
 simp[Op.equalIn,underlying,hu]
include hT
theorem A7m{a b:EV}{r:Bool}(h:Aqr T t a b=some r):(Op.equal t (Cn f a) (Cn f b)).run P w=.ok r w /\
 (∀op x y,(eqGuard op t x y (Cn f a) (Cn f b)).run P w=.ok () w) /\
 binOp .eql t (Cn f a) (Cn f b)=(do pure (.bool (←Op.equal t (Cn f a) (Cn f b))))/\binOp .neq t (Cn f a) (Cn f b)=(do pure (.bool (!(←Op.equal t (Cn f a) (Cn f b))))):=by
 unfold Aqr at h;split at h
 ·rename_i l l'
  split at h
  ·rename_i sh j
   obtain⟨m,h4⟩:=An h;obtain⟨e1,e2⟩:=hT.eqs t sh j;exact⟨e2 f w l l' r h4 m,fun op x y=>A40 w op t x y _ _ e1,rfl,rfl⟩
  ·cases h
 ·rename_i p q
  split at h
  ·rename_i hu
   cases h;refine⟨?_,fun op x y=>Ja w op t x y _ _ (by intro c d e;cases e.1) (by intro e;cases e.1),rfl,rfl⟩;refine(A01 w 9999 t p q (hT.Th _ _ hu)).trans ?_;cases p<;>cases q<;>rfl
  ·cases h
 ·split at h
  ·rename_i hu
   cases h;exact⟨A54 w 9999 t _ none (hT.Th _ _ hu),fun op x y=>Ja w op t x y _ _ (by intro c d e;cases e.1) (by intro e;cases e.1),rfl,rfl⟩
  ·cases h
 ·split at h
  ·rename_i hu
   cases h;exact⟨A54 w 9999 t _ (some _) (hT.Th _ _ hu),fun op x y=>Ja w op t x y _ _ (by intro c d e;cases e.1) (by intro e;cases e.1),rfl,rfl⟩
  ·cases h
 ·split at h
  ·rename_i hu
   cases h;exact⟨Bjf w 9999 t _ _ (hT.Th _ _ hu),fun op x y=>Ja w op t x y _ _ (by intro c d e;cases e.1) (by intro e;cases e.1),rfl,rfl⟩
  ·cases h
 ·split at h
  ·rename_i hu
   split at h
   ·rename_i n u
    obtain⟨h1,h2⟩:=An h;obtain⟨m,h4⟩:=An h2;cases h4;rw[aJ h1,aJ m];exact⟨Bfd w 9999 t _ n _ (hT.Th _ _ hu) (Gq hT w u),fun op x y=>Ja w op t x y _ _ (by intro c d e;cases e.1) (by intro e;cases e.1),rfl,rfl⟩
   ·cases h
  ·cases h
 ·split at h
  ·rename_i hu
   cases h;exact⟨Bea w 9999 t _ none 0 0 (hT.Th _ _ hu),fun op x y=>Ja w op t x y _ _ (by intro c d e;cases e.1) (by intro e;cases e.1),rfl,rfl⟩
  ·cases h
 ·split at h
  ·rename_i hu
   cases h;exact⟨Axs w 9999 t _ _ _ _ (hT.Th _ _ hu),fun op x y=>Ja w op t x y _ _ (by intro c d e;cases e.1) (by intro e;cases e.1),rfl,rfl⟩
  ·cases h
 ·split at h
  ·rename_i hu
   cases h;exact⟨Axs w 9999 t _ _ _ _ (hT.Th _ _ hu),fun op x y=>Ja w op t x y _ _ (by intro c d e;cases e.1) (by intro e;cases e.1),rfl,rfl⟩
  ·cases h
 ·cases h
end
end
section
section
variable(hT:P6 P T)(f:Loc)(w:World)
include hT
theorem Bmj{a b:EV}(h:bin T op t a b=some v)(x y:Operand):
 (eqGuard op t x y (Cn f a) (Cn f b)).run P w=.ok () w/\(binOp op t (Cn f a) (Cn f b)).run P w=.ok (Cn f v) w:=by
 unfold bin at h;split at h
 ·rename_i k a k' b
  refine⟨Ja w op t x y _ _ (by intro c d e;cases e.1) (by intro e;cases e.1),?_⟩;rw[Bn]at h;split at h
  ·split at h
   ·exact Bes f w t h
   ·cases h
  ·rename_i hs
   obtain⟨h1,h2⟩:=An h;obtain rfl:=Ans h1;exact Bjl f w t (by simpa using hs) h2
 ·rename_i u
  split at h
  ·split at h
   ·rename_i r j
    cases h;obtain⟨h1,h2,m,_⟩:=A7m hT f w j;refine⟨h2 _ x y,?_⟩;rw[m];simp[h1,Cn]
   ·cases h
  ·split at h
   ·rename_i r j
    cases h;obtain⟨h1,h2,_,m⟩:=A7m hT f w j;refine⟨h2 _ x y,?_⟩;rw[m];simp[h1,Cn,Bn]
   ·cases h
  ·cases h
theorem Ais {x:Option EV}{hi:Nat}(h:bound x hi dflt=some n)(code:BoundsCode):
 (∀u,x=some u->(Instr.sliceBound (Cn f u) hi code).run P w=.ok n w)/\(x=none->n=dflt):=by
 cases x with
 | none=>cases h;exact⟨fun u hu=>(by cases hu),fun _=>rfl⟩
 | some u=>
  refine⟨fun e hu=>?_,fun hu=>(by cases hu)⟩;cases hu;unfold bound at h;split at h
  ·rename_i d;cases d
  ·rename_i k m d
   cases d;obtain⟨h1,h2⟩:=An h;cases h2;simp only[dD]at h1;simp only[Instr.sliceBound,Cn,asIntOf,Sem.run_bind,aT,aI];rw[aH (by simp;omega)];simp
  ·cases h
theorem Arh{len cap h l:Nat}(d:Bool)(h1:bound hi cap len=some h)(h2:bound lo h 0=some l):
 (Instr.sliceBounds d len cap (lo.map (Cn f)) (hi.map (Cn f)) none).run P w=.ok (l,h,cap) w:=by
 obtain⟨e,m⟩:=Ais hT f w h1 (if d=true then .sliceAcap else .sliceAlen);obtain⟨b1,b2⟩:=Ais hT f w h2 .sliceB;unfold Instr.sliceBounds;cases hi with
 | none=>
  obtain rfl:=m rfl;cases lo with
  | none=>obtain rfl:=b2 rfl;simp
  | some u=>simp[b1 u rfl]
 | some j=>
  cases lo with
  | none=>obtain rfl:=b2 rfl;simp[e j rfl]
  | some u=>simp[e j rfl,b1 u rfl]
theorem A69 {j:Option EV}{len cap room m h l:Nat}(e:Bool){y d:EV}(hm:j=some y)(C:hi=some d)(G:room<=cap)(h0:bound j room 0=some m)(h1:bound hi m 0=some h)(h2:bound lo h 0=some l):
 (Instr.sliceBounds e len cap (lo.map (Cn f)) (hi.map (Cn f)) (j.map (Cn f))).run P w=.ok (l,h,m) w:=by
 have A:bound j cap 0=some m:=by
  subst hm;unfold bound at h0⊢;split at h0
  ·rename_i D;cases D
  ·obtain⟨E,F⟩:=An h0
   cases F;simp only[dD]at E;rw[Bn,aH (by simp only[dD];omega)]
  ·cases h0
 obtain⟨c1,_⟩:=Ais hT f w A (if e=true then .slice3Acap else .slice3Alen);obtain⟨B,_⟩:=Ais hT f w h1 .slice3B;obtain⟨b1,b2⟩:=Ais hT f w h2 .slice3C;subst hm C;unfold Instr.sliceBounds;cases lo with
 | none=>obtain rfl:=b2 rfl;simp[c1 y rfl,B d rfl]
 | some u=>simp[c1 y rfl,B d rfl,b1 u rfl]
omit hT in
theorem A72 {x:Option EV}{hi:Nat}(hd:dflt<=hi)(h:bound x hi dflt=some n):n<=hi:=by
 unfold bound at h;split at h
 ·cases h;exact hd
 ·obtain⟨h1,h2⟩:=An h
  cases h2;simpa only[dD]using h1
 ·cases h
theorem Bax {len room:Nat}{op:Bool}{size:Nat}{F:Option EV}(h:slc (.slice i off len room op) size lo hi F=some v)(d:Bool):
 ∃l j m,(Instr.sliceBounds d len (if op=true then room+f.sp i else room) (lo.map (Cn f)) (hi.map (Cn f)) (F.map (Cn f))).run P w=.ok (l,j,m) w /\
  Cn f v=.slice (some (if m=l then(⟨f.b i,off,none⟩:Addr)else(⟨f.b i,off,none⟩:Addr).add (l*size))) (j-l) (m-l):=by
 unfold slc at h;simp only[Nat.add_eq,Nat.mul_eq,Nat.sub_eq]at h;split at h
 ·split at h
  ·cases h
  ·rename_i j h1
   split at h
   ·cases h
   ·rename_i l h2
    rw[Bn]at h;split at h
    ·rename_i u
     subst u;have B:bound hi (room+f.sp i) len=some j:=by
      unfold bound at h1⊢;split at h1
      ·exact h1
      ·obtain⟨H,J⟩:=An h1
       cases J;simp only[dD]at H;rw[Bn,aH (by simp only[dD];omega)]
      ·cases h1
     have hb:=Arh hT f w d B h2;refine⟨l,j,room+f.sp i,by simpa using hb,?_⟩;rw[Bn]at h;split at h
     ·rename_i h0
      have C:=aJ h0;subst C;cases h;simp only[Cn,bI,fS,Nat.sub_zero];congr 2;rw[T8];simp
     ·rw[Bn]at h
      split at h
      ·rename_i h0
       cases h;simp only[dD]at h0;rw[aF (by omega),T8];simp only[Cn,bI];congr 1;omega
      ·obtain⟨G,h4⟩:=An h
       have D:=aJ G;subst D;obtain⟨K,L⟩:=An h4;cases L;have E:=aJ K;subst E;simp only[Cn,gE,T8];congr 1
       ·by_cases y:f.sp i=0
        ·rw[aH y,aH (by omega)]
        ·rw[aF y,aF (by omega)]
       ·omega
    ·rename_i u
     obtain⟨G,h4⟩:=An h;cases h4;have A:op=false:=by simpa using u
     subst A;have hb:=Arh hT f w d h1 h2;refine⟨l,j,room,by simpa using hb,?_⟩;simp only[Cn,aX,ak];rw[Bn];congr 2;by_cases e:room=l
     ·rw[aH (by rw[e];exact cK l),aH e]
     ·rw[aF (by simpa using e),aF e,T8]
 ·rename_i M
  cases hm:bound (some M) room 0 with
  | none=>rw[hm]at h;cases h
  | some m=>
   rw[hm]at h;cases hi with
   | none=>cases h
   | some O=>
    simp only at h;split at h
    ·cases h
    ·rename_i j h1
     split at h
     ·cases h
     ·rename_i l h2
      cases h;have hb:=A69 hT f w (len:=len) d rfl rfl (cap:=if op=true then room+f.sp i else room) (room:=room) (by split<;>omega) hm h1 h2;refine⟨l,j,m,hb,?_⟩;simp only[Cn,aX,ak];rw[Bn];congr 2;by_cases e:m=l
      ·rw[aH (by rw[e];exact cK l),aH e]
      ·rw[aF (by simpa using e),aF e,T8]
end
end
section
theorem Bb4:∀(l:List (Nat × Nat)) (i:Nat),Azx l i=l[i]?
 | [],i=>by simp[Azx]
 | a::r,0=>rfl
 | a::r,i+1=>by
  have:Azx (a::r) (i+1)=Azx r i:=rfl;rw[this,Bb4 r i];simp
theorem Bcc:∀(l:List UInt8) (i:Nat),Bd3 l i=l[i]?
 | [],i=>by simp[Bd3]
 | a::r,0=>rfl
 | a::r,i+1=>by
  have:Bd3 (a::r) (i+1)=Bd3 r i:=rfl;rw[this,Bcc r i];simp
theorem Ad0(f:Loc)(l:List EV)(i:Nat):(Br f l)[i]? = (l[i]?).map (Cn f):=by rw[Py,bB]
theorem U3(d:Reads f tm ρ){x:Option Operand}{v:Option EV}(h:Aah tm x=some v):x.map ρ=v.map (Cn f):=by
 cases x with
 | none=>simp only[Aah]at h;cases h;rfl
 | some x=>
  simp only[Aah]at h;split at h
  ·rename_i a e
   cases h;simp[Bh d e]
  ·cases h
section
variable(hT:P6 P T)(f:Loc)(w:World)
include hT
theorem Ay2:∀{l:List Field} {ps:List (Nat × Nat)},placesOf T l=some ps ->
 (l.mapM (m:=Sem) fun fd=>do pure (fd.offset,<-sizeOf fd.type)).run P w=.ok ps w
 | [],ps,h=>by cases h;rfl
 | fd::r,ps,h=>by
  unfold placesOf at h;split at h
  ·rename_i n d
   split at h
   ·rename_i q e
    cases h;rw[List.mapM_cons];have j:=Ay2 e;simp only[Sem.run_bind,Gq hT w d,aI,aT,j]
   ·cases h
  ·cases h
theorem Aab{z:List EV}(h:T.zero t=some z):∃x:EV,x.plain=true/\z=x.cells/\(zeroValue t).run P w=.ok (Cn f x) w /\
 (T.agg t=some true->x=.agg z)/\(T.agg t=some false->z = [x])/\(∀p,x.ok p)/\∃i,P.info? t=some i/\i.size=z.length/\i.bytes<=1048576:=by
 obtain⟨i,v,x,h1,h2,d,h4,e,j,m,u,y⟩:=hT.zero t z h;refine⟨x,h4,e,?_,u,y,fun p=>A87 p d,i,h1,j,m⟩;rw[Bat f d];simp[zeroValue,typeInfo,h1,h2]
theorem Bh2(A:Reads f tm ρ){o:Oper}(h:Eu T tm o.op=some v):
 (execOp ρ o).run P w=.ok (.value (Cn f v)) w:=by
 obtain⟨dst,op,type,after,pos,guard⟩:=o;simp only at h;cases op with
 | move x=>simp only[Eu]at h;simp[execOp,Bh A h]
 | assign x=>simp only[Eu]at h;simp[execOp,Bh A h]
 | pick c a b=>
  simp only[Eu]at h;split at h
  ·rename_i G;simp[execOp,Bh A G,Bh A h,Cn,asBool]
  ·rename_i G;simp[execOp,Bh A G,Bh A h,Cn,asBool]
  ·cases h
 | binOp op t x y c=>
  simp only[Eu]at h;split at h
  ·rename_i a U
   split at h
   ·rename_i b hb
    obtain⟨h1,h2⟩:=Bmj hT f w h x y;simp[execOp,Bh A U,Bh A hb,h1,h2]
   ·cases h
  ·cases h
 | unOp op t x=>
  cases op with
  | not=>
   simp only[Eu]at h;split at h
   ·rename_i b B
    cases h;cases b<;>simp[execOp,Bh A B,Cn,Op.unary]
   ·cases h
  | neg=>
   simp only[Eu]at h;split at h
   ·rename_i k n B
    cases h;simp only[execOp,Bh A B,Cn,Op.unary,Op.intArith,Lc,Sem.run_bind,aT,aI];rfl
   ·cases h
  | _=>simp[Eu]at h
 | nilCheck x=>
  simp only[Eu]at h;split at h
  ·rename_i i off B
   cases h;simp[execOp,Bh A B,Cn]
  ·cases h
 | fieldAddr s x V=>
  simp only[Eu]at h;split at h
  ·rename_i i off B
   split at h
   ·rename_i fields hu
    split at h
    ·rename_i fd Q
     split at h
     ·rename_i n hn
      obtain⟨h1,h2⟩:=Sv h;cases h2;rw[A30]at Q;have H:fields[V]? = some fd:=by simpa using Q
      have S:n≠0:=by intro e;subst e;cases h1
      simp[execOp,Instr.fieldAt,Bh A B,Ds hT w hu,H,Cn,Instr.sureAddr,fieldPlace,Gq hT w hn,S,T8]
     ·cases h
    ·cases h
   ·cases h
  ·cases h
 | indexAddr t x ix=>
  simp only[Eu]at h;split at h
  ·rename_i k n C
   split at h
   ·rename_i len e i off hu B
    split at h
    ·rename_i s hs
     obtain⟨h1,h2⟩:=An h;cases h2;simp only[dD]at h1;have F:(n:Int)<len:=by omega
     simp[execOp,Instr.indexAt,Bh A C,Bh A B,Cn,asIntOf,Ds hT w hu,Instr.sureAddr,Gq hT w hs,T8];exact fun hle=>absurd hle (by omega)
    ·cases h
   ·rename_i e i off len r op hu B
    split at h
    ·rename_i s hs
     obtain⟨h1,h2⟩:=An h;cases h2;simp only[dD]at h1;have F:(n:Int)<len:=by omega
     simp[execOp,Instr.indexAt,Bh A C,Bh A B,Cn,asIntOf,Ds hT w hu,Gq hT w hs,T8];exact fun hle=>absurd hle (by omega)
    ·cases h
   ·cases h
  ·cases h
 | index t x ix=>
  simp only[Eu]at h;split at h
  ·rename_i k n C
   split at h
   ·rename_i len e cs hu B
    split at h
    ·rename_i s hs
     obtain⟨h1,h2⟩:=An h;simp only[dD]at h1;have F:(n:Int)<len:=by omega
     have hp:=A6c hT w f h2;simp only[Nat.mul_eq]at hp;simp[execOp,Instr.index,Bh A C,Bh A B,Cn,asIntOf,Ds hT w hu,Gq hT w hs,hp];exact fun hle=>absurd hle (by omega)
    ·cases h
   ·rename_i s hu B
    split at h
    ·rename_i b hb
     cases h;rw[Bcc]at hb;have W:s[n]? = some b:=by
      have e:s.data[n]? = some b:=by simpa using hb
      rw[<-e];rfl
     simp[execOp,Instr.index,Bh A C,Bh A B,Cn,asIntOf,Ds hT w hu,W]
    ·cases h
   ·cases h
  ·cases h
 | field t x V=>
  simp only[Eu]at h;split at h
  ·rename_i fields cs hu B
   split at h
   ·rename_i fd Q
    rw[A30]at Q;have H:fields[V]? = some fd:=by simpa using Q
    have hp:=A6c hT w f h;simp[execOp,Instr.field,Bh A B,Cn,Ds hT w hu,H,asAgg,hp]
   ·cases h
  ·cases h
 | convert src d x=>
  simp only[Eu]at h;split at h
  ·rename_i ud k k' n hs hd B
   cases h;simp only[execOp,Go.convert,Bh A B,Cn,Sem.run_bind,Ds hT w hs,Ds hT w hd,aI,Conv.intToInt,aT,Lc]
  ·cases h
 | extract x ix=>
  simp only[Eu]at h;split at h
  ·rename_i l B
   split at h
   ·rename_i u r M
    cases h;rw[Rp]at M;have h1:l[ix]? = some v:=by
     have:=dJ (xs:=l) (i:=ix) (j:=0);rw[M]at this;simpa using this.symm
    simp[execOp,Instr.extract,Bh A B,Cn,Ad0,h1]
   ·cases h
  ·cases h
 | slice t x lo hi mx=>
  simp only[Eu]at h;split at h
  ·rename_i ad ae X J K D
   split at h
   ·rename_i n e i off hu B
    split at h
    ·rename_i s hs
     obtain⟨l,Y,m,h1,h2⟩:=Bax hT f w h false;simp only[aX,ak]at h1;simp[execOp,Instr.sliceAt,Ds hT w hu,Bh A B,U3 A J,U3 A K,U3 A D,Cn,Instr.sureAddr,h1,Gq hT w hs,h2]
    ·cases h
   ·rename_i e x' hu B
    split at h
    ·rename_i s hs
     cases x' with
     | slice i off len room op=>
      obtain⟨l,Y,m,h1,h2⟩:=Bax hT f w h true;simp[execOp,Instr.sliceAt,Instr.slice,Ds hT w hu,Bh A B,U3 A J,U3 A K,U3 A D,Cn,h1,Gq hT w hs,h2];split<;>rfl
     | Ao=>
      unfold slc at h;cases X with
      | some _=>cases h
      | none=>
       simp only at h;split at h
       ·cases h
       ·rename_i Y h1
        split at h
        ·cases h
        ·rename_i l h2
         cases h;have e1:Y=0:=Nat.le_zero.1 (A72 (aE _) h1);subst e1;have e2:l=0:=Nat.le_zero.1 (A72 (aE _) h2);subst e2;have hb:=Arh hT f w true h1 h2;have hm:mx=none:=by
          cases mx with
          | none=>rfl
          | some o=>simp only[Aah]at D;split at D<;>cases D
         subst hm;simp[execOp,Instr.sliceAt,Instr.slice,Ds hT w hu,Bh A B,U3 A J,U3 A K,Cn,hb,Gq hT w hs]
     | _=>simp[slc]at h
    ·cases h
   ·cases h
  ·cases h
 | build t ps=>
  simp only[Eu]at h;split at h
  ·rename_i z l fields S M hu
   split at h
   ·rename_i pl Z
    split at h
    ·rename_i c G
     cases h;obtain⟨x,_,e1,e2,_⟩:=Aab hT f w S;have hp:(fields.mapM (m:=Sem) fun fd=>do pure (fd.offset,<-sizeOf fd.type)).run P w=.ok pl.toArray w:=by
      have e:fields=fields.toList.toArray:=by simp
      rw[e,List.mapM_toArray];have O:=Ay2 hT w Z;simp only[map_eq_pure_bind,Sem.run_bind,O,aI,aT]
     have E:=Ase f (Azx pl) (fun i=>pl.toArray[i]?) (fun i q O=>by rw[Bb4]at O;simpa using O) G;have L:(ps.map fun(i,x)=>(i,ρ x)).toList=l.map fun(i,v)=>(i,Cn f v):=by
      rw[Array.toList_map,Aj2 A M]
     rw[e1]at E;simp only[execOp,Instr.build,Sem.run_bind,e2,aI,Ds hT w hu,hp,Ss,L,E,aT,Cn]
    ·cases h
   ·cases h
  ·rename_i z l n e S M hu
   split at h
   ·rename_i s hs
    split at h
    ·rename_i c G
     cases h;obtain⟨x,_,e1,e2,_⟩:=Aab hT f w S;have E:=Ase f (fun i=>some (Nat.mul i s,s)) (fun i=>some (i*s,s)) (fun i q O=>O) G;have L:(ps.map fun(i,x)=>(i,ρ x)).toList=l.map fun(i,v)=>(i,Cn f v):=by
      rw[Array.toList_map,Aj2 A M]
     rw[e1]at E;simp only[execOp,Instr.build,Sem.run_bind,e2,aI,Ds hT w hu,Gq hT w hs,Ss,L,E,aT,Cn]
    ·cases h
   ·cases h
  ·cases h
 | makeFunc fn first captured=>
  cases fn with
  | func g=>
   simp only[Eu]at h;split at h
   ·rename_i a b U hb
    cases h;have h1:first.map ρ=(Br f a).toArray:=by apply eK;simp[Yu A U]
    have h2:captured.map ρ=(Br f b).toArray:=by apply eK;simp[Yu A hb]
    simp[execOp,Instr.makeFunc,Cn,h1,h2]
   ·cases h
  | _=>simp[Eu]at h
 | sliceToArrayPointer t x=>
  simp only[Eu]at h;split at h
  ·rename_i n e i off len room op hu B
   obtain⟨h1,h2⟩:=An h;cases h2;simp only[dD]at h1;have F:¬len<n:=by omega
   simp[execOp,Instr.arrayAt,Ds hT w hu,Bh A B,Cn,F]
  ·cases h
 | _=>simp[Eu]at h
end
end
theorem Aa.get_put(h:Aa)(i:Nat)(o:Dt)(j:Nat):(h.put i o).get j=if i=j then some o else h.get j:=by
 obtain⟨t,n,m⟩:=h;exact Tr.get_put t i (some o) j
theorem Aa.Ze(h:Aa)(i j:Nat):(h.del i).get j=if i=j then none else h.get j:=by
 obtain⟨t,n,m⟩:=h;exact Tr.get_put t i none j
theorem Aa.K1(h:Aa)(o:Dt)(j:Nat):(h.new o).get j=if h.next=j then some o else h.get j:=by
 obtain⟨t,n,m⟩:=h;exact Tr.get_put t n (some o) j
theorem Aa.Pr(h:Aa)(i:Nat)(o:Dt):(h.put i o).next=h.next:=rfl
theorem Aa.Ayp(h:Aa)(i:Nat):(h.del i).next=h.next:=rfl
theorem Aa.Dl(h:Aa)(o:Dt):(h.new o).next=h.next+1:=rfl
theorem Aa.Am7(h:Aa)(i:Nat)(o:Dt):(h.put i o).mw=min i h.mw:=by
 obtain⟨t,n,m⟩:=h;show Ba (Nat.ble i m) i m=min i m;rw[Bn];by_cases hi:i<=m
 ·rw[aH (Aap hi)];omega
 ·rw[aF (by rw[Adj hi];simp)];omega
theorem Aa.Axy(h:Aa)(i:Nat):(h.del i).mw=min i h.mw:=Aa.Am7 h i (.deferred true)
theorem Aa.Bos(h:Aa)(o:Dt):(h.new o).mw=h.mw:=rfl
def Dt.ok(p:Nat->Prop):Dt->Prop
 | .cells l _=>EV.Tf p l/\l.all EV.one=true
 | .vec l _ _=>EV.Tf p l/\l.all EV.one=true
 | .map es=>∀e∈es,e.1.ok p/\e.2.ok p
 | .chan _ buf=>EV.Tf p buf
 | .loop _ _ _ n tm _ _ _ d=>Lb p n tm/\p d
 | .deferred _=>True
 | .view ws _=>∀x∈ws,EV.Tf p x.2/\x.2.all EV.one=true
theorem Dt.ok.mono(j:∀i,p i->q i)(h:o.ok p):o.ok q:=by
 cases o with
 | cells l t=>exact⟨EV.Tf.mono j l h.1,h.2⟩
 | vec l t s=>exact⟨EV.Tf.mono j l h.1,h.2⟩
 | map es=>exact fun e he=>⟨EV.ok.mono j _ (h e he).1,EV.ok.mono j _ (h e he).2⟩
 | chan c buf=>exact EV.Tf.mono j buf h
 | loop st u fn n tm ps asg body d=>exact⟨Lb.mono h.1 j,j d h.2⟩
 | deferred b=>trivial
 | view ws _=>exact fun x m=>⟨EV.Tf.mono j x.2 (h x m).1,(h x m).2⟩
def Ul(f:Loc)(i:Nat):Dt->Obj->Prop
 | .cells l e,r=>r=.cells (Br f l).toArray e (0,0)
 | .vec l e s,r=>∃more:List Value,r=.cells (Br f l++more).toArray e (0,0)/\more.length=f.sp i*s
 | .map es,r=>∃m clock,r=.map m clock/\m.toList.map (fun e=>(e.key,e.val))=es.map (fun e=>(Cn f e.1,Cn f e.2))
 | .chan cap buf,r=>∃s c,r=.chan cap (Br f buf).toArray false s c false
 | .loop st p fn n tm ps asg body d,r=>r=.loop ⟨st,p,fn,Be f n tm,ps.toArray,asg,body,f.b d⟩
 | .deferred op,r=>r=.deferred (if op=true then some []else none)
 | .view ws r0,r=>r=r0/\∃arr e fr,r=.cells arr e fr/\∀x∈ws,∀(j:Nat) v,x.2[j]? = some v->arr[x.1+j]? = some (Cn f v)
theorem Ul.congr(m:Loc.E9 p f g)(hi:p i)(u:o.ok p){r:Obj}(h:Ul f i o r):Ul g i o r:=by
 cases o with
 | cells l t=>simp only[Ul]at h⊢;rw[h,G7 m l u.1]
 | vec l t s=>simp only[Ul]at h⊢;obtain⟨more,h1,h2⟩:=h;exact⟨more,by rw[h1,G7 m l u.1],by rw[h2,(m i hi).2]⟩
 | map es=>
  obtain⟨y,clock,h1,h2⟩:=h;refine⟨y,clock,h1,?_⟩;rw[h2];apply cW;intro e he;rw[Adi m _ (u e he).1,Adi m _ (u e he).2]
 | chan c buf=>obtain⟨s,B,h1⟩:=h;exact⟨s,B,by rw[h1,G7 m buf u]⟩
 | loop st C fn n tm ps asg body d=>simp only[Ul]at h⊢;rw[h,Ku m u.1,(m d u.2).1]
 | deferred b=>exact h
 | view ws r0=>
  obtain⟨h0,arr,e,fr,h1,h2⟩:=h;exact⟨h0,arr,e,fr,h1,fun x A j v hj=>by rw[<-Adi m v ((Ic p x.2).1 (u x A).1 v (bU hj))];exact h2 x A j v hj⟩
structure S9(p:Nat->Prop)(h:Aa):Prop where
 lt:∀i,p i->i<h.next
 get:∀i o,h.get i=some o->p i/\o.ok p
structure S8(f:Loc)(h:Aa)(w:World):Prop where
 obj:∀i o,h.get i=some o->∃r,w.heap[f.b i]? = some r/\Ul f i o r
 inj:∀i j o o',h.get i=some o->h.get j=some o'->f.b i=f.b j->i=j
theorem S8.sub{w:World}(u:S8 f h w)(hs:∀i o,h'.get i=some o->h.get i=some o):S8 f h' w where
 obj i o d:=u.obj i o (hs i o d)
 inj i j o o' d m e:=u.inj i j o o' (hs i o d) (hs j o' m) e
theorem S8.lt{w:World}(d:S8 f h w)(e:h.get i=some o):f.b i<w.heap.size:=by
 obtain⟨r,h1,_⟩:=d.obj i o e;exact(cL.1 h1).1
def grow(p:Nat->Prop)(h h':Aa)(i:Nat):Prop:=p i\/(h.next<=i/\i<h'.next)
theorem J7(p:Nat->Prop)(h h':Aa)(e:h'.next=h.next):grow p h h'=p:=by
 funext i;exact propext ⟨fun x=>x.elim id (fun⟨a,b⟩=>absurd b (by omega)),.inl⟩
theorem Adh(p:Nat->Prop)(a:h.next<=h1.next)(b:h1.next<=h2.next):grow (grow p h h1) h1 h2=grow p h h2:=by
 funext i;apply propext;constructor
 ·rintro((x|x)|x)
  ·exact .inl x
  ·exact .inr (by omega)
  ·exact .inr (by omega)
 ·rintro(x|x)
  ·exact .inl (.inl x)
  ·by_cases c:i<h1.next
   ·exact .inl (.inr ⟨x.1,c⟩)
   ·exact .inr (by omega)
structure Wf(p:Nat->Prop)(h h':Aa):Prop where
 next:h.next<=h'.next
 mw:h'.mw<=h.mw
 same:∀i,i<h'.mw->i<h.next->h'.get i=h.get i
 live:∀i o,h'.get i=some o->(∃o',h.get i=some o')\/h.next<=i
 hok:S9 (grow p h h') h'
structure Move(p:Nat->Prop)(f:Loc)(h:Aa)(w:World)(f':Loc)(h':Aa)(w':World):Prop where
 E9:Loc.E9 p f f'
 rep:S8 f' h' w'
 kept:∀b,b<w.heap.size->(∀i o,h.get i=some o->f.b i≠b)->w'.heap[b]? = w.heap[b]?
 size:w.heap.size<=w'.heap.size
 tape:w'.tape=w.tape
 os:w'.os=w.os
 output:w'.output=w.output
 own:∀i o,h'.get i=some o->w.heap.size<=f'.b i\/∃j o',h.get j=some o'/\f'.b i=f.b j
theorem Wf.refl(d:S9 p h):Wf p h h where
 next:=aE _
 mw:=aE _
 same _ _ _:=rfl
 live i o e:=.inl ⟨o,e⟩
 hok:=by rw[J7 p h h rfl];exact d
theorem Wf.trans(a:Wf p h h1)(b:Wf (grow p h h1) h1 h2):Wf p h h2 where
 next:=bN a.next b.next
 mw:=bN b.mw a.mw
 same i x y:=by rw[b.same i x (by have:=a.next;omega),a.same i (by have:=b.mw;omega) y]
 live i o e:=by
  rcases b.live i o e with⟨o',d⟩|hi
  ·exact a.live i o' d
  ·exact .inr (by have:=a.next;omega)
 hok:=by rw[<-Adh p a.next b.next];exact b.hok
theorem Move.refl{w:World}(d:S8 f h w):Move p f h w f h w where
 E9:=Loc.Akl p f
 rep:=d
 kept _ _ _:=rfl
 size:=aE _
 tape:=rfl
 os:=rfl
 output:=rfl
 own i o e:=.inr ⟨i,o,e,rfl⟩
theorem Move.trans{f1 f2:Loc}{w w1 w2:World}(a:Move p f h w f1 h1 w1)
 (b:Move (grow p h h1) f1 h1 w1 f2 h2 w2):Move p f h w f2 h2 w2 where
 E9:=a.E9.trans (b.E9.mono fun i hi=>.inl hi)
 rep:=b.rep
 kept x A B:=by
  rw[b.kept x (aK A a.size) ?_,a.kept x A B];intro i o u e;rcases a.own i o u with hi|⟨j,o',d,hj⟩
  ·omega
  ·exact B j o' d (hj▸e)
 size:=bN a.size b.size
 tape:=b.tape.trans a.tape
 os:=b.os.trans a.os
 output:=b.output.trans a.output
 own i o u:=by
  rcases b.own i o u with hi|⟨j,o',d,hj⟩
  ·exact .inl (bN a.size hi)
  ·rcases a.own j o' d with hi|⟨k,y,m,C⟩
   ·exact .inl (hj▸hi)
   ·exact .inr ⟨k,y,m,hj.trans C⟩
theorem Wf.put(d:S9 p h)(hi:h.get i=some o)(m:o'.ok p):Wf p h (h.put i o') where
 next:=aE _
 mw:=by rw[Aa.Am7];omega
 same j x _:=by rw[Aa.Am7]at x;rw[Aa.get_put,aF (by omega)]
 live j q hj:=by
  rw[Aa.get_put]at hj;split at hj
  ·rename_i e;subst e;exact .inl ⟨o,hi⟩
  ·exact .inl ⟨q,hj⟩
 hok:=by
  rw[J7 p h (h.put i o') rfl];refine⟨d.lt,fun j q hj=>?_⟩;rw[Aa.get_put]at hj;split at hj
  ·rename_i e;subst e;cases hj;exact⟨(d.get i o hi).1,m⟩
  ·exact d.get j q hj
theorem Move.put{w:World}(d:S8 f h w)(hi:h.get i=some o)
 {r:Obj} (h1:w'.heap[f.b i]? = some r) (h2:Ul f i o' r) (A:∀b,b≠f.b i->w'.heap[b]? = w.heap[b]?) (h4:w'.heap.size=w.heap.size)
 (B:w'.tape=w.tape) (C:w'.os=w.os) (D:w'.output=w.output):Move p f h w f (h.put i o') w' where
 E9:=Loc.Akl p f
 rep:=by
  refine⟨fun j q hj=>?_,fun j k q q' hj m e=>?_⟩
  ·rw[Aa.get_put]at hj
   split at hj
   ·rename_i e;subst e;cases hj;exact⟨r,h1,h2⟩
   ·rename_i e
    obtain⟨E,a,b⟩:=d.obj j q hj;refine⟨E,?_,b⟩;rw[A _ ?_]
    ·exact a
    ·intro e';exact e (d.inj j i q o hj hi e').symm
  ·have u:∃q,h.get j=some q:=by
    rw[Aa.get_put]at hj;split at hj
    ·rename_i e;exact⟨o,e▸hi⟩
    ·exact⟨q,hj⟩
   have y:∃q,h.get k=some q:=by
    rw[Aa.get_put]at m;split at m
    ·rename_i e;exact⟨o,e▸hi⟩
    ·exact⟨q',m⟩
   obtain⟨a,F⟩:=u;obtain⟨b,hb⟩:=y;exact d.inj j k a b F hb e
 kept b _ G:=A b (fun e=>G i o hi e.symm)
 size:=by omega
 tape:=B
 os:=C
 output:=D
 own j q hj:=by
  rw[Aa.get_put]at hj;split at hj
  ·rename_i e;subst e;exact .inr ⟨i,o,hi,rfl⟩
  ·exact .inr ⟨j,q,hj,rfl⟩
def Loc.set(f:Loc)(i b sp:Nat):Loc:=⟨fun j=>if j=i then b else f.b j,fun j=>if j=i then sp else f.sp j⟩
theorem Loc.Aai(f:Loc)(i b sp:Nat):(f.set i b sp).b i=b:=aH rfl
theorem Loc.A18(f:Loc)(i b sp:Nat):(f.set i b sp).sp i=sp:=aH rfl
theorem Loc.Tu(f:Loc){j:Nat}(b sp:Nat)(h:j≠i):(f.set i b sp).b j=f.b j/\(f.set i b sp).sp j=f.sp j:=⟨aF h,aF h⟩
theorem Loc.P9(f:Loc)(b sp:Nat)(h:¬p i):Loc.E9 p f (f.set i b sp):=fun j hj=>
 have e:j≠i:=fun e=>h (e▸hj)
 ⟨(f.Tu b sp e).1.symm,(f.Tu b sp e).2.symm⟩
theorem S9.fresh(d:S9 p h):¬p h.next:=fun x=>absurd (d.lt _ x) (by omega)
theorem S9.Aei(d:S9 p h)(hi:h.get i=some o):i≠h.next:=fun e=>d.fresh (e▸(d.get i o hi).1)
theorem Wf.new(d:S9 p h)(m:o.ok (grow p h (h.new o))):Wf p h (h.new o) where
 next:=by rw[Aa.Dl];omega
 mw:=aE _
 same j x y:=by rw[Aa.K1,aF (by omega)]
 live j q hj:=by
  rw[Aa.K1]at hj;split at hj
  ·rename_i e;exact .inr (by omega)
  ·exact .inl ⟨q,hj⟩
 hok:=by
  refine⟨fun j hj=>?_,fun j q hj=>?_⟩
  ·rcases hj with hj|hj
   ·have:=d.lt j hj;rw[Aa.Dl];omega
   ·exact hj.2
  ·rw[Aa.K1]at hj
   split at hj
   ·rename_i e;cases hj;exact⟨.inr (by rw[Aa.Dl];omega),m⟩
   ·exact⟨.inl (d.get j q hj).1,Dt.ok.mono (fun i hi=>.inl hi) (d.get j q hj).2⟩
theorem Move.new{w:World}(d:S9 p h)(u:S8 f h w)(sp:Nat)
 {r:Obj} (h1:w'.heap=w.heap.push r) (h2:Ul (f.set h.next w.heap.size sp) h.next o r)
 (y:w'.tape=w.tape) (A:w'.os=w.os) (B:w'.output=w.output):Move p f h w (f.set h.next w.heap.size sp) (h.new o) w' where
 E9:=f.P9 _ _ d.fresh
 rep:=by
  refine⟨fun j q hj=>?_,fun j k q q' hj m e=>?_⟩
  ·rw[Aa.K1]at hj
   split at hj
   ·rename_i e;subst e;cases hj;exact⟨r,by rw[Loc.Aai,h1];simp,h2⟩
   ·obtain⟨C,a,b⟩:=u.obj j q hj
    have D:=u.lt hj;obtain⟨hp,hok⟩:=d.get j q hj;refine⟨C,?_,b.congr (f.P9 _ _ d.fresh) hp hok⟩;rw[(f.Tu _ _ (d.Aei hj)).1,h1,Array.getElem?_push,aF (by omega)];exact a
  ·rw[Aa.K1]at hj m
   split at hj
   ·rename_i e1
    split at m
    ·rename_i e2;omega
    ·subst e1
     rw[Loc.Aai,(f.Tu _ _ (d.Aei m)).1]at e;have:=u.lt m;omega
   ·split at m
    ·rename_i e2
     subst e2;rw[Loc.Aai,(f.Tu _ _ (d.Aei hj)).1]at e;have:=u.lt hj;omega
    ·rw[(f.Tu _ _ (d.Aei hj)).1,(f.Tu _ _ (d.Aei m)).1]at e
     exact u.inj j k q q' hj m e
 kept b hb _:=by rw[h1,Array.getElem?_push,aF (by omega)]
 size:=by rw[h1];simp
 tape:=y
 os:=A
 output:=B
 own j q hj:=by
  rw[Aa.K1]at hj;split at hj
  ·rename_i e;subst e;rw[Loc.Aai];exact .inl (aE _)
  ·exact .inr ⟨j,q,hj,(f.Tu _ _ (d.Aei hj)).1⟩
theorem S9.del(d:S9 p h)(i:Nat):S9 p (h.del i):=
 ⟨d.lt,fun j q hj=>by rw[Aa.Ze]at hj;split at hj;cases hj;exact d.get j q hj⟩
theorem Wf.del(d:S9 p h)(i:Nat):Wf p h (h.del i) where
 next:=aE _
 mw:=by rw[Aa.Axy];omega
 same j x _:=by rw[Aa.Axy]at x;rw[Aa.Ze,aF (by omega)]
 live j q hj:=by
  rw[Aa.Ze]at hj;split at hj
  ·cases hj
  ·exact .inl ⟨q,hj⟩
 hok:=by rw[J7 p h (h.del i) rfl];exact d.del i
theorem Aw3:∀j o,(h.del i).get j=some o->h.get j=some o:=by
 intro j o hj;rw[Aa.Ze]at hj;split at hj
 ·cases hj
 ·exact hj
theorem Wf.Bcf(d:S9 p h)(i:Nat)(j:o.ok (grow p h (h.new o))):Wf p h ((h.del i).new o):=by
 have a:=Wf.del d i;have e:grow p h (h.del i)=p:=J7 p h (h.del i) rfl;have b:Wf (grow p h (h.del i)) (h.del i) ((h.del i).new o):=by
  rw[e];exact Wf.new (d.del i) j
 exact a.trans b
theorem Move.Bcf{w:World}(u:S9 p h)(d:S8 f h w)(hi:h.get i=some o)(sp:Nat)
 {r:Obj} (h1:w'.heap[f.b i]? = some r) (h2:Ul (f.set h.next (f.b i) sp) h.next o' r) (y:∀b,b≠f.b i->w'.heap[b]? = w.heap[b]?) (h4:w'.heap.size=w.heap.size)
 (B:w'.tape=w.tape) (C:w'.os=w.os) (D:w'.output=w.output):Move p f h w (f.set h.next (f.b i) sp) ((h.del i).new o') w' where
 E9:=f.P9 _ _ u.fresh
 rep:=by
  have key:∀j q,((h.del i).new o').get j=some q->(j=h.next/\q=o')\/(j≠i/\j≠h.next/\h.get j=some q):=by
   intro j q hj;rw[Aa.K1]at hj;split at hj
   ·rename_i e;cases hj;exact .inl ⟨e.symm,rfl⟩
   ·rename_i e
    rw[Aa.Ze]at hj;split at hj
    ·cases hj
    ·rename_i e';exact .inr ⟨fun x=>e' x.symm,fun x=>e x.symm,hj⟩
  refine⟨fun j q hj=>?_,fun j k q q' hj A e=>?_⟩
  ·rcases key j q hj with⟨rfl,rfl⟩|⟨c1,c2,c3⟩
   ·exact⟨r,by rw[Loc.Aai];exact h1,h2⟩
   ·obtain⟨E,a,b⟩:=d.obj j q c3
    obtain⟨hp,hok⟩:=u.get j q c3;refine⟨E,?_,b.congr (f.P9 _ _ u.fresh) hp hok⟩;rw[(f.Tu _ _ c2).1,y _ (fun e=>c1 (d.inj j i q o c3 hi e))];exact a
  ·rcases key j q hj with⟨rfl,rfl⟩|⟨c1,c2,c3⟩
   ·rcases key k q' A with⟨rfl,rfl⟩|⟨d1,d2,d3⟩
    ·rfl
    ·rw[Loc.Aai,(f.Tu _ _ d2).1]at e
     exact absurd (d.inj i k o q' hi d3 e).symm d1
   ·rcases key k q' A with⟨rfl,rfl⟩|⟨d1,d2,d3⟩
    ·rw[Loc.Aai,(f.Tu _ _ c2).1]at e
     exact absurd (d.inj j i q o c3 hi e) c1
    ·rw[(f.Tu _ _ c2).1,(f.Tu _ _ d2).1]at e
     exact d.inj j k q q' c3 d3 e
 kept b _ F:=y b (fun e=>F i o hi e.symm)
 size:=by omega
 tape:=B
 os:=C
 output:=D
 own j q hj:=by
  rw[Aa.K1]at hj;split at hj
  ·rename_i e;rw[show j=h.next from e.symm,Loc.Aai];exact .inr ⟨i,o,hi,rfl⟩
  ·have m:=Aw3 j q hj
   exact .inr ⟨j,q,m,(f.Tu _ _ (u.Aei m)).1⟩
def Amx(P:Program)(s:Sem Next)(p:Nat->Prop)(f:Loc)(h:Aa)(w:World)(v:EV)(h':Aa):Prop:=
 ∃f' w' N,s.run P w=.ok N w'/\(N=.value (Cn f' v)\/(N=.skip/\v=.tuple []))/\Move p f h w f' h' w'/\Wf p h h'/\v.ok (grow p h h')
theorem Z0{l:List EV}(d:EV.Tf p l):EV.Tf (grow p h h') l:=EV.Tf.mono (fun _ hi=>.inl hi) l d
theorem A5r{l:List EV}(d:EV.Tf p l)(off n:Nat):EV.Tf p ((l.drop off).take n):=
 (Ic p _).2 fun v e=>(Ic p _).1 d v (aS (bc e))
theorem Y3{a b:List EV}(d:EV.Tf p a)(hb:EV.Tf p b):EV.Tf p (a++b):=
 (Ic p _).2 fun v e=>(bJ.1 e).elim ((Ic p _).1 d v) ((Ic p _).1 hb v)
theorem A5t {l:List EV}(d:l.all EV.one=true)(off n:Nat):((l.drop off).take n).all EV.one=true:=by
 rw[dN]at d⊢;exact fun v e=>d v (aS (bc e))
theorem Baa {a b:List EV}(d:a.all EV.one=true)(hb:b.all EV.one=true):(a++b).all EV.one=true:=by
 rw[List.all_append,d,hb];rfl
theorem Ax4{l x:List EV}(h:Fq l off vs=some x)(d:EV.Tf p l)(e:EV.Tf p vs):EV.Tf p x:=
 (Ic p _).2 fun v j=>(Aq8 h j).elim ((Ic p _).1 d v) ((Ic p _).1 e v)
theorem Ax3 {l x:List EV}(h:Fq l off vs=some x)(d:l.all EV.one=true)(e:vs.all EV.one=true):x.all EV.one=true:=by
 rw[dN]at *;exact fun v j=>(Aq8 h j).elim (d v) (e v)
theorem setRow_other(w:World)(g:Nat)(cs:Array Value)(b:Nat)(hb:b≠g):(w.setRow g cs).heap[b]? = w.heap[b]?:=by
 simp only[World.setRow,Array.getElem?_modify];rw[aF (cP hb)]
theorem setRow_size(w:World)(g:Nat)(cs:Array Value):(w.setRow g cs).heap.size=w.heap.size:=by simp[World.setRow]
section
variable{w:World}
theorem A9l{o:Nat}{l:List EV}(e:Ak4 ws off=some (o,l)):(o,l)∈ws/\o<=off:=by
 induction ws with
 | nil=>cases e
 | cons x r d=>
  obtain⟨o',l'⟩:=x;unfold Ak4 at e;cases h1:Nat.ble o' off with
  | false=>rw[h1]at e;exact⟨aR _ (d e).1,(d e).2⟩
  | true=>
   rw[h1,Aj]at e;cases h2:Nat.ble (Nat.succ (Nat.sub off o')) (len l')with
   | false=>rw[h2]at e;exact⟨aR _ (d e).1,(d e).2⟩
   | true=>rw[h2]at e;cases e;exact⟨aW ..,bG h1⟩
theorem Ako(B:S9 p h)(C:S8 f h w){l:List EV}(d:Ir h i off n=some l):
 (loadCells ⟨f.b i,off,none⟩ n).run P w=.ok (Br f l).toArray w/\EV.Tf p l/\l.all EV.one=true/\l.length=n /\
  ∀j v,l[j]? = some v->w.cell? ⟨f.b i,off+j,none⟩=some (Cn f v):=by
 have key:∀(L:List EV) (arr:Array Value) (e:TypeId) (fr:Nat × Nat) (o:Nat),w.heap[f.b i]? = some (.cells arr e fr)->o<=off->(∀(j:Nat) v,L[j]? = some v->arr[o+j]? = some (Cn f v))->EV.Tf p L->L.all EV.one=true ->
  takeN (X9 L (off-o)) n=some l->(loadCells ⟨f.b i,off,none⟩ n).run P w=.ok (Br f l).toArray w/\EV.Tf p l/\l.all EV.one=true/\l.length=n /\
  ∀j v,l[j]? = some v->w.cell? ⟨f.b i,off+j,none⟩=some (Cn f v):=by
  intro L arr e fr o h1 K h2 y h4 D;obtain⟨E,A⟩:=Adn D;rw[Rp]at E A;have hlen:l.length=n:=by rw[A,b9];omega
  have G:∀j v,l[j]? = some v->w.cell? ⟨f.b i,off+j,none⟩=some (Cn f v):=by
   intro j v hj;rw[A,eR]at hj;split at hj
   ·rw[dJ]at hj
    simp only[World.cell?,h1];have:=h2 _ _ hj;rw[show o+(off-o+j)=off+j by omega]at this;simpa using this
   ·cases hj
  refine⟨?_,A▸A5r y (off-o) n,A▸A5t h4 (off-o) n,hlen,G⟩;have H:(Br f l).length=n:=by rw[C0,hlen]
  rw[<-H];apply run_loadCells_list;intro j v hj;rw[Ad0]at hj;cases F:l[j]? with
  | none=>rw[F]at hj;cases hj
  | some u=>
   rw[F]at hj;cases hj;rw[T8];exact G j u F
 unfold Ir at d;split at d
 ·rename_i L e m
  obtain⟨r,h1,h2⟩:=C.obj i _ m;obtain⟨_,y,h4⟩:=B.get i _ m;simp only[Ul]at h2;subst h2;exact key L _ e (0,0) 0 h1 (cQ _) (fun j v hj=>by simp[Ad0,hj]) y h4 d
 ·rename_i L e s m
  obtain⟨r,h1,more,h2,_⟩:=C.obj i _ m;obtain⟨_,y,h4⟩:=B.get i _ m;subst h2;refine key L _ e (0,0) 0 h1 (cQ _) (fun j v hj=>?_) y h4 d;rw[bK];have:j<(Br f L).length:=by rw[C0];exact(aY.1 hj).1
  simp only[cD];rw[bX this,Ad0,hj];rfl
 ·rename_i ws r0 m
  split at d
  ·rename_i o L hw
   obtain⟨hm,D⟩:=A9l hw;obtain⟨r,h1,_,arr,e,fr,h2,E⟩:=C.obj i _ m;obtain⟨_,J⟩:=B.get i _ m;obtain⟨y,h4⟩:=J _ hm;subst h2;exact key L _ e fr o h1 D (E _ hm) y h4 d
  ·cases d
 ·cases d
theorem Avq(A:S9 p h)(B:S8 f h w)(j:L5 h i off vs=some h')(F:EV.Tf p vs)(h1:vs.all EV.one=true):
 ∃w',(storeCells ⟨f.b i,off,none⟩ (Br f vs)).run P w=.ok () w'/\Move p f h w f h' w'/\Wf p h h':=by
 have u:∀v∈Br f vs,v.oneCell'=true:=Ar7 f vs (by simpa using h1);unfold L5 at j;split at j
 ·rename_i L e m
  obtain⟨r,y,C⟩:=B.obj i _ m;obtain⟨_,D,E⟩:=A.get i _ m;simp only[Ul]at C;subst C;split at j
  ·rename_i L' hs
   cases j;obtain⟨b1,b2⟩:=V7 hs;have d:=run_storeCells_at (P:=P) (f.b i) off e (Br f vs) 0 (Br f L).toArray w y (by simp only[C0,dY];omega) u;refine⟨_,d,?_,Wf.put A m ⟨Ax4 hs D F,Ax3 hs E h1⟩⟩;refine Move.put B m (r:=.cells (Br f L').toArray e (0,0)) ?_ rfl (fun b hb=>setRow_other _ _ _ _ hb) (setRow_size _ _ _) rfl rfl rfl;rw[setRow_heap w (f.b i) _ _ e (0,0) y,b2,Amj];simp
  ·cases j
 ·rename_i L e s m
  obtain⟨r,y,more,C,G⟩:=B.obj i _ m;obtain⟨_,D,E⟩:=A.get i _ m;subst C;split at j
  ·rename_i L' hs
   cases j;obtain⟨b1,b2⟩:=V7 hs;have d:=run_storeCells_at (P:=P) (f.b i) off e (Br f vs) 0 (Br f L++more).toArray w y (by simp only[C0,dY,aG];omega) u;refine⟨_,d,?_,Wf.put A m ⟨Ax4 hs D F,Ax3 hs E h1⟩⟩;refine Move.put B m (r:=.cells (Br f L'++more).toArray e (0,0)) ?_ ⟨more,rfl,G⟩ (fun b hb=>setRow_other _ _ _ _ hb) (setRow_size _ _ _) rfl rfl rfl;rw[setRow_heap w (f.b i) _ _ e (0,0) y,b2,Amj];simp only[List.toList_toArray,dO];rw[eV (by rw[C0];omega),List.drop_append_of_le_length (by simp only[C0];omega)];simp
  ·cases j
 ·cases j
variable (hT:P6 P T)
include hT
theorem Bhe(m:Reads f tm ρ)(y:S9 p h)(A:S8 f h w)
 {o:Oper} (B:o.op=.load t a) (d:Dj T tm (.load t a) h=some (v,h')) :
 h'=h/\v.ok p/\(execOp ρ o).run P w=.ok (.value (Cn f v)) w:=by
 simp only[Dj]at d;split at d
 ·rename_i i off C
  split at d
  ·rename_i e
   split at d
   ·rename_i n G
    split at d
    ·rename_i l j
     cases d;obtain⟨h1,h2,D,h4,E⟩:=Ako (P:=P) y A j;refine⟨rfl,⟨h2,D⟩,?_⟩;simp only[execOp,B,Instr.loadAt,Bh m C,Cn,Instr.sureAddr,loadVar,Sem.run_bind,aT,aI,Ao2 hT w e,Gq hT w G,h1,bI]
    ·cases d
   ·cases d
  ·rename_i e
   split at d
   ·rename_i u j
    cases d;obtain⟨h1,h2,D,h4,E⟩:=Ako (P:=P) y A j;refine⟨rfl,h2.1,?_⟩;have F:=E 0 v rfl;simp only[execOp,B,Instr.loadAt,Bh m C,Cn,Instr.sureAddr,loadVar,Sem.run_bind,aT,aI,Ao2 hT w e,run_load,aX,ak];simp only[dO]at F;rw[F];rfl
   ·cases d
  ·cases d
 ·cases d
theorem Bc8(j:Reads f tm ρ)(C:Lb p n tm)(D:S9 p h)(E:S8 f h w)
 {o:Oper} (F:o.op=.store t a x) (d:Dj T tm (.store t a x) h=some (v,h')) :
 Amx P (execOp ρ o) p f h w v h':=by
 simp only[Dj]at d;split at d
 ·rename_i i off u m G y A
  obtain⟨h1,h2⟩:=An d;obtain⟨B,h4⟩:=An h2;split at h4
  ·rename_i H hw
   cases h4;rw[Tq]at B;have e:=aJ B;obtain⟨c1,c2⟩:=T4 (Em C y) h1;obtain⟨w',J,K,L⟩:=Avq (P:=P) D E hw c1 (by simpa using c2);refine⟨f,w',.skip,?_,.inr ⟨rfl,rfl⟩,K,L,trivial⟩;simp only[execOp,F,Instr.storeAt,Bh j G,Bh j y,Instr.sureAddr,storeVar,Sem.run_bind,aT,aI,Gq hT w A];simp only[Cn,aT,aI,Ss,Sem.run_bind,Gq hT w A];simp[e,J,C0]
  ·cases h4
 ·cases d
omit hT in
theorem Aj5(d:S9 p h)(m:S8 f h w)(e:TypeId){l:List EV}(j:EV.Tf p l)(h1:l.all EV.one=true):
 ∃f' w',(newRow e (Br f l).toArray).run P w=.ok ⟨f'.b h.next,0,none⟩ w'/\Move p f h w f' (h.new (.cells l e)) w'/\Wf p h (h.new (.cells l e))/\grow p h (h.new (.cells l e)) h.next:=by
 refine⟨f.set h.next w.heap.size 0,{ w with heap:=w.heap.push (.cells (Br f l).toArray e) },?_,?_,Wf.new d ⟨Z0 j,h1⟩,.inr ⟨aE _,by rw[Aa.Dl];omega⟩⟩
 ·rw[Loc.Aai];rfl
 ·refine Move.new d m 0 rfl ?_ rfl rfl rfl
  simp only[Ul];rw[G7 (f.P9 _ _ d.fresh) l j]
theorem Bdj(j:S9 p h)(m:S8 f h w)
 {o:Oper} (u:o.op=.alloc t) (d:Dj T tm (.alloc t) h=some (v,h')) :
 Amx P (execOp ρ o) p f h w v h':=by
 simp only[Dj]at d;split at d
 ·rename_i z y
  cases d;obtain⟨x,A,e,B,_,_,C,_⟩:=Aab hT f w y;obtain⟨c1,c2⟩:=T4 (C p) A;rw[<-e]at c1 c2;obtain⟨f',w',D,E,F,G⟩:=Aj5 (P:=P) j m t c1 (by simpa using c2);refine⟨f',w',_,?_,.inl rfl,E,F,G⟩;simp only[execOp,u,Instr.alloc,Sem.run_bind,B,aI,newVar,Ss,<-e,D,aT,Cn]
 ·cases d
omit hT in
theorem Blo(e:Reads f tm ρ)(j:Lb p n tm)(m:S9 p h)(y:S8 f h w)
 {o:Oper} (A:o.op=.box t x) (d:Dj T tm (.box t x) h=some (v,h')) :
 Amx P (execOp ρ o) p f h w v h':=by
 simp only[Dj]at d;split at d
 ·rename_i u hu
  obtain⟨h1,h2⟩:=An d;cases h2;obtain⟨c1,c2⟩:=T4 (Em j hu) h1;obtain⟨f',w',B,C,D,E⟩:=Aj5 (P:=P) m y t c1 (by simpa using c2);refine⟨f',w',_,?_,.inl rfl,C,D,E⟩;simp only[execOp,A,Instr.box,Bh e hu,Sem.run_bind,aI,newVar,Ss,B,aT,Cn]
 ·cases d
omit hT in
theorem A4z(f:Loc)(z:List EV)(m:Nat)(j:m*z.length≠0):
 (Array.range (m*z.length)).map (fun i=>(Br f z).toArray[i%(Br f z).toArray.size]!)=(Br f (rep z m)).toArray:=by
 apply fV;intro i;simp only[Array.getElem?_map,cD,Ad0,dY,C0];by_cases hi:i<m*z.length
 ·rw[Bav z m i hi]
  have d:i%z.length<z.length:=Nat.mod_lt _ (by rcases dC z.length with e|e;(simp[e]at j);exact e);simp[hi,Ad0,d,aD d]
 ·have:(rep z m)[i]? = none:=bh (by rw[Ajx];omega)
  simp[this];omega
theorem Az7 {n:Nat}(E:Reads f tm ρ)(G:S9 p h)(H:S8 f h w)
 {o:Oper} {y:Operand} (J:o.op=.makeSlice t x y) (d:Dj T tm (.makeSlice t x y) h=some (v,h')) :
 Amx P (execOp ρ o) p f h w v h':=by
 simp only[Dj]at d;split at d
 ·rename_i e k a k' b hu K L
  split at d
  ·rename_i z M
   obtain⟨h1,h2⟩:=An d;obtain⟨B,h4⟩:=An h2;cases h4;simp only[dD]at h1 B;obtain⟨u,O,F,Q,_,_,S,i,i1,i2,i3⟩:=Aab hT f w M;obtain⟨c1,c2⟩:=T4 (S p) O;rw[<-F]at c1 c2;have d1:EV.Tf p (rep z b):=(Ic p _).2 fun v C=>(Ic p _).1 c1 v (Ast C)
   have d2:(rep z b).all EV.one=true:=by rw[dN];exact fun v C=>c2 v (Ast C)
   obtain⟨f',w',D,U,V,W⟩:=Aj5 (P:=P) G H e d1 d2;refine⟨f',w',_,?_,.inl rfl,U,V,W⟩;have X:IntKind.i64.wrap (Int.ofNat a)=a:=Ahv .i64 rfl _ 9223372036854775808 rfl rfl (by simp only[aZ];omega) (by simp only[aZ];omega);have wb:IntKind.i64.wrap (Int.ofNat b)=b:=Ahv .i64 rfl _ 9223372036854775808 rfl rfl (by simp only[aZ];omega) (by simp only[aZ];omega);have A:¬((2:Int)^48<(i.bytes:Int)*b):=by
    have:i.bytes*b<=1048576*65536:=gA i3 B;have e:((i.bytes*b:Nat):Int)=(i.bytes:Int)*b:=by simp
    omega
   have m:¬(roomBytes<b*i.bytes):=by
    have:b*i.bytes<=65536*1048576:=gA B i3;unfold roomBytes;omega
   simp only[execOp,J,Instr.makeSlice,Bh E K,Bh E L,Cn,Sem.run_bind,Ds hT w hu,aI,asInt,aT];have Y:(decide ((b:Int)<0)||decide ((i.bytes:Int)*b>2^48)||decide ((a:Int)<0)||decide ((a:Int)>b))=false:=by
    simp only[Bool.or_eq_false_iff,cZ];exact⟨⟨⟨by omega,A⟩,by omega⟩,by omega⟩
   simp only[typeInfo,asIntOf,Sem.run_bind,fR,i1,aI,aT,X,wb];rw[Y];simp only[aX,ak,askRoom,bD,Sem.run_bind,gt_iff_lt,m,aT,aI,sizeOf,typeInfo,fR,i1,i2];by_cases j:b*z.length=0
   ·have er:rep z b = []:=cM.1 (by rw[Ajx];exact j)
    rw[er]at D;have e0:∀g:Nat->Value,Array.map g (Array.range 0)=(Br f []).toArray:=fun g=>by simp[Br]
    simp only[j,bI,Sem.run_bind,aT,aI];rw[e0,D];simp
   ·rw[aF j]
    simp only[Sem.run_bind,Q,aT,aI,Ss,<-F];rw[A4z f z b j,D];simp
  ·cases d
 ·cases d
end
end Go.Ev
