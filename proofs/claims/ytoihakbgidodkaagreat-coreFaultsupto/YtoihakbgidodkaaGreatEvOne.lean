import GoSem.Step
import Derived.Control
import Derived.Calls
import Derived.Laws.CopyRow
import Derived.Great.FillDense
import Derived.Conc.LoneSelect
import Derived.Conc.LoneSelectN
set_option linter.all false
namespace Go.Ev
noncomputable section
theorem a_{p:Prop}(h:p:=by omega):p:=h
theorem c_{p:Prop}(h:p:=by decide):p:=h
theorem fc(d:Nat)(h:0<d:=by omega):∃k,d=k+1:=⟨d-1,by omega⟩
def aA:=@decide_false
def aB:=@decide_true
def aC:=@not_true_eq_false
def aD:=@Nat.le_refl
def aE.{u}:=@List.getElem?_eq_getElem.{u}
def aF.{u}:=@List.length_append.{u}
def aG:=@not_false_eq_true
def aH.{u}:=@if_neg.{u}
def aI:=@Result.andThen_ok
def aJ:=@Nat.eq_of_beq_eq_true
def aK.{u}:=@if_pos.{u}
def aL:=@Nat.lt_of_lt_of_le
def aM.{u}:=@List.mem_of_mem_drop.{u}
def aN.{u}:=@List.mem_singleton.{u}
def aO:=@Nat.ble_eq_true_of_le
def aP.{u}:=@List.mem_cons_of_mem.{u}
def aQ.{u}:=@List.mem_cons_self.{u}
def aR:=@decide_eq_true
def aS:=@Sem.run_pure
def aT:=@Nat.lt_succ_self
def aU:=@decide_eq_false
def aV:=@Bool.false_eq_true
def aW:=@decide_eq_true_eq
def aX:=@Bool.and_eq_true
def aY:=@Int.ofNat_eq_natCast
def aZ.{u}:=@List.getElem?_eq_some_iff.{u}
def ak.{u}:=@if_false.{u}
def av.{u}:=@List.length_drop.{u}
def a8:=@Bool.false_and
def bA.{u}:=@List.getElem_mem.{u}
def bB.{u,v}:=@List.getElem?_map.{u,v}
def bD:=@Int.eq_ofNat_of_zero_le
def bF:=@Int.toNat_natCast
def bG:=@Bool.true_and
def bH.{u}:=@List.mem_append.{u}
def bI.{u}:=@List.mem_of_mem_take.{u}
def bJ:=@Nat.zero_add
def bK.{u}:=@List.length_take.{u}
def bL:=@Nat.le_of_ble_eq_true
def bM.{u}:=@List.length_set.{u}
def bN.{u}:=@if_true.{u}
def bO.{u}:=@List.length_replicate.{u}
def bP.{u}:=@List.length_cons.{u}
def bQ.{u}:=@List.take_of_length_le.{u}
def bR.{u}:=@List.getElem?_cons_zero.{u}
def bS:=@Nat.le_trans
def bT.{u,v}:=@List.length_map.{u,v}
def bU.{u}:=@List.getElem?_append_right.{u}
def bV.{u}:=@List.getElem?_toArray.{u}
def bW.{u}:=@List.getElem?_append_left.{u}
def bX:=@Nat.lt_irrefl
def bY.{u}:=@List.eq_of_mem_replicate.{u}
def bZ.{u}:=@List.mem_cons.{u}
def bc.{u}:=@List.length_eq_zero_iff.{u}
def bh.{u}:=@Array.getElem?_eq_some_iff.{u}
def bm.{u}:=@List.append_assoc.{u}
def br:=@Nat.mul_one
def b9.{u}:=@List.flatten_cons.{u}
def cA.{u}:=@List.nodup_cons.{u}
def cB:=@List.getElem?_range
def cC.{u}:=@List.getElem?_cons_succ.{u}
def cD.{u}:=@List.getElem?_eq_none.{u}
def cF:=@Nat.zero_le
def cI.{u,v}:=@List.map_append.{u,v}
def cJ:=@Nat.not_lt_zero
def cK.{u}:=@Array.getElem?_toList.{u}
def cL:=@step_lone_go
def cM.{u}:=@List.take_length.{u}
def cN.{u,v}:=@List.mem_map.{u,v}
def cO:=@Nat.beq_refl
def cP.{u}:=@Array.getElem?_eq_getElem.{u}
def cQ.{u}:=@Option.some.injEq.{u}
def cR.{u}:=@List.getElem?_set.{u}
def cS:=@of_decide_eq_true
def cT.{u}:=@List.append_nil.{u}
def cU.{u}:=@List.size_toArray.{u}
def cV.{u}:=@List.drop_drop.{u}
def cW.{u}:=@List.getElem?_drop.{u}
def cX.{u}:=@Ne.symm.{u}
def cY.{u,v}:=@List.map_congr_left.{u,v}
def cZ.{u}:=@List.drop_zero.{u}
def cj.{u}:=@List.mem_or_eq_of_mem_set.{u}
def cm.{u}:=@List.drop_eq_getElem_cons.{u}
def cn:=@Int.negSucc_eq
def cq.{u}:=@Array.mem_toList_iff.{u}
def cr.{u}:=@List.drop_of_length_le.{u}
def cu:=@Nat.xor_lt_two_pow
def cv:=@Nat.ble_eq
def cy.{u}:=@List.take_succ_eq_append_getElem.{u}
def cz.{u}:=@List.flatten_append.{u}
def dA:=@Nat.add_zero
def dB:=@List.range_succ
def dC:=@Nat.lt_or_ge
def dD.{u}:=@List.drop_left.{u}
def dE.{u}:=@List.nodup_nil.{u}
def dF:=@Bool.not_false
def dG.{u}:=@List.all_eq_true.{u}
def dH.{u,v}:=@List.map_cons.{u,v}
def dI:=@decide_eq_false_iff_not
def dJ.{u}:=@List.mem_of_getElem?.{u}
def dK:=@Classical.byContradiction
def dL.{u}:=@List.take_append_of_le_length.{u}
def dM.{u}:=@List.take_left.{u}
def dN.{u}:=@List.nil_append.{u}
def dO:=@Nat.zero_testBit
def dP.{u}:=@List.ext_getElem?.{u}
def dQ.{u}:=@Array.ext'.{u}
def dR.{u}:=@List.toList_toArray.{u}
def dS.{u}:=@List.mem_filter.{u}
def dU.{u,v}:=@Option.map_some.{u,v}
def dV:=@Nat.min_eq_left
def dW:=@Nat.eq_zero_or_pos
def dX.{u}:=@List.getElem?_take.{u}
def dY:=@Nat.lt_succ_iff_lt_or_eq
def dZ:=@Int.mul_le_mul_of_nonneg_left
def dh.{u}:=@List.eq_nil_of_length_eq_zero.{u}
def eA.{u}:=@Array.toArray_toList.{u}
def eB:=@Nat.xor_assoc
def eC:=@Bool.and_false
def eD:=@Addr.add_lit
def eE:=@Decidable.not_not
def eF.{u}:=@List.replicate_succ.{u}
def eG.{u}:=@Array.getD_eq_getD_getElem?.{u}
def eH:=@Nat.le_of_succ_le_succ
def eI:=@Nat.pow_succ
def eJ.{u}:=@List.take_append_drop.{u}
def eK.{u}:=@List.filter_append.{u}
def eL.{u}:=@List.length_filter_le.{u}
def eO.{u}:=@List.set_append_right.{u}
def eP:=@Nat.shiftRight_eq_div_pow
def eQ:=@List.length_range
def eR:=@Bool.not_true
def eS.{u,v}:=@Prod.mk.injEq.{u,v}
def eT.{u}:=@List.getElem?_replicate.{u}
def eU:=@decide_eq_decide
def eV.{u}:=@List.drop_append_of_le_length.{u}
def eW:=@List.mem_range
def eX:=@Nat.div_div_eq_div_mul
def eY.{u}:=@Array.getElem?_eq_none.{u}
def eh.{u,v}:=@List.map_replicate.{u,v}
def ek:=@decide_eq_true_iff
def fC.{u}:=@Array.ext_getElem?.{u}
def fD:=@Nat.succ_mul
def fF.{u}:=@List.length_nil.{u}
def fG:=@Nat.sub_self
def fH:=@Bool.eq_iff_iff
def fI.{u}:=@List.mem_iff_getElem?.{u}
def fJ:=@Int.fdiv_eq_ediv_of_nonneg
def fK:=@Nat.div_lt_of_lt_mul
def fL:=@Nat.pow_le_pow_right
def fM.{u}:=@List.filter_cons.{u}
def fN:=@Nat.mod_eq_of_lt
def fO:=@Nat.xor_mod_two_pow
def fP:=@Int.toNat_of_nonneg
def fQ:=@Nat.add_mul
def fR:=@run_program
def fS.{u}:=@List.take_succ_cons.{u}
def fT:=@Nat.zero_mul
def fU:=@Nat.mod_lt
def fV:=@Nat.mul_comm
def fW:=@Nat.and_one_is_mod
def fZ.{u}:=@Option.some.inj.{u}
def fm:=@Go.setRow_other
def gA:=@Bool.true_eq_false
def gC:=@Nat.add_sub_cancel
def gE:=@Nat.min_def
def gF:=@true_and
def gG:=@Nat.mul_le_mul
def gH:=@Go.setRow_heap
def gI:=@false_and
variable {x:Operand}{i m n cap off jR:Nat}{p q:Nat->Prop}{ρ:Operand->Value}{k':IntKind}{e t ty:TypeId}{o:Oper}{w':World}{ps:Array (Nat × Operand)}{d_:List MapEntry}{P:Program}{base:Option Addr}{ts:Array TypeId}{ops:Array Oper}{tmps:Array Value}{α:Type}
noncomputable section
inductive Tr (α:Type) where
 | nil
 | node (l:Tr α) (v:Option α) (r:Tr α)
def Bc {α:Type}(b:Bool)(x y:α):α:=@Bool.rec (fun _=>α) y x b
def Tr.get {α:Type}(t:Tr α):Nat->Option α:=
 @Tr.rec α (fun _=>Nat->Option α) (fun _=>none)
  (fun _ v _ d j i=>@Bool.rec (fun _=>Option α) (@Bool.rec (fun _=>Option α) (j (Nat.pred (Nat.div i 2))) (d (Nat.div i 2)) (Nat.beq (Nat.land i 1) 1)) v (Nat.beq i 0)) t
def Tr.lf {α:Type}(x:Option α)(r:Tr α)(t:Tr α):Tr α:=@Tr.rec α (fun _=>Tr α) .nil (fun a b c _ _=>.node (.node a b c) x r) t
def Tr.rt {α:Type}(l:Tr α)(x:Option α)(t:Tr α):Tr α:=@Tr.rec α (fun _=>Tr α) .nil (fun a b c _ _=>.node l x (.node a b c)) t
def Tr.set {α:Type}(n:Nat):Tr α->Nat->Option α->Tr α:=
 @Nat.rec (fun _=>Tr α->Nat->Option α->Tr α) (fun t _ _=>t)
  (fun _ d t i v=>@Tr.rec α (fun _=>Tr α)
   (@Bool.rec (fun _=>Tr α) (@Bool.rec (fun _=>Tr α) (Tr.rt .nil none (d .nil (Nat.pred (Nat.div i 2)) v)) (Tr.lf none .nil (d .nil (Nat.div i 2) v)) (Nat.beq (Nat.land i 1) 1)) (.node .nil v .nil) (Nat.beq i 0))
   (fun l x r _ _=>@Bool.rec (fun _=>Tr α) (@Bool.rec (fun _=>Tr α) (Tr.rt l x (d r (Nat.pred (Nat.div i 2)) v)) (Tr.lf x r (d l (Nat.div i 2) v)) (Nat.beq (Nat.land i 1) 1)) (.node l v r) (Nat.beq i 0)) t) n
def Tr.put {α:Type}(t:Tr α)(i:Nat)(v:Option α):Tr α:=Tr.set (Nat.succ (Nat.log2 (Nat.succ i))) t i v
inductive EV where
 | int (k:IntKind) (n:Int)
 | bool (b:Bool)
 | str (s:ByteArray)
 | ptr (i off:Nat)
 | F7
 | slice (i off len room:Nat) (op:Bool)
 | tail (i off poff:Nat)
 | Am
 | odd (a:Addr)
 | map (i:Nat)
 | Aku
 | chan (i:Nat)
 | Aea
 | func (f:Nat) (first captured:List EV)
 | Vh (l:Nat)
 | Aib
 | Aan
 | agg (l:List EV)
 | tuple (l:List EV)
 deriving Inhabited
def EV.cells:EV->List EV
 | .agg l=>l
 | v=>[v]
def EV.plain:EV->Bool
 | .tuple _=>false
 | _=>true
inductive Ds where
 | cells (l:List EV) (elem:TypeId)
 | vec (l:List EV) (elem:TypeId) (size:Nat)
 | map (es:List (EV × EV))
 | chan (cap:Nat) (buf:List EV)
 | loop (state:LoopState) (pending:Option Code) (fn:FuncId) (n:Nat) (tmps:Tr EV) (params:List Tmp) (assign body:Code) (defers:Nat)
 | deferred (open_:Bool)
 | view (ws:List (Nat × List EV)) (r:Obj)
structure Ab where
 t:Tr Ds
 next:Nat
 mw:Nat
def Ab.get:Ab->Nat->Option Ds
 | ⟨t,_,_⟩,i=>t.get i
def Ab.put:Ab->Nat->Ds->Ab
 | ⟨t,n,m⟩,i,o=>⟨t.put i (some o),n,Bc (Nat.ble i m) i m⟩
def Ab.del:Ab->Nat->Ab
 | ⟨t,n,m⟩,i=>⟨t.put i none,n,Bc (Nat.ble i m) i m⟩
def Ab.new:Ab->Ds->Ab
 | ⟨t,n,m⟩,o=>⟨t.put n (some o),Nat.succ n,m⟩
structure Aif where
 fn:Nat
 n:Nat
 tmps:Tr EV
 todo:List Item
 defers:List Nat
 ret:Bool
 Dl:Option Nat
structure Hl where
 fr:Aif
 h:Ab
structure Ij where
 fn:Nat->Option Func
 T6:Nat->Option TypeDesc
 size:Nat->Option Nat
 zero:Nat->Option (List EV)
 agg:Nat->Option Bool
 eqs:Nat->Option (List Nat)
 key:Nat->Bool
abbrev Ah:=Nat->List EV->Ab->Option (EV × Ab)
def pb:Value->Option EV
 | .int k n=>some (.int k n)
 | .bool b=>some (.bool b)
 | .string s=>some (.str s)
 | .pointer none=>some .F7
 | .slice none 0 0=>some .Am
 | .map none=>some .Aku
 | .chan none=>some .Aea
 | .nilFunc=>some .Aib
 | .nilIface=>some .Aan
 | _=>none
def pc:List Value->Option (List EV)
 | []=>some []
 | v::r=>match pb v with
  | some x=>match pc r with
   | some y=>some (x::y)
   | none=>none
  | none=>none
def ofV:Value->Option EV
 | .agg cs=>match pc cs.toList with|some l=>some (.agg l)|none=>none
 | .tuple cs=>match cs.toList with | []=>some (.tuple [])|_=>none
 | v=>pb v
abbrev Ay:=Tr EV
def tmp(tm:Ay)(t:Nat):EV:=match tm.get t with|some v=>v|none=>.tuple []
def Cg(tm:Ay):Operand->Option EV
 | .tmp t=>some (match tm.get t with|some v=>v|none=>.tuple [])
 | .const v=>ofV v
 | .global _=>none
 | .func f=>some (.func f [] [])
def Md(tm:Ay):List Operand->Option (List EV)
 | []=>some []
 | x::r=>match Cg tm x with
  | some a=>match Md tm r with
   | some b=>some (a::b)
   | none=>none
  | none=>none
def O9(n:Nat)(tm:Ay)(d:Option Tmp)(v:EV):Ay:=
 match d with
 | none=>tm
 | some d=>Bc (Nat.ble (Nat.succ d) n) (tm.put d (some v)) tm
def len(l:List EV):Nat:=match l with | []=>0|_::r=>Nat.succ (len r)
def Zb:List EV->Nat->List EV
 | [],_=>[]
 | a::r,n=>Bc (Nat.beq n 0) (a::r) (Zb r (Nat.pred n))
def takeN:List EV->Nat->Option (List EV)
 | [],n=>Bc (Nat.beq n 0) (some []) none
 | a::r,n=>Bc (Nat.beq n 0) (some []) (match takeN r (Nat.pred n)with|some x=>some (a::x)|none=>none)
def Jf:List EV->List EV->Option (List EV)
 | l,[]=>some l
 | a::r,v::vs=>match Jf r vs with|some x=>some (v::x)|none=>none
 | [],_::_=>none
def Fw:List EV->Nat->List EV->Option (List EV)
 | [],off,vs=>Bc (Nat.beq off 0) (Jf [] vs) none
 | a::r,off,vs=>Bc (Nat.beq off 0) (Jf (a::r) vs) (match Fw r (Nat.pred off) vs with|some x=>some (a::x)|none=>none)
def j5(ws:List (Nat × List EV))(off:Nat):Option (Nat × List EV):=
 match ws with
 | []=>none
 | (o,l)::r=>Bc (Bc (Nat.ble o off) (Nat.ble (Nat.succ (Nat.sub off o)) (len l)) false) (some (o,l)) (j5 r off)
def I6(h:Ab)(i off n:Nat):Option (List EV):=
 match h.get i with
 | some (.cells l _)=>takeN (Zb l off) n
 | some (.vec l _ _)=>takeN (Zb l off) n
 | some (.view ws _)=>match j5 ws off with|some (o,l)=>takeN (Zb l (Nat.sub off o)) n|none=>none
 | _=>none
def L9(h:Ab)(i off:Nat)(vs:List EV):Option Ab:=
 match h.get i with
 | some (.cells l t)=>match Fw l off vs with|some l'=>some (h.put i (.cells l' t))|none=>none
 | some (.vec l t s)=>match Fw l off vs with|some l'=>some (h.put i (.vec l' t s))|none=>none
 | _=>none
def tH:IntKind->Nat
 | .u8=>256 | .u16=>65536 | .u32=>4294967296 | .u64=>18446744073709551616 | .i8=>128 | .i16=>32768 | .i32=>2147483648 | .i64=>9223372036854775808
def floor:IntKind->Nat
 | .i8=>128 | .i16=>32768 | .i32=>2147483648 | .i64=>9223372036854775808|_=>0
def Cr(k:IntKind)(n:Int):Int:=
 match n with
 | .ofNat m=>Bc (Nat.ble (Nat.succ m) (tH k)) (.ofNat m) (k.wrap (.ofNat m))
 | .negSucc m=>Bc (Nat.ble (Nat.succ m) (floor k)) (.negSucc m) (k.wrap (.negSucc m))
def Ql:IntKind->Nat
 | .u8=>0 | .u16=>1 | .u32=>2 | .u64=>3 | .i8=>4 | .i16=>5 | .i32=>6 | .i64=>7
def j6:Int->Int->Bool
 | .ofNat a,.ofNat b=>Nat.ble (Nat.succ a) b
 | .ofNat _,.negSucc _=>false
 | .negSucc _,.ofNat _=>true
 | .negSucc a,.negSucc b=>Nat.ble (Nat.succ b) a
def iN:Int->Int->Bool
 | .ofNat a,.ofNat b=>Nat.beq a b
 | .negSucc a,.negSucc b=>Nat.beq a b
 | _,_=>false
def pe:List UInt8->List UInt8->Bool
 | [],[]=>true
 | a::r,b::s=>Bc (Nat.beq a.toNat b.toNat) (pe r s) false
 | _,_=>false
def jL:EV->EV->Option Bool
 | .int k a,.int k' b=>Bc (Nat.beq (Ql k) (Ql k')) (some (iN a b)) none
 | .str a,.str b=>some (pe a.data.toList b.data.toList)
 | .bool a,.bool b=>some (Bc a b (Bc b false true))
 | _,_=>none
def Fk:List EV->List EV->Option Bool
 | [],[]=>some true
 | a::r,b::s=>match jL a b with
  | some true=>Fk r s
  | some false=>match Fk r s with|some _=>some false|none=>none
  | none=>none
 | _,_=>none
def shaped:List Nat->List EV->Bool
 | [],[]=>true
 | b::s,.int _ _::l=>Bc (Nat.beq b 0) (shaped s l) false
 | b::s,.bool _::l=>Bc (Nat.beq b 1) (shaped s l) false
 | b::s,.str _::l=>Bc (Nat.beq b 2) (shaped s l) false
 | _,_=>false
def jI(T:Ij)(t:TypeId):EV->EV->Option Bool
 | .agg a,.agg b=>match T.eqs t with|some sh=>Bc (shaped sh a) (Fk a b) none|none=>none
 | .bool a,.bool b=>match T.T6 t with
  | some .bool=>some (Bc a b (Bc b false true))
  | _=>none
 | .F7,.F7=>match T.T6 t with|some (.pointer _)=>some true|_=>none
 | .F7,.ptr _ _=>match T.T6 t with|some (.pointer _)=>some false|_=>none
 | .ptr _ _,.F7=>match T.T6 t with|some (.pointer _)=>some false|_=>none
 | .ptr i o,.ptr j p=>match T.T6 t with|some (.pointer e)=>(match T.size e with|some _=>Bc (Nat.beq i j) (Bc (Nat.beq o p) (some true) none) none|none=>none)|_=>none
 | .Am,.Am=>match T.T6 t with|some (.slice _)=>some true|_=>none
 | .slice ..,.Am=>match T.T6 t with|some (.slice _)=>some false|_=>none
 | .tail ..,.Am=>match T.T6 t with|some (.slice _)=>some false|_=>none
 | _,_=>none
def o8(op:BinOp)(k:IntKind)(a b:Int):Option EV:=
 match op with
 | .add=>some (.int k (Cr k (Int.add a b)))
 | .sub=>some (.int k (Cr k (Int.sub a b)))
 | .mul=>some (.int k (Cr k (Int.mul a b)))
 | .quo=>Bc (iN b 0) none (some (.int k (Cr k (a.tdiv b))))
 | .rem=>Bc (iN b 0) none (some (.int k (a.tmod b)))
 | .and=>match a,b with | .ofNat a,.ofNat b=>some (.int k (Cr k (.ofNat (Nat.land a b))))|_,_=>none
 | .or=>match a,b with | .ofNat a,.ofNat b=>some (.int k (Cr k (.ofNat (Nat.lor a b))))|_,_=>none
 | .xor=>match a,b with | .ofNat a,.ofNat b=>some (.int k (Cr k (.ofNat (Nat.xor a b))))|_,_=>none
 | .lss=>some (.bool (j6 a b))
 | .leq=>some (.bool (Bc (j6 b a) false true))
 | .gtr=>some (.bool (j6 b a))
 | .geq=>some (.bool (Bc (j6 a b) false true))
 | .eql=>some (.bool (iN a b))
 | .neq=>some (.bool (Bc (iN a b) false true))
 | _=>none
def tI(op:BinOp)(k:IntKind)(a:Int)(b:Nat):Option EV:=
 match op with
 | .shl=>some (.int k (Cr k (Int.mul a (.ofNat (Nat.pow 2 (Bc (Nat.ble b k.bits) b k.bits))))))
 | .shr=>match a with
  | .ofNat a=>some (.int k (.ofNat (Nat.shiftRight a (Bc (Nat.ble b k.bits) b k.bits))))
  | .negSucc _=>some (.int k (a.fdiv (.ofNat (Nat.pow 2 (Bc (Nat.ble b k.bits) b k.bits)))))
 | _=>none
def tx:BinOp->Bool
 | .shl=>true
 | .shr=>true
 | _=>false
def bin(T:Ij)(op:BinOp)(t:TypeId)(x y:EV):Option EV:=
 match x,y with
 | .int k a,.int k' b=>Bc (tx op) (match b with | .ofNat b=>tI op k a b | .negSucc _=>none)
  (Bc (Nat.beq (Ql k) (Ql k')) (o8 op k a b) none)
 | x,y=>match op with
  | .eql=>match jI T t x y with|some b=>some (.bool b)|none=>none
  | .neq=>match jI T t x y with|some b=>some (.bool (Bc b false true))|none=>none
  | _=>none
def fill(place:Nat->Option (Nat × Nat))(cells:List EV):List (Nat × EV)->Option (List EV)
 | []=>some cells
 | (i,v)::rest=>
  match place i with
  | none=>none
  | some (off,size)=>Bc (v.plain) (Bc (Nat.beq (len v.cells) size) (match Fw cells off v.cells with
   | some c=>fill place c rest
   | none=>none) none) none
def Yt(tm:Ay):List (Nat × Operand)->Option (List (Nat × EV))
 | []=>some []
 | (i,x)::r=>match Cg tm x with
  | some a=>match Yt tm r with
   | some b=>some ((i,a)::b)
   | none=>none
  | none=>none
def rep(l:List EV):Nat->List EV
 | 0=>[]
 | n+1=>l++rep l n
def bound(x:Option EV)(hi jR:Nat):Option Nat:=
 match x with
 | none=>some jR
 | some (.int _ (.ofNat n))=>Bc (Nat.ble n hi) (some n) none
 | _=>none
def iJ(x:EV)(size:Nat)(lo hi mx:Option EV):Option EV:=
 match x with
 | .slice i off len room op=>
  match mx with
  | none=>
   match bound hi room len with
   | none=>none
   | some h=>match bound lo h 0 with
    | none=>none
    | some l=>
     Bc op
      (Bc (Nat.beq l 0) (some (.slice i off h room true))
       (Bc (Nat.ble (Nat.succ l) room) (some (.slice i (Nat.add off (Nat.mul l size)) (Nat.sub h l) (Nat.sub room l) true))
        (Bc (Nat.beq l room) (Bc (Nat.beq h l) (some (.tail i (Nat.add off (Nat.mul l size)) off)) none) none)))
      (Bc (Nat.ble l room) (some (.slice i (Bc (Nat.beq room l) off (Nat.add off (Nat.mul l size))) (Nat.sub h l) (Nat.sub room l) false)) none)
  | some _=>
   match bound mx room 0,hi with
   | some m,some _=>match bound hi m 0 with
    | none=>none
    | some h=>match bound lo h 0 with
     | none=>none
     | some l=>some (.slice i (Bc (Nat.beq m l) off (Nat.add off (Nat.mul l size))) (Nat.sub h l) (Nat.sub m l) false)
   | _,_=>none
 | .Am=>
  match mx with
  | none=>
   match bound hi 0 0 with
   | none=>none
   | some h=>match bound lo h 0 with
    | none=>none
    | some _=>some .Am
  | some _=>none
 | _=>none
def je(tm:Ay):Option Operand->Option (Option EV)
 | none=>some none
 | some x=>match Cg tm x with
  | some v=>some (some v)
  | none=>none
def lenOf:EV->Option Nat
 | .Am=>some 0
 | .slice _ _ n _ _=>some n
 | .tail ..=>some 0
 | .odd _=>some 0
 | _=>none
def cellsOf(h:Ab)(size n:Nat):EV->Option (List EV)
 | .Am=>Bc (Nat.beq n 0) (some []) none
 | .slice i off _ _ _=>Bc (Nat.beq n 0) (some []) (I6 h i off (Nat.mul n size))
 | .tail ..=>Bc (Nat.beq n 0) (some []) none
 | _=>none
def append(T:Ij)(st:TypeId)(s x:EV)(h:Ab):Option (EV × Ab):=
 match T.T6 st with
 | some (.slice e)=>match T.size e,T.zero e with
  | some size,some _=>match lenOf x with
   | some n=>Bc (Nat.beq n 0)
    (match s with
     | .slice _ _ d room _=>Bc (Nat.ble d room) (some (s,h)) none
     | .Am=>some (s,h)
     | _=>none)
    (Bc (Nat.ble n 65536) (match cellsOf h size n x with
    | some new=>
     (match s with
     | .Am=>some (.slice h.next 0 n n true,h.new (.vec new e size))
     | .slice i off d room op=>Bc (Nat.ble d 1048576) (match cellsOf h size d s with
      | some By=>
       Bc op
        (Bc (Nat.beq off 0) (Bc (Nat.beq room d) (match h.get i with
         | some (.vec l e' s')=>Bc (Nat.beq (len l) (Nat.mul d size)) (Bc (Nat.beq s' size) (Bc (Nat.beq e' e)
          (some (.slice h.next 0 (Nat.add d n) (Nat.add d n) true,(h.del i).new (.vec (By++new) e size))) none) none) none
         | _=>none) none) none)
        (Bc (Nat.ble (Nat.add d n) room) none (some (.slice h.next 0 (Nat.add d n) (Nat.add d n) true,h.new (.vec (By++new) e size))))
      | none=>none) none
     | _=>none)
    | none=>none) none)
   | none=>none
  | _,_=>none
 | _=>none
def l_:EV->EV->Option Bool
 | .agg a,.agg b=>Fk a b
 | .int k a,.int k' b=>Bc (Nat.beq (Ql k) (Ql k')) (some (iN a b)) none
 | _,_=>none
def Oe(T:Ij)(t:TypeId):EV->Bool
 | .agg a=>Bc (T.key t) (match T.eqs t with
  | some sh=>Bc (shaped sh a) (match Fk a a with|some _=>true|none=>false) false
  | none=>false) false
 | .int k _=>match T.T6 t with
  | some (.int k')=>Nat.beq (Ql k) (Ql k')
  | _=>false
 | _=>false
def Hy(k:EV):List (EV × EV)->Nat->Option (Option (Nat × EV))
 | [],_=>some none
 | (a,b)::r,i=>match l_ k a with
  | some true=>some (some (i,b))
  | some false=>Hy k r (Nat.succ i)
  | none=>none
def hQ(mx:Bool)(k:IntKind)(a:Int):List EV->Option EV
 | []=>some (.int k a)
 | .int _ b::r=>hQ mx k (Bc (Bc mx (j6 a b) (j6 b a)) b a) r
 | _=>none
def w7(l:List UInt8):Nat:=match l with | []=>0|_::r=>Nat.succ (w7 r)
def builtin(T:Ij)(b:Builtin)(ts:Array TypeId)(args:List EV)(h:Ab):Option (EV × Ab):=
 match b,args with
 | .append,[s,x]=>match ts.toList with | [t,u]=>(match T.T6 u with|some (.slice _)=>append T t s x h|_=>none)|_=>none
 | .len,[x]=>match ts.toList with
  | [t]=>match T.T6 t,x with
   | some (.array n _),_=>some (.int .i64 (.ofNat n),h)
   | some (.slice _),x=>match lenOf x with|some n=>some (.int .i64 (.ofNat n),h)|none=>none
   | some .string,.str s=>some (.int .i64 (.ofNat (w7 s.data.toList)),h)
   | some (.chan ..),.chan i=>match h.get i with|some (.chan _ buf)=>some (.int .i64 (.ofNat (len buf)),h)|_=>none
   | _,_=>none
  | _=>none
 | .copy,[d,s]=>match ts.toList with
  | [t,u]=>match T.T6 t,T.T6 u with
   | some (.slice e),some (.slice _)=>match T.size e,lenOf d,lenOf s with
    | some size,some dn,some y=>
     let n:=Bc (Nat.ble y dn) y dn
     Bc (Nat.beq n 0) none (match cellsOf h size n s with
     | some cs=>(match d with
      | .slice i off _ _ _=>match L9 h i off cs with|some h'=>some (.int .i64 (.ofNat n),h')|none=>none
      | _=>none)
     | none=>none)
    | _,_,_=>none
   | _,_=>none
  | _=>none
 | .delete,[m,k]=>match ts.toList with
  | t::_=>match T.T6 t,m with
   | some (.map A _),.map i=>Bc (Oe T A k) (match h.get i with
    | some (.map es)=>match Hy k es 0 with
     | some (some (j,_))=>some (.tuple [],h.put i (.map (es.eraseIdx j)))
     | some none=>some (.tuple [],h.put i (.map es))
     | none=>none
    | _=>none) none
   | _,_=>none
  | _=>none
 | .min,.int k a::l=>match hQ false k a l with|some v=>some (v,h)|none=>none
 | .max,.int k a::l=>match hQ true k a l with|some v=>some (v,h)|none=>none
 | _,_=>none
def part(T:Ij)(t:TypeId)(cs:List EV)(off:Nat):Option EV:=
 match T.agg t with
 | some true=>(match T.size t with
  | some n=>match takeN (Zb cs off) n with|some l=>some (.agg l)|none=>none
  | none=>none)
 | some false=>(match Zb cs off with|v::_=>some v | []=>none)
 | none=>none
def lU(l:List Field)(i:Nat):Option Field:=
 match l with
 | []=>none
 | a::r=>Bc (Nat.beq i 0) (some a) (lU r (Nat.pred i))
def zeroOf(T:Ij)(t:TypeId):Option EV:=
 match T.zero t with
 | some z=>match T.agg t with
  | some true=>some (.agg z)
  | some false=>(match z with | [v]=>some v|_=>none)
  | none=>none
 | none=>none
def placesOf(T:Ij):List Field->Option (List (Nat × Nat))
 | []=>some []
 | f::r=>match T.size f.type with
  | some n=>match placesOf T r with
   | some l=>some ((f.offset,n)::l)
   | none=>none
  | none=>none
def kT(l:List (Nat × Nat))(i:Nat):Option (Nat × Nat):=
 match l with
 | []=>none
 | a::r=>Bc (Nat.beq i 0) (some a) (kT r (Nat.pred i))
def pf(l:List UInt8)(i:Nat):Option UInt8:=
 match l with
 | []=>none
 | a::r=>Bc (Nat.beq i 0) (some a) (pf r (Nat.pred i))
def E2(T:Ij)(tm:Ay)(op:Op):Option EV:=
 match op with
 | .move x=>Cg tm x
 | .assign x=>Cg tm x
 | .pick c a b=>match Cg tm c with
  | some (.bool true)=>Cg tm a
  | some (.bool false)=>Cg tm b
  | _=>none
 | .binOp op t x y _=>match Cg tm x with
  | some a=>match Cg tm y with
   | some b=>bin T op t a b
   | none=>none
  | none=>none
 | .unOp .not _ x=>match Cg tm x with
  | some (.bool b)=>some (.bool (Bc b false true))
  | _=>none
 | .unOp .neg _ x=>match Cg tm x with
  | some (.int k n)=>some (.int k (Cr k (Int.sub 0 n)))
  | _=>none
 | .nilCheck x=>match Cg tm x with
  | some (.ptr i o)=>some (.ptr i o)
  | _=>none
 | .fieldAddr s x f=>match Cg tm x with
  | some (.ptr i off)=>match T.T6 s with
   | some (.struct fields)=>match lU fields.toList f with
    | some fd=>match T.size fd.type with
     | some n=>Bc (Nat.beq n 0) none (some (.ptr i (Nat.add off fd.offset)))
     | none=>none
    | none=>none
   | _=>none
  | _=>none
 | .indexAddr t x ix=>match Cg tm ix with
  | some (.int _ (.ofNat n))=>match T.T6 t,Cg tm x with
   | some (.array len e),some (.ptr i off)=>match T.size e with
    | some s=>Bc (Nat.ble (Nat.succ n) len) (some (.ptr i (Nat.add off (Nat.mul n s)))) none
    | none=>none
   | some (.slice e),some (.slice i off len _ _)=>match T.size e with
    | some s=>Bc (Nat.ble (Nat.succ n) len) (some (.ptr i (Nat.add off (Nat.mul n s)))) none
    | none=>none
   | _,_=>none
  | _=>none
 | .index t x ix=>match Cg tm ix with
  | some (.int _ (.ofNat n))=>match T.T6 t,Cg tm x with
   | some (.array len e),some (.agg cs)=>match T.size e with
    | some s=>Bc (Nat.ble (Nat.succ n) len) (part T e cs (Nat.mul n s)) none
    | none=>none
   | some .string,some (.str s)=>match pf s.data.toList n with
    | some b=>some (.int .u8 (.ofNat b.toNat))
    | none=>none
   | _,_=>none
  | _=>none
 | .field t x f=>match T.T6 t,Cg tm x with
  | some (.struct fields),some (.agg cs)=>match lU fields.toList f with
   | some fd=>part T fd.type cs fd.offset
   | none=>none
  | _,_=>none
 | .convert src dst x=>match T.T6 src,T.T6 dst,Cg tm x with
  | some _,some (.int k),some (.int _ n)=>some (.int k (Cr k n))
  | _,_,_=>none
 | .extract x ix=>match Cg tm x with
  | some (.tuple l)=>match Zb l ix with|v::_=>some v | []=>none
  | _=>none
 | .slice t x lo hi mx=>
  match je tm lo,je tm hi,je tm mx with
  | some lo,some hi,some mx=>match T.T6 t,Cg tm x with
   | some (.array n e),some (.ptr i off)=>match T.size e with
    | some s=>iJ (.slice i off n n false) s lo hi mx
    | none=>none
   | some (.slice e),some v=>match T.size e with
    | some s=>iJ v s lo hi mx
    | none=>none
   | _,_=>none
  | _,_,_=>none
 | .build t ps=>match T.zero t,Yt tm ps.toList,T.T6 t with
  | some z,some l,some (.struct fields)=>match placesOf T fields.toList with
   | some ps=>match fill (kT ps) z l with
    | some c=>some (.agg c)
    | none=>none
   | none=>none
  | some z,some l,some (.array _ e)=>match T.size e with
   | some s=>match fill (fun i=>some (Nat.mul i s,s)) z l with
    | some c=>some (.agg c)
    | none=>none
   | none=>none
  | _,_,_=>none
 | .makeFunc (.func f) first captured=>match Md tm first.toList,Md tm captured.toList with
  | some a,some b=>some (.func f a b)
  | _,_=>none
 | .sliceToArrayPointer t x=>match T.T6 t,Cg tm x with
  | some (.array n _),some (.slice i off len _ _)=>Bc (Nat.ble n len) (some (.ptr i off)) none
  | _,_=>none
 | _=>none
def mT:Op->Bool
 | .move _=>true | .assign _=>true | .pick ..=>true | .binOp ..=>true | .unOp ..=>true | .nilCheck _=>true | .fieldAddr ..=>true | .indexAddr ..=>true | .index ..=>true
 | .field ..=>true | .convert ..=>true | .extract ..=>true | .slice ..=>true | .build ..=>true | .makeFunc ..=>true | .sliceToArrayPointer ..=>true
 | _=>false
def Dr(T:Ij)(tm:Ay)(op:Op)(h:Ab):Option (EV × Ab):=
 match op with
 | .load t a=>match Cg tm a with
  | some (.ptr i off)=>match T.agg t with
   | some true=>(match T.size t with
    | some n=>match I6 h i off n with|some l=>some (.agg l,h)|none=>none
    | none=>none)
   | some false=>(match I6 h i off 1 with|some [v]=>some (v,h)|_=>none)
   | none=>none
  | _=>none
 | .store t a x=>match Cg tm a,Cg tm x,T.size t with
  | some (.ptr i off),some v,some n=>Bc (v.plain) (Bc (Nat.beq (len v.cells) n)
   (match L9 h i off v.cells with|some h'=>some (.tuple [],h')|none=>none) none) none
  | _,_,_=>none
 | .alloc t=>match T.zero t with
  | some z=>some (.ptr h.next 0,h.new (.cells z t))
  | none=>none
 | .box t x=>match Cg tm x with
  | some v=>Bc v.plain (some (.ptr h.next 0,h.new (.cells v.cells t))) none
  | none=>none
 | .call { callee:=.builtin b,args,argTypes }=>match Md tm args.toList with
  | some as=>builtin T b argTypes as h
  | none=>none
 | .buildSlice t n ps=>match T.T6 t,Yt tm ps.toList with
  | some (.slice e),some l=>match T.size e,T.zero e with
   | some s,some z=>Bc (Nat.ble (Nat.mul n s) 65536) (match fill (fun i=>some (Nat.mul i s,s)) (rep z n) l with
    | some c=>some (.slice h.next 0 n n false,h.new (.cells c e))
    | none=>none) none
   | _,_=>none
  | _,_=>none
 | .makeSlice t l c=>match T.T6 t,Cg tm l,Cg tm c with
  | some (.slice e),some (.int _ (.ofNat n)),some (.int _ (.ofNat m))=>match T.zero e with
   | some z=>Bc (Nat.ble n m) (Bc (Nat.ble m 65536) (some (.slice h.next 0 n m false,h.new (.cells (rep z m) e))) none) none
   | none=>none
  | _,_,_=>none
 | .makeMap _ none=>some (.map h.next,h.new (.map []))
 | .makeChan t s=>match T.T6 t,Cg tm s with
  | some (.chan _ e),some (.int _ (.ofNat n))=>match T.size e with
   | some _=>Bc (Nat.ble n 65536) (some (.chan h.next,h.new (.chan n []))) none
   | none=>none
  | _,_=>none
 | .lookup t x k ok=>match T.T6 t,Cg tm x,Cg tm k with
  | some (.map u e),some (.map i),some d=>Bc (Oe T u d) (match h.get i with
   | some (.map es)=>match Hy d es 0 with
    | some (some (_,v))=>some (Bc ok (.tuple [v,.bool true]) v,h)
    | some none=>match zeroOf T e with
     | some zv=>some (Bc ok (.tuple [zv,.bool false]) zv,h)
     | none=>none
    | none=>none
   | _=>none) none
  | _,_,_=>none
 | .mapUpdate t m k x=>match T.T6 t,Cg tm m,Cg tm k,Cg tm x with
  | some (.map u _),some (.map i),some d,some v=>Bc (Oe T u d) (match h.get i with
   | some (.map es)=>match Hy d es 0 with
    | some (some (j,_))=>some (.tuple [],h.put i (.map (es.set j (d,v))))
    | some none=>some (.tuple [],h.put i (.map (es++[(d,v)])))
    | none=>none
   | _=>none) none
  | _,_,_,_=>none
 | .select cs false=>match cs.toList with
  | [c]=>match Cg tm c.chan,c.send with
   | some (.chan i),some x=>match h.get i,Cg tm x with
    | some (.chan cap buf),some v=>match zeroOf T c.elem with
     | some _=>Bc (Nat.ble (Nat.succ (len buf)) cap) (some (.tuple [.int .i64 0,.bool false],h.put i (.chan cap (buf++[v]))))
      (some (.tuple [.int .i64 (-1),.bool false],h))
     | none=>none
    | _,_=>none
   | some (.chan i),none=>match h.get i,zeroOf T c.elem with
    | some (.chan cap buf),some zv=>
     match buf with
     | v::r=>some (.tuple [.int .i64 0,.bool true,v],h.put i (.chan cap r))
     | []=>some (.tuple [.int .i64 (-1),.bool false,zv],h)
    | _,_=>none
   | _,_=>none
  | _=>none
 | _=>none
def setArgs:List EV->Nat->Tr EV->Tr EV
 | [],_,t=>t
 | v::r,i,t=>setArgs r (Nat.succ i) (t.put i (some v))
def Vy:List Tmp->List EV->Nat->Tr EV->Option (Tr EV)
 | [],[],_,t=>some t
 | p::r,v::s,n,t=>Vy r s n (Bc (Nat.ble (Nat.succ p) n) (t.put p (some v)) t)
 | _,_,_,_=>none
def enter(T:Ij)(f:Nat)(args:List EV):Option Aif:=
 match T.fn f with
 | some { ntmps:=n,body:=some c,.. }=>Bc (Nat.ble (len args) n) (some ⟨f,n,setArgs args 0 .nil,[.code c],[],false,none⟩) none
 | _=>none
def j8(l:List Oper)(i:Nat):Option Oper:=
 match l with
 | []=>none
 | a::r=>Bc (Nat.beq i 0) (some a) (j8 r (Nat.pred i))
def yielded(ops:List Oper)(tm:Ay)(j:Nat):Option Bool:=
 match j8 ops j with
 | some o=>match o.dst with
  | some d=>match tm.get d with
   | some (.bool b)=>some b
   | _=>none
  | none=>none
 | none=>none
def wanted(ops:List Oper)(tm:Ay)(g:Option (Nat × Bool)):Bool:=
 match g with
 | none=>true
 | some (j,want)=>match yielded ops tm j with|some b=>Bc b want (Bc want false true)|none=>false
def aop(T:Ij)(call round:Ah)(tm:Ay)(op:Op)(h:Ab):Option (EV × Ab):=
 Bc (mT op) (match E2 T tm op with|some v=>some (v,h)|none=>none)
  (match op with
  | .call { callee:=.value f,args,.. }=>match Cg tm f,Md tm args.toList with
   | some (.func g first captured),some as=>call g (first++(as++captured)) h
   | some (.Vh l),some as=>round l as h
   | _,_=>none
  | op=>Dr T tm op h)
def jm(T:Ij)(call round:Ah)(n:Nat)(ops:List Oper):List Oper->Ay->Ab->Option (Ay × Ab)
 | [],tm,h=>some (tm,h)
 | ⟨dst,op,_,_,_,g⟩::r,tm,h=>Bc (wanted ops tm g)
  (match aop T call round tm op h with
   | some (v,h')=>jm T call round n ops r (O9 n tm dst v) h'
   | none=>none)
  (jm T call round n ops r (O9 n tm dst (.tuple [])) h)
inductive kV where
 | val|load|new|pur|sto|big
def lX:Op->Bool
 | .call { callee:=.builtin .len,.. }=>true
 | .call { callee:=.builtin .min,.. }=>true
 | .call { callee:=.builtin .max,.. }=>true
 | _=>false
def cls:Op->kV
 | .load ..=>.load
 | .store ..=>.sto
 | .alloc _=>.new | .box ..=>.new | .buildSlice ..=>.new | .makeSlice ..=>.new | .makeMap ..=>.new | .makeChan ..=>.new
 | op=>Bc (mT op) .val (Bc (lX op) .pur .big)
def mU(e:Edge):Bool:=
 match e.ground with
 | .textOnly _=>false
 | .gcOnly _=>false
 | _=>true
def pg(bs:Tr Nat):List Edge->Nat->Nat
 | [],x=>x
 | e::r,x=>pg bs r (Bc (mU e) (Nat.lor x (Nat.lor (Nat.shiftLeft 1 e.on) (match bs.get e.on with|some y=>y|none=>0))) x)
def Oj:List Oper->Nat->Tr Nat->Tr Nat
 | [],_,bs=>bs
 | o::r,i,bs=>Oj r (Nat.succ i) (bs.put i (some (pg bs o.after.toList 0)))
def ma:List Operand->Nat->Nat
 | [],x=>x
 | .tmp t::r,x=>ma r (Nat.lor x (Nat.shiftLeft 1 t))
 | _::r,x=>ma r x
def mV(o:Oper):Nat:=match o.dst with|some d=>Nat.shiftLeft 1 d|none=>0
def Zf(ops:List Oper)(o:Oper):Nat:=
 Nat.lor (ma o.op.operands.toList 0) (match o.guard with|some (j,_)=>(match j8 ops j with|some g=>mV g|none=>0)|none=>0)
def tJ(j d l u l' b:Nat):Bool:=
 Bc (Nat.beq (Nat.land b (Nat.shiftLeft 1 j)) 0) (Nat.beq (Nat.lor (Nat.land d (Nat.lor u l')) (Nat.land l u)) 0) true
def qN(u l' b:Nat):List (Nat × Nat)->Nat->Bool
 | [],_=>true
 | (d,l)::r,j=>Bc (tJ j d l u l' b) (qN u l' b r (Nat.succ j)) false
def lT(ops:List Oper)(bs:Tr Nat):List Oper->Nat->List (Nat × Nat)->Bool
 | [],_,_=>true
 | o::r,i,ms=>match bs.get i with
  | some b=>Bc (qN (mV o) (Zf ops o) b ms 0) (lT ops bs r (Nat.succ i) (ms++[(mV o,Zf ops o)])) false
  | none=>false
def within(x b:Nat):Bool:=Nat.beq (Nat.land x b) x
def Yl(b q:Nat):List (Nat × Nat)->Bool
 | []=>true
 | (m,w)::r=>Bc (Bc (within m b) true (Nat.ble (Nat.succ q) w)) (Yl b q r) false
def Yj(b w:Nat):List (Nat × Nat)->Bool
 | []=>true
 | (m,q)::r=>Bc (Bc (within m b) true (Nat.ble (Nat.succ q) w)) (Yj b w r) false
def loose(b:Nat):List (Nat × Nat)->List Nat
 | []=>[]
 | (m,q)::r=>Bc (within m b) (loose b r) (q::loose b r)
def j7(t:Tr Ds):List Nat->Tr Ds
 | []=>t
 | q::r=>(j7 t r).put q none
def jU(t d:Tr Ds):List Nat->Tr Ds
 | []=>d
 | q::r=>(jU t d r).put q (t.get q)
structure iP where
 tm:Ay
 h:Ab
 bg:Nat
 nw:List (Nat × Nat)
 Cx:List (Nat × Nat)
 lou:List (Nat × Nat)
 st:List (Nat × Nat)
def Fc(b q:Nat):List (Nat × Nat)->Bool
 | []=>true
 | (m,r)::l=>Bc (Bc (within m b) true (Bc (Nat.beq q r) false true)) (Fc b q l) false
def Axm(b:Nat):List (Nat × Nat)->Bool
 | []=>true
 | (m,_)::l=>Bc (within m b) (Axm b l) false
def Az6(q:Nat):List Nat->Bool
 | []=>true
 | r::l=>Bc (Nat.beq q r) false (Az6 q l)
def Wa(T:Ij)(call round:Ah)(n:Nat)(ops:List Oper)(bs:Tr Nat)(base:Nat)(o:Oper)(i:Nat)(s:iP):Option iP:=
 match o,s with
 | ⟨dst,op,_,_,_,g⟩,⟨tm,h,bg,nw,Cx,lou,st⟩=>Bc (wanted ops tm g)
  (match bs.get i with
  | none=>none
  | some b=>match cls op with
   | .val=>match E2 T tm op with
    | some v=>some ⟨O9 n tm dst v,h,bg,nw,Cx,lou,st⟩
    | none=>none
   | .load=>match op with
    | .load t x=>match Cg tm x with
     | some (.ptr q _)=>
      Bc (Bc (Fc b q st) (Bc (Nat.ble (Nat.succ q) base) (Yl b q lou) (Bc (within bg b) (match loose b nw with | []=>true|_=>false) false)) false) (match Dr T tm (.load t x) h with
      | some (v,_)=>some ⟨O9 n tm dst v,h,bg,nw,(Nat.shiftLeft 1 i,q)::Cx,lou,st⟩
      | none=>none) none
     | _=>none
    | _=>none
   | .new=>match Dr T tm op h with
    | some (v,h')=>some ⟨O9 n tm dst v,h',bg,(Nat.shiftLeft 1 i,h.next)::nw,Cx,lou,st⟩
    | none=>none
   | .sto=>match op with
    | .store t a x=>match Cg tm a with
     | some (.ptr q _)=>
      Bc (Bc (within bg b) (Bc (Fc b q st) (Bc (Fc b q Cx) (Az6 q (loose b nw)) false) false) false) (match Dr T tm (.store t a x) h with
      | some (v,h')=>some ⟨O9 n tm dst v,h',bg,nw,Cx,lou,(Nat.shiftLeft 1 i,q)::st⟩
      | none=>none) none
     | _=>none
    | _=>none
   | .pur=>match Dr T tm op ⟨.nil,h.next,h.next⟩with
    | some (v,_)=>some ⟨O9 n tm dst v,h,bg,nw,Cx,lou,st⟩
    | none=>none
   | .big=>Bc (Bc (within bg b) (Axm b st) false) (match h with
    | ⟨t,nx,mw⟩=>match aop T call round tm op ⟨j7 t (loose b nw),nx,nx⟩with
     | some (v,⟨u,j,d⟩)=>
      Bc (Nat.ble nx d)
       (some ⟨O9 n tm dst v,⟨jU t u (loose b nw),j,mw⟩,Nat.lor bg (Nat.shiftLeft 1 i),nw,Cx,lou,st⟩)
       (Bc (Yj b d Cx)
        (some ⟨O9 n tm dst v,⟨jU t u (loose b nw),j,Bc (Nat.ble mw d) mw d⟩,Nat.lor bg (Nat.shiftLeft 1 i),nw,Cx,(Nat.shiftLeft 1 i,d)::lou,st⟩)
        none)
     | none=>none) none)
  (some ⟨O9 n tm dst (.tuple []),h,bg,nw,Cx,lou,st⟩)
def Sp(T:Ij)(call round:Ah)(n:Nat)(ops:List Oper)(bs:Tr Nat)(base:Nat):List Oper->Nat->iP->Option iP
 | [],_,s=>some s
 | o::r,i,s=>match Wa T call round n ops bs base o i s with
  | some s'=>Sp T call round n ops bs base r (Nat.succ i) s'
  | none=>none
def tK(i:Nat):List Edge->Bool
 | []=>true
 | e::r=>Bc (Bc (mU e) (Nat.ble (Nat.succ e.on) i) true) (tK i r) false
def mQ:List Oper->Nat->Bool
 | [],_=>true
 | o::r,i=>Bc (tK i o.after.toList) (mQ r (Nat.succ i)) false
def kU(T:Ij)(call round:Ah)(n:Nat)(ops:List Oper)(tm:Ay)(h:Ab):Option (Ay × Ab):=
 Bc (mQ ops 0) (Bc (lT ops (Oj ops 0 .nil) ops 0 []) (match Sp T call round n ops (Oj ops 0 .nil) h.next ops 0 ⟨tm,h,0,[],[],[],[]⟩with
  | some ⟨d,h',_,_,_,_,_⟩=>some (d,h')
  | none=>none) none) none
def Mr(T:Ij)(tm:Ay)(h:Ab):List ResultVar->Option (List EV)
 | []=>some []
 | .tmp t::r=>match Mr T tm h r with|some l=>some (tmp tm t::l)|none=>none
 | .cell a t::r=>match tmp tm a,Mr T tm h r,T.size t with
  | .ptr i off,some l,some n=>match I6 h i off n with
   | some cs=>match T.agg t with
    | some true=>some (.agg cs::l)
    | some false=>(match cs with | [v]=>some (v::l)|_=>none)
    | none=>none
   | none=>none
  | _,_,_=>none
inductive AR where
 | go (s:Hl)
 | done (v:EV) (h:Ab)
 | fail
def leave(fn n:Nat)(tm:Ay)(todo:List Item)(defers:List Nat)(Dl:Option Nat)(h:Ab)(jump:Option Code):AR:=
 match Dl with
 | none=>match jump with
  | none=>.go ⟨⟨fn,n,tm,todo,defers,true,Dl⟩,h⟩
  | some .ret=>.go ⟨⟨fn,n,tm,todo,defers,true,Dl⟩,h⟩
  | some _=>.fail
 | some l=>match h.get l with
  | some (.loop _ _ f n tm ps d' body d)=>
   match jump with
   | none=>.done (.bool true) (h.put l (.loop .ready none f n tm ps d' body d))
   | some c=>.done (.bool false) (h.put l (.loop .done (some c) f n tm ps d' body d))
  | _=>.fail
def behind(fn n:Nat)(tm:Ay)(defers:List Nat)(Dl:Option Nat)(l:Nat)(k:List Item)(r:Option (EV × Ab)):AR:=
 match r with
 | none=>.fail
 | some (_,h)=>match h.get l with
  | some (.loop st p f u j ps d' body d)=>match st with
   | .busy=>.fail
   | _=>.go ⟨⟨fn,n,tm,(match p with|some c=>.code c::k|none=>k),defers,false,Dl⟩,h.put l (.loop .exhausted p f u j ps d' body d)⟩
  | _=>.fail
def Cq(T:Ij)(call round:Ah):Hl->AR
 | ⟨⟨fn,n,tm,todo,defers,true,Dl⟩,h⟩=>match defers with
  | d::ds=>match h.get d with
   | some (.deferred true)=>.go ⟨⟨fn,n,tm,todo,ds,true,Dl⟩,h.put d (.deferred false)⟩
   | _=>.fail
  | []=>match T.fn fn with
   | some f=>match Mr T tm h f.results.toList with
    | some [v]=>.done v h
    | some l=>.done (.tuple l) h
    | none=>.fail
   | none=>.fail
 | ⟨⟨fn,n,tm,todo,defers,false,Dl⟩,h⟩=>
  match todo with
  | []=>leave fn n tm todo defers Dl h none
  | .code c::k=>match c with
   | .region _ ops false=>match jm T call round n ops.toList ops.toList tm h with
    | some (j,h')=>.go ⟨⟨fn,n,j,k,defers,false,Dl⟩,h'⟩
    | none=>.fail
   | .region _ ops true=>match kU T call round n ops.toList tm h with
    | some (j,h')=>.go ⟨⟨fn,n,j,k,defers,false,Dl⟩,h'⟩
    | none=>.fail
   | .seq a b=>.go ⟨⟨fn,n,tm,.code a :: .code b::k,defers,false,Dl⟩,h⟩
   | .skip=>.go ⟨⟨fn,n,tm,k,defers,false,Dl⟩,h⟩
   | .cond c a b=>match Cg tm c with
    | some (.bool true)=>.go ⟨⟨fn,n,tm,.code a::k,defers,false,Dl⟩,h⟩
    | some (.bool false)=>.go ⟨⟨fn,n,tm,.code b::k,defers,false,Dl⟩,h⟩
    | _=>.fail
   | .block id c=>.go ⟨⟨fn,n,tm,.code c :: .inBlock id::k,defers,false,Dl⟩,h⟩
   | .loop c=>.go ⟨⟨fn,n,tm,.code c :: .inLoop c::k,defers,false,Dl⟩,h⟩
   | .label _=>.go ⟨⟨fn,n,tm,k,defers,false,Dl⟩,h⟩
   | .exit id=>match exitTo id k with
    | some k'=>.go ⟨⟨fn,n,tm,k',defers,false,Dl⟩,h⟩
    | none=>leave fn n tm todo defers Dl h (some (.exit id))
   | .ret=>leave fn n tm todo defers Dl h (some .ret)
   | .rangeFunc f params d' body=>
    match Cg tm f with
    | some (.func g first captured)=>
     match Dl with
     | none=>
      behind fn n tm (h.next::defers) Dl (Nat.succ h.next) k (call g (first++(.Vh (Nat.succ h.next)::captured)) ((h.new (.deferred true)).new (.loop .ready none fn n tm params.toList d' body h.next)))
     | some l0=>match h.get l0 with
      | some (.loop _ _ _ _ _ _ _ _ d)=>
       behind fn n tm defers Dl h.next k (call g (first++(.Vh h.next::captured)) (h.new (.loop .ready none fn n tm params.toList d' body d)))
      | _=>.fail
    | _=>.fail
   | _=>.fail
  | .inBlock _::k=>.go ⟨⟨fn,n,tm,k,defers,false,Dl⟩,h⟩
  | .inLoop c::k=>.go ⟨⟨fn,n,tm,.code c :: .inLoop c::k,defers,false,Dl⟩,h⟩
  | .beginRound::k=>match Dl with
   | some l=>match h.get l with
    | some (.loop .ready p f u j ps d' body d)=>.go ⟨⟨fn,n,tm,k,defers,false,Dl⟩,h.put l (.loop .busy p f u j ps d' body d)⟩
    | _=>.fail
   | none=>.fail
  | _=>.fail
def tD(l:Nat)(args:List EV)(h:Ab):Option Aif:=
 match h.get l with
 | some (.loop _ _ f n tm ps d' body _)=>match Vy ps args n tm with
  | some d=>some ⟨f,n,d,[.code d',.beginRound,.code body],[],false,some l⟩
  | none=>none
 | _=>none
end
variable {a vs buf args:List EV}{h h' h1 h2:Ab}{v zv:EV}{tm:Ay}{hi lo mx:Option EV}{o':Ds}{ws:List (Nat × List EV)}{es:List (EV × EV)}{T:Ij}{round:Ah}
section
section Bc
@[simp] theorem Aj(x y:α):Bc true x y=x:=rfl
@[simp] theorem Bo(x y:α):Bc false x y=y:=rfl
theorem Bq(b:Bool)(x y:α):Bc b x y=if b=true then x else y:=by cases b<;>rfl
theorem An {b:Bool}{x:Option α}{r:α}(h:Bc b x none=some r):b=true/\x=some r:=by cases b<;>simp_all [Bq]
theorem Th {b:Bool}{x:Option α}{r:α}(h:Bc b none x=some r):b=false/\x=some r:=by cases b<;>simp_all [Bq]
end Bc
theorem mW {a b:Nat}(h:a<=b):Nat.ble a b=true:=aO h
theorem pj {a b:Nat}(h:¬a<=b):Nat.ble a b=false:=Bool.eq_false_iff.2 fun e=>h (bL e)
theorem beq_false {a b:Nat}(h:a≠b):Nat.beq a b=false:=Bool.eq_false_iff.2 fun e=>h (aJ e)
section tree
theorem Tr.get_nil(i:Nat):(Tr.nil:Tr α).get i=none:=rfl
theorem Tr.Wv(l r:Tr α)(v:Option α)(i:Nat):(Tr.node l v r).get i=if i=0 then v else if i%2=1 then l.get (i/2)else r.get (i/2-1):=by
 have e:(Tr.node l v r).get i=Bc (Nat.beq i 0) v (Bc (Nat.beq (Nat.land i 1) 1) (l.get (Nat.div i 2)) (r.get (Nat.pred (Nat.div i 2)))):=rfl;have e2:Nat.land i 1=i%2:=fW i;rw[e,Bq,Bq,e2];simp only[Nat.beq_eq];rfl
theorem Tr.set_nil(n i:Nat)(v:Option α):Tr.set (n+1) (.nil:Tr α) i v =
 Bc (Nat.beq i 0) (.node .nil v .nil) (Bc (Nat.beq (Nat.land i 1) 1) (Tr.lf none .nil (Tr.set n .nil (Nat.div i 2) v)) (Tr.rt .nil none (Tr.set n .nil (Nat.pred (Nat.div i 2)) v))):=rfl
theorem Tr.qO(n i:Nat)(l r:Tr α)(x v:Option α):Tr.set (n+1) (.node l x r) i v =
 Bc (Nat.beq i 0) (.node l v r) (Bc (Nat.beq (Nat.land i 1) 1) (Tr.lf x r (Tr.set n l (Nat.div i 2) v)) (Tr.rt l x (Tr.set n r (Nat.pred (Nat.div i 2)) v))):=rfl
theorem Tr.MG(x:Option α)(r a c:Tr α)(b:Option α):Tr.lf x r (.node a b c)=.node (.node a b c) x r:=rfl
theorem Tr.MH(x:Option α)(l a c:Tr α)(b:Option α):Tr.rt l x (.node a b c)=.node l x (.node a b c):=rfl
theorem Tr.S7:∀(n:Nat) (t:Tr α) (i:Nat) (v:Option α),i+1<2^n->∃a b c,Tr.set n t i v=.node a b c
 | 0,_,i,_,h=>by simp at h
 | n+1,t,i,v,h=>by
  have e2:Nat.land i 1=i%2:=fW i;rw[eI]at h;by_cases h0:i=0
  ·subst h0
   cases t with
   | nil=>exact⟨_,_,_,rfl⟩
   | node l x r=>exact⟨_,_,_,rfl⟩
  ·have b0:Nat.beq i 0=false:=by cases hb:Nat.beq i 0 with|false=>rfl|true=>exact absurd (aJ hb) h0
   by_cases h1:i%2=1
   ·have b1:Nat.beq (i%2) 1=true:=by rw[h1];rfl
    cases t with
    | nil=>
     obtain⟨a,b,c,e⟩:=Tr.S7 n (.nil:Tr α) (i/2) v a_;exact⟨_,_,_,by rw[Tr.set_nil,b0,Bo,e2,b1,Aj];exact congrArg (Tr.lf none .nil) e⟩
    | node l x r=>
     obtain⟨a,b,c,e⟩:=Tr.S7 n l (i/2) v a_;exact⟨_,_,_,by rw[Tr.qO,b0,Bo,e2,b1,Aj];exact congrArg (Tr.lf x r) e⟩
   ·have b1:Nat.beq (i%2) 1=false:=by cases hb:Nat.beq (i%2) 1 with|false=>rfl|true=>exact absurd (aJ hb) h1
    cases t with
    | nil=>
     obtain⟨a,b,c,e⟩:=Tr.S7 n (.nil:Tr α) (i/2-1) v a_;exact⟨_,_,_,by rw[Tr.set_nil,b0,Bo,e2,b1,Bo];exact congrArg (Tr.rt .nil none) e⟩
    | node l x r=>
     obtain⟨a,b,c,e⟩:=Tr.S7 n r (i/2-1) v a_;exact⟨_,_,_,by rw[Tr.qO,b0,Bo,e2,b1,Bo];exact congrArg (Tr.rt l x) e⟩
theorem Tr.qP:∀(n:Nat) (t:Tr α) (i:Nat) (v:Option α) (j:Nat),i+1<2^n->(Tr.set n t i v).get j=if i=j then v else t.get j
 | 0,_,i,_,_,h=>by simp at h
 | n+1,t,i,v,j,h=>by
  have e2:Nat.land i 1=i%2:=fW i;rw[eI]at h;by_cases h0:i=0
  ·subst h0
   cases t with
   | nil=>
    rw[Tr.set_nil,show Nat.beq 0 0=true from rfl,Aj,Tr.Wv];by_cases hj:j=0
    ·simp[hj]
    ·rw[aH hj,aH (cX hj)];simp only[Tr.get_nil,ite_self]
   | node l x r=>
    rw[Tr.qO,show Nat.beq 0 0=true from rfl,Aj,Tr.Wv,Tr.Wv];by_cases hj:j=0
    ·simp[hj]
    ·rw[aH hj,aH (cX hj),aH hj]
  ·have b0:Nat.beq i 0=false:=by cases hb:Nat.beq i 0 with|false=>rfl|true=>exact absurd (aJ hb) h0
   by_cases h1:i%2=1
   ·have b1:Nat.beq (i%2) 1=true:=by rw[h1];rfl
    have hs:i/2+1<2^n:=a_
    cases t with
    | nil=>
     obtain⟨a,b,c,e⟩:=Tr.S7 n (.nil:Tr α) (i/2) v hs;have u:=Tr.qP n (.nil:Tr α) (i/2) v (j/2) hs;rw[e]at u;have e':Tr.set n (.nil:Tr α) (Nat.div i 2) v=.node a b c:=e;rw[Tr.set_nil,b0,Bo,e2,b1,Aj,e',Tr.MG,Tr.Wv];by_cases hj:j=0
     ·subst hj;simp[h0,Tr.get_nil]
     ·rw[aH hj]
      by_cases d:j%2=1
      ·rw[aK d,u]
       by_cases he:i=j
       ·subst he;simp
       ·rw[aH he,aH a_];rfl
      ·rw[aH d,aH (by rintro rfl;exact d h1)];rfl
    | node l x r=>
     obtain⟨a,b,c,e⟩:=Tr.S7 n l (i/2) v hs;have u:=Tr.qP n l (i/2) v (j/2) hs;rw[e]at u;have e':Tr.set n l (Nat.div i 2) v=.node a b c:=e;rw[Tr.qO,b0,Bo,e2,b1,Aj,e',Tr.MG,Tr.Wv,Tr.Wv l r x j];by_cases hj:j=0
     ·subst hj;simp[h0]
     ·rw[aH hj,aH hj]
      by_cases d:j%2=1
      ·rw[aK d,aK d,u]
       by_cases he:i=j
       ·subst he;simp
       ·rw[aH he,aH a_]
      ·rw[aH d,aH d,aH (by rintro rfl;exact d h1)]
   ·have b1:Nat.beq (i%2) 1=false:=by cases hb:Nat.beq (i%2) 1 with|false=>rfl|true=>exact absurd (aJ hb) h1
    have hs:i/2-1+1<2^n:=a_
    cases t with
    | nil=>
     obtain⟨a,b,c,e⟩:=Tr.S7 n (.nil:Tr α) (i/2-1) v hs;have u:=Tr.qP n (.nil:Tr α) (i/2-1) v (j/2-1) hs;rw[e]at u;have e':Tr.set n (.nil:Tr α) (Nat.pred (Nat.div i 2)) v=.node a b c:=e;rw[Tr.set_nil,b0,Bo,e2,b1,Bo,e',Tr.MH,Tr.Wv];by_cases hj:j=0
     ·subst hj;simp[h0,Tr.get_nil]
     ·rw[aH hj]
      by_cases d:j%2=1
      ·rw[aK d,aH (by rintro rfl;exact h1 d)];rfl
      ·rw[aH d,u]
       by_cases he:i=j
       ·subst he;simp
       ·rw[aH he,aH a_];rfl
    | node l x r=>
     obtain⟨a,b,c,e⟩:=Tr.S7 n r (i/2-1) v hs;have u:=Tr.qP n r (i/2-1) v (j/2-1) hs;rw[e]at u;have e':Tr.set n r (Nat.pred (Nat.div i 2)) v=.node a b c:=e;rw[Tr.qO,b0,Bo,e2,b1,Bo,e',Tr.MH,Tr.Wv,Tr.Wv l r x j];by_cases hj:j=0
     ·subst hj;simp[h0]
     ·rw[aH hj,aH hj]
      by_cases d:j%2=1
      ·rw[aK d,aK d,aH (by rintro rfl;exact h1 d)]
      ·rw[aH d,aH d,u]
       by_cases he:i=j
       ·subst he;simp
       ·rw[aH he,aH a_]
theorem Tr.get_put(t:Tr α)(i:Nat)(v:Option α)(j:Nat):(t.put i v).get j=if i=j then v else t.get j:=
 Tr.qP _ t i v j Nat.lt_log2_self
theorem Tr.Ae(t:Tr α)(i:Nat)(v:Option α):(t.put i v).get i=v:=by rw[Tr.get_put,aK rfl]
theorem Tr.Af(t:Tr α){j:Nat}(v:Option α)(h:i≠j):(t.put i v).get j=t.get j:=by rw[Tr.get_put,aH h]
end tree
structure Loc where
 b:Nat->Nat
 sp:Nat->Nat
mutual
def Cm(f:Loc):EV->Value
 | .int k n=>.int k n
 | .bool b=>.bool b
 | .str s=>.string s
 | .ptr i off=>.pointer (some ⟨f.b i,off,none⟩)
 | .F7=>.pointer none
 | .slice i off len room op=>.slice (some ⟨f.b i,off,none⟩) len (if op=true then room+f.sp i else room)
 | .tail i off poff=>.slice (some ⟨f.b i,if f.sp i=0 then poff else off,none⟩) 0 (f.sp i)
 | .Am=>.slice none 0 0
 | .odd a=>.slice (some a) 0 0
 | .map i=>.map (some (f.b i))
 | .Aku=>.map none
 | .chan i=>.chan (some (f.b i))
 | .Aea=>.chan none
 | .func g a c=>.func (.func g) (Bp f a).toArray (Bp f c).toArray
 | .Vh l=>.func (.yield (f.b l)) #[] #[]
 | .Aib=>.nilFunc
 | .Aan=>.nilIface
 | .agg l=>.agg (Bp f l).toArray
 | .tuple l=>.tuple (Bp f l).toArray
def Bp(f:Loc):List EV->List Value
 | []=>[]
 | v::r=>Cm f v::Bp f r
end
theorem Ot(f:Loc):∀l:List EV,Bp f l=l.map (Cm f)
 | []=>rfl
 | v::r=>by rw[Bp,Ot f r];rfl
theorem Cv(f:Loc)(l:List EV):(Bp f l).length=l.length:=by rw[Ot,bT]
theorem Ta(f:Loc)(a b:List EV):Bp f (a++b)=Bp f a++Bp f b:=by simp only[Ot,cI]
def EV.one:EV->Bool
 | .agg _=>false
 | .tuple _=>false
 | _=>true
theorem A6b(f:Loc)(v:EV)(h:v.one=true):(Cm f v).oneCell'=true:=by
 cases v<;>first|rfl|(simp[EV.one]at h)
theorem Xv(f:Loc)(l:List EV)(h:∀v∈l,v.one=true):∀x∈Bp f l,x.oneCell'=true:=by
 intro x d;rw[Ot,cN]at d;obtain⟨v,j,rfl⟩:=d;exact A6b f v (h v j)
mutual
def EV.ok(p:Nat->Prop):EV->Prop
 | .ptr i _=>p i
 | .slice i _ _ _ _=>p i
 | .tail i _ _=>p i
 | .map i=>p i
 | .chan i=>p i
 | .Vh l=>p l
 | .func _ a c=>EV.Tp p a/\EV.Tp p c
 | .agg l=>EV.Tp p l/\l.all EV.one=true
 | .tuple l=>EV.Tp p l
 | _=>True
def EV.Tp(p:Nat->Prop):List EV->Prop
 | []=>True
 | v::r=>EV.ok p v/\EV.Tp p r
end
theorem H0(p:Nat->Prop):∀l:List EV,EV.Tp p l↔∀v∈l,v.ok p
 | []=>by simp[EV.Tp]
 | v::r=>by rw[EV.Tp,H0 p r];simp
def Loc.agree(p:Nat->Prop)(f g:Loc):Prop:=∀i,p i->f.b i=g.b i/\f.sp i=g.sp i
theorem Loc.tL(p:Nat->Prop)(f:Loc):Loc.agree p f f:=fun _ _=>⟨rfl,rfl⟩
theorem Loc.agree.trans{f g h:Loc}(a:Loc.agree p f g)(b:Loc.agree p g h):Loc.agree p f h:=fun i hi=>⟨(a i hi).1.trans (b i hi).1,(a i hi).2.trans (b i hi).2⟩
theorem Loc.agree.mono{f g:Loc}(a:Loc.agree p f g)(h:∀i,q i->p i):Loc.agree q f g:=fun i hi=>a i (h i hi)
mutual
theorem po{f g:Loc}(d:Loc.agree p f g):∀v:EV,v.ok p->Cm f v=Cm g v
 | .int _ _,_=>rfl
 | .bool _,_=>rfl
 | .str _,_=>rfl
 | .ptr i off,h=>by simp only[Cm];rw[(d i h).1]
 | .F7,_=>rfl
 | .slice i off len room op,h=>by simp only[Cm];rw[(d i h).1,(d i h).2]
 | .tail i off poff,h=>by simp only[Cm];rw[(d i h).1,(d i h).2]
 | .Am,_=>rfl
 | .odd _,_=>rfl
 | .map i,h=>by simp only[Cm];rw[(d i h).1]
 | .Aku,_=>rfl
 | .chan i,h=>by simp only[Cm];rw[(d i h).1]
 | .Aea,_=>rfl
 | .func a b c,h=>by simp only[Cm];rw[Fy d b h.1,Fy d c h.2]
 | .Vh l,h=>by simp only[Cm];rw[(d l h).1]
 | .Aib,_=>rfl
 | .Aan,_=>rfl
 | .agg l,h=>by simp only[Cm];rw[Fy d l h.1]
 | .tuple l,h=>by simp only[Cm];rw[Fy d l h]
theorem Fy{f g:Loc}(d:Loc.agree p f g):∀l:List EV,EV.Tp p l->Bp f l=Bp g l
 | [],_=>rfl
 | v::r,h=>by simp only[Bp];rw[po d v h.1,Fy d r h.2]
end
mutual
theorem EV.ok.mono(d:∀i,p i->q i):∀v:EV,v.ok p->v.ok q
 | .int _ _,_=>trivial
 | .bool _,_=>trivial
 | .str _,_=>trivial
 | .ptr i _,h=>d i h
 | .F7,_=>trivial
 | .slice i _ _ _ _,h=>d i h
 | .tail i _ _,h=>d i h
 | .Am,_=>trivial
 | .odd _,_=>trivial
 | .map i,h=>d i h
 | .Aku,_=>trivial
 | .chan i,h=>d i h
 | .Aea,_=>trivial
 | .func _ b c,h=>⟨EV.Tp.mono d b h.1,EV.Tp.mono d c h.2⟩
 | .Vh l,h=>d l h
 | .Aib,_=>trivial
 | .Aan,_=>trivial
 | .agg l,h=>⟨EV.Tp.mono d l h.1,h.2⟩
 | .tuple l,h=>EV.Tp.mono d l h
theorem EV.Tp.mono(d:∀i,p i->q i):∀l:List EV,EV.Tp p l->EV.Tp q l
 | [],_=>trivial
 | v::r,h=>⟨EV.ok.mono d v h.1,EV.Tp.mono d r h.2⟩
end
theorem Uo(h:v.ok p)(d:v.plain=true):EV.Tp p v.cells/\∀x∈v.cells,x.one=true:=by
 cases v with
 | tuple l=>simp[EV.plain]at d
 | agg l=>obtain⟨h1,h2⟩:=h;exact⟨h1,by simpa [EV.cells]using h2⟩
 | _=>exact⟨⟨h,trivial⟩,by simp[EV.cells,EV.one]⟩
theorem Ti(f:Loc)(v:EV):(Cm f v).cells=(Bp f v.cells).toArray:=by
 cases v<;>rfl
theorem MJ(f:Loc){v:Value}{x:EV}(h:pb v=some x):Cm f x=v:=by
 unfold pb at h;split at h<;>first|(cases h;rfl)|(cases h)
theorem MK(p:Nat->Prop){v:Value}{x:EV}(h:pb v=some x):x.ok p/\x.one=true:=by
 unfold pb at h;split at h<;>first|(cases h;exact⟨trivial,rfl⟩)|(cases h)
theorem ML(f:Loc):∀{l:List Value} {xs:List EV},pc l=some xs->Bp f xs=l
 | [],_,h=>by cases h;rfl
 | v::r,_,h=>by
  unfold pc at h;split at h
  next x d=>
   split at h
   next y j=>
    cases h;rw[Bp,MJ f d,ML f j]
   ·cases h
  ·cases h
theorem MM(p:Nat->Prop):∀{l:List Value} {xs:List EV},pc l=some xs->EV.Tp p xs/\xs.all EV.one=true
 | [],_,h=>by cases h;exact⟨trivial,rfl⟩
 | v::r,_,h=>by
  unfold pc at h;split at h
  next x d=>
   split at h
   next y j=>
    cases h;have h1:=MK p d;have h2:=MM p j;exact⟨⟨h1.1,h2.1⟩,by simp[h1.2];simpa using h2.2⟩
   ·cases h
  ·cases h
theorem MN(f:Loc){v:Value}{x:EV}(h:ofV v=some x):Cm f x=v:=by
 unfold ofV at h;split at h
 next cs=>
  split at h
  next l d=>
   cases h;rw[Cm,ML f d]
  ·cases h
 next cs=>
  split at h
  next d=>
   cases h;rw[Cm,Bp];congr 1;apply dQ;simpa using d.symm
  ·cases h
 ·exact MJ f h
theorem w8(p:Nat->Prop){v:Value}{x:EV}(h:ofV v=some x):x.ok p:=by
 unfold ofV at h;split at h
 ·split at h
  next l d=>
   cases h;exact MM p d
  ·cases h
 ·split at h
  ·cases h;trivial
  ·cases h
 ·exact(MK p h).1
def Bg(f:Loc)(n:Nat)(tm:Ay):Array Value:=((List.range n).map fun t=>Cm f (tmp tm t)).toArray
structure Ld(p:Nat->Prop)(n:Nat)(tm:Ay):Prop where
 ok:∀t v,tm.get t=some v->v.ok p
 out:∀t,n<=t->tm.get t=none
theorem Ld.tmp(h:Ld p n tm)(t:Nat):(tmp tm t).ok p:=by
 unfold Go.Ev.tmp;split
 next v d=>exact h.ok t v d
 ·trivial
theorem Ld.mono(h:Ld p n tm)(d:∀i,p i->q i):Ld q n tm:=⟨fun t v j=>EV.ok.mono d v (h.ok t v j),h.out⟩
theorem A7h(f:Loc)(n:Nat)(tm:Ay):(Bg f n tm).size=n:=by simp[Bg]
theorem qQ(f:Loc)(n:Nat)(tm:Ay)(t:Nat):(Bg f n tm)[t]? = if t<n then some (Cm f (tmp tm t))else none:=by
 unfold Bg;simp only[bV,bB];by_cases h:t<n
 ·simp[h]
 ·simp[h,cD (l:=List.range n) (i:=t) (by simp;omega)]
theorem qR(f:Loc)(h:Ld p n tm)(t:Nat):(Bg f n tm).getD t undef=Cm f (tmp tm t):=by
 rw[eG,qQ];by_cases d:t<n
 ·simp[d]
 ·have:tmp tm t=.tuple []:=by unfold tmp;rw[h.out t a_]
  simp[d,this,Cm,Bp,undef]
theorem MO(n:Nat)(tm:Ay)(d:Nat)(v:EV)(t:Nat):tmp (O9 n tm (some d) v) t=if d=t/\d<n then v else tmp tm t:=by
 unfold O9;by_cases hd:d<n
 ·simp only[show Nat.ble (Nat.succ d) n=true from mW hd,Aj]
  unfold tmp;rw[Tr.get_put];by_cases j:d=t
  ·simp[j,j▸hd]
  ·simp[j]
 ·simp only[show Nat.ble (Nat.succ d) n=false from pj hd,Bo]
  rw[aH a_]
theorem MP(f:Loc)(n:Nat)(tm:Ay)(d:Nat)(v:EV):(Bg f n tm).setIfInBounds d (Cm f v)=Bg f n (O9 n tm (some d) v):=by
 apply fC;intro t;rw[qQ,Array.getElem?_setIfInBounds,A7h,qQ,MO];by_cases hd:d=t
 ·subst hd
  by_cases j:d<n<;>simp[j]
 ·simp[hd]
theorem Ld.put(h:Ld p n tm)(d:Option Tmp)(A:v.ok p):Ld p n (O9 n tm d v):=by
 cases d with
 | none=>exact h
 | some d=>
  unfold O9;by_cases hd:d<n
  ·simp only[show Nat.ble (Nat.succ d) n=true from mW hd,Aj]
   refine⟨fun t x j=>?_,fun t y=>?_⟩
   ·rw[Tr.get_put]at j
    split at j
    ·cases j;exact A
    ·exact h.ok t x j
   ·have u:(d:Nat)≠t:=fun e=>by have h1:(d:Nat)<n:=hd;have h2:n<=t:=y;rw[<-e]at h2;exact absurd h1 (Nat.not_lt.2 h2)
    rw[Tr.Af _ _ u];exact h.out t y
  ·simp only[show Nat.ble (Nat.succ d) n=false from pj hd,Bo]
   exact h
theorem Ku{f g:Loc}(d:Loc.agree p f g)(h:Ld p n tm):Bg f n tm=Bg g n tm:=by
 unfold Bg;congr 1;apply cY;intro t _;exact po d _ (h.tmp t)
structure Reads(f:Loc)(tm:Ay)(ρ:Operand->Value):Prop where
 tmp:∀t,ρ (.tmp t)=Cm f (tmp tm t)
 const:∀v,ρ (.const v)=v
 func:∀g,ρ (.func g)=.func (.func g) #[] #[]
theorem Bl {f:Loc}(d:Reads f tm ρ)(h:Cg tm x=some v):ρ x=Cm f v:=by
 cases x with
 | tmp t=>rw[d.tmp];simp only[Cg]at h;cases h;rfl
 | const c=>rw[d.const];exact(MN f h).symm
 | global g=>cases h
 | func g=>rw[d.func];cases h;rfl
theorem Ey(d:Ld p n tm)(h:Cg tm x=some v):v.ok p:=by
 cases x with
 | tmp t=>simp only[Cg]at h;cases h;exact d.tmp t
 | const c=>exact w8 p h
 | global g=>cases h
 | func g=>cases h;exact⟨trivial,trivial⟩
theorem Zp {f:Loc}(d:Reads f tm ρ):∀{xs:List Operand} {l:List EV},Md tm xs=some l->xs.map ρ=Bp f l
 | [],_,h=>by cases h;rfl
 | x::r,_,h=>by
  unfold Md at h;split at h
  next a j=>
   split at h
   next b hb=>
    cases h;rw[dH,Bl d j,Zp d hb,Bp]
   ·cases h
  ·cases h
theorem pt(d:Ld p n tm):∀{xs:List Operand} {l:List EV},Md tm xs=some l->EV.Tp p l
 | [],_,h=>by cases h;trivial
 | x::r,_,h=>by
  unfold Md at h;split at h
  next a j=>
   split at h
   next b hb=>
    cases h;exact⟨Ey d j,pt d hb⟩
   ·cases h
  ·cases h
theorem tM {f:Loc}(d:Reads f tm ρ):∀{xs:List (Nat × Operand)} {l:List (Nat × EV)},Yt tm xs=some l->xs.map (fun(i,x)=>(i,ρ x))=l.map (fun(i,v)=>(i,Cm f v))
 | [],_,h=>by cases h;rfl
 | (i,x)::r,_,h=>by
  unfold Yt at h;split at h
  next a j=>
   split at h
   next b hb=>
    cases h;rw[dH,dH,tM d hb];show(i,ρ x)::_=(i,Cm f a)::_;rw[Bl d j]
   ·cases h
  ·cases h
theorem tN(j:Ld p n tm):∀{xs:List (Nat × Operand)} {l:List (Nat × EV)},Yt tm xs=some l->∀q∈l,q.2.ok p
 | [],_,h=>by cases h;simp
 | (i,x)::r,_,h=>by
  unfold Yt at h;split at h
  next a u=>
   split at h
   next b hb=>
    cases h;intro q d;rcases bZ.1 d with rfl|d
    ·exact Ey j u
    ·exact tN j hb q d
   ·cases h
  ·cases h
end
variable {f:Loc}
section
theorem Ue:∀l:List EV,len l=l.length
 | []=>rfl
 | _::r=>by rw[len,Ue r];rfl
theorem Sy:∀(l:List EV) (n:Nat),Zb l n=l.drop n
 | [],n=>by simp[Zb]
 | a::r,0=>rfl
 | a::r,n+1=>by
  have:Zb (a::r) (n+1)=Zb r n:=rfl;rw[this,Sy r n];rfl
theorem qS:∀{l:List EV} {n:Nat} {x:List EV},takeN l n=some x->n<=l.length/\x=l.take n
 | [],0,x,h=>by cases h;exact⟨aD _,rfl⟩
 | [],n+1,x,h=>by cases h
 | a::r,0,x,h=>by cases h;exact⟨cF _,rfl⟩
 | a::r,n+1,x,h=>by
  have e:takeN (a::r) (n+1)=match takeN r n with|some x=>some (a::x)|none=>none:=rfl
  rw[e]at h;split at h
  next y d=>
   cases h;obtain⟨h1,rfl⟩:=qS d;exact⟨by simp;omega,rfl⟩
  ·cases h
theorem w9:∀{l vs x:List EV},Jf l vs=some x->vs.length<=l.length/\x=vs++l.drop vs.length
 | l,[],x,h=>by
  have:Jf l []=some l:=by cases l<;>rfl
  rw[this]at h;cases h;exact⟨cF _,rfl⟩
 | [],v::vs,x,h=>by cases h
 | a::r,v::vs,x,h=>by
  have e:Jf (a::r) (v::vs)=match Jf r vs with|some x=>some (v::x)|none=>none:=rfl
  rw[e]at h;split at h
  next y d=>
   cases h;obtain⟨h1,rfl⟩:=w9 d;exact⟨by simp;omega,rfl⟩
  ·cases h
theorem Xd:∀{l:List EV} {off:Nat} {vs x:List EV},Fw l off vs=some x->off+vs.length<=l.length/\x=l.take off++vs++l.drop (off+vs.length)
 | [],0,vs,x,h=>by
  have e:Fw [] 0 vs=Jf [] vs:=rfl;rw[e]at h;obtain⟨h1,rfl⟩:=w9 h;exact⟨a_,by simp⟩
 | [],off+1,vs,x,h=>by cases h
 | a::r,0,vs,x,h=>by
  have e:Fw (a::r) 0 vs=Jf (a::r) vs:=rfl;rw[e]at h;obtain⟨h1,rfl⟩:=w9 h;exact⟨a_,by simp⟩
 | a::r,off+1,vs,x,h=>by
  have e:Fw (a::r) (off+1) vs=match Fw r off vs with|some x=>some (a::x)|none=>none:=rfl
  rw[e]at h;split at h
  next y d=>
   cases h;obtain⟨h1,rfl⟩:=Xd d;refine⟨by simp;omega,?_⟩;rw[show off+1+vs.length=(off+vs.length)+1 from a_];simp
  ·cases h
theorem w_ {l:List EV}{x:List EV}(h:Fw l off vs=some x)(d:v∈x):v∈l\/v∈vs:=by
 obtain⟨h1,rfl⟩:=Xd h;simp only[bH]at d;rcases d with(d|d)|d
 ·exact .inl (bI d)
 ·exact .inr d
 ·exact .inl (aM d)
theorem xa:∀(l:List Field) (i:Nat),lU l i=l[i]?
 | [],i=>by simp[lU]
 | a::r,0=>rfl
 | a::r,i+1=>by
  have:lU (a::r) (i+1)=lU r i:=rfl;rw[this,xa r i];simp
theorem tO:∀(l:List Oper) (i:Nat),j8 l i=l[i]?
 | [],i=>by simp[j8]
 | a::r,0=>rfl
 | a::r,i+1=>by
  have:j8 (a::r) (i+1)=j8 r i:=rfl;rw[this,tO r i];simp
theorem tP(l:List EV):∀n,(rep l n).length=n*l.length
 | 0=>by simp[rep]
 | n+1=>by rw[rep,aF,tP l n,fQ];omega
theorem qT {l:List EV}:∀{n:Nat},v∈rep l n->v∈l
 | 0,h=>by simp[rep]at h
 | n+1,h=>by
  rw[rep,bH]at h;rcases h with h|h
  ·exact h
  ·exact qT h
theorem MQ(l:List EV):∀(n i:Nat),i<n*l.length->(rep l n)[i]? = l[i%l.length]?
 | 0,i,h=>by simp at h
 | n+1,i,h=>by
  rw[rep];by_cases hi:i<l.length
  ·rw[bW hi,fN hi]
  ·rw[bU a_,MQ l n (i-l.length) (by rw[fQ]at h;omega)]
   rw[<-Nat.mod_eq_sub_mod a_]
theorem qU {k:IntKind}(h:Nat.beq (Ql k) (Ql k')=true):k=k':=by
 cases k<;>cases k'<;>first|rfl|(cases h)
theorem tQ(k:IntKind)(hs:k.signed=false)(n:Int)(h0:0<=n)(h1:n<2^k.bits):k.wrap n=n:=by
 unfold IntKind.wrap;simp only[hs,a8,aV,ak];exact Int.emod_eq_of_lt h0 h1
theorem kW(k:IntKind)(hs:k.signed=true)(n M:Int)(j:(2:Int)^k.bits=2*M)(d:(2:Int)^(k.bits-1)=M)(h0 : -M<=n)(h1:n<M):k.wrap n=n:=by
 unfold IntKind.wrap;simp only[hs,bG,aW,j,d,ge_iff_le];by_cases u:0<=n
 ·rw[Int.emod_eq_of_lt u a_,aH a_]
 ·have e:n%(2*M)=n+2*M:=by
   rw[<-Int.add_emod_right];exact Int.emod_eq_of_lt a_ a_
  rw[e,aK a_];omega
theorem Lx(k:IntKind)(n:Int):Cr k n=k.wrap n:=by
 cases n with
 | ofNat m=>
  show Bc (Nat.ble (Nat.succ m) (tH k)) (Int.ofNat m) (k.wrap (Int.ofNat m))=_;rw[Bq];split
  next h=>
   have h:=bL h;symm;cases k<;>simp only[tH]at h
   case u8=>exact tQ _ rfl _ (by simp) (by simp only[IntKind.bits,aY];omega)
   case u16=>exact tQ _ rfl _ (by simp) (by simp only[IntKind.bits,aY];omega)
   case u32=>exact tQ _ rfl _ (by simp) (by simp only[IntKind.bits,aY];omega)
   case u64=>exact tQ _ rfl _ (by simp) (by simp only[IntKind.bits,aY];omega)
   case i8=>exact kW _ rfl _ 128 rfl rfl (by simp only[aY];omega) (by simp only[aY];omega)
   case i16=>exact kW _ rfl _ 32768 rfl rfl (by simp only[aY];omega) (by simp only[aY];omega)
   case i32=>exact kW _ rfl _ 2147483648 rfl rfl (by simp only[aY];omega) (by simp only[aY];omega)
   case i64=>exact kW _ rfl _ 9223372036854775808 rfl rfl (by simp only[aY];omega) (by simp only[aY];omega)
  ·rfl
 | negSucc m=>
  show Bc (Nat.ble (Nat.succ m) (floor k)) (Int.negSucc m) (k.wrap (Int.negSucc m))=_;rw[Bq];split
  next h=>
   have h:=bL h;symm;cases k<;>simp only[floor]at h
   case i8=>exact kW _ rfl _ 128 rfl rfl (by rw[cn];omega) (by rw[cn];omega)
   case i16=>exact kW _ rfl _ 32768 rfl rfl (by rw[cn];omega) (by rw[cn];omega)
   case i32=>exact kW _ rfl _ 2147483648 rfl rfl (by rw[cn];omega) (by rw[cn];omega)
   case i64=>exact kW _ rfl _ 9223372036854775808 rfl rfl (by rw[cn];omega) (by rw[cn];omega)
   all_goals exact absurd h a_
  ·rfl
theorem px(a b:Int):j6 a b=decide (a<b):=by
 cases a<;>cases b<;>simp only[j6]<;>(first
  | (rw[fH];simp only[cv,aW];simp only[aY,cn];omega)
  | (simp only[aY,cn];symm;first|(rw[dI];omega)|(rw[aW];omega)))
theorem kX(a b:Int):iN a b=decide (a=b):=by
 cases a<;>cases b<;>simp only[iN]<;>(first
  | (rw[fH];simp only[Nat.beq_eq,aW];simp only[aY,cn];omega)
  | (simp only[aY,cn];symm;rw[dI];omega))
theorem xb(k:IntKind)(x:Nat):k.wrap ((x%2^k.bits:Nat):Int)=k.wrap (x:Int):=by
 unfold IntKind.wrap;have:((x%2^k.bits:Nat):Int)%(2^k.bits:Int)=(x:Int)%(2^k.bits:Int):=by
  rw[Int.natCast_emod];simp
 simp only[this]
theorem Bk8(k:IntKind)(a b:Nat):k.wrap (((BitVec.ofInt k.bits (Int.ofNat a)&&& BitVec.ofInt k.bits (Int.ofNat b)).toNat:Nat):Int)=k.wrap (Int.ofNat (Nat.land a b)):=by
 have:(BitVec.ofInt k.bits (Int.ofNat a)&&& BitVec.ofInt k.bits (Int.ofNat b)).toNat=(a&&& b)%2^k.bits:=by
  simp only[aY,BitVec.ofInt_natCast,BitVec.toNat_and,BitVec.toNat_ofNat];rw[Nat.and_mod_two_pow]
 rw[this,xb];rfl
theorem Bnb(k:IntKind)(a b:Nat):k.wrap (((BitVec.ofInt k.bits (Int.ofNat a)||| BitVec.ofInt k.bits (Int.ofNat b)).toNat:Nat):Int)=k.wrap (Int.ofNat (Nat.lor a b)):=by
 have:(BitVec.ofInt k.bits (Int.ofNat a)||| BitVec.ofInt k.bits (Int.ofNat b)).toNat=(a||| b)%2^k.bits:=by
  simp only[aY,BitVec.ofInt_natCast,BitVec.toNat_or,BitVec.toNat_ofNat];rw[Nat.or_mod_two_pow]
 rw[this,xb];rfl
theorem Bkv(k:IntKind)(a b:Nat):k.wrap (((BitVec.ofInt k.bits (Int.ofNat a) ^^^ BitVec.ofInt k.bits (Int.ofNat b)).toNat:Nat):Int)=k.wrap (Int.ofNat (Nat.xor a b)):=by
 have:(BitVec.ofInt k.bits (Int.ofNat a) ^^^ BitVec.ofInt k.bits (Int.ofNat b)).toNat=(a ^^^ b)%2^k.bits:=by
  simp only[aY,BitVec.ofInt_natCast,BitVec.toNat_xor,BitVec.toNat_ofNat];rw[fO]
 rw[this,xb];rfl
section
variable(f:Loc)(w:World)
theorem Bjk {op:BinOp}{k:IntKind}{a b:Int}(t:TypeId)(hs:tx op=false)(h:o8 op k a b=some v):
 (binOp op t (.int k a) (.int k b)).run P w=.ok (Cm f v) w:=by
 cases op<;>simp only[o8]at h
 case add=>cases h;simp[binOp,Op.intArith,Cm,Lx];try rfl
 case sub=>cases h;simp[binOp,Op.intArith,Cm,Lx];try rfl
 case mul=>cases h;simp[binOp,Op.intArith,Cm,Lx];try rfl
 case quo=>
  obtain⟨h1,h2⟩:=Th h;cases h2;rw[kX,dI]at h1;simp[binOp,Op.intDiv,Cm,Lx,h1]
 case rem=>
  obtain⟨h1,h2⟩:=Th h;cases h2;rw[kX,dI]at h1;simp[binOp,Op.intDiv,Cm,h1]
 case and=>
  split at h
  ·cases h;simp only[binOp,ne_eq,aC,ak,Op.intBits,aS,Bk8,Cm,Lx]
  ·cases h
 case or=>
  split at h
  ·cases h;simp only[binOp,ne_eq,aC,ak,Op.intBits,aS,Bnb,Cm,Lx]
  ·cases h
 case xor=>
  split at h
  ·cases h;simp only[binOp,ne_eq,aC,ak,Op.intBits,aS,Bkv,Cm,Lx]
  ·cases h
 case lss=>cases h;simp only[binOp,ne_eq,aC,ak,Op.intCmp,aS,Cm,px]
 case gtr=>cases h;simp only[binOp,ne_eq,aC,ak,Op.intCmp,aS,Cm,px,gt_iff_lt]
 case eql=>
  cases h;simp only[binOp,ne_eq,aC,ak,Op.intCmp,aS,Cm,kX];congr 2
 case neq=>
  cases h;simp only[binOp,ne_eq,aC,ak,Op.intCmp,aS,Cm,kX,Bq];congr 2;by_cases e:a=b<;>simp[e]
 case leq=>
  cases h;simp only[binOp,ne_eq,aC,ak,Op.intCmp,aS,Cm,px,Bq];congr 2;by_cases e:b<a
  ·simp[e]
  ·simp[e,Int.not_lt.1 e]
 case geq=>
  cases h;simp only[binOp,ne_eq,aC,ak,Op.intCmp,aS,Cm,px,Bq];congr 2;by_cases e:a<b
  ·simp[e]
  ·simp[e,Int.not_lt.1 e]
 all_goals first|(cases h;done)|(simp[tx]at hs;done)
theorem Bgx {op:BinOp}{k:IntKind}{a:Int}{b:Nat}(t:TypeId)(h:tI op k a b=some v):
 (binOp op t (.int k a) (.int k' (.ofNat b))).run P w=.ok (Cm f v) w:=by
 have hm:Bc (Nat.ble b k.bits) b k.bits=min b k.bits:=by
  rw[Bq];simp only[cv];split<;>omega
 have hb:¬(Int.ofNat b<0):=by simp
 cases op<;>simp only[tI]at h
 case shl=>
  cases h;simp only[binOp,Op.shift,hb,ak,aS,Cm,Lx,hm];congr 3
 case shr=>
  split at h
  ·cases h
   simp only[binOp,Op.shift,hb,ak,aS,Cm,hm];congr 2;simp only[aY,bF];have e:Nat.shiftRight=fun(a b:Nat)=>a >>> b:=rfl
   simp only[e];rw[eP,fJ _ (by exact_mod_cast cF _)];simp
  ·cases h
   simp only[binOp,Op.shift,hb,ak,aS,Cm,hm];congr 2
 all_goals (cases h;done)
end
end
section
def Awd:TypeDesc->Bool
 | .struct _=>true
 | .array _ _=>true
 | _=>false
structure Qc(P:Program)(T:Ij):Prop where
 mixed:P.follows .mixedOrders=true
 fn:∀g fn,T.fn g=some fn->P.funcs[g]? = some fn/\(fn.name == "runtime.NumGoroutine")=false
 T6:∀t d,T.T6 t=some d->P.underlying t=some d
 size:∀t n,T.size t=some n->∃i,P.info? t=some i/\i.size=n/\i.bytes<=1048576
 zero:∀t z,T.zero t=some z->∃i v x,P.info? t=some i/\i.zero=some v/\ofV v=some x/\x.plain=true/\z=x.cells/\i.size=z.length/\i.bytes<=1048576 /\
  (T.agg t=some true->x=.agg z)/\(T.agg t=some false->z = [x])
 agg:∀t b,T.agg t=some b->∃d,P.underlying t=some d/\Awd d=b
 eqs:∀t sh,T.eqs t=some sh->P.eqGuardType P.depth t=false/\∀(f:Loc) (w:World) (a b:List EV) (r:Bool),Fk a b=some r->shaped sh a=true ->
  (Op.equal t (.agg (Bp f a).toArray) (.agg (Bp f b).toArray)).run P w=.ok r w
 key:∀t,T.key t=true->(∃d,P.underlying t=some d/\Awd d=true)/\∀(f:Loc) (w:World) (e:Bool) (a:List EV) (sh:List Nat),T.eqs t=some sh->shaped sh a=true ->
  (Instr.checkKey e 10000 t (.agg (Bp f a).toArray)).run P w=.ok () w
section
variable(hT:Qc P T)(w:World)
include hT
theorem Dt{d:TypeDesc}(h:T.T6 t=some d):(underlying t).run P w=.ok d w:=by
 simp[underlying,hT.T6 t d h]
theorem Gt(h:T.size t=some n):(sizeOf t).run P w=.ok n w:=by
 obtain⟨i,h1,h2,_⟩:=hT.size t n h;simp[sizeOf,typeInfo,h1,h2]
theorem py{b:Bool}(h:T.agg t=some b):(isAgg t).run P w=.ok b w:=by
 obtain⟨d,h1,h2⟩:=hT.agg t b h;subst h2;cases d<;>simp[isAgg,underlying,h1,Awd]
theorem MR(f:Loc){cs:List EV}(h:part T t cs off=some v):(Go.part t (Bp f cs).toArray off).run P w=.ok (Cm f v) w:=by
 unfold part at h;split at h
 next u=>
  split at h
  next n y=>
   split at h
   next l d=>
    cases h;obtain⟨h1,rfl⟩:=qS d;rw[Sy]at h1⊢;simp only[Go.part,Sem.run_bind,py hT w u,aI,bN,Gt hT w y,aS,Cm];congr 2;apply dQ;simp[Ot,List.extract_eq_take_drop]
   ·cases h
  ·cases h
 next u=>
  split at h
  next x r d=>
   cases h;rw[Sy]at d;have:(Bp f cs).toArray[off]? = some (Cm f v):=by
    have h1:cs[off]? = some v:=by
     have:=cW (xs:=cs) (i:=off) (j:=0);rw[d]at this;simpa using this.symm
    simp[Ot,h1]
   simp only[Go.part,Sem.run_bind,py hT w u,aI,aV,ak,this,aS]
  ·cases h
 ·cases h
end
theorem Uu(b o n:Nat):(⟨b,o,none⟩:Addr).add n=⟨b,o+n,none⟩:=by
 unfold Addr.add;split
 next h=>subst h;rfl
 ·rfl
theorem Baf(cells vs:List Value)(off:Nat)(h:off+vs.length<=cells.length):
 vs.toArray.zipIdx.foldl (fun cs (x:Value × Nat)=>cs.setIfInBounds (off+x.2) x.1) cells.toArray=(cells.take off++vs++cells.drop (off+vs.length)).toArray:=by
 obtain⟨h1,h2⟩:=Great.foldl_set off vs 0 cells.toArray;have e:vs.toArray.zipIdx.foldl (fun cs (x:Value × Nat)=>cs.setIfInBounds (off+x.2) x.1) cells.toArray=(vs.zipIdx 0).foldl (fun cs (x:Value × Nat)=>cs.setIfInBounds (off+x.2) x.1) cells.toArray:=by
  simp
 rw[e];apply fC;intro k;rw[h2 k];simp only[dA,cU,bV];by_cases c1:k<off
 ·rw[aH a_,bm,bW (by simp;omega),List.getElem?_take_of_lt c1]
 ·by_cases c2:k<off+vs.length
  ·rw[aK a_,bW (by simp;omega),bU (by simp;omega)]
   congr 1;simp;omega
  ·rw[aH a_,bU (by simp;omega),cW]
   congr 1;simp;omega
theorem xc(f:Loc)(l vs:List EV)(off:Nat):Bp f (l.take off++vs++l.drop (off+vs.length))=(Bp f l).take off++Bp f vs++(Bp f l).drop (off+(Bp f vs).length):=by
 simp[Ot,List.map_take,List.map_drop]
theorem tR(f:Loc)(place:Nat->Option (Nat × Nat))(d:Nat->Option (Nat × Nat))(y:∀i q,place i=some q->d i=some q):
 ∀{cells:List EV} {l:List (Nat × EV)} {c:List EV},fill place cells l=some c->Instr.fill d (Bp f cells).toArray (l.map fun(i,v)=>(i,Cm f v))=some (Bp f c).toArray
 | cells,[],c,h=>by cases h;rfl
 | cells,(i,v)::r,c,h=>by
  unfold fill at h;split at h
  ·cases h
  next off size A=>
   obtain⟨_,h⟩:=An h;obtain⟨h1,h2⟩:=An h;split at h2
   next x B=>
    rw[Ue]at h1;have u:v.cells.length=size:=aJ h1;obtain⟨D,h4⟩:=Xd B;simp only[dH,Instr.fill,y i _ A];have C:(Cm f v).cells=(Bp f v.cells).toArray:=Ti f v;rw[C];simp only[cU,Cv];rw[aH (by simp[u];omega)];have e:=Baf (Bp f cells) (Bp f v.cells) off (by simp only[Cv];omega);have e2:(fun(cs:Array Value) (x:Value × Nat)=>match x with|(c,j)=>cs.setIfInBounds (off+j) c)=fun cs x=>cs.setIfInBounds (off+x.2) x.1:=rfl
    rw[e2,e,<-xc,<-h4];exact tR f place d y h2
   ·cases h2
theorem qV(place:Nat->Option (Nat × Nat)){q:EV->Prop}:∀{cells:List EV} {l:List (Nat × EV)} {c:List EV},fill place cells l=some c->(∀v∈cells,q v)->(∀x∈l,∀v∈x.2.cells,q v)->∀v∈c,q v
 | cells,[],c,h,d,_=>by cases h;exact d
 | cells,(i,v)::r,c,h,d,j=>by
  unfold fill at h;split at h
  ·cases h
  ·obtain⟨_,h⟩:=An h
   obtain⟨h1,h2⟩:=An h;split at h2
   next x A=>
    refine qV place h2 (fun u hu=>?_) (fun y B=>j y (by simp[B]));rcases w_ A hu with hu|hu
    ·exact d u hu
    ·exact j (i,v) (by simp) u hu
   ·cases h2
theorem tS(place:Nat->Option (Nat × Nat)):∀{cells:List EV} {l:List (Nat × EV)} {c:List EV},fill place cells l=some c->∀q∈l,q.2.plain=true
 | cells,[],c,h=>by simp
 | cells,(i,v)::r,c,h=>by
  unfold fill at h;split at h
  ·cases h
  ·obtain⟨h0,h⟩:=An h
   obtain⟨h1,h2⟩:=An h;split at h2
   ·intro q d
    rcases bZ.1 d with rfl|d
    ·exact h0
    ·exact tS place h2 q d
   ·cases h2
theorem tT:∀(a b:List UInt8),pe a b=decide (a=b)
 | [],[]=>rfl
 | a::r,b::s=>by
  simp only[pe];rw[Bq,tT r s];by_cases h:a=b
  ·subst h
   rw[aK (by simp)];simp
  ·rw[aH]
   ·simp[h]
   ·intro e;exact h (UInt8.toNat_inj.1 (aJ e))
 | [],_::_=>rfl
 | _::_,[]=>rfl
theorem tV(a b:ByteArray):pe a.data.toList b.data.toList=(a == b):=by
 obtain⟨⟨x⟩⟩:=a;obtain⟨⟨y⟩⟩:=b;show pe x y=((⟨x⟩:Array UInt8) == ⟨y⟩);rw[tT];simp only[List.beq_toArray];by_cases h:x=y
 ·subst h;simp
 ·have:(x == y)=false:=by simpa using h
  rw[this];simp[h]
theorem Bf3 {a b:ByteArray}(h:(a == b)=true):a=b:=by
 rw[<-tV,tT]at h;have:=cS h;cases a;cases b;simp only[ByteArray.mk.injEq];apply dQ;exact this
section
variable(hT:Qc P T)(f:Loc)(w:World)
theorem Jh(op:BinOp)(t:TypeId)(x y:Operand)(a b:Value)(h1:∀c d,¬(a=.agg c/\b=.agg d))(h2:¬(a=.nilIface/\b=.nilIface)):(eqGuard op t x y a b).run P w=.ok () w:=by
 unfold eqGuard;cases op<;>simp<;>(split<;>first|rfl|(rename_i e1 e2;exact absurd ⟨rfl,rfl⟩ h2)|(rename_i c d;exact absurd ⟨rfl,rfl⟩ (h1 c d))|simp_all)
theorem A6a(op:BinOp)(t:TypeId)(x y:Operand)(c d:Array Value)(h:P.eqGuardType P.depth t=false):(eqGuard op t x y (.agg c) (.agg d)).run P w=.ok () w:=by
 unfold eqGuard;cases op<;>simp[h]
theorem MS(d:Nat)(t:TypeId)(a b:Bool)(hu:P.underlying t=some .bool):(Op.equalIn (d+1) t (.bool a) (.bool b)).run P w=.ok (a == b) w:=by
 simp[Op.equalIn,underlying,hu]
theorem Bjs(d:Nat)(t:TypeId)(a b:ByteArray)(hu:P.underlying t=some .string):(Op.equalIn (d+1) t (.string a) (.string b)).run P w=.ok (a == b) w:=by
 simp[Op.equalIn,underlying,hu]
theorem MT(d:Nat)(t:TypeId)(e:TypeId)(b:Option Addr)(hu:P.underlying t=some (.pointer e)):(Op.equalIn (d+1) t (.pointer none) (.pointer b)).run P w=.ok b.isNone w:=by
 simp[Op.equalIn,underlying,hu]
theorem Bkn(d:Nat)(t:TypeId)(e:TypeId)(b:Addr)(hu:P.underlying t=some (.pointer e)):(Op.equalIn (d+1) t (.pointer (some b)) (.pointer none)).run P w=.ok false w:=by
 simp[Op.equalIn,underlying,hu]
theorem Bhd(d:Nat)(t:TypeId)(e:TypeId)(n:Nat)(b:Addr)(hu:P.underlying t=some (.pointer e))(hs:(sizeOf e).run P w=.ok n w):(Op.equalIn (d+1) t (.pointer (some b)) (.pointer (some b))).run P w=.ok true w:=by
 simp only[Op.equalIn,underlying,hu,Sem.run_bind,hs];simp only[Sem.run_bind,hs,aI,samePointer,sameAddr];simp[hu,hs,aI]
theorem Bfz(d:Nat)(t:TypeId)(e:TypeId)(b:Option Addr)(n m:Nat)(hu:P.underlying t=some (.slice e)):(Op.equalIn (d+1) t (.slice none 0 0) (.slice b n m)).run P w=.ok b.isNone w:=by
 simp[Op.equalIn,underlying,hu]
theorem MU(d:Nat)(t:TypeId)(e:TypeId)(b:Addr)(n m:Nat)(hu:P.underlying t=some (.slice e)):(Op.equalIn (d+1) t (.slice (some b) n m) (.slice none 0 0)).run P w=.ok false w:=by
 simp[Op.equalIn,underlying,hu]
include hT
theorem MV{a b:EV}{r:Bool}(h:jI T t a b=some r):(Op.equal t (Cm f a) (Cm f b)).run P w=.ok r w /\
 (∀op x y,(eqGuard op t x y (Cm f a) (Cm f b)).run P w=.ok () w) /\
 binOp .eql t (Cm f a) (Cm f b)=(do pure (.bool (←Op.equal t (Cm f a) (Cm f b))))/\binOp .neq t (Cm f a) (Cm f b)=(do pure (.bool (!(←Op.equal t (Cm f a) (Cm f b))))):=by
 unfold jI at h;split at h
 next l l'=>
  split at h
  next sh u=>
   obtain⟨A,h4⟩:=An h;obtain⟨e1,e2⟩:=hT.eqs t sh u;exact⟨e2 f w l l' r h4 A,fun op x y=>A6a w op t x y _ _ e1,rfl,rfl⟩
  ·cases h
 next p q=>
  split at h
  next hu=>
   cases h;refine⟨?_,fun op x y=>Jh w op t x y _ _ (by intro c d j;cases j.1) (by intro j;cases j.1),rfl,rfl⟩;refine(MS w 9999 t p q (hT.T6 _ _ hu)).trans ?_;cases p<;>cases q<;>rfl
  ·cases h
 ·split at h
  next hu=>
   cases h;exact⟨MT w 9999 t _ none (hT.T6 _ _ hu),fun op x y=>Jh w op t x y _ _ (by intro c d j;cases j.1) (by intro j;cases j.1),rfl,rfl⟩
  ·cases h
 ·split at h
  next hu=>
   cases h;exact⟨MT w 9999 t _ (some _) (hT.T6 _ _ hu),fun op x y=>Jh w op t x y _ _ (by intro c d j;cases j.1) (by intro j;cases j.1),rfl,rfl⟩
  ·cases h
 ·split at h
  next hu=>
   cases h;exact⟨Bkn w 9999 t _ _ (hT.T6 _ _ hu),fun op x y=>Jh w op t x y _ _ (by intro c d j;cases j.1) (by intro j;cases j.1),rfl,rfl⟩
  ·cases h
 ·split at h
  next hu=>
   split at h
   next n B=>
    obtain⟨h1,h2⟩:=An h;obtain⟨A,h4⟩:=An h2;cases h4;rw[aJ h1,aJ A];exact⟨Bhd w 9999 t _ n _ (hT.T6 _ _ hu) (Gt hT w B),fun op x y=>Jh w op t x y _ _ (by intro c d j;cases j.1) (by intro j;cases j.1),rfl,rfl⟩
   ·cases h
  ·cases h
 ·split at h
  next hu=>
   cases h;exact⟨Bfz w 9999 t _ none 0 0 (hT.T6 _ _ hu),fun op x y=>Jh w op t x y _ _ (by intro c d j;cases j.1) (by intro j;cases j.1),rfl,rfl⟩
  ·cases h
 ·split at h
  next hu=>
   cases h;exact⟨MU w 9999 t _ _ _ _ (hT.T6 _ _ hu),fun op x y=>Jh w op t x y _ _ (by intro c d j;cases j.1) (by intro j;cases j.1),rfl,rfl⟩
  ·cases h
 ·split at h
  next hu=>
   cases h;exact⟨MU w 9999 t _ _ _ _ (hT.T6 _ _ hu),fun op x y=>Jh w op t x y _ _ (by intro c d j;cases j.1) (by intro j;cases j.1),rfl,rfl⟩
  ·cases h
 ·cases h
end
end
section
section
variable(hT:Qc P T)(f:Loc)(w:World)
include hT
theorem Bor {op:BinOp}{a b:EV}(h:bin T op t a b=some v)(x y:Operand):
 (eqGuard op t x y (Cm f a) (Cm f b)).run P w=.ok () w/\(binOp op t (Cm f a) (Cm f b)).run P w=.ok (Cm f v) w:=by
 unfold bin at h;split at h
 next k a k' b=>
  refine⟨Jh w op t x y _ _ (by intro c d j;cases j.1) (by intro j;cases j.1),?_⟩;rw[Bq]at h;split at h
  ·split at h
   ·exact Bgx f w t h
   ·cases h
  next hs=>
   obtain⟨h1,h2⟩:=An h;obtain rfl:=qU h1;exact Bjk f w t (by simpa using hs) h2
 next B=>
  split at h
  ·split at h
   next r u=>
    cases h;obtain⟨h1,h2,A,_⟩:=MV hT f w u;refine⟨h2 _ x y,?_⟩;rw[A];simp[h1,Cm]
   ·cases h
  ·split at h
   next r u=>
    cases h;obtain⟨h1,h2,_,A⟩:=MV hT f w u;refine⟨h2 _ x y,?_⟩;rw[A];simp[h1,Cm,Bq]
   ·cases h
  ·cases h
theorem qW {x:Option EV}{hi:Nat}(h:bound x hi jR=some n)(code:BoundsCode):
 (∀u,x=some u->(Instr.sliceBound (Cm f u) hi code).run P w=.ok n w)/\(x=none->n=jR):=by
 cases x with
 | none=>cases h;exact⟨fun u hu=>(by cases hu),fun _=>rfl⟩
 | some u=>
  refine⟨fun j hu=>?_,fun hu=>(by cases hu)⟩;cases hu;unfold bound at h;split at h
  next d=>cases d
  next k m d=>
   cases d;obtain⟨h1,h2⟩:=An h;cases h2;simp only[cv]at h1;simp only[Instr.sliceBound,Cm,asIntOf,Sem.run_bind,aS,aI];rw[aK (by simp;omega)];simp
  ·cases h
theorem xe{len h l:Nat}(d:Bool)(h1:bound hi cap len=some h)(h2:bound lo h 0=some l):
 (Instr.sliceBounds d len cap (lo.map (Cm f)) (hi.map (Cm f)) none).run P w=.ok (l,h,cap) w:=by
 obtain⟨j,A⟩:=qW hT f w h1 (if d=true then .sliceAcap else .sliceAlen);obtain⟨b1,b2⟩:=qW hT f w h2 .sliceB;unfold Instr.sliceBounds;cases hi with
 | none=>
  obtain rfl:=A rfl;cases lo with
  | none=>obtain rfl:=b2 rfl;simp
  | some u=>simp[b1 u rfl]
 | some y=>
  cases lo with
  | none=>obtain rfl:=b2 rfl;simp[j y rfl]
  | some u=>simp[j y rfl,b1 u rfl]
theorem A85{len room h l:Nat}(j:Bool){y d:EV}(hm:mx=some y)(C:hi=some d)(G:room<=cap)(h0:bound mx room 0=some m)(h1:bound hi m 0=some h)(h2:bound lo h 0=some l):
 (Instr.sliceBounds j len cap (lo.map (Cm f)) (hi.map (Cm f)) (mx.map (Cm f))).run P w=.ok (l,h,m) w:=by
 have A:bound mx cap 0=some m:=by
  subst hm;unfold bound at h0⊢;split at h0
  next D=>cases D
  ·obtain⟨E,F⟩:=An h0
   cases F;simp only[cv]at E;rw[Bq,aK (by simp only[cv];omega)]
  ·cases h0
 obtain⟨c1,_⟩:=qW hT f w A (if j=true then .slice3Acap else .slice3Alen);obtain⟨B,_⟩:=qW hT f w h1 .slice3B;obtain⟨b1,b2⟩:=qW hT f w h2 .slice3C;subst hm C;unfold Instr.sliceBounds;cases lo with
 | none=>obtain rfl:=b2 rfl;simp[c1 y rfl,B d rfl]
 | some u=>simp[c1 y rfl,B d rfl,b1 u rfl]
omit hT in
theorem MX {x:Option EV}{hi:Nat}(hd:jR<=hi)(h:bound x hi jR=some n):n<=hi:=by
 unfold bound at h;split at h
 ·cases h;exact hd
 ·obtain⟨h1,h2⟩:=An h
  cases h2;simpa only[cv]using h1
 ·cases h
theorem MY {len room:Nat}{op:Bool}{size:Nat}(h:iJ (.slice i off len room op) size lo hi mx=some v)(d:Bool):
 ∃l u m,(Instr.sliceBounds d len (if op=true then room+f.sp i else room) (lo.map (Cm f)) (hi.map (Cm f)) (mx.map (Cm f))).run P w=.ok (l,u,m) w /\
  Cm f v=.slice (some (if m=l then(⟨f.b i,off,none⟩:Addr)else(⟨f.b i,off,none⟩:Addr).add (l*size))) (u-l) (m-l):=by
 unfold iJ at h;simp only[Nat.add_eq,Nat.mul_eq,Nat.sub_eq]at h;split at h
 ·split at h
  ·cases h
  next u h1=>
   split at h
   ·cases h
   next l h2=>
    rw[Bq]at h;split at h
    next y=>
     subst y;have C:bound hi (room+f.sp i) len=some u:=by
      unfold bound at h1⊢;split at h1
      ·exact h1
      ·obtain⟨H,J⟩:=An h1
       cases J;simp only[cv]at H;rw[Bq,aK (by simp only[cv];omega)]
      ·cases h1
     have hb:=xe hT f w d C h2;refine⟨l,u,room+f.sp i,by simpa using hb,?_⟩;rw[Bq]at h;split at h
     next h0=>
      have D:=aJ h0;subst D;cases h;simp only[Cm,bN,fT,Nat.sub_zero];congr 2;rw[Uu];simp
     ·rw[Bq]at h
      split at h
      next h0=>
       cases h;simp only[cv]at h0;rw[aH a_,Uu];simp only[Cm,bN];congr 1;omega
      ·obtain⟨G,h4⟩:=An h
       have E:=aJ G;subst E;obtain⟨K,L⟩:=An h4;cases L;have F:=aJ K;subst F;simp only[Cm,fG,Uu];congr 1
       ·by_cases A:f.sp i=0
        ·rw[aK A,aK a_]
        ·rw[aH A,aH a_]
       ·omega
    next y=>
     obtain⟨G,h4⟩:=An h;cases h4;have B:op=false:=by simpa using y
     subst B;have hb:=xe hT f w d h1 h2;refine⟨l,u,room,by simpa using hb,?_⟩;simp only[Cm,aV,ak];rw[Bq];congr 2;by_cases j:room=l
     ·rw[aK (by rw[j];exact cO l),aK j]
     ·rw[aH (by simpa using j),aH j,Uu]
 next M=>
  cases hm:bound (some M) room 0 with
  | none=>rw[hm]at h;cases h
  | some m=>
   rw[hm]at h;cases hi with
   | none=>cases h
   | some O=>
    simp only at h;split at h
    ·cases h
    next u h1=>
     split at h
     ·cases h
     next l h2=>
      cases h;have hb:=A85 hT f w (len:=len) d rfl rfl (cap:=if op=true then room+f.sp i else room) (room:=room) (by split<;>omega) hm h1 h2;refine⟨l,u,m,hb,?_⟩;simp only[Cm,aV,ak];rw[Bq];congr 2;by_cases j:m=l
      ·rw[aK (by rw[j];exact cO l),aK j]
      ·rw[aH (by simpa using j),aH j,Uu]
end
end
section
theorem MZ:∀(l:List (Nat × Nat)) (i:Nat),kT l i=l[i]?
 | [],i=>by simp[kT]
 | a::r,0=>rfl
 | a::r,i+1=>by
  have:kT (a::r) (i+1)=kT r i:=rfl;rw[this,MZ r i];simp
theorem M_:∀(l:List UInt8) (i:Nat),pf l i=l[i]?
 | [],i=>by simp[pf]
 | a::r,0=>rfl
 | a::r,i+1=>by
  have:pf (a::r) (i+1)=pf r i:=rfl;rw[this,M_ r i];simp
theorem nY(f:Loc)(l:List EV)(i:Nat):(Bp f l)[i]? = (l[i]?).map (Cm f):=by rw[Ot,bB]
theorem Vz(d:Reads f tm ρ){x:Option Operand}{v:Option EV}(h:je tm x=some v):x.map ρ=v.map (Cm f):=by
 cases x with
 | none=>simp only[je]at h;cases h;rfl
 | some x=>
  simp only[je]at h;split at h
  next a j=>
   cases h;simp[Bl d j]
  ·cases h
section
variable(hT:Qc P T)(f:Loc)(w:World)
include hT
theorem NA:∀{l:List Field} {ps:List (Nat × Nat)},placesOf T l=some ps ->
 (l.mapM (m:=Sem) fun fd=>do pure (fd.offset,<-sizeOf fd.type)).run P w=.ok ps w
 | [],ps,h=>by cases h;rfl
 | fd::r,ps,h=>by
  unfold placesOf at h;split at h
  next n d=>
   split at h
   next q j=>
    cases h;rw[List.mapM_cons];have u:=NA j;simp only[Sem.run_bind,Gt hT w d,aI,aS,u]
   ·cases h
  ·cases h
theorem mX{z:List EV}(h:T.zero t=some z):∃x:EV,x.plain=true/\z=x.cells/\(zeroValue t).run P w=.ok (Cm f x) w /\
 (T.agg t=some true->x=.agg z)/\(T.agg t=some false->z = [x])/\(∀p,x.ok p)/\∃i,P.info? t=some i/\i.size=z.length/\i.bytes<=1048576:=by
 obtain⟨i,v,x,h1,h2,d,h4,j,u,y,A,B⟩:=hT.zero t z h;refine⟨x,h4,j,?_,A,B,fun p=>w8 p d,i,h1,u,y⟩;rw[MN f d];simp[zeroValue,typeInfo,h1,h2]
theorem Bjp(A:Reads f tm ρ)(h:E2 T tm o.op=some v):
 (execOp ρ o).run P w=.ok (.value (Cm f v)) w:=by
 obtain⟨dst,op,type,after,pos,guard⟩:=o;simp only at h;cases op with
 | move x=>simp only[E2]at h;simp[execOp,Bl A h]
 | assign x=>simp only[E2]at h;simp[execOp,Bl A h]
 | pick c a b=>
  simp only[E2]at h;split at h
  next G=>simp[execOp,Bl A G,Bl A h,Cm,asBool]
  next G=>simp[execOp,Bl A G,Bl A h,Cm,asBool]
  ·cases h
 | binOp op t x y c=>
  simp only[E2]at h;split at h
  next a V=>
   split at h
   next b hb=>
    obtain⟨h1,h2⟩:=Bor hT f w h x y;simp[execOp,Bl A V,Bl A hb,h1,h2]
   ·cases h
  ·cases h
 | unOp op t x=>
  cases op with
  | not=>
   simp only[E2]at h;split at h
   next b B=>
    cases h;cases b<;>simp[execOp,Bl A B,Cm,Op.unary]
   ·cases h
  | neg=>
   simp only[E2]at h;split at h
   next k n B=>
    cases h;simp only[execOp,Bl A B,Cm,Op.unary,Op.intArith,Lx,Sem.run_bind,aS,aI];rfl
   ·cases h
  | _=>simp[E2]at h
 | nilCheck x=>
  simp only[E2]at h;split at h
  next i off B=>
   cases h;simp[execOp,Bl A B,Cm]
  ·cases h
 | fieldAddr s x W=>
  simp only[E2]at h;split at h
  next i off B=>
   split at h
   next fields hu=>
    split at h
    next fd S=>
     split at h
     next n hn=>
      obtain⟨h1,h2⟩:=Th h;cases h2;rw[xa]at S;have H:fields[W]? = some fd:=by simpa using S
      have U:n≠0:=by intro e;subst e;cases h1
      simp[execOp,Instr.fieldAt,Bl A B,Dt hT w hu,H,Cm,Instr.sureAddr,fieldPlace,Gt hT w hn,U,Uu]
     ·cases h
    ·cases h
   ·cases h
  ·cases h
 | indexAddr t x ix=>
  simp only[E2]at h;split at h
  next k n C=>
   split at h
   next len e i off hu B=>
    split at h
    next s hs=>
     obtain⟨h1,h2⟩:=An h;cases h2;simp only[cv]at h1;have F:(n:Int)<len:=a_
     simp[execOp,Instr.indexAt,Bl A C,Bl A B,Cm,asIntOf,Dt hT w hu,Instr.sureAddr,Gt hT w hs,Uu];exact fun hle=>absurd hle a_
    ·cases h
   next e i off len r op hu B=>
    split at h
    next s hs=>
     obtain⟨h1,h2⟩:=An h;cases h2;simp only[cv]at h1;have F:(n:Int)<len:=a_
     simp[execOp,Instr.indexAt,Bl A C,Bl A B,Cm,asIntOf,Dt hT w hu,Gt hT w hs,Uu];exact fun hle=>absurd hle a_
    ·cases h
   ·cases h
  ·cases h
 | index t x ix=>
  simp only[E2]at h;split at h
  next k n C=>
   split at h
   next len e cs hu B=>
    split at h
    next s hs=>
     obtain⟨h1,h2⟩:=An h;simp only[cv]at h1;have F:(n:Int)<len:=a_
     have M:=MR hT w f h2;simp only[Nat.mul_eq]at M;simp[execOp,Instr.index,Bl A C,Bl A B,Cm,asIntOf,Dt hT w hu,Gt hT w hs,M];exact fun hle=>absurd hle a_
    ·cases h
   next s hu B=>
    split at h
    next b hb=>
     cases h;rw[M_]at hb;have X:s[n]? = some b:=by
      have e:s.data[n]? = some b:=by simpa using hb
      rw[<-e];rfl
     simp[execOp,Instr.index,Bl A C,Bl A B,Cm,asIntOf,Dt hT w hu,X]
    ·cases h
   ·cases h
  ·cases h
 | field t x W=>
  simp only[E2]at h;split at h
  next fields cs hu B=>
   split at h
   next fd S=>
    rw[xa]at S;have H:fields[W]? = some fd:=by simpa using S
    have M:=MR hT w f h;simp[execOp,Instr.field,Bl A B,Cm,Dt hT w hu,H,asAgg,M]
   ·cases h
  ·cases h
 | convert src d x=>
  simp only[E2]at h;split at h
  next ud k k' n hs hd B=>
   cases h;simp only[execOp,Go.convert,Bl A B,Cm,Sem.run_bind,Dt hT w hs,Dt hT w hd,aI,Conv.intToInt,aS,Lx]
  ·cases h
 | extract x ix=>
  simp only[E2]at h;split at h
  next l B=>
   split at h
   next u r O=>
    cases h;rw[Sy]at O;have h1:l[ix]? = some v:=by
     have:=cW (xs:=l) (i:=ix) (j:=0);rw[O]at this;simpa using this.symm
    simp[execOp,Instr.extract,Bl A B,Cm,nY,h1]
   ·cases h
  ·cases h
 | slice t x lo hi mx=>
  simp only[E2]at h;split at h
  next ae af Y J K D=>
   split at h
   next n e i off hu B=>
    split at h
    next s hs=>
     obtain⟨l,Z,m,h1,h2⟩:=MY hT f w h false;simp only[aV,ak]at h1;simp[execOp,Instr.sliceAt,Dt hT w hu,Bl A B,Vz A J,Vz A K,Vz A D,Cm,Instr.sureAddr,h1,Gt hT w hs,h2]
    ·cases h
   next e x' hu B=>
    split at h
    next s hs=>
     cases x' with
     | slice i off len room op=>
      obtain⟨l,Z,m,h1,h2⟩:=MY hT f w h true;simp[execOp,Instr.sliceAt,Instr.slice,Dt hT w hu,Bl A B,Vz A J,Vz A K,Vz A D,Cm,h1,Gt hT w hs,h2];split<;>rfl
     | Am=>
      unfold iJ at h;cases Y with
      | some _=>cases h
      | none=>
       simp only at h;split at h
       ·cases h
       next Z h1=>
        split at h
        ·cases h
        next l h2=>
         cases h;have e1:Z=0:=Nat.le_zero.1 (MX (aD _) h1);subst e1;have e2:l=0:=Nat.le_zero.1 (MX (aD _) h2);subst e2;have hb:=xe hT f w true h1 h2;have hm:mx=none:=by
          cases mx with
          | none=>rfl
          | some o=>simp only[je]at D;split at D<;>cases D
         subst hm;simp[execOp,Instr.sliceAt,Instr.slice,Dt hT w hu,Bl A B,Vz A J,Vz A K,Cm,hb,Gt hT w hs]
     | _=>simp[iJ]at h
    ·cases h
   ·cases h
  ·cases h
 | build t ps=>
  simp only[E2]at h;split at h
  next z l fields U O hu=>
   split at h
   next pl aa=>
    split at h
    next c G=>
     cases h;obtain⟨x,_,e1,e2,_⟩:=mX hT f w U;have M:(fields.mapM (m:=Sem) fun fd=>do pure (fd.offset,<-sizeOf fd.type)).run P w=.ok pl.toArray w:=by
      have e:fields=fields.toList.toArray:=by simp
      rw[e,List.mapM_toArray];have Q:=NA hT w aa;simp only[map_eq_pure_bind,Sem.run_bind,Q,aI,aS]
     have E:=tR f (kT pl) (fun i=>pl.toArray[i]?) (fun i q Q=>by rw[MZ]at Q;simpa using Q) G;have L:(ps.map fun(i,x)=>(i,ρ x)).toList=l.map fun(i,v)=>(i,Cm f v):=by
      rw[Array.toList_map,tM A O]
     rw[e1]at E;simp only[execOp,Instr.build,Sem.run_bind,e2,aI,Dt hT w hu,M,Ti,L,E,aS,Cm]
    ·cases h
   ·cases h
  next z l n e U O hu=>
   split at h
   next s hs=>
    split at h
    next c G=>
     cases h;obtain⟨x,_,e1,e2,_⟩:=mX hT f w U;have E:=tR f (fun i=>some (Nat.mul i s,s)) (fun i=>some (i*s,s)) (fun i q Q=>Q) G;have L:(ps.map fun(i,x)=>(i,ρ x)).toList=l.map fun(i,v)=>(i,Cm f v):=by
      rw[Array.toList_map,tM A O]
     rw[e1]at E;simp only[execOp,Instr.build,Sem.run_bind,e2,aI,Dt hT w hu,Gt hT w hs,Ti,L,E,aS,Cm]
    ·cases h
   ·cases h
  ·cases h
 | makeFunc fn first captured=>
  cases fn with
  | func g=>
   simp only[E2]at h;split at h
   next a b V hb=>
    cases h;have h1:first.map ρ=(Bp f a).toArray:=by apply dQ;simp[Zp A V]
    have h2:captured.map ρ=(Bp f b).toArray:=by apply dQ;simp[Zp A hb]
    simp[execOp,Instr.makeFunc,Cm,h1,h2]
   ·cases h
  | _=>simp[E2]at h
 | sliceToArrayPointer t x=>
  simp only[E2]at h;split at h
  next n e i off len room op hu B=>
   obtain⟨h1,h2⟩:=An h;cases h2;simp only[cv]at h1;have F:¬len<n:=a_
   simp[execOp,Instr.arrayAt,Dt hT w hu,Bl A B,Cm,F]
  ·cases h
 | _=>simp[E2]at h
end
end
theorem Ab.get_put(h:Ab)(i:Nat)(o:Ds)(j:Nat):(h.put i o).get j=if i=j then some o else h.get j:=by
 obtain⟨t,n,m⟩:=h;exact Tr.get_put t i (some o) j
theorem Ab.kK(h:Ab)(i j:Nat):(h.del i).get j=if i=j then none else h.get j:=by
 obtain⟨t,n,m⟩:=h;exact Tr.get_put t i none j
theorem Ab.Kz(h:Ab)(o:Ds)(j:Nat):(h.new o).get j=if h.next=j then some o else h.get j:=by
 obtain⟨t,n,m⟩:=h;exact Tr.get_put t n (some o) j
theorem Ab.P9(h:Ab)(i:Nat)(o:Ds):(h.put i o).next=h.next:=rfl
theorem Ab.qp(h:Ab)(i:Nat):(h.del i).next=h.next:=rfl
theorem Ab.Dd(h:Ab)(o:Ds):(h.new o).next=h.next+1:=rfl
theorem Ab.mI(h:Ab)(i:Nat)(o:Ds):(h.put i o).mw=min i h.mw:=by
 obtain⟨t,n,m⟩:=h;show Bc (Nat.ble i m) i m=min i m;rw[Bq];by_cases hi:i<=m
 ·rw[aK (mW hi)];omega
 ·rw[aH (by rw[pj hi];simp)];omega
theorem Ab.qs(h:Ab)(i:Nat):(h.del i).mw=min i h.mw:=Ab.mI h i (.deferred true)
theorem Ab.ι(h:Ab)(o:Ds):(h.new o).mw=h.mw:=rfl
def Ds.ok(p:Nat->Prop):Ds->Prop
 | .cells l _=>EV.Tp p l/\l.all EV.one=true
 | .vec l _ _=>EV.Tp p l/\l.all EV.one=true
 | .map es=>∀e∈es,e.1.ok p/\e.2.ok p
 | .chan _ buf=>EV.Tp p buf
 | .loop _ _ _ n tm _ _ _ d=>Ld p n tm/\p d
 | .deferred _=>True
 | .view ws _=>∀x∈ws,EV.Tp p x.2/\x.2.all EV.one=true
theorem Ds.ok.mono(j:∀i,p i->q i){o:Ds}(h:o.ok p):o.ok q:=by
 cases o with
 | cells l t=>exact⟨EV.Tp.mono j l h.1,h.2⟩
 | vec l t s=>exact⟨EV.Tp.mono j l h.1,h.2⟩
 | map es=>exact fun e he=>⟨EV.ok.mono j _ (h e he).1,EV.ok.mono j _ (h e he).2⟩
 | chan c buf=>exact EV.Tp.mono j buf h
 | loop st y fn n tm ps d' body d=>exact⟨Ld.mono h.1 j,j d h.2⟩
 | deferred b=>trivial
 | view ws _=>exact fun x u=>⟨EV.Tp.mono j x.2 (h x u).1,(h x u).2⟩
def Td(f:Loc)(i:Nat):Ds->Obj->Prop
 | .cells l e,r=>r=.cells (Bp f l).toArray e (0,0)
 | .vec l e s,r=>∃more:List Value,r=.cells (Bp f l++more).toArray e (0,0)/\more.length=f.sp i*s
 | .map es,r=>∃d_ clock,r=.map d_ clock/\d_.toList.map (fun e=>(e.key,e.val))=es.map (fun e=>(Cm f e.1,Cm f e.2))
 | .chan cap buf,r=>∃s c,r=.chan cap (Bp f buf).toArray false s c false
 | .loop st p fn n tm ps d' body d,r=>r=.loop ⟨st,p,fn,Bg f n tm,ps.toArray,d',body,f.b d⟩
 | .deferred op,r=>r=.deferred (if op=true then some []else none)
 | .view ws r0,r=>r=r0/\∃arr e fr,r=.cells arr e fr/\∀x∈ws,∀(j:Nat) v,x.2[j]? = some v->arr[x.1+j]? = some (Cm f v)
theorem Td.congr{g:Loc}(u:Loc.agree p f g)(hi:p i){o:Ds}(y:o.ok p){r:Obj}(h:Td f i o r):Td g i o r:=by
 cases o with
 | cells l t=>simp only[Td]at h⊢;rw[h,Fy u l y.1]
 | vec l t s=>simp only[Td]at h⊢;obtain⟨more,h1,h2⟩:=h;exact⟨more,by rw[h1,Fy u l y.1],by rw[h2,(u i hi).2]⟩
 | map es=>
  obtain⟨d_,clock,h1,h2⟩:=h;refine⟨d_,clock,h1,?_⟩;rw[h2];apply cY;intro e he;rw[po u _ (y e he).1,po u _ (y e he).2]
 | chan c buf=>obtain⟨s,B,h1⟩:=h;exact⟨s,B,by rw[h1,Fy u buf y]⟩
 | loop st C fn n tm ps d' body d=>simp only[Td]at h⊢;rw[h,Ku u y.1,(u d y.2).1]
 | deferred b=>exact h
 | view ws r0=>
  obtain⟨h0,arr,e,fr,h1,h2⟩:=h;exact⟨h0,arr,e,fr,h1,fun x A j v hj=>by rw[<-po u v ((H0 p x.2).1 (y x A).1 v (dJ hj))];exact h2 x A j v hj⟩
structure Tg(p:Nat->Prop)(h:Ab):Prop where
 lt:∀i,p i->i<h.next
 get:∀i o,h.get i=some o->p i/\o.ok p
structure Tt(f:Loc)(h:Ab)(w:World):Prop where
 obj:∀i o,h.get i=some o->∃r,w.heap[f.b i]? = some r/\Td f i o r
 inj:∀i j o o',h.get i=some o->h.get j=some o'->f.b i=f.b j->i=j
theorem Tt.sub{w:World}(y:Tt f h w)(hs:∀i o,h'.get i=some o->h.get i=some o):Tt f h' w where
 obj i o d:=y.obj i o (hs i o d)
 inj i j o o' d u e:=y.inj i j o o' (hs i o d) (hs j o' u) e
theorem Tt.lt{w:World}(d:Tt f h w){o:Ds}(j:h.get i=some o):f.b i<w.heap.size:=by
 obtain⟨r,h1,_⟩:=d.obj i o j;exact(bh.1 h1).1
def grow(p:Nat->Prop)(h h':Ab)(i:Nat):Prop:=p i\/(h.next<=i/\i<h'.next)
theorem J3(p:Nat->Prop)(h h':Ab)(e:h'.next=h.next):grow p h h'=p:=by
 funext i;exact propext ⟨fun x=>x.elim id (fun⟨a,b⟩=>absurd b a_),.inl⟩
theorem pa(p:Nat->Prop)(a:h.next<=h1.next)(b:h1.next<=h2.next):grow (grow p h h1) h1 h2=grow p h h2:=by
 funext i;apply propext;constructor
 ·rintro((x|x)|x)
  ·exact .inl x
  ·exact .inr a_
  ·exact .inr a_
 ·rintro(x|x)
  ·exact .inl (.inl x)
  ·by_cases c:i<h1.next
   ·exact .inl (.inr ⟨x.1,c⟩)
   ·exact .inr a_
structure Wf(p:Nat->Prop)(h h':Ab):Prop where
 next:h.next<=h'.next
 mw:h'.mw<=h.mw
 same:∀i,i<h'.mw->i<h.next->h'.get i=h.get i
 live:∀i o,h'.get i=some o->(∃o',h.get i=some o')\/h.next<=i
 hok:Tg (grow p h h') h'
structure Move(p:Nat->Prop)(f:Loc)(h:Ab)(w:World)(f':Loc)(h':Ab)(w':World):Prop where
 agree:Loc.agree p f f'
 rep:Tt f' h' w'
 kept:∀b,b<w.heap.size->(∀i o,h.get i=some o->f.b i≠b)->w'.heap[b]? = w.heap[b]?
 size:w.heap.size<=w'.heap.size
 tape:w'.tape=w.tape
 os:w'.os=w.os
 output:w'.output=w.output
 own:∀i o,h'.get i=some o->w.heap.size<=f'.b i\/∃j o',h.get j=some o'/\f'.b i=f.b j
theorem Wf.refl(d:Tg p h):Wf p h h where
 next:=aD _
 mw:=aD _
 same _ _ _:=rfl
 live i o j:=.inl ⟨o,j⟩
 hok:=by rw[J3 p h h rfl];exact d
theorem Wf.trans(a:Wf p h h1)(b:Wf (grow p h h1) h1 h2):Wf p h h2 where
 next:=bS a.next b.next
 mw:=bS b.mw a.mw
 same i x y:=by rw[b.same i x (by have:=a.next;omega),a.same i (by have:=b.mw;omega) y]
 live i o j:=by
  rcases b.live i o j with⟨o',d⟩|hi
  ·exact a.live i o' d
  ·exact .inr (by have:=a.next;omega)
 hok:=by rw[<-pa p a.next b.next];exact b.hok
theorem Move.refl{w:World}(d:Tt f h w):Move p f h w f h w where
 agree:=Loc.tL p f
 rep:=d
 kept _ _ _:=rfl
 size:=aD _
 tape:=rfl
 os:=rfl
 output:=rfl
 own i o j:=.inr ⟨i,o,j,rfl⟩
theorem Move.trans{f1 f2:Loc}{w w1 w2:World}(a:Move p f h w f1 h1 w1)
 (b:Move (grow p h h1) f1 h1 w1 f2 h2 w2):Move p f h w f2 h2 w2 where
 agree:=a.agree.trans (b.agree.mono fun i hi=>.inl hi)
 rep:=b.rep
 kept x B C:=by
  rw[b.kept x (aL B a.size) ?_,a.kept x B C];intro i o y e;rcases a.own i o y with hi|⟨j,o',d,hj⟩
  ·omega
  ·exact C j o' d (hj▸e)
 size:=bS a.size b.size
 tape:=b.tape.trans a.tape
 os:=b.os.trans a.os
 output:=b.output.trans a.output
 own i o y:=by
  rcases b.own i o y with hi|⟨j,o',d,hj⟩
  ·exact .inl (bS a.size hi)
  ·rcases a.own j o' d with hi|⟨k,A,u,hk⟩
   ·exact .inl (hj▸hi)
   ·exact .inr ⟨k,A,u,hj.trans hk⟩
theorem Wf.put(d:Tg p h){o:Ds}(hi:h.get i=some o)(u:o'.ok p):Wf p h (h.put i o') where
 next:=aD _
 mw:=by rw[Ab.mI];omega
 same j x _:=by rw[Ab.mI]at x;rw[Ab.get_put,aH a_]
 live j q hj:=by
  rw[Ab.get_put]at hj;split at hj
  next e=>subst e;exact .inl ⟨o,hi⟩
  ·exact .inl ⟨q,hj⟩
 hok:=by
  rw[J3 p h (h.put i o') rfl];refine⟨d.lt,fun j q hj=>?_⟩;rw[Ab.get_put]at hj;split at hj
  next e=>subst e;cases hj;exact⟨(d.get i o hi).1,u⟩
  ·exact d.get j q hj
theorem Move.put{w:World}(d:Tt f h w){o:Ds}(hi:h.get i=some o)
 {r:Obj} (h1:w'.heap[f.b i]? = some r) (h2:Td f i o' r) (A:∀b,b≠f.b i->w'.heap[b]? = w.heap[b]?) (h4:w'.heap.size=w.heap.size)
 (B:w'.tape=w.tape) (C:w'.os=w.os) (D:w'.output=w.output):Move p f h w f (h.put i o') w' where
 agree:=Loc.tL p f
 rep:=by
  refine⟨fun j q hj=>?_,fun j k q q' hj hk e=>?_⟩
  ·rw[Ab.get_put]at hj
   split at hj
   next e=>subst e;cases hj;exact⟨r,h1,h2⟩
   next e=>
    obtain⟨E,a,b⟩:=d.obj j q hj;refine⟨E,?_,b⟩;rw[A _ ?_]
    ·exact a
    ·intro e';exact e (d.inj j i q o hj hi e').symm
  ·have u:∃q,h.get j=some q:=by
    rw[Ab.get_put]at hj;split at hj
    next e=>exact⟨o,e▸hi⟩
    ·exact⟨q,hj⟩
   have y:∃q,h.get k=some q:=by
    rw[Ab.get_put]at hk;split at hk
    next e=>exact⟨o,e▸hi⟩
    ·exact⟨q',hk⟩
   obtain⟨a,F⟩:=u;obtain⟨b,hb⟩:=y;exact d.inj j k a b F hb e
 kept b _ G:=A b (fun e=>G i o hi e.symm)
 size:=a_
 tape:=B
 os:=C
 output:=D
 own j q hj:=by
  rw[Ab.get_put]at hj;split at hj
  next e=>subst e;exact .inr ⟨i,o,hi,rfl⟩
  ·exact .inr ⟨j,q,hj,rfl⟩
def Loc.set(f:Loc)(i b sp:Nat):Loc:=⟨fun j=>if j=i then b else f.b j,fun j=>if j=i then sp else f.sp j⟩
theorem Loc.X2(f:Loc)(i b sp:Nat):(f.set i b sp).b i=b:=aK rfl
theorem Loc.mY(f:Loc)(i b sp:Nat):(f.set i b sp).sp i=sp:=aK rfl
theorem Loc.Uh(f:Loc){j:Nat}(b sp:Nat)(h:j≠i):(f.set i b sp).b j=f.b j/\(f.set i b sp).sp j=f.sp j:=⟨aH h,aH h⟩
theorem Loc.Ms(f:Loc)(b sp:Nat)(h:¬p i):Loc.agree p f (f.set i b sp):=fun j hj=>
 have e:j≠i:=fun e=>h (e▸hj)
 ⟨(f.Uh b sp e).1.symm,(f.Uh b sp e).2.symm⟩
theorem Tg.fresh(d:Tg p h):¬p h.next:=fun x=>absurd (d.lt _ x) a_
theorem Tg.nZ(d:Tg p h){o:Ds}(hi:h.get i=some o):i≠h.next:=fun e=>d.fresh (e▸(d.get i o hi).1)
theorem Wf.new(d:Tg p h){o:Ds}(u:o.ok (grow p h (h.new o))):Wf p h (h.new o) where
 next:=by rw[Ab.Dd];omega
 mw:=aD _
 same j x y:=by rw[Ab.Kz,aH a_]
 live j q hj:=by
  rw[Ab.Kz]at hj;split at hj
  next e=>exact .inr a_
  ·exact .inl ⟨q,hj⟩
 hok:=by
  refine⟨fun j hj=>?_,fun j q hj=>?_⟩
  ·rcases hj with hj|hj
   ·have:=d.lt j hj;rw[Ab.Dd];omega
   ·exact hj.2
  ·rw[Ab.Kz]at hj
   split at hj
   next e=>cases hj;exact⟨.inr (by rw[Ab.Dd];omega),u⟩
   ·exact⟨.inl (d.get j q hj).1,Ds.ok.mono (fun i hi=>.inl hi) (d.get j q hj).2⟩
theorem Move.new{w:World}(d:Tg p h)(u:Tt f h w){o:Ds}(sp:Nat)
 {r:Obj} (h1:w'.heap=w.heap.push r) (h2:Td (f.set h.next w.heap.size sp) h.next o r)
 (y:w'.tape=w.tape) (A:w'.os=w.os) (B:w'.output=w.output):Move p f h w (f.set h.next w.heap.size sp) (h.new o) w' where
 agree:=f.Ms _ _ d.fresh
 rep:=by
  refine⟨fun j q hj=>?_,fun j k q q' hj hk e=>?_⟩
  ·rw[Ab.Kz]at hj
   split at hj
   next e=>subst e;cases hj;exact⟨r,by rw[Loc.X2,h1];simp,h2⟩
   ·obtain⟨C,a,b⟩:=u.obj j q hj
    have E:=u.lt hj;obtain⟨D,hok⟩:=d.get j q hj;refine⟨C,?_,b.congr (f.Ms _ _ d.fresh) D hok⟩;rw[(f.Uh _ _ (d.nZ hj)).1,h1,Array.getElem?_push,aH a_];exact a
  ·rw[Ab.Kz]at hj hk
   split at hj
   next e1=>
    split at hk
    next e2=>omega
    ·subst e1
     rw[Loc.X2,(f.Uh _ _ (d.nZ hk)).1]at e;have:=u.lt hk;omega
   ·split at hk
    next e2=>
     subst e2;rw[Loc.X2,(f.Uh _ _ (d.nZ hj)).1]at e;have:=u.lt hj;omega
    ·rw[(f.Uh _ _ (d.nZ hj)).1,(f.Uh _ _ (d.nZ hk)).1]at e
     exact u.inj j k q q' hj hk e
 kept b hb _:=by rw[h1,Array.getElem?_push,aH a_]
 size:=by rw[h1];simp
 tape:=y
 os:=A
 output:=B
 own j q hj:=by
  rw[Ab.Kz]at hj;split at hj
  next e=>subst e;rw[Loc.X2];exact .inl (aD _)
  ·exact .inr ⟨j,q,hj,(f.Uh _ _ (d.nZ hj)).1⟩
theorem Tg.del(d:Tg p h)(i:Nat):Tg p (h.del i):=
 ⟨d.lt,fun j q hj=>by rw[Ab.kK]at hj;split at hj;cases hj;exact d.get j q hj⟩
theorem Wf.del(d:Tg p h)(i:Nat):Wf p h (h.del i) where
 next:=aD _
 mw:=by rw[Ab.qs];omega
 same j x _:=by rw[Ab.qs]at x;rw[Ab.kK,aH a_]
 live j q hj:=by
  rw[Ab.kK]at hj;split at hj
  ·cases hj
  ·exact .inl ⟨q,hj⟩
 hok:=by rw[J3 p h (h.del i) rfl];exact d.del i
theorem n_:∀j o,(h.del i).get j=some o->h.get j=some o:=by
 intro j o hj;rw[Ab.kK]at hj;split at hj
 ·cases hj
 ·exact hj
theorem Wf.oe(d:Tg p h)(i:Nat){o:Ds}(j:o.ok (grow p h (h.new o))):Wf p h ((h.del i).new o):=by
 have a:=Wf.del d i;have e:grow p h (h.del i)=p:=J3 p h (h.del i) rfl;have b:Wf (grow p h (h.del i)) (h.del i) ((h.del i).new o):=by
  rw[e];exact Wf.new (d.del i) j
 exact a.trans b
theorem Move.oe{w:World}(y:Tg p h)(d:Tt f h w){o:Ds}(hi:h.get i=some o)(sp:Nat)
 {r:Obj} (h1:w'.heap[f.b i]? = some r) (h2:Td (f.set h.next (f.b i) sp) h.next o' r) (A:∀b,b≠f.b i->w'.heap[b]? = w.heap[b]?) (h4:w'.heap.size=w.heap.size)
 (B:w'.tape=w.tape) (C:w'.os=w.os) (D:w'.output=w.output):Move p f h w (f.set h.next (f.b i) sp) ((h.del i).new o') w' where
 agree:=f.Ms _ _ y.fresh
 rep:=by
  have key:∀j q,((h.del i).new o').get j=some q->(j=h.next/\q=o')\/(j≠i/\j≠h.next/\h.get j=some q):=by
   intro j q hj;rw[Ab.Kz]at hj;split at hj
   next e=>cases hj;exact .inl ⟨e.symm,rfl⟩
   next e=>
    rw[Ab.kK]at hj;split at hj
    ·cases hj
    next e'=>exact .inr ⟨fun x=>e' x.symm,fun x=>e x.symm,hj⟩
  refine⟨fun j q hj=>?_,fun j k q q' hj hk e=>?_⟩
  ·rcases key j q hj with⟨rfl,rfl⟩|⟨c1,c2,c3⟩
   ·exact⟨r,by rw[Loc.X2];exact h1,h2⟩
   ·obtain⟨E,a,b⟩:=d.obj j q c3
    obtain⟨F,hok⟩:=y.get j q c3;refine⟨E,?_,b.congr (f.Ms _ _ y.fresh) F hok⟩;rw[(f.Uh _ _ c2).1,A _ (fun e=>c1 (d.inj j i q o c3 hi e))];exact a
  ·rcases key j q hj with⟨rfl,rfl⟩|⟨c1,c2,c3⟩
   ·rcases key k q' hk with⟨rfl,rfl⟩|⟨d1,d2,d3⟩
    ·rfl
    ·rw[Loc.X2,(f.Uh _ _ d2).1]at e
     exact absurd (d.inj i k o q' hi d3 e).symm d1
   ·rcases key k q' hk with⟨rfl,rfl⟩|⟨d1,d2,d3⟩
    ·rw[Loc.X2,(f.Uh _ _ c2).1]at e
     exact absurd (d.inj j i q o c3 hi e) c1
    ·rw[(f.Uh _ _ c2).1,(f.Uh _ _ d2).1]at e
     exact d.inj j k q q' c3 d3 e
 kept b _ G:=A b (fun e=>G i o hi e.symm)
 size:=a_
 tape:=B
 os:=C
 output:=D
 own j q hj:=by
  rw[Ab.Kz]at hj;split at hj
  next e=>rw[show j=h.next from e.symm,Loc.X2];exact .inr ⟨i,o,hi,rfl⟩
  ·have u:=n_ j q hj
   exact .inr ⟨j,q,u,(f.Uh _ _ (y.nZ u)).1⟩
theorem Move.Bpc{w:World}(d:Tg p h)(u:Tt f h w)(i:Nat){o:Ds}(sp:Nat)
 {r:Obj} (h1:w'.heap=w.heap.push r) (h2:Td (f.set h.next w.heap.size sp) h.next o r)
 (y:w'.tape=w.tape) (A:w'.os=w.os) (B:w'.output=w.output):Move p f h w (f.set h.next w.heap.size sp) ((h.del i).new o) w':=by
 have a:=Move.new (d.del i) (u.sub n_) (o:=o) sp h1 h2 y A B;exact⟨a.agree,a.rep,fun b hb C=>a.kept b hb (fun j q hj=>C j q (n_ j q hj)),a.size,a.tape,a.os,a.output,
  fun j q hj=>(a.own j q hj).imp id (fun⟨k,q',hk,e⟩=>⟨k,q',n_ k q' hk,e⟩)⟩
section
def ku(P:Program)(s:Sem Next)(p:Nat->Prop)(f:Loc)(h:Ab)(w:World)(v:EV)(h':Ab):Prop:=
 ∃f' w' N,s.run P w=.ok N w'/\(N=.value (Cm f' v)\/(N=.skip/\v=.tuple []))/\Move p f h w f' h' w'/\Wf p h h'/\v.ok (grow p h h')
theorem Ss{l:List EV}(d:EV.Tp p l):EV.Tp (grow p h h') l:=EV.Tp.mono (fun _ hi=>.inl hi) l d
theorem NB{l:List EV}(d:EV.Tp p l)(off n:Nat):EV.Tp p ((l.drop off).take n):=
 (H0 p _).2 fun v j=>(H0 p _).1 d v (aM (bI j))
theorem Zq{b:List EV}(d:EV.Tp p a)(hb:EV.Tp p b):EV.Tp p (a++b):=
 (H0 p _).2 fun v j=>(bH.1 j).elim ((H0 p _).1 d v) ((H0 p _).1 hb v)
theorem NC {l:List EV}(d:l.all EV.one=true)(off n:Nat):((l.drop off).take n).all EV.one=true:=by
 rw[dG]at d⊢;exact fun v j=>d v (aM (bI j))
theorem Ba1 {b:List EV}(d:a.all EV.one=true)(hb:b.all EV.one=true):(a++b).all EV.one=true:=by
 rw[List.all_append,d,hb];rfl
theorem ND{l x:List EV}(h:Fw l off vs=some x)(d:EV.Tp p l)(j:EV.Tp p vs):EV.Tp p x:=
 (H0 p _).2 fun v u=>(w_ h u).elim ((H0 p _).1 d v) ((H0 p _).1 j v)
theorem NF {l x:List EV}(h:Fw l off vs=some x)(d:l.all EV.one=true)(j:vs.all EV.one=true):x.all EV.one=true:=by
 rw[dG]at *;exact fun v u=>(w_ h u).elim (d v) (j v)
theorem setRow_other(w:World)(g:Nat)(cs:Array Value)(b:Nat)(hb:b≠g):(w.setRow g cs).heap[b]? = w.heap[b]?:=by
 simp only[World.setRow,Array.getElem?_modify];rw[aH (cX hb)]
theorem setRow_size(w:World)(g:Nat)(cs:Array Value):(w.setRow g cs).heap.size=w.heap.size:=by simp[World.setRow]
section
variable{w:World}
theorem A95{o:Nat}{l:List EV}(e:j5 ws off=some (o,l)):(o,l)∈ws/\o<=off:=by
 induction ws with
 | nil=>cases e
 | cons x r d=>
  obtain⟨o',l'⟩:=x;unfold j5 at e;cases h1:Nat.ble o' off with
  | false=>rw[h1]at e;exact⟨aP _ (d e).1,(d e).2⟩
  | true=>
   rw[h1,Aj]at e;cases h2:Nat.ble (Nat.succ (Nat.sub off o')) (len l')with
   | false=>rw[h2]at e;exact⟨aP _ (d e).1,(d e).2⟩
   | true=>rw[h2]at e;cases e;exact⟨aQ ..,bL h1⟩
theorem tW(C:Tg p h)(D:Tt f h w){l:List EV}(d:I6 h i off n=some l):
 (loadCells ⟨f.b i,off,none⟩ n).run P w=.ok (Bp f l).toArray w/\EV.Tp p l/\l.all EV.one=true/\l.length=n /\
  ∀j v,l[j]? = some v->w.cell? ⟨f.b i,off+j,none⟩=some (Cm f v):=by
 have key:∀(L:List EV) (arr:Array Value) (e:TypeId) (fr:Nat × Nat) (o:Nat),w.heap[f.b i]? = some (.cells arr e fr)->o<=off->(∀(j:Nat) v,L[j]? = some v->arr[o+j]? = some (Cm f v))->EV.Tp p L->L.all EV.one=true ->
  takeN (Zb L (off-o)) n=some l->(loadCells ⟨f.b i,off,none⟩ n).run P w=.ok (Bp f l).toArray w/\EV.Tp p l/\l.all EV.one=true/\l.length=n /\
  ∀j v,l[j]? = some v->w.cell? ⟨f.b i,off+j,none⟩=some (Cm f v):=by
  intro L arr e fr o h1 K h2 A h4 E;obtain⟨F,B⟩:=qS E;rw[Sy]at F B;have hlen:l.length=n:=by rw[B,bK];omega
  have H:∀j v,l[j]? = some v->w.cell? ⟨f.b i,off+j,none⟩=some (Cm f v):=by
   intro j v hj;rw[B,dX]at hj;split at hj
   ·rw[cW]at hj
    simp only[World.cell?,h1];have:=h2 _ _ hj;rw[show o+(off-o+j)=off+j from a_]at this;simpa using this
   ·cases hj
  refine⟨?_,B▸NB A (off-o) n,B▸NC h4 (off-o) n,hlen,H⟩;have J:(Bp f l).length=n:=by rw[Cv,hlen]
  rw[<-J];apply run_loadCells_list;intro j v hj;rw[nY]at hj;cases G:l[j]? with
  | none=>rw[G]at hj;cases hj
  | some u=>
   rw[G]at hj;cases hj;rw[Uu];exact H j u G
 unfold I6 at d;split at d
 next L e y=>
  obtain⟨r,h1,h2⟩:=D.obj i _ y;obtain⟨_,A,h4⟩:=C.get i _ y;simp only[Td]at h2;subst h2;exact key L _ e (0,0) 0 h1 (cF _) (fun j v hj=>by simp[nY,hj]) A h4 d
 next L e s y=>
  obtain⟨r,h1,more,h2,_⟩:=D.obj i _ y;obtain⟨_,A,h4⟩:=C.get i _ y;subst h2;refine key L _ e (0,0) 0 h1 (cF _) (fun j v hj=>?_) A h4 d;rw[bJ];have:j<(Bp f L).length:=by rw[Cv];exact(aZ.1 hj).1
  simp only[bV];rw[bW this,nY,hj];rfl
 next ws r0 y=>
  split at d
  next o L hw=>
   obtain⟨hm,E⟩:=A95 hw;obtain⟨r,h1,_,arr,e,fr,h2,F⟩:=D.obj i _ y;obtain⟨_,hk⟩:=C.get i _ y;obtain⟨A,h4⟩:=hk _ hm;subst h2;exact key L _ e fr o h1 E (F _ hm) A h4 d
  ·cases d
 ·cases d
theorem NG(B:Tg p h)(C:Tt f h w)(j:L9 h i off vs=some h')(F:EV.Tp p vs)(h1:vs.all EV.one=true):
 ∃w',(storeCells ⟨f.b i,off,none⟩ (Bp f vs)).run P w=.ok () w'/\Move p f h w f h' w'/\Wf p h h':=by
 have y:∀v∈Bp f vs,v.oneCell'=true:=Xv f vs (by simpa using h1);unfold L9 at j;split at j
 next L e u=>
  obtain⟨r,A,D⟩:=C.obj i _ u;obtain⟨_,a3,a4⟩:=B.get i _ u;simp only[Td]at D;subst D;split at j
  next E hs=>
   cases j;obtain⟨b1,b2⟩:=Xd hs;have d:=run_storeCells_at (P:=P) (f.b i) off e (Bp f vs) 0 (Bp f L).toArray w A (by simp only[Cv,cU];omega) y;refine⟨_,d,?_,Wf.put B u ⟨ND hs a3 F,NF hs a4 h1⟩⟩;refine Move.put C u (r:=.cells (Bp f E).toArray e (0,0)) ?_ rfl (fun b hb=>setRow_other _ _ _ _ hb) (setRow_size _ _ _) rfl rfl rfl;rw[setRow_heap w (f.b i) _ _ e (0,0) A,b2,xc];simp
  ·cases j
 next L e s u=>
  obtain⟨r,A,more,D,G⟩:=C.obj i _ u;obtain⟨_,a3,a4⟩:=B.get i _ u;subst D;split at j
  next E hs=>
   cases j;obtain⟨b1,b2⟩:=Xd hs;have d:=run_storeCells_at (P:=P) (f.b i) off e (Bp f vs) 0 (Bp f L++more).toArray w A (by simp only[Cv,cU,aF];omega) y;refine⟨_,d,?_,Wf.put B u ⟨ND hs a3 F,NF hs a4 h1⟩⟩;refine Move.put C u (r:=.cells (Bp f E++more).toArray e (0,0)) ?_ ⟨more,rfl,G⟩ (fun b hb=>setRow_other _ _ _ _ hb) (setRow_size _ _ _) rfl rfl rfl;rw[setRow_heap w (f.b i) _ _ e (0,0) A,b2,xc];simp only[dR,dA];rw[dL (by rw[Cv];omega),eV (by simp only[Cv];omega)];simp
  ·cases j
 ·cases j
variable (hT:Qc P T)
include hT
theorem Bi8(A:Reads f tm ρ)(B:Tg p h)(C:Tt f h w)
 {a:Operand} (D:o.op=.load t a) (d:Dr T tm (.load t a) h=some (v,h')) :
 h'=h/\v.ok p/\(execOp ρ o).run P w=.ok (.value (Cm f v)) w:=by
 simp only[Dr]at d;split at d
 next i off E=>
  split at d
  next j=>
   split at d
   next n J=>
    split at d
    next l y=>
     cases d;obtain⟨h1,h2,F,h4,G⟩:=tW (P:=P) B C y;refine⟨rfl,⟨h2,F⟩,?_⟩;simp only[execOp,D,Instr.loadAt,Bl A E,Cm,Instr.sureAddr,loadVar,Sem.run_bind,aS,aI,py hT w j,Gt hT w J,h1,bN]
    ·cases d
   ·cases d
  next j=>
   split at d
   next u y=>
    cases d;obtain⟨h1,h2,F,h4,G⟩:=tW (P:=P) B C y;refine⟨rfl,h2.1,?_⟩;have H:=G 0 v rfl;simp only[execOp,D,Instr.loadAt,Bl A E,Cm,Instr.sureAddr,loadVar,Sem.run_bind,aS,aI,py hT w j,run_load,aV,ak];simp only[dA]at H;rw[H];rfl
   ·cases d
  ·cases d
 ·cases d
theorem Bfn(y:Reads f tm ρ)(D:Ld p n tm)(E:Tg p h)(F:Tt f h w)
 {a:Operand} (G:o.op=.store t a x) (d:Dr T tm (.store t a x) h=some (v,h')) :
 ku P (execOp ρ o) p f h w v h':=by
 simp only[Dr]at d;split at d
 next i off u m H A B=>
  obtain⟨h1,h2⟩:=An d;obtain⟨C,h4⟩:=An h2;split at h4
  next J hw=>
   cases h4;rw[Ue]at C;have j:=aJ C;obtain⟨c1,c2⟩:=Uo (Ey D A) h1;obtain⟨w',K,L,M⟩:=NG (P:=P) E F hw c1 (by simpa using c2);refine⟨f,w',.skip,?_,.inr ⟨rfl,rfl⟩,L,M,trivial⟩;simp only[execOp,G,Instr.storeAt,Bl y H,Bl y A,Instr.sureAddr,storeVar,Sem.run_bind,aS,aI,Gt hT w B];simp only[Cm,aS,aI,Ti,Sem.run_bind,Gt hT w B];simp[j,K,Cv]
  ·cases h4
 ·cases d
omit hT in
theorem tX(d:Tg p h)(u:Tt f h w)(e:TypeId){l:List EV}(j:EV.Tp p l)(h1:l.all EV.one=true):
 ∃f' w',(newRow e (Bp f l).toArray).run P w=.ok ⟨f'.b h.next,0,none⟩ w'/\Move p f h w f' (h.new (.cells l e)) w'/\Wf p h (h.new (.cells l e))/\grow p h (h.new (.cells l e)) h.next:=by
 refine⟨f.set h.next w.heap.size 0,{ w with heap:=w.heap.push (.cells (Bp f l).toArray e) },?_,?_,Wf.new d ⟨Ss j,h1⟩,.inr ⟨aD _,by rw[Ab.Dd];omega⟩⟩
 ·rw[Loc.X2];rfl
 ·refine Move.new d u 0 rfl ?_ rfl rfl rfl
  simp only[Td];rw[Fy (f.Ms _ _ d.fresh) l j]
theorem Bfb(u:Tg p h)(y:Tt f h w)
 (A:o.op=.alloc t) (d:Dr T tm (.alloc t) h=some (v,h')) :
 ku P (execOp ρ o) p f h w v h':=by
 simp only[Dr]at d;split at d
 next z B=>
  cases d;obtain⟨x,C,j,D,_,_,E,_⟩:=mX hT f w B;obtain⟨c1,c2⟩:=Uo (E p) C;rw[<-j]at c1 c2;obtain⟨f',w',F,G,H,J⟩:=tX (P:=P) u y t c1 (by simpa using c2);refine⟨f',w',_,?_,.inl rfl,G,H,J⟩;simp only[execOp,A,Instr.alloc,Sem.run_bind,D,aI,newVar,Ti,<-j,F,aS,Cm]
 ·cases d
omit hT in
theorem Bmw(j:Reads f tm ρ)(y:Ld p n tm)(A:Tg p h)(B:Tt f h w)
 (C:o.op=.box t x) (d:Dr T tm (.box t x) h=some (v,h')) :
 ku P (execOp ρ o) p f h w v h':=by
 simp only[Dr]at d;split at d
 next u hu=>
  obtain⟨h1,h2⟩:=An d;cases h2;obtain⟨c1,c2⟩:=Uo (Ey y hu) h1;obtain⟨f',w',D,E,F,G⟩:=tX (P:=P) A B t c1 (by simpa using c2);refine⟨f',w',_,?_,.inl rfl,E,F,G⟩;simp only[execOp,C,Instr.box,Bl j hu,Sem.run_bind,aI,newVar,Ti,D,aS,Cm]
 ·cases d
omit hT in
theorem NH(f:Loc)(z:List EV)(m:Nat)(j:m*z.length≠0):
 (Array.range (m*z.length)).map (fun i=>(Bp f z).toArray[i%(Bp f z).toArray.size]!)=(Bp f (rep z m)).toArray:=by
 apply fC;intro i;simp only[Array.getElem?_map,bV,nY,cU,Cv];by_cases hi:i<m*z.length
 ·rw[MQ z m i hi]
  have d:i%z.length<z.length:=fU _ (by rcases dW z.length with e|e;(simp[e]at j);exact e);simp[hi,nY,d,aE d]
 ·have:(rep z m)[i]? = none:=cD (by rw[tP];omega)
  simp[this];omega
theorem A1a {n:Nat}(F:Reads f tm ρ)(H:Tg p h)(J:Tt f h w)
 {y:Operand} (K:o.op=.makeSlice t x y) (d:Dr T tm (.makeSlice t x y) h=some (v,h')) :
 ku P (execOp ρ o) p f h w v h':=by
 simp only[Dr]at d;split at d
 next e k a k' b hu L M=>
  split at d
  next z O=>
   obtain⟨h1,h2⟩:=An d;obtain⟨C,h4⟩:=An h2;cases h4;simp only[cv]at h1 C;obtain⟨u,Q,G,S,_,_,U,i,i1,i2,i3⟩:=mX hT f w O;obtain⟨c1,c2⟩:=Uo (U p) Q;rw[<-G]at c1 c2;have d1:EV.Tp p (rep z b):=(H0 p _).2 fun v D=>(H0 p _).1 c1 v (qT D)
   have d2:(rep z b).all EV.one=true:=by rw[dG];exact fun v D=>c2 v (qT D)
   obtain⟨f',w',E,V,W,X⟩:=tX (P:=P) H J e d1 d2;refine⟨f',w',_,?_,.inl rfl,V,W,X⟩;have Y:IntKind.i64.wrap (Int.ofNat a)=a:=kW .i64 rfl _ 9223372036854775808 rfl rfl (by simp only[aY];omega) (by simp only[aY];omega);have wb:IntKind.i64.wrap (Int.ofNat b)=b:=kW .i64 rfl _ 9223372036854775808 rfl rfl (by simp only[aY];omega) (by simp only[aY];omega);have B:¬((2:Int)^48<(i.bytes:Int)*b):=by
    have:i.bytes*b<=1048576*65536:=gG i3 C;have e:((i.bytes*b:Nat):Int)=(i.bytes:Int)*b:=by simp
    omega
   have A:¬(roomBytes<b*i.bytes):=by
    have:b*i.bytes<=65536*1048576:=gG C i3;unfold roomBytes;omega
   simp only[execOp,K,Instr.makeSlice,Bl F L,Bl F M,Cm,Sem.run_bind,Dt hT w hu,aI,asInt,aS];have Z:(decide ((b:Int)<0)||decide ((i.bytes:Int)*b>2^48)||decide ((a:Int)<0)||decide ((a:Int)>b))=false:=by
    simp only[Bool.or_eq_false_iff,dI];exact⟨⟨⟨a_,B⟩,a_⟩,a_⟩
   simp only[typeInfo,asIntOf,Sem.run_bind,fR,i1,aI,aS,Y,wb];rw[Z];simp only[aV,ak,askRoom,bF,Sem.run_bind,gt_iff_lt,A,aS,aI,sizeOf,typeInfo,fR,i1,i2];by_cases j:b*z.length=0
   ·have er:rep z b = []:=bc.1 (by rw[tP];exact j)
    rw[er]at E;have e0:∀g:Nat->Value,Array.map g (Array.range 0)=(Bp f []).toArray:=fun g=>by simp[Bp]
    simp only[j,bN,Sem.run_bind,aS,aI];rw[e0,E];simp
   ·rw[aH j]
    simp only[Sem.run_bind,S,aS,aI,Ti,<-G];rw[NH f z b j,E];simp
  ·cases d
 ·cases d
end
end
section
section
variable{w:World}(hT:Qc P T)
include hT
theorem Ayq(M:Reads f tm ρ)(H:Ld p n tm)(O:Tg p h)(Q:Tt f h w)
 (S:o.op=.buildSlice t m ps) (d:Dr T tm (.buildSlice t m ps) h=some (v,h')) :
 ku P (execOp ρ o) p f h w v h':=by
 simp only[Dr]at d;split at d
 next e l hu F=>
  split at d
  next s z hs U=>
   obtain⟨h1,h2⟩:=An d;split at h2
   next c D=>
    cases h2;simp only[cv,Nat.mul_eq]at h1;obtain⟨u,V,J,W,_,_,X,i,i1,i2,i3⟩:=mX hT f w U;obtain⟨i',K,j2,j3⟩:=hT.size e s hs;have G:s=z.length:=by rw[i1]at K;cases K;omega
    subst G;obtain⟨c1,c2⟩:=Uo (X p) V;rw[<-J]at c1 c2;have d1:∀v∈c,v.ok p:=qV (fun i=>some (Nat.mul i z.length,z.length)) D (fun v y=>(H0 p _).1 c1 v (qT y))
     (fun q A v y=>(H0 p _).1 (Uo (tN H F q A) (tS _ D q A)).1 v y)
    have d2:∀v∈c,v.one=true:=qV (fun i=>some (Nat.mul i z.length,z.length)) D (fun v y=>c2 v (qT y))
     (fun q A v y=>(Uo (tN H F q A) (tS _ D q A)).2 v y)
    obtain⟨f',w',L,Y,Z,r4⟩:=tX (P:=P) O Q e ((H0 p _).2 d1) (by simpa using d2);refine⟨f',w',_,?_,.inl rfl,Y,Z,r4⟩;have B:=tR f (fun i=>some (Nat.mul i z.length,z.length)) (fun i=>some (i*z.length,z.length)) (fun i q A=>A) D;have E:(ps.map fun(i,x)=>(i,ρ x)).toList=l.map fun(i,v)=>(i,Cm f v):=by
     rw[Array.toList_map,tM M F]
    have C:¬(2^24<m*z.length):=a_
    simp only[execOp,S,Instr.buildSlice,Sem.run_bind,Dt hT w hu,aI,Gt hT w hs,gt_iff_lt,C,ak,aS];by_cases j:m*z.length=0
    ·have er:rep z m = []:=bc.1 (by rw[tP];exact j)
     have e0:∀g:Nat->Value,Array.map g (Array.range 0)=(Bp f []).toArray:=fun g=>by simp[Bp]
     rw[er]at B;simp only[j,bN,Sem.run_bind,aS,aI];rw[e0,E,B];simp only[Sem.run_bind,L,aI,aS];simp[Cm]
    ·rw[aH j]
     simp only[Sem.run_bind,W,aS,aI,Ti,<-J];rw[NH f z m j,E,B];simp only[Sem.run_bind,L,aI,aS];simp[Cm]
   ·cases h2
  ·cases d
 ·cases d
omit hT in
theorem A8k(j:Tg p h)(u:Tt f h w)
 {r:Option Operand} (y:o.op=.makeMap t r) (d:Dr T tm (.makeMap t r) h=some (v,h')) :
 ku P (execOp ρ o) p f h w v h':=by
 cases r with
 | some x=>simp[Dr]at d
 | none=>
  simp only[Dr]at d;cases d;refine⟨f.set h.next w.heap.size 0,{ w with heap:=w.heap.push (.map #[] 0) },_,?_,.inl rfl,Move.new j u 0 rfl ⟨#[],0,rfl,rfl⟩ rfl rfl rfl,Wf.new j (by simp[Ds.ok]),.inr ⟨aD _,by rw[Ab.Dd];omega⟩⟩;simp only[execOp,y,Instr.makeMap,Cm,Loc.X2];simp
theorem A4b(A:Reads f tm ρ)(y:Tg p h)(B:Tt f h w)
 (C:o.op=.makeChan t x) (j:Dr T tm (.makeChan t x) h=some (v,h')) :
 ku P (execOp ρ o) p f h w v h':=by
 simp only[Dr]at j;split at j
 next d e k n hu D=>
  split at j
  next s hs=>
   obtain⟨h1,h2⟩:=An j;cases h2;simp only[cv]at h1;obtain⟨i,i1,i2,i3⟩:=hT.size e s hs;have u:¬(((n:Int)<0)\/((n:Int)>IntKind.i64.max)\/((i.bytes:Int)*n>2^48-112)):=by
    have:i.bytes*n<=1048576*65536:=gG i3 h1;have e:((i.bytes*n:Nat):Int)=(i.bytes:Int)*n:=by simp
    have e2:IntKind.i64.max=9223372036854775807:=rfl;omega
   refine⟨f.set h.next w.heap.size 0,{ w with heap:=w.heap.push (.chan n #[] false 0 0 false) },_,?_,.inl rfl,Move.new y B 0 rfl ⟨0,0,rfl⟩ rfl rfl rfl,Wf.new y trivial,.inr ⟨aD _,by rw[Ab.Dd];omega⟩⟩;simp only[execOp,C,Instr.makeChan,Bl A D,Cm,asInt,asIntOf,Sem.run_bind,aS,aI,Dt hT w hu,typeInfo,fR,i1,aY];rw[aH u];simp[Loc.X2]
  ·cases j
 ·cases j
omit hT in
theorem NI:∀{a b:List EV},Fk a b=some true->a=b
 | [],[],_=>rfl
 | x::r,y::s,h=>by
  unfold Fk at h;split at h
  next j=>
   have A:=NI h;have:x=y:=by
    unfold jL at j;split at j
    ·obtain⟨h1,h2⟩:=An j
     obtain rfl:=qU h1;cases d:iN _ _ with
     | false=>rw[d]at h2;cases h2
     | true=>rw[kX]at d;rw[cS d]
    next p q=>
     have u:=fZ j;rw[tV]at u;rw[Bf3 u]
    next p q=>
     cases p<;>cases q<;>first|rfl|(cases j)
    ·cases j
   rw[this,A]
  ·split at h<;>cases h
  ·cases h
 | [],_::_,h=>by cases h
 | _::_,[],h=>by cases h
omit hT in
theorem Bg8 {a b:EV}{r:Bool}(h:jL a b=some r):(∃k n,a=.int k n)\/(∃c,a=.bool c)\/(∃s,a=.str s):=by
 unfold jL at h;split at h
 ·exact .inl ⟨_,_,rfl⟩
 ·exact .inr (.inr ⟨_,rfl⟩)
 ·exact .inr (.inl ⟨_,rfl⟩)
 ·cases h
theorem Qn{k:EV}(hk:Oe T t k=true)(e:Bool):(Instr.checkKey e 10000 t (Cm f k)).run P w=.ok () w:=by
 unfold Oe at hk;split at hk
 next a=>
  rw[Bq]at hk;split at hk
  next d=>
   split at hk
   next sh j=>
    rw[Bq]at hk;split at hk
    next hs=>
     split at hk
     ·exact(hT.key t d).2 f w e a sh j hs
     ·cases hk
    ·cases hk
   ·cases hk
  ·cases hk
 next kk n=>
  split at hk
  next k' hu=>
   rw[Instr.checkKey.eq_def];simp[Dt hT w hu,Cm]
  ·cases hk
 ·cases hk
omit hT in
def kY(f:Loc)(d_:List MapEntry)(es:List (EV × EV)):Prop:=d_.map (fun e=>(e.key,e.val))=es.map (fun e=>(Cm f e.1,Cm f e.2))
theorem NJ{kk:IntKind}{n:Int}(j:Nat.beq (Ql kk) (Ql k')=true):∀{d_:List MapEntry} {es:List (EV × EV)} {i:Nat} {r:Option (Nat × EV)},kY f d_ es->Hy (.int kk n) es i=some r ->
 Instr.findNow (.int k') (.int kk n) d_ i=some (r.map fun x=>(x.1,Cm f x.2))
 | [],[],i,r,_,h=>by simp only[Hy]at h;cases h;rfl
 | en::d_,(a,b)::es,i,r,he,h=>by
  simp only[kY,dH,List.cons.injEq,eS]at he;obtain⟨⟨e1,e2⟩,e3⟩:=he;unfold Hy at h;unfold Instr.findNow;have hk:∀c,l_ (.int kk n) a=some c->Instr.sameNow (.int k') (.int kk n) en.key=some c:=by
   intro c d;unfold l_ at d;split at d
   next u=>cases u
   next y A B b1 u=>
    cases u;obtain⟨h1,h2⟩:=An d;obtain rfl:=qU h1;cases h2;rw[e1];simp[Cm,Instr.sameNow,kX];rfl
   ·cases d
  split at h
  next d=>
   cases h;rw[hk _ d,e2];rfl
  next d=>
   rw[hk _ d];exact NJ j e3 h
  ·cases h
 | [],_::_,_,_,he,_=>by simp[kY]at he
 | _::_,[],_,_,he,_=>by simp[kY]at he
theorem NK{sh:List Nat}(j:T.eqs t=some sh)(A:shaped sh a=true):∀{d_:List MapEntry} {es:List (EV × EV)} {i:Nat} {r:Option (Nat × EV)},kY f d_ es->Hy (.agg a) es i=some r ->
 (Instr.findAsking t (Cm f (.agg a)) d_ i).run P w=.ok (r.map fun x=>(x.1,Cm f x.2)) w
 | [],[],i,r,_,h=>by simp only[Hy]at h;cases h;rfl
 | en::d_,(b,c)::es,i,r,he,h=>by
  simp only[kY,dH,List.cons.injEq,eS]at he;obtain⟨⟨e1,e2⟩,e3⟩:=he;unfold Hy at h;unfold Instr.findAsking;have hk:∀d,l_ (.agg a) b=some d->(Op.equal t (Cm f (.agg a)) en.key).run P w=.ok d w:=by
   intro d hd;unfold l_ at hd;split at hd
   next u=>
    cases u;rw[e1];exact(hT.eqs t sh j).2 f w _ _ d hd A
   next u=>cases u
   ·cases hd
  split at h
  next y=>
   cases h;simp only[Sem.run_bind,hk _ y,aI,bN,aS,e2];rfl
  next y=>
   simp only[Sem.run_bind,hk _ y,aI,aV,ak];exact NK j A e3 h
  ·cases h
 | [],_::_,_,_,he,_=>by simp[kY]at he
 | _::_,[],_,_,he,_=>by simp[kY]at he
theorem Wc{k:EV}(hk:Oe T t k=true){r:Option (Nat × EV)}(he:kY f d_ es)(hm:Hy k es 0=some r):
 (Instr.findKey t (Cm f k) d_).run P w=.ok (r.map fun x=>(x.1,Cm f x.2)) w:=by
 unfold Oe at hk;split at hk
 next a=>
  rw[Bq]at hk;split at hk
  next d=>
   split at hk
   next sh y=>
    rw[Bq]at hk;split at hk
    next B=>
     obtain⟨j,A,u⟩:=(hT.key t d).1;simp only[Instr.findKey,underlying,Sem.run_bind,fR,A,aI,aS];cases d_ with
     | nil=>
      cases es with
      | nil=>simp only[Hy]at hm;cases hm;rfl
      | cons x r=>simp[kY]at he
     | cons en d_=>
      have:Instr.findNow j (Cm f (.agg a)) (en::d_) 0=none:=by
       cases j<;>first|(simp[Awd]at u;done)|simp[Instr.findNow,Instr.sameNow,Cm]
      rw[this];exact NK hT y B he hm
    ·cases hk
   ·cases hk
  ·cases hk
 next kk n=>
  split at hk
  next k' hu=>
   have:=NJ (f:=f) hT hk he hm;simp only[Instr.findKey,Sem.run_bind,Dt hT w hu,aI,Cm,this,aS]
  ·cases hk
 ·cases hk
omit hT in
theorem xf {k:EV}:∀{es:List (EV × EV)} {i j:Nat} {v:EV},Hy k es i=some (some (j,v))->∃a,i<=j/\es[j-i]? = some (a,v)/\l_ k a=some true
 | [],i,j,v,h=>by simp[Hy]at h
 | (a,b)::es,i,j,v,h=>by
  unfold Hy at h;split at h
  next d=>
   cases h;exact⟨a,aD _,by simp,d⟩
  ·obtain⟨u,h1,h2,y⟩:=xf h
   refine⟨u,a_,?_,y⟩;have:j-i=(j-Nat.succ i)+1:=a_
   rw[this];simpa using h2
  ·cases h
omit hT in
theorem A9v {k a:EV}(h:l_ k a=some true):k=a:=by
 unfold l_ at h;split at h
 ·rw[NI h]
 ·obtain⟨h1,h2⟩:=An h
  obtain rfl:=qU h1;cases d:iN _ _ with
  | false=>rw[d]at h2;cases h2
  | true=>rw[kX]at d;rw[cS d]
 ·cases h
end
end
section
theorem N4{w:World}{r:Nat}{o:Obj}(h:w.heap[r]? = some o)(d:∀c e z,o≠.cells c e z):(getObj r).run P w=.ok o w:=by
 unfold getObj;simp only[Sem.run,h]
theorem Qo{w:World}{r:Nat}{o o':Obj}(h:w.heap[r]? = some o)(d:∀c e z,o≠.cells c e z):(setObj r o').run P w=.ok () { w with heap:=w.heap.setIfInBounds r o' }:=by
 unfold setObj;simp only[Sem.run,h]
section
variable{w:World}
theorem Move.setObj(d:Tt f h w){o:Ds}(hi:h.get i=some o){r:Obj}(h2:Td f i o' r):
 Move p f h w f (h.put i o') { w with heap:=w.heap.setIfInBounds (f.b i) r }:=by
 have j:=d.lt hi;refine Move.put d hi (r:=r) ?_ h2 (fun b hb=>?_) ?_ rfl rfl rfl
 ·simp[j]
 ·simp[Array.getElem?_setIfInBounds,cX hb]
 ·simp
variable (hT:Qc P T)
include hT
theorem xg(d:zeroOf T t=some v):(zeroValue t).run P w=.ok (Cm f v) w/\∀q,v.ok q:=by
 unfold zeroOf at d;split at d
 next z j=>
  obtain⟨u,E,F,A,C,D,B,_⟩:=mX hT f w j;split at d
  next y=>
   cases d;rw[<-C y];exact⟨A,B⟩
  next y=>
   have e:=D y;split at d
   next G=>
    cases d;cases e;exact⟨A,B⟩
   ·cases d
  ·cases d
 ·cases d
theorem A98 {n:Nat}(B:Reads f tm ρ)(D:Tg p h)(E:Tt f h w)
 {k:Operand} {ok:Bool} (G:o.op=.lookup t x k ok) (d:Dr T tm (.lookup t x k ok) h=some (v,h')) :
 ku P (execOp ρ o) p f h w v h':=by
 simp only[Dr]at d;split at d
 next O e i Q hu C hk=>
  obtain⟨h1,h2⟩:=An d;split at h2
  next es H=>
   obtain⟨r,K,d_,clock,L,a3⟩:=E.obj i _ H;obtain⟨_,a4⟩:=D.get i _ H;subst L;have y:=N4 (P:=P) K (by intro c e z C;cases C);split at h2
   next j u hm=>
    cases h2;have F:=Wc (w:=w) (f:=f) hT h1 a3 hm;obtain⟨a,_,b2,_⟩:=xf hm;have A:u.ok p:=(a4 _ (dJ b2)).2;refine⟨f,w,_,?_,.inl rfl,Move.refl E,Wf.refl D,?_⟩
    ·simp only[execOp,G,Instr.lookup,Bl B C,Bl B hk,Cm,Sem.run_bind,Dt hT w hu,aI,y,aS,Qn hT h1,F,dU]
     cases ok<;>rfl
    ·rw[J3 p h h rfl]
     cases ok
     ·exact A
     ·exact⟨A,trivial,trivial⟩
   next hm=>
    split at h2
    next zv M=>
     cases h2;obtain⟨z1,J⟩:=xg (w:=w) (f:=f) hT M;have F:=Wc (w:=w) (f:=f) hT h1 a3 hm;refine⟨f,w,_,?_,.inl rfl,Move.refl E,Wf.refl D,?_⟩
     ·simp only[execOp,G,Instr.lookup,Bl B C,Bl B hk,Cm,Sem.run_bind,Dt hT w hu,aI,y,aS,Qn hT h1,F,Option.map_none,z1]
      cases ok<;>rfl
     ·rw[J3 p h h rfl]
      cases ok
      ·exact J p
      ·exact⟨J p,trivial,trivial⟩
    ·cases h2
   ·cases h2
  ·cases h2
 ·cases d
omit hT in
theorem NL(n:Nat)(k:IntKind)(a:Int):Instr.sameBits n (.int k a) (.int k a)=true:=by
 unfold Instr.sameBits;simp
omit hT in
theorem NN(n:Nat)(f:Loc):∀{a:List EV} {r:Bool},Fk a a=some r->((Bp f a).zip (Bp f a)).all (fun(x,y)=>Instr.sameBits n x y)=true
 | [],_,_=>rfl
 | x::r,s,h=>by
  unfold Fk at h;have B:∃c,jL x x=some c/\∃A,Fk r r=some A:=by
   split at h
   next u=>exact⟨_,u,_,h⟩
   next u=>
    split at h
    next A j=>exact⟨_,u,_,j⟩
    ·cases h
   ·cases h
  obtain⟨c,u,A,j⟩:=B;simp only[Bp,List.zip_cons_cons,List.all_cons,NN n f j,Bool.and_true];rcases Bg8 u with⟨k,m,rfl⟩|⟨d,rfl⟩|⟨d,rfl⟩
  ·exact NL n k m
  ·simp only[Cm];unfold Instr.sameBits;simp
  ·simp only[Cm];unfold Instr.sameBits;rw[<-tV,tT];simp
omit hT in
theorem A4k{k:EV}(hk:Oe T t k=true):Instr.sameBits 10000 (Cm f k) (Cm f k)=true:=by
 unfold Oe at hk;split at hk
 next a=>
  rw[Bq]at hk;split at hk
  ·split at hk
   ·rw[Bq]at hk
    split at hk
    ·split at hk
     next r d=>
      have:=NN 9999 f d;simp only[Cm];unfold Instr.sameBits;simpa using this
     ·cases hk
    ·cases hk
   ·cases hk
  ·cases hk
 ·exact NL _ _ _
 ·cases hk
theorem A0t(F:Reads f tm ρ)(K:Ld p n tm)(L:Tg p h)(M:Tt f h w)
 {m k:Operand} (Q:o.op=.mapUpdate t m k x) (A:Dr T tm (.mapUpdate t m k x) h=some (v,h')) :
 ku P (execOp ρ o) p f h w v h':=by
 simp only[Dr]at A;split at A
 next X e i H u hu hm hk C=>
  obtain⟨h1,h2⟩:=An A;split at h2
  next es G=>
   obtain⟨r,S,d_,clock,V,a3⟩:=M.obj i _ G;obtain⟨_,a4⟩:=L.get i _ G;subst V;have D:=N4 (P:=P) S (by intro c e z C;cases C);have E:=fun o'=>Qo (P:=P) (o':=o') S (by intro c e z C;cases C)
   split at h2
   next j W y=>
    cases h2;have O:=Wc (w:=w) (f:=f) hT h1 a3 y;obtain⟨a,_,b2,b3⟩:=xf y;obtain rfl:=A9v b3;simp only[Nat.sub_zero]at b2;have J:((d_[j]?).map (·.key)).getD (Cm f H)=Cm f H:=by
     have B:(d_.toList.map (fun e=>(e.key,e.val)))[j]? = some (Cm f H,Cm f W):=by
      rw[a3,bB,b2];rfl
     rw[bB,cK]at B;cases he:d_[j]? with
     | none=>rw[he]at B;cases B
     | some en=>rw[he]at B;simp only[dU,cQ,eS]at B;simp[B.1]
    refine⟨f,_,.skip,?_,.inr ⟨rfl,rfl⟩,Move.setObj M G (r:=.map (d_.modify j fun en=>{ en with key:=Cm f H,val:=Cm f u }) clock) ⟨_,_,rfl,?_⟩,Wf.put L G ?_,trivial⟩
    ·simp only[execOp,Q,Instr.mapUpdate,Bl F hm,Bl F hk,Bl F C]
     simp only[Cm,Sem.run_bind,Dt hT w hu,aI,D,Qn hT h1,O,dU,J,Instr.keyThatStays,A4k h1,bN,aS,E]
    ·rw[List.map_set,<-a3]
     apply dP;intro q;simp only[Array.toList_modify,bB,List.getElem?_modify,cR,bT];by_cases U:j=q
     ·subst U
      have B:j<d_.toList.length:=by
       have:=(aZ.1 b2).1;have e:=congrArg List.length a3;simp only[bT]at e;omega
      simp at B;simp[B]
     ·simp[U]
    ·intro e' d
     rcases cj d with d|rfl
     ·exact a4 e' d
     ·exact⟨Ey K hk,Ey K C⟩
   next y=>
    cases h2;have O:=Wc (w:=w) (f:=f) hT h1 a3 y;refine⟨f,_,.skip,?_,.inr ⟨rfl,rfl⟩,Move.setObj M G (r:=.map (d_.push { key:=Cm f H,val:=Cm f u,born:=clock }) (clock+1)) ⟨_,_,rfl,?_⟩,Wf.put L G ?_,trivial⟩
    ·simp only[execOp,Q,Instr.mapUpdate,Bl F hm,Bl F hk,Bl F C]
     simp only[Cm,Sem.run_bind,Dt hT w hu,aI,D,Qn hT h1,O,Option.map_none,aS,E]
    ·simp[a3]
    ·intro e' d
     rcases bH.1 d with d|d
     ·exact a4 e' d
     ·simp only[aN]at d;subst d;exact⟨Ey K hk,Ey K C⟩
   ·cases h2
  ·cases h2
 ·cases A
end
end
section
section
variable{w:World}
theorem Tt.world(d:Tt f h w)(e:w'.heap=w.heap):Tt f h w':=⟨fun i o j=>by rw[e];exact d.obj i o j,d.inj⟩
theorem xh(mx:Bool)(k:IntKind):∀{l:List EV} {a:Int} {v:EV},hQ mx k a l=some v->(∃b,v=.int k b) /\
 (l.map (Cm f)).foldlM (m:=Sem) (if mx=true then Builtin.max2 else Builtin.min2) (.int k a)=(pure (Cm f v):Sem Value)
 | [],a,v,h=>by simp only[hQ]at h;cases h;exact⟨⟨a,rfl⟩,rfl⟩
 | .int k' b::r,a,v,h=>by
  simp only[hQ]at h;obtain⟨h1,h2⟩:=xh mx k h;refine⟨h1,?_⟩;rw[dH,List.foldlM_cons,<-h2];cases mx
  ·simp only[aV,ak,Cm,Builtin.min2,Bq,px,aW]
   rfl
  ·simp only[bN,Cm,Builtin.max2,Bq,px,aW,gt_iff_lt]
   rfl
 | .bool _::_,_,_,h=>by simp[hQ]at h
 | .str _::_,_,_,h=>by simp[hQ]at h
 | .ptr _ _::_,_,_,h=>by simp[hQ]at h
 | .F7::_,_,_,h=>by simp[hQ]at h
 | .slice _ _ _ _ _::_,_,_,h=>by simp[hQ]at h
 | .tail _ _ _::_,_,_,h=>by simp[hQ]at h
 | .Am::_,_,_,h=>by simp[hQ]at h
 | .odd _::_,_,_,h=>by simp[hQ]at h
 | .map _::_,_,_,h=>by simp[hQ]at h
 | .Aku::_,_,_,h=>by simp[hQ]at h
 | .chan _::_,_,_,h=>by simp[hQ]at h
 | .Aea::_,_,_,h=>by simp[hQ]at h
 | .func _ _ _::_,_,_,h=>by simp[hQ]at h
 | .Vh _::_,_,_,h=>by simp[hQ]at h
 | .Aib::_,_,_,h=>by simp[hQ]at h
 | .Aan::_,_,_,h=>by simp[hQ]at h
 | .agg _::_,_,_,h=>by simp[hQ]at h
 | .tuple _::_,_,_,h=>by simp[hQ]at h
theorem xi {x:EV}(d:lenOf x=some n):∃b c,Cm f x=.slice b n c:=by
 unfold lenOf at d;split at d<;>first|(cases d;exact⟨_,_,rfl⟩)|(cases d)
theorem qX(j:Tg p h)(u:Tt f h w){size:Nat}{x:EV}{l:List EV}(d:cellsOf h size n x=some l):
 (Builtin.firstCells size n (Cm f x)).run P w=.ok (Bp f l).toArray w/\EV.Tp p l/\l.all EV.one=true/\l.length=n*size:=by
 unfold cellsOf at d;split at d
 ·obtain⟨h1,h2⟩:=An d
  cases h2;have:=aJ h1;subst this;exact⟨by simp[Cm,Builtin.firstCells,Bp],trivial,rfl,by simp⟩
 next i off a b c=>
  rw[Bq]at d;split at d
  next h1=>
   cases d;have:=aJ h1;subst this;refine⟨?_,trivial,rfl,by simp⟩;simp[Cm,Builtin.firstCells,Bp,loadCells,loadCellsFrom]
  ·obtain⟨h1,h2,y,h4,_⟩:=tW (P:=P) j u d
   exact⟨by simp only[Cm,Builtin.firstCells];exact h1,h2,y,h4⟩
 ·obtain⟨h1,h2⟩:=An d
  cases h2;have:=aJ h1;subst this;refine⟨?_,trivial,rfl,by simp⟩;simp[Cm,Builtin.firstCells,Bp,loadCells,loadCellsFrom]
 ·cases d
variable (hT:Qc P T)
include hT
theorem xj {st u e':TypeId}(D:T.T6 st=some (.slice e))(hu:T.T6 u=some (.slice e')){size:Nat}(hs:T.size e=some size){z:List EV}(E:T.zero e=some z)
 {sLen sCap G:Nat} {H:Option Addr} {By new:Array Value} (A:¬sLen+n<=sCap) (S:sLen<=1048576) (U:n<=65536)
 (h1:∀d,(Builtin.firstCells size sLen (.slice base sLen sCap)).run P { w with drawn:=d }=.ok By { w with drawn:=d })
 (h2:∀d,(Builtin.firstCells size n (.slice H n G)).run P { w with drawn:=d }=.ok new { w with drawn:=d }) :
 ∃cap rest,sLen+n<=cap/\rest.size=(cap-(sLen+n))*size /\
  (Builtin.append_ #[st,u] ty #[.slice base sLen sCap,.slice H n G]).run P w=.ok (.slice (some ⟨w.heap.size,0,none⟩) (sLen+n) cap) { w with drawn:=w.drawn+1,heap:=w.heap.push (.cells (By++new++rest) e) }:=by
 have⟨f⟩:Nonempty Loc:=⟨⟨id,id⟩⟩;obtain⟨x,V,M,C,_,_,W,i,i1,i2,i3⟩:=mX hT f w E;obtain⟨J,K,X,Y⟩:=hT.size e size hs;have hi:J=i:=by rw[i1]at K;cases K;rfl
 subst hi;have hb:Builtin.nextslicecap (sLen+n) sCap<=4000000:=by
  unfold Builtin.nextslicecap;split
  ·omega
  ·split
   ·omega
   ·simp only[Builtin.growBy]
    repeat' split
    all_goals omega
 have B:¬(2^48<Builtin.nextslicecap (sLen+n) sCap*J.bytes):=by
  have:=gG hb i3;omega
 refine⟨(Question.appendCap (sLen+n) sCap e).cut (w.tape w.drawn (.appendCap (sLen+n) sCap e)),Builtin.zeroCells (Cm f x).cells ((Question.appendCap (sLen+n) sCap e).cut (w.tape w.drawn (.appendCap (sLen+n) sCap e))-(sLen+n)),?_,?_,?_⟩
 rotate_left 2
 ·have j:¬(((sLen+n:Nat):Int)>IntKind.i64.max):=by
   have e2:IntKind.i64.max=9223372036854775807:=rfl;omega
  have F:∀d,(zeroValue e).run P { w with drawn:=d }=.ok (Cm f x) { w with drawn:=d }:=by
   intro d;obtain⟨y,_,Z,y3,_⟩:=mX hT f { w with drawn:=d } E;obtain⟨O,v,xx,L,Q,a3,_⟩:=hT.zero e z E;simp only[zeroValue,typeInfo,Sem.run_bind,fR,i1,aI,aS]at C⊢;rw[i1]at L;cases L;rw[Q]at C⊢;simp only[aS,Result.ok.injEq]at C⊢;exact⟨C.1,trivial⟩
  simp only[Builtin.append_,Sem.run_bind,bV,bR,cC,Dt hT w D,Dt hT w hu,Gt hT w hs,aI,aS,Builtin.lenOf,aV,ak,A];simp only[j,gI,ak,Sem.run_bind,aS,aI,typeInfo,fR,i1,gt_iff_lt,B,run_choose,Question.forced,aV,run_askRoom,h1,h2,F,dF,bN];rfl
 ·simp only[Question.cut];omega
 ·rw[Builtin.zeroCells]
  have e1:(Cm f x).cells.size=size:=by rw[Ti,<-M];simp[Cv];omega
  simp[e1]
end
end
section
def kv(P:Program)(s:Sem Value)(p:Nat->Prop)(f:Loc)(h:Ab)(w:World)(v:EV)(h':Ab):Prop:=
 ∃f' w',s.run P w=.ok (Cm f' v) w'/\Move p f h w f' h' w'/\Wf p h h'/\v.ok (grow p h h')
section
variable{w:World}(hT:Qc P T)
include hT
theorem xk(u:Tg p h)(C:Tt f h w){l:List EV}(A:EV.Tp p l)(h1:l.all EV.one=true){size:Nat}(B:m<=cap){rest:Array Value}(j:rest.size=(cap-m)*size){By new:List EV}(y:l=By++new)(d:Nat):
 Move p f h w (f.set h.next w.heap.size (cap-m)) (h.new (.vec l e size)) { w with drawn:=d,heap:=w.heap.push (.cells ((Bp f By).toArray++(Bp f new).toArray++rest) e) }/\Wf p h (h.new (.vec l e size)) /\
  Cm (f.set h.next w.heap.size (cap-m)) (.slice h.next 0 m m true)=.slice (some ⟨w.heap.size,0,none⟩) m cap:=by
 refine⟨Move.new u C _ rfl ?_ rfl rfl rfl,Wf.new u ⟨Ss A,h1⟩,?_⟩
 ·refine⟨rest.toList,?_,by simp[j,Loc.mY]⟩
  rw[<-Fy (f.Ms _ _ u.fresh) l A,y,Ta];congr 1;apply dQ;simp
 ·simp only[Cm,Loc.X2,Loc.mY,bN]
  congr 1;omega
theorem Bas(C:Tg p h)(G:Tt f h w){st u e':TypeId}{s x:EV}(hs:s.ok p)(hu:T.T6 u=some (.slice e'))(A:append T st s x h=some (v,h')):
 kv P (Builtin.append_ #[st,u] ty #[Cm f s,Cm f x]) p f h w v h':=by
 unfold append at A;split at A
 next e D=>
  split at A
  next size z E hz=>
   split at A
   next n hn=>
    obtain⟨bx,cx,L⟩:=xi (f:=f) hn;rw[Bq]at A;split at A
    next h0=>
     have:=aJ h0;subst this;have Y:∀(size:Nat),(Builtin.firstCells size 0 (.slice bx 0 cx)).run P w=.ok #[] w:=by
      intro size;cases bx<;>simp[Builtin.firstCells,loadCells,loadCellsFrom]
     split at A
     next i off y room op=>
      obtain⟨h1,h2⟩:=An A;cases h2;simp only[cv]at h1;refine⟨f,w,?_,Move.refl G,Wf.refl C,by rw[J3 p h h rfl];exact hs⟩;rw[L];have hle:y<=(if op=true then room+f.sp i else room):=by split<;>omega
      simp only[Cm,Builtin.append_,Sem.run_bind,bV,bR,cC,Dt hT w D,Dt hT w hu,Gt hT w E,aI,aS,Builtin.lenOf,aV,ak,dA,hle,bN,dF,Y];simp[storeCells]
     ·cases A
      refine⟨f,w,?_,Move.refl G,Wf.refl C,trivial⟩;rw[L];simp only[Cm,Builtin.append_,Sem.run_bind,bV,bR,cC,Dt hT w D,Dt hT w hu,Gt hT w E,aI,aS,Builtin.lenOf,aV,ak,dA,aD,bN,dF,Y]
     ·cases A
    next h0=>
     obtain⟨J,h2⟩:=An A;simp only[cv]at J;split at h2
     next new M=>
      obtain⟨n1,n2,n3,n4⟩:=qX (P:=P) C G M;have nd:∀d,(Builtin.firstCells size n (.slice bx n cx)).run P { w with drawn:=d }=.ok (Bp f new).toArray { w with drawn:=d }:=by
       intro d;rw[<-L];exact(qX (P:=P) C (G.world (w':={ w with drawn:=d }) rfl) M).1
      split at h2
      ·cases h2
       have ba:n≠0:=fun e=>h0 (by rw[e];rfl)
       obtain⟨cap,rest,V,W,X⟩:=xj (w:=w) (ty:=ty) hT D hu E hz (base:=none) (sLen:=0) (sCap:=0) (By:=(Bp f []).toArray) a_ a_ J
        (by intro d;simp[Builtin.firstCells,Bp]) nd
       simp only[bJ]at V W X;obtain⟨F,k2,Z⟩:=xk hT C G (e:=e) (l:=new) n2 n3 V W (By:=[]) rfl (w.drawn+1);refine⟨_,_,?_,F,k2,.inr ⟨aD _,by rw[Ab.Dd];omega⟩⟩;rw[Z,L];exact X
      next i off y room op=>
       obtain⟨O,Q⟩:=An h2;simp only[cv]at O;split at Q
       next By hold=>
        obtain⟨o1,o2,o3,o4⟩:=qX (P:=P) C G hold;have od:∀d,(Builtin.firstCells size y (Cm f (.slice i off y room op))).run P { w with drawn:=d }=.ok (Bp f By).toArray { w with drawn:=d }:=by
         intro d;exact(qX (P:=P) C (G.world (w':={ w with drawn:=d }) rfl) hold).1
        have hok:EV.Tp p (By++new):=Zq o2 n2;have B:(By++new).all EV.one=true:=Ba1 o3 n3;rw[Bq]at Q;split at Q
        next H=>
         subst H;obtain⟨c1,h4⟩:=An Q;obtain⟨c2,h5⟩:=An h4;clear Q h4;have:=aJ c1;subst this;have:=aJ c2;subst this;split at h5
         next l e1 s1 hg=>
          obtain⟨c3,h6⟩:=An h5;obtain⟨c4,h7⟩:=An h6;obtain⟨c5,h8⟩:=An h7;clear h5 h6 h7;rw[Ue]at c3;have K:=aJ c3;have:=aJ c4;subst this;have:=aJ c5;subst this;cases h8;simp only[Nat.mul_eq]at K;by_cases S:n<=f.sp i
          ·
           obtain⟨r,a1,more,a2,a5⟩:=G.obj i _ hg;subst a2;have aj:By=l:=by
            unfold cellsOf at hold;simp only at hold;rw[Bq]at hold;split at hold
            next al=>
             have:=aJ al;subst this;cases hold;simp at K;exact K.symm
            ·unfold I6 at hold
             rw[hg]at hold;obtain⟨_,q2⟩:=qS hold;rw[Sy]at q2;rw[q2];simp only[cZ,Nat.mul_eq];rw[<-K,cM]
           subst aj;have bo:n*s1<=more.length:=by rw[a5];exact Nat.mul_le_mul_right _ S
           have aa:=run_storeCells_at (P:=P) (f.b i) (room*s1) e1 (Bp f new) 0 (Bp f By++more).toArray w a1 (by simp only[Cv,cU,aF];omega) (Xv f new (by simpa using n3));refine⟨f.set h.next (f.b i) (f.sp i-n),w.setRow (f.b i) (Bp f By++Bp f new++more.drop (n*s1)).toArray,?_,Move.oe C G hg (f.sp i-n) (r:=.cells (Bp f (By++new)++more.drop (n*s1)).toArray e1 (0,0)) ?_ ?_ (fun b hb=>setRow_other _ _ _ _ hb) (setRow_size _ _ _) rfl rfl rfl,Wf.oe C i ⟨Ss hok,B⟩,.inr ⟨aD _,by rw[Ab.Dd,Ab.qp];omega⟩⟩
           rotate_left 1
           ·rw[setRow_heap w (f.b i) _ _ e1 (0,0) a1,Ta]
           ·refine⟨more.drop (n*s1),?_,?_⟩
            ·rw[Fy (f.Ms _ _ C.fresh) (By++new) hok]
            ·rw[Loc.mY,av,a5,Nat.sub_mul]
           ·rw[L]
            have hle:room+n<=room+f.sp i:=a_
            simp only[Cm,Builtin.append_,Sem.run_bind,bV,bR,cC,Dt hT w D,Dt hT w hu,Gt hT w E,aI,aS,Builtin.lenOf,aV,ak,bN,hle,dF,Loc.X2,Loc.mY];rw[<-L,n1];simp only[aI,Sem.run_bind,Uu,bJ,aa,aS];congr 1
            ·congr 1
             simp only[Nat.add_eq];omega
            ·congr 1
             simp only[dA,Cv];rw[dL (by rw[Cv];omega),bQ (by rw[Cv];omega)];rw[List.drop_append,cr (by rw[Cv];omega)];simp only[Cv,dN];congr 4;omega
          ·obtain⟨cap,rest,V,W,X⟩:=xj (w:=w) (ty:=ty) hT D hu E hz (base:=some ⟨f.b i,0,none⟩) (sLen:=room) (sCap:=room+f.sp i) (By:=(Bp f By).toArray) a_ O J
            (by intro d;simpa [Cm]using od d) nd
           obtain⟨F,_,Z⟩:=xk hT (C.del i) (G.sub n_) (e:=e1) (l:=By++new) hok B V W rfl (w.drawn+1);refine⟨f.set h.next w.heap.size (cap-(room+n)),_,?_,⟨F.agree,F.rep,fun b hb hn=>F.kept b hb (fun j q hj=>hn j q (n_ j q hj)),F.size,F.tape,F.os,F.output,fun j q hj=>(F.own j q hj).imp id (fun⟨k,q',hk,e⟩=>⟨k,q',n_ k q' hk,e⟩)⟩,
            Wf.oe C i ⟨Ss hok,B⟩,.inr ⟨aD _,by rw[Ab.Dd,Ab.qp];omega⟩⟩
           rw[show Cm (f.set h.next w.heap.size (cap-(room+n))) (.slice h.next 0 (Nat.add room n) (Nat.add room n) true)=_ from Z,L];simpa [Cm]using X
         ·cases h5
        next H=>
         have U:op=false:=by simpa using H
         subst U;obtain⟨c1,h4⟩:=Th Q;cases h4;have hc:¬y+n<=room:=by
          intro e;have:=mW e;rw[show Nat.add y n=y+n from rfl]at c1;rw[this]at c1;cases c1
         obtain⟨cap,rest,V,W,X⟩:=xj (w:=w) (ty:=ty) hT D hu E hz (base:=some ⟨f.b i,off,none⟩) (sLen:=y) (sCap:=room) (By:=(Bp f By).toArray) hc O J
          (by intro d;simpa [Cm]using od d) nd
         obtain⟨F,k2,Z⟩:=xk hT C G (e:=e) (l:=By++new) hok B V W rfl (w.drawn+1);refine⟨_,_,?_,F,k2,.inr ⟨aD _,by rw[Ab.Dd];omega⟩⟩;rw[show Cm (f.set h.next w.heap.size (cap-(y+n))) (.slice h.next 0 (Nat.add y n) (Nat.add y n) true)=_ from Z,L];simpa [Cm]using X
       ·cases Q
      ·cases h2
     ·cases h2
   ·cases A
  ·cases A
 ·cases A
end
end
section
theorem NO:∀l:List UInt8,w7 l=l.length
 | []=>rfl
 | _::r=>congrArg Nat.succ (NO r)
section
variable{w:World}(hT:Qc P T)
include hT
omit hT in
theorem kv.stay(d:Tg p h)(j:Tt f h w){s:Sem Value}(hs:s.run P w=.ok (Cm f v) w)(u:v.ok p):kv P s p f h w v h:=
 ⟨f,w,hs,Move.refl j,Wf.refl d,by rw[J3 p h h rfl];exact u⟩
theorem Bie(E:Tg p h)(F:Tt f h w){t u ty e e':TypeId}{d s:EV}(H:T.T6 t=some (.slice e)){size dn j:Nat}(hs:T.size e=some size)(hd:lenOf d=some dn)(B:lenOf s=some j)
 (J:n=Bc (Nat.ble j dn) j dn) {cs:List EV} (K:cellsOf h size n s=some cs) {a b:Nat} {op:Bool} (C:d=.slice i off a b op) (hw:L9 h i off cs=some h') :
 kv P (Builtin.copy_ #[t,u] ty #[Cm f d,Cm f s]) p f h w (.int .i64 (.ofNat n)) h':=by
 obtain⟨G,L,n3,n4⟩:=qX (P:=P) E F K;obtain⟨bs,S,y⟩:=xi (f:=f) B;obtain⟨w',M,O,Q⟩:=NG (P:=P) E F hw L n3;subst C;have D:dn=a:=by simp only[lenOf]at hd;cases hd;rfl
 subst D;have A:Nat.min j dn=n:=by
  rw[J,Bq];show min j dn=_;by_cases hle:j<=dn
  ·rw[aK (mW hle)];omega
  ·rw[aH (by rw[pj hle];simp)];omega
 refine⟨f,w',?_,O,Q,trivial⟩;rw[y];rw[y]at G;simp only[Cm,Builtin.copy_,Sem.run_bind,bV,bR,cC,Dt hT w H,aI,Builtin.lenOf,aS,Gt hT w hs,A,G,M];rfl
theorem A8l(G:Tg p h)(F:Tt f h w){b:Builtin}{cs:Array Bool}(S:EV.Tp p args)(A:builtin T b ts args h=some (v,h')):
 ∃s,(Go.builtin b ts ty cs (Bp f args).toArray)=(do pure (.value (←s)):Sem Next)/\kv P s p f h w v h':=by
 unfold builtin at A;split at A
 next s x=>
  split at A
  next t u C=>
   have B:ts = #[t,u]:=by apply dQ;simpa using C
   subst B;split at A
   next e' hu=>
    exact⟨_,rfl,Bas hT G F S.1 hu A⟩
   ·cases A
  ·cases A
 next x=>
  split at A
  next t C=>
   have B:ts = #[t]:=by apply dQ;simpa using C
   subst B;refine⟨_,rfl,?_⟩;split at A
   next n e hu=>
    cases A;exact kv.stay G F (by simp[Builtin.len_,Dt hT w hu,Bp,Cm,goInt]) trivial
   next e y hu=>
    split at A
    next n U=>
     cases A;obtain⟨bx,cx,K⟩:=xi (f:=f) U;exact kv.stay G F (by simp[Builtin.len_,Dt hT w hu,Bp,K,goInt,Cm]) trivial
    ·cases A
   next s hu=>
    cases A;exact kv.stay G F (by simp[Builtin.len_,Dt hT w hu,Bp,Cm,goInt,NO]) trivial
   next d e i hu=>
    split at A
    next c buf H=>
     cases A;obtain⟨r,L,s1,c1,M⟩:=F.obj i _ H;subst M;have E:=N4 (P:=P) L (by intro c e z K;cases K);exact kv.stay G F (by simp[Builtin.len_,Dt hT w hu,Bp,Cm,E,goInt,Ue,Cv]) trivial
    ·cases A
   ·cases A
  ·cases A
 next d s=>
  split at A
  next t u C=>
   have B:ts = #[t,u]:=by apply dQ;simpa using C
   subst B;split at A
   next e e' V hu=>
    split at A
    next size dn sn hs hd O=>
     obtain⟨_,A⟩:=Th A;split at A
     next W X=>
      split at A
      ·split at A
       next Y hw=>
        cases A;exact⟨_,rfl,Bie hT G F (e':=e') V hs hd O rfl X rfl hw⟩
       ·cases A
      ·cases A
     ·cases A
    ·cases A
   ·cases A
  ·cases A
 next m k=>
  split at A
  next t tr C=>
   have h0:ts[0]? = some t:=by
    have:ts.toList[0]? = some t:=by rw[C];rfl
    simpa using this
   split at A
   next kt e i hu=>
    obtain⟨h1,h2⟩:=An A;split at h2
    next es H=>
     obtain⟨r,L,d_,clock,M,a3⟩:=F.obj i _ H;obtain⟨_,a4⟩:=G.get i _ H;subst M;have E:=N4 (P:=P) L (by intro c e z K;cases K);have J:=fun o'=>Qo (P:=P) (o':=o') L (by intro c e z K;cases K)
     refine⟨_,rfl,?_⟩;split at h2
     next j u' D=>
      cases h2;have Q:=Wc (w:=w) (f:=f) hT h1 a3 D;refine⟨f,_,?_,Move.setObj F H (r:=.map (d_.eraseIdxIfInBounds j) clock) ⟨_,_,rfl,?_⟩,Wf.put G H (fun q Z=>a4 q (List.mem_of_mem_eraseIdx Z)),trivial⟩
      ·simp only[Builtin.delete_,Bp,Cm,Sem.run_bind,bV,bR,cC,h0,Dt hT w hu,aI,E,Qn hT h1,Q,dU,J,aS]
      ·have e1:(d_.eraseIdxIfInBounds j).toList=d_.toList.eraseIdx j:=by
        rw[Array.eraseIdxIfInBounds_eq];split
        ·simp
        next hj=>
         rw[List.eraseIdx_of_length_le (by simpa using hj)]
       rw[e1,List.eraseIdx_eq_take_drop_succ,List.eraseIdx_eq_take_drop_succ];simp only[cI,List.map_take,List.map_drop,a3]
     next D=>
      cases h2;have Q:=Wc (w:=w) (f:=f) hT h1 a3 D;refine⟨f,_,?_,Move.setObj F H (r:=.map d_ clock) ⟨_,_,rfl,a3⟩,Wf.put G H a4,trivial⟩;simp only[Builtin.delete_,Bp,Cm,Sem.run_bind,bV,bR,cC,h0,Dt hT w hu,aI,E,Qn hT h1,Q,Option.map_none,J,aS]
     ·cases h2
    ·cases h2
   ·cases A
  ·cases A
 next k a l=>
  split at A
  next u hm=>
   cases A;obtain⟨⟨c,rfl⟩,h2⟩:=xh (f:=f) false k hm;refine⟨_,rfl,kv.stay G F ?_ trivial⟩;simp only[Builtin.min_,Bp,dR,Cm,Ot];simp only[aV,ak,Cm]at h2;rw[h2];rfl
  ·cases A
 next k a l=>
  split at A
  next u hm=>
   cases A;obtain⟨⟨c,rfl⟩,h2⟩:=xh (f:=f) true k hm;refine⟨_,rfl,kv.stay G F ?_ trivial⟩;simp only[Builtin.max_,Bp,dR,Cm,Ot];simp only[bN,Cm]at h2;rw[h2];rfl
  ·cases A
 ·cases A
end
end
section
structure FB where
 fn:Nat
 defers:List Deferred
 Dl:Option Nat
def FB.at(b:FB)(tmps:Array Value)(todo:List Item):Frame:={ fn:=b.fn,tmps,todo,defers:=b.defers,mode:=.run,kind:=.normal,roundOf:=b.Dl }
def Is(tmps:Array Value):Operand->Value:=(Act.mk tmps []).eval
def mZ(tmps:Array Value)(d:Option Tmp)(v:Value):Array Value:=
 match d with
 | some d=>tmps.setIfInBounds d v
 | none=>tmps
theorem FB.eval_at(b:FB)(tmps:Array Value)(todo:List Item):(b.at tmps todo).eval=Is tmps:=by funext x;cases x<;>rfl
theorem FB.finish_at(b:FB)(tmps:Array Value)(d:ops[i]? = some o)(rest:List Nat)(k:List Item)(v:Value):
 (b.at tmps (.inRegion ops (i::rest)::k)).finish v=b.at (mZ tmps o.dst v) (.inRegion ops rest::k):=by
 cases hd:o.dst<;>simp[Frame.finish,FB.at,mZ,d,hd]
def og:Op->Bool
 | .defer _=>true
 | _=>false
section
variable{b:FB}{rest:List Nat}{k:List Item}{cs:List Frame}{w:World}
theorem qY(u:ops[i]? = some o)(hw:Region.wanted o (Go.yielded ops tmps)=true)(hd:og o.op=false):
 stepG P true { frame:=b.at tmps (.inRegion ops (i::rest)::k),callers:=cs,status:=.running,dying:=none } w =
  stepG.apply P true (b.at tmps (.inRegion ops (i::rest)::k)) cs none (execOp (Is tmps) o) w:=by
 have he:=FB.eval_at b tmps (.inRegion ops (i::rest)::k);simp only[FB.at]at he;cases j:b.Dl<;>cases d:o.op<;>simp[stepG,stepG.exec,stepG.oper,Frame.oper?,FB.at,u,hw,j,d]<;>first|(rw[j]at he;rw[he];done)|(simp[d,og]at hd)
theorem A1h(d:ops[i]? = some o)(hw:Region.wanted o (Go.yielded ops tmps)=true)(hd:og o.op=false){v:Value}
 (j:(execOp (Is tmps) o).run P w=.ok (.value v) w') :
 step P (lone (b.at tmps (.inRegion ops (i::rest)::k)) cs w)=.next (lone (b.at (mZ tmps o.dst v) (.inRegion ops rest::k)) cs w'):=by
 refine cL ?_;rw[qY d hw hd,<-FB.finish_at b tmps d];simp[stepG.apply,j]
theorem A36(d:ops[i]? = some o)(hw:Region.wanted o (Go.yielded ops tmps)=true)(hd:og o.op=false)
 (j:(execOp (Is tmps) o).run P w=.ok .skip w') :
 step P (lone (b.at tmps (.inRegion ops (i::rest)::k)) cs w)=.next (lone (b.at (mZ tmps o.dst undef) (.inRegion ops rest::k)) cs w'):=by
 refine cL ?_;rw[qY d hw hd,<-FB.finish_at b tmps d];simp[stepG.apply,j]
theorem A0w(d:ops[i]? = some o)(hw:Region.wanted o (Go.yielded ops tmps)=true)(hd:og o.op=false){g:FuncId}{args:Array Value}
 (j:(execOp (Is tmps) o).run P w=.ok (.enter g args) w') :
 step P (lone (b.at tmps (.inRegion ops (i::rest)::k)) cs w)=.next (lone (Frame.enter P g args .normal) (b.at tmps (.inRegion ops (i::rest)::k)::cs) w'):=by
 refine cL ?_;rw[qY d hw hd];simp[stepG.apply,j,FB.at]
theorem A1o(d:ops[i]? = some o)(hw:Region.wanted o (Go.yielded ops tmps)=true)(hd:og o.op=false){l g:Nat}{ts:Array Value}{d' body:Code}
 (j:(execOp (Is tmps) o).run P w=.ok (.round l g ts d' body) w') :
 step P (lone (b.at tmps (.inRegion ops (i::rest)::k)) cs w)=.next (lone (Frame.round l g ts d' body .normal) (b.at tmps (.inRegion ops (i::rest)::k)::cs) w'):=by
 refine cL ?_;rw[qY d hw hd];simp[stepG.apply,j,FB.at]
theorem NP(d:ops[i]? = some o)(hw:Region.wanted o (Go.yielded ops tmps)=false):
 step P (lone (b.at tmps (.inRegion ops (i::rest)::k)) cs w)=.next (lone (b.at (mZ tmps o.dst undef) (.inRegion ops rest::k)) cs w):=by
 refine cL ?_;rw[<-FB.finish_at b tmps d];simp[stepG,stepG.exec,FB.at,d,hw]
theorem NQ:step P (lone (b.at tmps (.inRegion ops []::k)) cs w)=.next (lone (b.at tmps k) cs w):=
 cL (by simp[stepG,stepG.exec,FB.at])
end
def iQ(P:Program)(o:Oper)(tmps:Array Value)(p:Nat->Prop)(f:Loc)(h:Ab)(w:World)(v:EV)(h':Ab):Prop:=
 ∀(b:FB) (ops:Array Oper) (i:Nat) (rest:List Nat) (k:List Item) (cs:List Frame),ops[i]? = some o->Region.wanted o (Go.yielded ops tmps)=true ->
  ∃f' w',Steps P (lone (b.at tmps (.inRegion ops (i::rest)::k)) cs w) (lone (b.at (mZ tmps o.dst (Cm f' v)) (.inRegion ops rest::k)) cs w') /\
   Move p f h w f' h' w'/\Wf p h h'/\v.ok (grow p h h')
theorem iQ.j'{w:World}(hd:og o.op=false)
 (he:ku P (execOp (Is tmps) o) p f h w v h'):iQ P o tmps p f h w v h':=by
 intro b ops i rest k cs d hw;obtain⟨f',w',N,h1,h2,j,h4,u⟩:=he;refine⟨f',w',?_,j,h4,u⟩;rcases h2 with rfl|⟨rfl,rfl⟩
 ·exact .one (A1h d hw hd h1)
 ·exact .one (A36 d hw hd h1)
def ks(P:Program)(c:Ah):Prop:=
 ∀g args h v h',c g args h=some (v,h')->(∃fn,P.funcs[g]? = some fn/\fn.body.isSome=true/\(fn.name == "runtime.NumGoroutine")=false) /\
  ∀p f w,Tg p h->Tt f h w->EV.Tp p args->∀cs,∃fr f' w',Steps P (lone (Frame.enter P g (Bp f args).toArray .normal) cs w) (lone fr cs w')/\fr.fn=g /\
   fr.leaving P w' (.returned (Cm f' v))/\Move p f h w f' h' w'/\Wf p h h'/\v.ok (grow p h h')
def nX(P:Program)(c:Ah):Prop:=
 ∀l args h v h',c l args h=some (v,h')->∃st u fn n tm ps d' body d j,h.get l=some (.loop st u fn n tm ps d' body d)/\Vy ps args n tm=some j /\
  ∀p f w,Tg p h->Tt f h w->EV.Tp p args->∀caller cs,∃f' w',Steps P (lone (Frame.round (f.b l) fn (Bg f n j) d' body .normal) (caller::cs) w) (lone (caller.finish (Cm f' v)) cs w') /\
   Move p f h w f' h' w'/\Wf p h h'/\v.ok (grow p h h')
theorem Bnc(n:Nat)(tm:Ay)(d:Nat)(v:EV):Bc (Nat.ble (Nat.succ d) n) (tm.put d (some v)) tm=O9 n tm (some d) v:=rfl
theorem wZ(f:Loc):∀{ps:List Tmp} {args:List EV} {tm d:Ay},Vy ps args n tm=some d->EV.Tp p args->Ld p n tm ->
 ps.length=args.length/\Ld p n d/\(ps.zip (Bp f args)).foldl (fun tmps (x:Tmp × Value)=>tmps.setIfInBounds x.1 x.2) (Bg f n tm)=Bg f n d
 | [],[],tm,d,h,_,j=>by cases h;exact⟨rfl,j,rfl⟩
 | q::r,v::s,tm,d,h,u,j=>by
  simp only[Vy,Bnc]at h;obtain⟨h1,h2,y⟩:=wZ f h u.2 (j.put (some q) u.1);refine⟨by simp[h1],h2,?_⟩;simp only[Bp,List.zip_cons_cons,List.foldl_cons];rw[MP];exact y
 | [],_::_,_,_,h,_,_=>by cases h
 | _::_,[],_,_,h,_,_=>by cases h
theorem Tq(d:Ld p n tm):Reads f tm (Is (Bg f n tm)) where
 tmp t:=by simp only[Is,Act.eval];exact qR f d t
 const v:=rfl
 func g:=rfl
end
section
section
variable{w:World}(hT:Qc P T)
theorem Bqg {op:BinOp}{a b:EV}(d:bin T op t a b=some v):v.ok p:=by
 unfold bin at d;split at d
 next k a k' b=>
  rw[Bq]at d;split at d
  ·split at d
   ·unfold tI at d
    split at d
    ·cases d;trivial
    ·split at d<;>(cases d;trivial)
    ·cases d
   ·cases d
  ·rw[Bq]at d
   split at d
   ·unfold o8 at d
    split at d
    all_goals first
     | (cases d;done)
     | (cases d;trivial)
     | (obtain⟨_,h2⟩:=Th d;cases h2;trivial)
     | (split at d<;>first|(cases d;done)|(cases d;trivial))
   ·cases d
 ·split at d
  ·split at d<;>first|(cases d;trivial)|cases d
  ·split at d<;>first|(cases d;trivial)|cases d
  ·cases d
theorem NR{cs:List EV}(j:EV.Tp p cs)(h1:cs.all EV.one=true)(d:part T t cs off=some v):v.ok p:=by
 unfold part at d;split at d
 ·split at d
  ·split at d
   next n y l u=>
    cases d;obtain⟨_,h2⟩:=qS u;rw[h2,Sy];exact⟨NB j _ _,NC h1 _ _⟩
   ·cases d
  ·cases d
 ·split at d
  next A r hd=>
   cases d;rw[Sy]at hd;exact(H0 p cs).1 j _ (aM (by rw[hd];exact aQ))
  ·cases d
 ·cases d
theorem NS {x:EV}{size:Nat}(j:x.ok p)(d:iJ x size lo hi mx=some v):v.ok p:=by
 unfold iJ at d;split at d
 next i off len room op=>
  have u:p i:=j;split at d
  ·split at d
   ·cases d
   ·split at d
    ·cases d
    ·simp only[Bq]at d
     repeat' split at d
     all_goals first|(cases d;exact u)|cases d
  ·split at d
   ·split at d
    ·cases d
    ·split at d
     ·cases d
     ·cases d;exact u
   ·cases d
 ·split at d
  ·split at d
   ·cases d
   ·split at d
    ·cases d
    ·cases d;exact j
  ·cases d
 ·cases d
include hT in
theorem Bmk(A:Ld p n tm){op:Op}(j:E2 T tm op=some v):v.ok p:=by
 cases op with
 | move x=>exact Ey A j
 | assign x=>exact Ey A j
 | pick c a b=>
  simp only[E2]at j;split at j
  ·exact Ey A j
  ·exact Ey A j
  ·cases j
 | binOp op t x y u=>
  simp only[E2]at j;split at j
  ·split at j
   ·exact Bqg j
   ·cases j
  ·cases j
 | unOp u t x=>
  cases u<;>simp only[E2]at j
  all_goals first
   | (split at j<;>first|(cases j;trivial)|cases j)
   | cases j
 | nilCheck x=>
  simp only[E2]at j;split at j
  next i o' he=>
   cases j;exact Ey A he
  ·cases j
 | fieldAddr s x M=>
  simp only[E2]at j;split at j
  next i off he=>
   have O:p i:=Ey A he;split at j
   ·split at j
    ·split at j
     ·obtain⟨_,h2⟩:=Th j;cases h2;exact O
     ·cases j
    ·cases j
   ·cases j
  ·cases j
 | indexAddr t x ix=>
  simp only[E2]at j;split at j
  ·split at j
   next he=>
    split at j
    ·obtain⟨_,h2⟩:=An j;cases h2;have:=Ey A he;exact this
    ·cases j
   next he=>
    split at j
    ·obtain⟨_,h2⟩:=An j;cases h2;have:=Ey A he;exact this
    ·cases j
   ·cases j
  ·cases j
 | index t x ix=>
  simp only[E2]at j;split at j
  ·split at j
   next he=>
    split at j
    ·obtain⟨_,h2⟩:=An j
     have C:=Ey (v:=.agg _) A he;exact NR C.1 C.2 h2
    ·cases j
   ·split at j
    ·cases j;trivial
    ·cases j
   ·cases j
  ·cases j
 | field t x M=>
  simp only[E2]at j;split at j
  next he=>
   split at j
   ·have C:=Ey (v:=.agg _) A he
    exact NR C.1 C.2 j
   ·cases j
  ·cases j
 | convert s d x=>
  simp only[E2]at j;split at j
  ·cases j;trivial
  ·cases j
 | extract x ix=>
  simp only[E2]at j;split at j
  next l he=>
   split at j
   next U r hd=>
    cases j;rw[Sy]at hd;exact(H0 p l).1 (Ey (v:=.tuple l) A he) _ (aM (by rw[hd];exact aQ))
   ·cases j
  ·cases j
 | slice t x lo hi mx=>
  simp only[E2]at j;split at j
  ·split at j
   next he=>
    split at j
    ·exact NS (x:=.slice _ _ _ _ _) (Ey (v:=.ptr _ _) A he) j
    ·cases j
   next he=>
    split at j
    ·exact NS (Ey A he) j
    ·cases j
   ·cases j
  ·cases j
 | build t ps=>
  have key:∀{z c:List EV} {l:List (Nat × EV)} {pl:Nat->Option (Nat × Nat)},T.zero t=some z->Yt tm ps.toList=some l->fill pl z l=some c->(EV.agg c).ok p:=by
   intro z c l pl D E B;obtain⟨i,V,W,_,_,Q,L,rfl,_⟩:=hT.zero t z D;have F:=Uo (w8 p Q) L;have G:=tN A E;have H:=tS pl B;refine⟨(H0 p c).2 (qV pl (q:=fun v=>v.ok p) B (fun v J=>(H0 p _).1 F.1 v J) (fun q K v J=>(H0 p _).1 (Uo (G q K) (H q K)).1 v J)),?_⟩;rw[dG];exact qV pl (q:=fun v=>v.one=true) B F.2 (fun q K v J=>(Uo (G q K) (H q K)).2 v J)
  simp only[E2]at j;split at j
  next D E _=>
   split at j
   ·split at j
    next B=>cases j;exact key D E B
    ·cases j
   ·cases j
  next D E _=>
   split at j
   ·split at j
    next B=>cases j;exact key D E B
    ·cases j
   ·cases j
  ·cases j
 | makeFunc fn a b=>
  cases fn<;>simp only[E2]at j
  all_goals first
   | (split at j
      next S hb=>cases j;exact⟨pt A S,pt A hb⟩
      ·cases j)
   | cases j
 | sliceToArrayPointer t x=>
  simp only[E2]at j;split at j
  next he=>
   obtain⟨_,h2⟩:=An j;cases h2;exact Ey (v:=.slice _ _ _ _ _) A he
  ·cases j
 | _=>cases j
theorem NT(u:Tg p h)(y:Tt f h w){d:List EV}(j:h.get i=some (.chan cap buf))(hb:EV.Tp p d)(s r:Nat):
 Move p f h w f (h.put i (.chan cap d)) (w.setChan (f.b i) cap (Bp f d).toArray false s r false)/\Wf p h (h.put i (.chan cap d)):=
 ⟨Move.setObj (p:=p) y j (o':=.chan cap d) (r:=.chan cap (Bp f d).toArray false s r false) ⟨s,r,rfl⟩,Wf.put u j hb⟩
theorem NU{c:SelectCase}(A:o.op=.select #[c] false){zv:Value}(u:(zeroValue c.elem).run P w=.ok zv w)
 (b:FB) {d:Array Value} (y:execOp (Is tmps) o=execOp (Is d) o) (rest:List Nat) (k:List Item) (cs:List Frame) (hi:ops[i]? = some o) (hw:Region.wanted o (Go.yielded ops tmps)=true) :
 ∃es,stepG P true (Conc.G (b.at tmps (.inRegion ops (i::rest)::k)) cs) w=.comm (Conc.G (b.at tmps (.inRegion ops (i::rest)::k)) cs)
  #[{ chan:=Is d c.chan,send:=c.send.map (Is d),zero:=zv }] false .select w es:=by
 have:=qY (P:=P) (b:=b) (rest:=rest) (k:=k) (cs:=cs) (w:=w) hi hw (by rw[A];rfl);have j:(execOp (Is tmps) o).run P w=.ok (.comm #[{ chan:=Is d c.chan,send:=c.send.map (Is d),zero:=zv }] false .select) w:=by
  rw[y];simp only[execOp,A];simp[u]
 rw[Conc.G,this];simp only[stepG.apply,Sem.runT_eq,j,GStep.after,bN];exact⟨_,rfl⟩
include hT in
theorem A7k(H:Ld p n tm)(y:Tg p h)(A:Tt f h w)(B:execOp (Is tmps) o=execOp (Is (Bg f n tm)) o){c:SelectCase}(L:o.op=.select #[c] false)
 (M:Cg tm c.chan=some (.chan i)) (hs:c.send=some x) {C:EV} (D:h.get i=some (.chan cap buf)) (J:Cg tm x=some C) (O:zeroOf T c.elem=some zv)
 (d:Bc (Nat.ble (Nat.succ (len buf)) cap) (some (EV.tuple [.int .i64 0,.bool false],h.put i (.chan cap (buf++[C])))) (some (.tuple [.int .i64 (-1),.bool false],h))=some (v,h')) :
 iQ P o tmps p f h w v h':=by
 intro b ops j rest k cs hj hw;have K:=Tq (f:=f) H;obtain⟨r0,u,s,r,rfl⟩:=A.obj i _ D;have E:=(xg hT (f:=f) (w:=w) O).1;obtain⟨es,he⟩:=NU L E b B rest k cs hj hw;rw[Bl K M,hs,dU,Bl K J]at he;have hok:=(y.get i _ D).2;by_cases hb:buf.length<cap
 ·rw[Ue,mW a_,Aj]at d
  cases d;have F:EV.Tp p (buf++[C]):=Zq hok ⟨Ey H J,trivial⟩;obtain⟨Q,S⟩:=NT y A D F (s+1) r;refine⟨f,_,.one ?_,Q,S,?_⟩
  ·have:=Conc.step_lone_select_send_room he u (by simpa [Cv]using hb)
   rw[FB.finish_at b _ hj]at this;simpa [Ta,Bp,Cm,goInt,Conc.solo,Conc.G,lone]using this
  ·simp[EV.ok,EV.Tp]
 ·rw[Ue,pj a_,Bo]at d
  cases d;refine⟨f,w,.one ?_,Move.refl A,Wf.refl y,?_⟩
  ·have:=Conc.step_lone_select_send_full he u (by simpa [Cv]using hb)
   rw[FB.finish_at b _ hj]at this;simpa [Ta,Bp,Cm,goInt,Conc.solo,Conc.G,lone]using this
  ·simp[EV.ok,EV.Tp]
include hT in
theorem A7v(H:Ld p n tm)(A:Tg p h)(B:Tt f h w)(C:execOp (Is tmps) o=execOp (Is (Bg f n tm)) o){c:SelectCase}(J:o.op=.select #[c] false)
 (K:Cg tm c.chan=some (.chan i)) (hs:c.send=none)
 (d:(match buf with
  | v::r=>some (EV.tuple [.int .i64 0,.bool true,v],h.put i (.chan cap r))
  | []=>some (.tuple [.int .i64 (-1),.bool false,zv],h))=some (v,h')) (D:h.get i=some (.chan cap buf)) (L:zeroOf T c.elem=some zv) :
 iQ P o tmps p f h w v h':=by
 intro b ops j rest k cs hj hw;have M:=Tq (f:=f) H;obtain⟨r0,u,s,r,rfl⟩:=B.obj i _ D;obtain⟨E,F⟩:=xg hT (f:=f) (w:=w) L;obtain⟨es,he⟩:=NU J E b C rest k cs hj hw;rw[Bl M K,hs,Option.map_none]at he;have hok:=(A.get i _ D).2;cases buf with
 | cons x l=>
  cases d;obtain⟨O,Q⟩:=NT A B D hok.2 s (r+1);refine⟨f,_,.one ?_,O,Q,?_⟩
  ·have:=Conc.step_lone_select_recv_buf he u (by simp[Bp])
   rw[FB.finish_at b _ hj]at this;simpa [Bp,Cm,goInt,Conc.solo,Conc.G,lone]using this
  ·exact⟨trivial,trivial,EV.ok.mono (fun _ hi=>.inl hi) _ hok.1,trivial⟩
 | nil=>
  cases d;refine⟨f,w,.one ?_,Move.refl B,Wf.refl A,?_⟩
  ·have:=Conc.step_lone_sel_default he (by
    intro S y;simp only[List.mem_toArray,aN]at y;subst y;exact Conc.noWay_recv u)
   rw[FB.finish_at b _ hj]at this;simpa [commResult,Bp,Cm,goInt,Conc.solo,Conc.G,lone]using this
  ·exact⟨trivial,trivial,F _,trivial⟩
include hT
theorem Bof(D:Ld p n tm)(A:Tg p h)(B:Tt f h w)(u:execOp (Is tmps) o=execOp (Is (Bg f n tm)) o)(d:Dr T tm o.op h=some (v,h')):
 iQ P o tmps p f h w v h':=by
 have C:=Tq (f:=f) D;cases j:o.op with
 | load t a=>
  rw[j]at d;obtain⟨rfl,h2,E⟩:=Bi8 hT C A B j d;refine iQ.j' (by rw[j];rfl) ⟨f,w,_,(by rw[u];exact E),.inl rfl,Move.refl B,Wf.refl A,?_⟩;rw[J3 _ _ _ rfl];exact h2
 | store t a x=>rw[j]at d;exact iQ.j' (by rw[j];rfl) (by rw[u];exact Bfn hT C D A B j d)
 | alloc t=>rw[j]at d;exact iQ.j' (by rw[j];rfl) (by rw[u];exact Bfb hT A B j d)
 | box t x=>rw[j]at d;exact iQ.j' (by rw[j];rfl) (by rw[u];exact Bmw C D A B j d)
 | makeSlice t x y=>rw[j]at d;exact iQ.j' (by rw[j];rfl) (by rw[u];exact A1a (n:=n) hT C A B j d)
 | buildSlice t m ps=>rw[j]at d;exact iQ.j' (by rw[j];rfl) (by rw[u];exact Ayq hT C D A B j d)
 | makeMap t r=>rw[j]at d;exact iQ.j' (by rw[j];rfl) (by rw[u];exact A8k A B j d)
 | makeChan t x=>rw[j]at d;exact iQ.j' (by rw[j];rfl) (by rw[u];exact A4b hT C A B j d)
 | lookup t x k ok=>rw[j]at d;exact iQ.j' (by rw[j];rfl) (by rw[u];exact A98 (n:=n) hT C A B j d)
 | mapUpdate t m k x=>rw[j]at d;exact iQ.j' (by rw[j];rfl) (by rw[u];exact A0t hT C D A B j d)
 | call c=>
  rw[j]at d;obtain⟨callee,args,argTypes⟩:=c;cases callee with
  | builtin bi=>
   simp only[Dr]at d;split at d
   next as has=>
    have key:∀cs,ku P (Go.builtin bi argTypes o.type cs (Bp f as).toArray) p f h w v h':=by
     intro cs;obtain⟨s,h1,f',w',h2,E,h4,G⟩:=A8l (ty:=o.type) (cs:=cs) hT A B (pt D has) d;refine⟨f',w',.value (Cm f' v),?_,.inl rfl,E,h4,G⟩;rw[h1];simp only[Sem.run_bind,h2,aI,aS]
    have he:args.map (Is (Bg f n tm))=(Bp f as).toArray:=by
     rw[<-Zp C has];simp only[<-List.map_toArray,eA]
    obtain⟨f',w',N,h1,h2,E,h4,G⟩:=key (args.map fun | .const _=>true|_=>false);refine iQ.j' (by rw[j];rfl) ⟨f',w',N,?_,h2,E,h4,G⟩;rw[<-h1,u];simp only[execOp,j,resolve,Sem.run_bind,aS,aI,invoke,he];rfl
   ·cases d
  | value x=>cases d
  | invoke x m=>cases d
 | select cs bl=>
  rw[j]at d;cases bl with
  | true=>cases d
  | false=>
   simp only[Dr]at d;split at d
   next c H=>
    have F:cs = #[c]:=by apply dQ;simpa using H
    subst F;split at d
    next i x J hs=>
     split at d
     next cap buf O K M=>
      split at d
      next zv L=>
       exact A7k hT D A B u j J hs K M L d
      ·cases d
     ·cases d
    next i J hs=>
     split at d
     next cap buf zv K L=>
      exact A7v hT D A B u j J hs d K L
     ·cases d
    ·cases d
   ·cases d
 | _=>rw[j]at d;cases d
end
end
section
section
variable{w:World}(hT:Qc P T){call:Ah}(hC:ks P call)(hR:nX P round)
theorem Move.Bg{f':Loc}{w:World}(m:Move p f h w f' h' w')(d:Ld p n tm):Bg f n tm=Bg f' n tm:=Ku m.agree d
theorem tY(f:Loc)(n:Nat)(tm:Ay)(d:Option Tmp)(v:EV):mZ (Bg f n tm) d (Cm f v)=Bg f n (O9 n tm d v):=by
 cases d with
 | none=>rfl
 | some d=>exact MP f n tm d v
include hT hC hR in
theorem NV(G:Ld p n tm)(H:Tg p h)(J:Tt f h w)(A:execOp (Is tmps) o=execOp (Is (Bg f n tm)) o)(j:aop T call round tm o.op h=some (v,h')):
 iQ P o tmps p f h w v h':=by
 have K:=Tq (f:=f) G;unfold aop at j;rw[Bq]at j;split at j
 next hv=>
  split at j
  next v' L=>
   cases j;refine iQ.j' ?_ ⟨f,w,_,(by rw[A];exact Bjp hT f w K L),.inl rfl,Move.refl J,Wf.refl H,?_⟩
   ·cases C:o.op<;>first|rfl|(rw[C]at hv;cases hv)
   ·rw[J3 _ _ _ rfl];exact Bmk hT G L
  ·cases j
 ·split at j
  next fo args ag heq=>
   split at j
   next g first captured as S has=>
    obtain⟨⟨fn,W,X,D⟩,Y⟩:=hC _ _ _ _ _ j;intro b ops i rest k cs C hw;have M:=Ey (v:=.func g first captured) G S;have B:=pt G has;have E:EV.Tp p (first++(as++captured)):=Zq M.1 (Zq B M.2);obtain⟨fr,f',w',hs,ah,hl,hm,hwf,F⟩:=Y p f w H J E (b.at tmps (.inRegion ops (i::rest)::k)::cs);refine⟨f',w',?_,hm,hwf,F⟩;have he:args.map (Is (Bg f n tm))=(Bp f as).toArray:=by
     rw[<-Zp K has];simp only[<-List.map_toArray,eA]
    have u:(execOp (Is tmps) o).run P w=.ok (.enter g (Bp f (first++(as++captured))).toArray) w:=by
     rw[A];have hb:¬fn.body=none:=by cases hx:fn.body<;>simp_all
     have hn:¬fn.name = "runtime.NumGoroutine":=by simpa using D
     simp[execOp,heq,resolve,he,Bl K S,Cm,Deferred.ofValue,invoke,callFunc,W,hn,hb,Ta]
    refine .head (A0w C hw (by rw[heq];rfl) u) (hs.trans (.one ?_));rw[<-FB.finish_at b _ C];exact step_leave_returned hl
   next l as S has=>
    obtain⟨st,pd,fn,U,O,ps,d',body,d,Q,hg,Z,Y⟩:=hR _ _ _ _ _ j;intro b ops i rest k cs C hw;have B:=pt G has;obtain⟨f',w',hs,hm,hwf,F⟩:=Y p f w H J B (b.at tmps (.inRegion ops (i::rest)::k)) cs;refine⟨f',w',?_,hm,hwf,F⟩;have he:args.map (Is (Bg f n tm))=(Bp f as).toArray:=by
     rw[<-Zp K has];simp only[<-List.map_toArray,eA]
    obtain⟨r0,aa,rfl⟩:=J.obj l _ hg;obtain⟨hlen,ao,y⟩:=wZ f Z B (H.get l _ hg).2.1;have u:(execOp (Is tmps) o).run P w=.ok (.round (f.b l) fn (Bg f U Q) d' body) w:=by
     rw[A];have V:Array.foldl (fun tmps (x:Tmp × Value)=>tmps.setIfInBounds x.1 x.2) (Bg f U O) (ps.toArray.zip (Bp f as).toArray)=Bg f U Q:=by
      rw[<-y,List.zip_toArray,List.foldl_toArray]
     have ad:(getObj (f.b l)).run P w=.ok (.loop ⟨st,pd,fn,Bg f U O,ps.toArray,d',body,f.b d⟩) w:=N4 aa (by intros;simp);simp only[execOp,heq,resolve,he,Bl K S,Cm,Deferred.ofValue,invoke,Sem.run_bind,aS,aI,Instr.yield,Instr.getLoop,ad];simp[Cv,hlen];exact y
    refine .head (A1o C hw (by rw[heq];rfl) u) ?_;rw[<-FB.finish_at b _ C];exact hs
   ·cases j
  next aq=>
   exact Bof hT G H J A j
theorem Bb4(u:Ld p n tm)(ops:Array Oper)(j:Nat):Go.yielded ops (Bg f n tm) j=Ev.yielded ops.toList tm j:=by
 unfold Go.yielded Ev.yielded;rw[tO,cK];cases ops[j]? with
 | none=>rfl
 | some o=>
  simp only[Option.bind_some];cases o.dst with
  | none=>rfl
  | some d=>
   simp only[Option.bind_some];rw[qQ];by_cases hd:d<n
   ·rw[aK hd]
    unfold tmp;cases y:tm.get d with
    | none=>rfl
    | some v=>cases v<;>rfl
   ·rw[aH hd,u.out d (Nat.le_of_not_lt hd)]
theorem NW(d:Ld p n tm)(ops:Array Oper)(o:Oper):Region.wanted o (Go.yielded ops (Bg f n tm))=Ev.wanted ops.toList tm o.guard:=by
 unfold Region.wanted Ev.wanted;cases o.guard with
 | none=>rfl
 | some x=>
  obtain⟨j,want⟩:=x;simp only[];rw[Bb4 d];cases Ev.yielded ops.toList tm j with
  | none=>rfl
  | some b=>cases b<;>cases want<;>rfl
include hT hC hR in
theorem xm(ops:Array Oper):∀{l:List Oper} {i:Nat} {p:Nat->Prop} {f:Loc} {h:Ab} {w:World} {tm u:Ay} {h':Ab},l=ops.toList.drop i->Ld p n tm->Tg p h->Tt f h w ->
 jm T call round n ops.toList l tm h=some (u,h')->∀(b:FB) (k:List Item) (cs:List Frame),
  ∃f' w',Steps P (lone (b.at (Bg f n tm) (.inRegion ops (List.range' i l.length)::k)) cs w) (lone (b.at (Bg f' n u) (.inRegion ops []::k)) cs w') /\
   Move p f h w f' h' w'/\Wf p h h'/\Ld (grow p h h') n u
 | [],i,p,f,h,w,tm,u,h',L,A,J,K,d,b,k,cs=>by
  simp only[jm]at d;cases d;exact⟨f,w,.refl _ _,Move.refl K,Wf.refl J,by rw[J3 _ _ _ rfl];exact A⟩
 | o::r,i,p,f,h,w,tm,u,h',L,A,J,K,d,b,k,cs=>by
  have hi:ops[i]? = some o:=by
   have:=congrArg (fun l=>l[0]?) L;simp only[bR,cW,dA,cK]at this;exact this.symm
  have U:r=ops.toList.drop (i+1):=by
   have:=congrArg List.tail L;simpa [List.tail_drop]using this
  obtain⟨dst,op,ty,ps,M,g⟩:=o;simp only[jm]at d;rw[Bq]at d;have B:=NW (f:=f) A ops ⟨dst,op,ty,ps,M,g⟩;split at d
  next hw=>
   rw[hw]at B;split at d
   next v h1 H=>
    obtain⟨f1,w1,O,C,y,Q⟩:=NV hT hC hR A J K (o:=⟨dst,op,ty,ps,M,g⟩) rfl H b ops i (List.range' (i+1) r.length) k cs hi B;have D:Ld (grow p h h1) n (O9 n tm dst v):=(A.mono fun _ hi=>.inl hi).put dst Q;obtain⟨f2,w2,E,F,j,G⟩:=xm ops U D y.hok C.rep d b k cs;refine⟨f2,w2,?_,C.trans F,y.trans j,?_⟩
    ·rw[bP,List.range'_succ]
     refine O.trans ?_;rw[C.Bg A,tY];exact E
    ·rw[<-pa p y.next j.next];exact G
   ·cases d
  next hw=>
   have S:Region.wanted ⟨dst,op,ty,ps,M,g⟩ (Go.yielded ops (Bg f n tm))=false:=by rw[B];simpa using hw
   have D:Ld p n (O9 n tm dst (.tuple [])):=A.put dst trivial;obtain⟨f2,w2,E,F,j,G⟩:=xm ops U D J K d b k cs;refine⟨f2,w2,?_,F,j,G⟩;rw[bP,List.range'_succ];refine .head (NP hi S) ?_;have:(undef:Value)=Cm f (.tuple []):=rfl;rw[this,tY];exact E
end
end
structure AWf(h h':Ab):Prop where
 next:h.next<=h'.next
 mw:h'.mw<=h.mw
 same:∀q,q<h'.mw->q<h.next->h'.get q=h.get q
 live:∀q o,h'.get q=some o->(∃o',h.get q=some o')\/h.next<=q
 lt:(∀q o,h.get q=some o->q<h.next)->∀q o,h'.get q=some o->q<h'.next
theorem AWf.refl(h:Ab):AWf h h:=⟨aD _,aD _,fun _ _ _=>rfl,fun _ o d=>.inl ⟨o,d⟩,fun H=>H⟩
theorem AWf.trans {a b c:Ab}(x:AWf a b)(y:AWf b c):AWf a c where
 next:=bS x.next y.next
 mw:=bS y.mw x.mw
 same q h1 h2:=(y.same q h1 (aL h2 x.next)).trans (x.same q (aL h1 y.mw) h2)
 live q o d:=by
  rcases y.live q o d with⟨o',h1⟩|h1
  ·exact x.live q o' h1
  ·exact .inr (bS x.next h1)
 lt H:=y.lt (x.lt H)
theorem AWf.put{o:Ds}(hi:h.get i=some o)(o':Ds):AWf h (h.put i o') where
 next:=aD _
 mw:=by rw[Ab.mI];exact Nat.min_le_right _ _
 same q h1 _:=by rw[Ab.mI]at h1;rw[Ab.get_put,aH a_]
 live q x d:=by
  rw[Ab.get_put]at d;split at d
  next e=>subst e;exact .inl ⟨o,hi⟩
  ·exact .inl ⟨x,d⟩
 lt H q x d:=by
  rw[Ab.get_put]at d;split at d
  next e=>subst e;exact H _ _ hi
  ·exact H _ _ d
theorem AWf.new(h:Ab)(o:Ds):AWf h (h.new o) where
 next:=Nat.le_succ _
 mw:=aD _
 same q _ h2:=by rw[Ab.Kz,aH a_]
 live q x d:=by
  rw[Ab.Kz]at d;split at d
  next e=>exact .inr a_
  ·exact .inl ⟨x,d⟩
 lt H q x d:=by
  rw[Ab.Kz]at d;rw[Ab.Dd];split at d
  next e=>omega
  ·exact Nat.lt_succ_of_lt (H _ _ d)
theorem AWf.del(h:Ab)(i:Nat):AWf h (h.del i) where
 next:=aD _
 mw:=by rw[Ab.qs];exact Nat.min_le_right _ _
 same q h1 _:=by rw[Ab.qs]at h1;rw[Ab.kK,aH a_]
 live q x d:=by
  rw[Ab.kK]at d;split at d
  ·cases d
  ·exact .inl ⟨x,d⟩
 lt H q x d:=by
  rw[Ab.kK]at d;split at d
  ·cases d
  ·exact H _ _ d
theorem NX(d:L9 h i off vs=some h'):AWf h h':=by
 unfold L9 at d;split at d
 next j=>
  split at d
  ·cases d;exact .put j _
  ·cases d
 next j=>
  split at d
  ·cases d;exact .put j _
  ·cases d
 ·cases d
theorem Bi9{st:TypeId}{s x:EV}(d:append T st s x h=some (v,h')):AWf h h':=by
 unfold append at d;split at d
 ·split at d
  ·split at d
   ·rw[Bq]at d
    split at d
    ·split at d
     ·obtain⟨_,h2⟩:=An d;cases h2;exact .refl _
     ·cases d;exact .refl _
     ·cases d
    ·obtain⟨_,h2⟩:=An d
     split at h2
     ·split at h2
      ·cases h2;exact .new _ _
      ·obtain⟨_,j⟩:=An h2
       split at j
       ·rw[Bq]at j
        split at j
        ·obtain⟨_,j⟩:=An j
         obtain⟨_,j⟩:=An j;split at j
         ·obtain⟨_,j⟩:=An j
          obtain⟨_,j⟩:=An j;obtain⟨_,j⟩:=An j;cases j;exact(AWf.del _ _).trans (.new _ _)
         ·cases j
        ·obtain⟨_,j⟩:=Th j
         cases j;exact .new _ _
       ·cases j
      ·cases h2
     ·cases h2
   ·cases d
  ·cases d
 ·cases d
theorem Bgu{b:Builtin}(d:builtin T b ts args h=some (v,h')):AWf h h':=by
 unfold builtin at d;split at d
 ·split at d
  ·split at d
   ·exact Bi9 d
   ·cases d
  ·cases d
 ·split at d
  ·split at d
   ·cases d;exact .refl _
   ·split at d<;>first|(cases d;done)|(cases d;exact .refl _)
   ·cases d;exact .refl _
   ·split at d<;>first|(cases d;done)|(cases d;exact .refl _)
   ·cases d
  ·cases d
 ·split at d
  ·split at d
   ·split at d
    ·obtain⟨_,h2⟩:=Th d
     split at h2
     ·split at h2
      ·split at h2
       next hw=>cases h2;exact NX hw
       ·cases h2
      ·cases h2
     ·cases h2
    ·cases d
   ·cases d
  ·cases d
 ·split at d
  ·split at d
   ·obtain⟨_,h2⟩:=An d
    split at h2
    next j=>
     split at h2
     ·cases h2;exact .put j _
     ·cases h2;exact .put j _
     ·cases h2
    ·cases h2
   ·cases d
  ·cases d
 ·split at d<;>first|(cases d;done)|(cases d;exact .refl _)
 ·split at d<;>first|(cases d;done)|(cases d;exact .refl _)
 ·cases d
theorem Bpr{op:Op}(d:Dr T tm op h=some (v,h')):AWf h h':=by
 unfold Dr at d;split at d
 ·
  split at d
  ·split at d
   ·split at d
    ·split at d<;>first|(cases d;done)|(cases d;exact .refl _)
    ·cases d
   ·split at d<;>first|(cases d;done)|(cases d;exact .refl _)
   ·cases d
  ·cases d
 ·
  split at d
  ·obtain⟨_,h2⟩:=An d
   obtain⟨_,h2⟩:=An h2;split at h2
   next hw=>cases h2;exact NX hw
   ·cases h2
  ·cases d
 ·split at d<;>first|(cases d;done)|(cases d;exact .new _ _)
 ·split at d
  ·obtain⟨_,h2⟩:=An d;cases h2;exact .new _ _
  ·cases d
 ·split at d
  ·exact Bgu d
  ·cases d
 ·split at d
  ·split at d
   ·obtain⟨_,h2⟩:=An d
    split at h2
    ·cases h2;exact .new _ _
    ·cases h2
   ·cases d
  ·cases d
 ·split at d
  ·split at d
   ·obtain⟨_,h2⟩:=An d
    obtain⟨_,h2⟩:=An h2;cases h2;exact .new _ _
   ·cases d
  ·cases d
 ·cases d;exact .new _ _
 ·split at d
  ·split at d
   ·obtain⟨_,h2⟩:=An d;cases h2;exact .new _ _
   ·cases d
  ·cases d
 ·split at d
  ·obtain⟨_,h2⟩:=An d
   split at h2
   ·split at h2
    ·cases h2;exact .refl _
    ·split at h2<;>first|(cases h2;done)|(cases h2;exact .refl _)
    ·cases h2
   ·cases h2
  ·cases d
 ·split at d
  ·obtain⟨_,h2⟩:=An d
   split at h2
   next j=>
    split at h2
    ·cases h2;exact .put j _
    ·cases h2;exact .put j _
    ·cases h2
   ·cases h2
  ·cases d
 ·split at d
  ·split at d
   ·split at d
    next j _=>
     split at d
     ·rw[Bq]at d
      split at d
      ·cases d;exact .put j _
      ·cases d;exact .refl _
     ·cases d
    ·cases d
   ·split at d
    next j _=>
     split at d
     ·cases d;exact .put j _
     ·cases d;exact .refl _
    ·cases d
   ·cases d
  ·cases d
 ·cases d
def Vu(c:Ah):Prop:=∀g args h v h',c g args h=some (v,h')->AWf h h'
section
variable{call:Ah}(hC:Vu call)(hR:Vu round)
include hC hR
theorem NY{op:Op}(d:aop T call round tm op h=some (v,h')):AWf h h':=by
 unfold aop at d;rw[Bq]at d;split at d
 ·split at d<;>first|(cases d;done)|(cases d;exact .refl _)
 ·split at d
  ·split at d
   ·exact hC _ _ _ _ _ d
   ·exact hR _ _ _ _ _ d
   ·cases d
  ·exact Bpr d
theorem xn{ops:List Oper}:∀{l:List Oper} {tm j:Ay} {h h':Ab},jm T call round n ops l tm h=some (j,h')->AWf h h'
 | [],_,_,_,_,d=>by cases d;exact .refl _
 | ⟨dst,op,ty,ps,u,g⟩::r,tm,j,h,h',d=>by
  simp only[jm]at d;rw[Bq]at d;split at d
  ·split at d
   next h1=>
    exact(NY hC hR h1).trans (xn d)
   ·cases d
  ·exact xn d
end
end
end Go.Ev
