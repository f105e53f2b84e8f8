import GoSem.Step
import Derived.Control
import Derived.Calls
import Derived.Laws.CopyRow
import Derived.Great.FillDense
import Derived.Conc.LoneSelect
import Derived.Conc.LoneSelectN
set_option linter.all false
namespace Go.Ev
noncomputable section
theorem a_{p:Prop}(h:p:=by omega):p:=h
theorem c_{p:Prop}(h:p:=by decide):p:=h
theorem d_(d:Nat)(h:0<d:=by omega):∃k,d=k+1:=⟨d-1,by omega⟩
def aA:=@decide_false
def aB:=@decide_true
def aC:=@not_true_eq_false
def aD:=@Nat.le_refl
def aE.{u}:=@List.length_append.{u}
def aF.{u}:=@List.getElem?_eq_getElem.{u}
def aG.{u}:=@List.mem_of_mem_drop.{u}
def aH:=@not_false_eq_true
def aI:=@Result.andThen_ok
def aJ:=@Nat.eq_of_beq_eq_true
def aK.{u}:=@if_neg.{u}
def aL:=@Nat.lt_of_lt_of_le
def aM:=@Nat.ble_eq_true_of_le
def aN.{u}:=@if_pos.{u}
def aO:=@Nat.lt_succ_self
def aP.{u}:=@List.mem_singleton.{u}
def aQ:=@decide_eq_true
def aR:=@Sem.run_pure
def aS:=@decide_eq_false
def aT:=@Bool.false_eq_true
def aU.{u}:=@List.length_drop.{u}
def aV.{u}:=@List.mem_cons_of_mem.{u}
def aW.{u}:=@List.mem_cons_self.{u}
def aX:=@Int.ofNat_eq_natCast
def aY.{u,v}:=@List.getElem?_map.{u,v}
def aZ.{u}:=@List.getElem_mem.{u}
def ak.{u}:=@if_false.{u}
def av:=@decide_eq_true_eq
def bA.{u}:=@List.getElem?_eq_some_iff.{u}
def bB:=@Bool.false_and
def bD:=@Bool.and_eq_true
def bF:=@Bool.true_and
def bG:=@Nat.le_of_ble_eq_true
def bH.{u}:=@List.length_take.{u}
def bI:=@Nat.zero_add
def bJ:=@Int.toNat_natCast
def bK.{u}:=@List.take_of_length_le.{u}
def bL:=@Int.eq_ofNat_of_zero_le
def bM.{u}:=@if_true.{u}
def bN:=@Nat.le_trans
def bO.{u}:=@List.mem_append.{u}
def bP.{u}:=@List.length_cons.{u}
def bQ.{u}:=@List.append_assoc.{u}
def bR.{u}:=@List.getElem?_cons_zero.{u}
def bS.{u}:=@List.mem_of_mem_take.{u}
def bT.{u,v}:=@List.length_map.{u,v}
def bU:=@Nat.lt_irrefl
def bV.{u}:=@List.take_succ_eq_append_getElem.{u}
def bW.{u}:=@List.length_replicate.{u}
def bX.{u}:=@List.getElem?_toArray.{u}
def bY.{u}:=@List.length_set.{u}
def bZ.{u,v}:=@List.map_append.{u,v}
def bc.{u}:=@List.mem_cons.{u}
def bh.{u}:=@List.length_eq_zero_iff.{u}
def bm.{u}:=@List.getElem?_append_right.{u}
def br.{u}:=@Array.getElem?_eq_some_iff.{u}
def b9.{u,v}:=@List.mem_map.{u,v}
def cC.{u}:=@List.eq_of_mem_replicate.{u}
def cD:=@Nat.mul_one
def cF.{u}:=@List.take_length.{u}
def cI.{u}:=@List.getElem?_append_left.{u}
def cJ.{u}:=@List.flatten_cons.{u}
def cK.{u}:=@List.drop_drop.{u}
def cL:=@List.getElem?_range
def cM.{u}:=@List.getElem?_cons_succ.{u}
def cN.{u}:=@List.getElem?_eq_none.{u}
def cO:=@Nat.zero_le
def cP:=@Nat.beq_refl
def cQ.{u}:=@Array.getElem?_toList.{u}
def cR:=@step_lone_go
def cS.{u}:=@List.nil_append.{u}
def cT:=@Nat.not_lt_zero
def cU.{u}:=@Array.getElem?_eq_getElem.{u}
def cV.{u}:=@Option.some.injEq.{u}
def cW.{u}:=@List.append_nil.{u}
def cX:=@of_decide_eq_true
def cY.{u}:=@List.eq_nil_of_length_eq_zero.{u}
def cZ.{u,v}:=@List.map_cons.{u,v}
def cj.{u}:=@List.nodup_cons.{u}
def cm.{u}:=@List.flatten_append.{u}
def cn.{u}:=@Ne.symm.{u}
def cp.{u}:=@List.size_toArray.{u}
def cq.{u}:=@List.getElem?_drop.{u}
def cr.{u,v}:=@List.map_congr_left.{u,v}
def cu:=@List.range_succ
def cv.{u}:=@List.drop_eq_getElem_cons.{u}
def cy.{u}:=@List.nodup_nil.{u}
def cz:=@Int.negSucc_eq
def dE.{u}:=@Array.mem_toList_iff.{u}
def dG.{u}:=@List.drop_of_length_le.{u}
def dH:=@Nat.ble_eq
def dI:=@Nat.add_zero
def dJ:=@Nat.lt_or_ge
def dK.{u}:=@List.drop_zero.{u}
def dL:=@Bool.not_false
def dM:=@decide_eq_false_iff_not
def dN.{u}:=@List.drop_left.{u}
def dO.{u}:=@List.mem_or_eq_of_mem_set.{u}
def dP.{u}:=@List.take_append_of_le_length.{u}
def dQ.{u}:=@List.take_left.{u}
def dR.{u}:=@List.mem_of_getElem?.{u}
def dS.{u}:=@List.all_eq_true.{u}
def dU:=@Nat.zero_testBit
def dV:=@Int.toNat_of_nonneg
def dW.{u}:=@List.replicate_succ.{u}
def dX.{u}:=@Array.ext'.{u}
def dY.{u}:=@List.toList_toArray.{u}
def dZ.{u}:=@List.mem_filter.{u}
def dh.{u}:=@List.set_append_right.{u}
def eA.{u,v}:=@Option.map_some.{u,v}
def eB:=@Nat.min_eq_left
def eC:=@Nat.eq_zero_or_pos
def eD.{u}:=@List.getElem?_take.{u}
def eE:=@Nat.lt_succ_iff_lt_or_eq
def eH:=@Nat.xor_lt_two_pow
def eI:=@Int.mul_le_mul_of_nonneg_left
def eK.{u}:=@Array.toArray_toList.{u}
def eO:=@Bool.and_false
def eQ:=@Addr.add_lit
def eR.{u}:=@List.ext_getElem?.{u}
def eS.{u}:=@Array.getD_eq_getD_getElem?.{u}
def eU:=@Nat.pow_succ
def eV.{u}:=@List.filter_append.{u}
def eW.{u}:=@List.length_filter_le.{u}
def eX:=@List.mem_range
def eZ:=@Nat.pow_le_pow_right
def eh:=@List.length_range
def ek.{u}:=@Option.some.inj.{u}
def fB:=@Bool.not_true
def fC.{u,v}:=@Prod.mk.injEq.{u,v}
def fD.{u}:=@List.drop_append_of_le_length.{u}
def fF:=@Nat.div_div_eq_div_mul
def fG.{u}:=@Array.getElem?_eq_none.{u}
def fH:=@decide_eq_true_iff
def fI.{u}:=@Array.ext_getElem?.{u}
def fJ:=@Nat.succ_mul
def fK:=@Nat.le_succ
def fL.{u}:=@List.length_nil.{u}
def fM:=@Nat.sub_self
def fN:=@Bool.eq_iff_iff
def fO.{u}:=@List.mem_iff_getElem?.{u}
def fP:=@Nat.lt_succ_of_lt
def fQ:=@Int.fdiv_eq_ediv_of_nonneg
def fR:=@Nat.div_lt_of_lt_mul
def fS:=@Nat.shiftRight_eq_div_pow
def fT:=@decide_eq_decide
def fU.{u}:=@List.filter_cons.{u}
def fV:=@Nat.mod_eq_of_lt
def fW:=@Nat.add_mul
def fX:=@run_program
def fY.{u}:=@List.take_succ_cons.{u}
def fZ:=@Nat.zero_mul
def fm:=@Nat.mul_comm
def gA.{u}:=@List.cons.injEq.{u}
def gE.{u,v}:=@List.map_replicate.{u,v}
def gF:=@Go.setRow_other
def gG:=@Bool.true_eq_false
def gH:=@Nat.add_sub_cancel
def gI:=@Nat.min_def
def gJ:=@Nat.mul_le_mul
def gK.{u}:=@List.take_zero.{u}
def gN:=@Go.setRow_heap
def gO:=@Nat.sub_zero
def gP:=@false_and
def gQ:=@true_and
variable {x:Operand}{i m n cap off jU:Nat}{p q:Nat->Prop}{ρ:Operand->Value}{k':IntKind}{op:BinOp}{e t ty:TypeId}{o:Oper}{w':World}{ps:Array (Nat × Operand)}{fc:List MapEntry}{P:Program}{base:Option Addr}{ts:Array TypeId}{ops:Array Oper}{tmps:Array Value}{α:Type}
noncomputable section
inductive Tr (α:Type) where
 | nil
 | node (l:Tr α) (v:Option α) (r:Tr α)
def Bb {α:Type}(b:Bool)(x y:α):α:=@Bool.rec (fun _=>α) y x b
def Tr.get {α:Type}(t:Tr α):Nat->Option α:=
 @Tr.rec α (fun _=>Nat->Option α) (fun _=>none)
  (fun _ v _ d j i=>@Bool.rec (fun _=>Option α) (@Bool.rec (fun _=>Option α) (j (Nat.pred (Nat.div i 2))) (d (Nat.div i 2)) (Nat.beq (Nat.land i 1) 1)) v (Nat.beq i 0)) t
def Tr.lf {α:Type}(x:Option α)(r:Tr α)(t:Tr α):Tr α:=@Tr.rec α (fun _=>Tr α) .nil (fun a b c _ _=>.node (.node a b c) x r) t
def Tr.rt {α:Type}(l:Tr α)(x:Option α)(t:Tr α):Tr α:=@Tr.rec α (fun _=>Tr α) .nil (fun a b c _ _=>.node l x (.node a b c)) t
def Tr.set {α:Type}(n:Nat):Tr α->Nat->Option α->Tr α:=
 @Nat.rec (fun _=>Tr α->Nat->Option α->Tr α) (fun t _ _=>t)
  (fun _ d t i v=>@Tr.rec α (fun _=>Tr α)
   (@Bool.rec (fun _=>Tr α) (@Bool.rec (fun _=>Tr α) (Tr.rt .nil none (d .nil (Nat.pred (Nat.div i 2)) v)) (Tr.lf none .nil (d .nil (Nat.div i 2) v)) (Nat.beq (Nat.land i 1) 1)) (.node .nil v .nil) (Nat.beq i 0))
   (fun l x r _ _=>@Bool.rec (fun _=>Tr α) (@Bool.rec (fun _=>Tr α) (Tr.rt l x (d r (Nat.pred (Nat.div i 2)) v)) (Tr.lf x r (d l (Nat.div i 2) v)) (Nat.beq (Nat.land i 1) 1)) (.node l v r) (Nat.beq i 0)) t) n
def Tr.put {α:Type}(t:Tr α)(i:Nat)(v:Option α):Tr α:=Tr.set (Nat.succ (Nat.log2 (Nat.succ i))) t i v
inductive EV where
 | int (k:IntKind) (n:Int)
 | bool (b:Bool)
 | str (s:ByteArray)
 | ptr (i off:Nat)
 | Bz
 | slice (i off len room:Nat) (op:Bool)
 | tail (i off poff:Nat)
 | An
 | odd (a:Addr)
 | map (i:Nat)
 | Al9
 | chan (i:Nat)
 | Aex
 | func (f:Nat) (first captured:List EV)
 | U5 (l:Nat)
 | Ahh
 | Ab6
 | agg (l:List EV)
 | tuple (l:List EV)
 deriving Inhabited
def EV.cells:EV->List EV
 | .agg l=>l
 | v=>[v]
def EV.plain:EV->Bool
 | .tuple _=>false
 | _=>true
inductive Ds where
 | cells (l:List EV) (elem:TypeId)
 | vec (l:List EV) (elem:TypeId) (size:Nat)
 | map (es:List (EV × EV))
 | chan (cap:Nat) (buf:List EV)
 | loop (state:LoopState) (pending:Option Code) (fn:FuncId) (n:Nat) (tmps:Tr EV) (params:List Tmp) (assign body:Code) (defers:Nat)
 | deferred (open_:Bool)
 | view (ws:List (Nat × List EV)) (r:Obj)
structure Ab where
 t:Tr Ds
 next:Nat
 mw:Nat
def Ab.get:Ab->Nat->Option Ds
 | ⟨t,_,_⟩,i=>t.get i
def Ab.put:Ab->Nat->Ds->Ab
 | ⟨t,n,m⟩,i,o=>⟨t.put i (some o),n,Bb (Nat.ble i m) i m⟩
def Ab.del:Ab->Nat->Ab
 | ⟨t,n,m⟩,i=>⟨t.put i none,n,Bb (Nat.ble i m) i m⟩
def Ab.new:Ab->Ds->Ab
 | ⟨t,n,m⟩,o=>⟨t.put n (some o),Nat.succ n,m⟩
structure Ajg where
 fn:Nat
 n:Nat
 tmps:Tr EV
 todo:List Item
 defers:List Nat
 ret:Bool
 Dr:Option Nat
structure Hz where
 fr:Ajg
 h:Ab
structure I5 where
 fn:Nat->Option Func
 Ud:Nat->Option TypeDesc
 size:Nat->Option Nat
 zero:Nat->Option (List EV)
 agg:Nat->Option Bool
 eqs:Nat->Option (List Nat)
 key:Nat->Bool
abbrev Ah:=Nat->List EV->Ab->Option (EV × Ab)
def pR:Value->Option EV
 | .int k n=>some (.int k n)
 | .bool b=>some (.bool b)
 | .string s=>some (.str s)
 | .pointer none=>some .Bz
 | .slice none 0 0=>some .An
 | .map none=>some .Al9
 | .chan none=>some .Aex
 | .nilFunc=>some .Ahh
 | .nilIface=>some .Ab6
 | _=>none
def pT:List Value->Option (List EV)
 | []=>some []
 | v::r=>match pR v with
  | some x=>match pT r with
   | some y=>some (x::y)
   | none=>none
  | none=>none
def ofV:Value->Option EV
 | .agg cs=>match pT cs.toList with|some l=>some (.agg l)|none=>none
 | .tuple cs=>match cs.toList with | []=>some (.tuple [])|_=>none
 | v=>pR v
abbrev Ba:=Tr EV
def tmp(tm:Ba)(t:Nat):EV:=match tm.get t with|some v=>v|none=>.tuple []
def Cg(tm:Ba):Operand->Option EV
 | .tmp t=>some (match tm.get t with|some v=>v|none=>.tuple [])
 | .const v=>ofV v
 | .global _=>none
 | .func f=>some (.func f [] [])
def Nj(tm:Ba):List Operand->Option (List EV)
 | []=>some []
 | x::r=>match Cg tm x with
  | some a=>match Nj tm r with
   | some b=>some (a::b)
   | none=>none
  | none=>none
def Qu(n:Nat)(tm:Ba)(d:Option Tmp)(v:EV):Ba:=
 match d with
 | none=>tm
 | some d=>Bb (Nat.ble (Nat.succ d) n) (tm.put d (some v)) tm
def len(l:List EV):Nat:=match l with | []=>0|_::r=>Nat.succ (len r)
def Zy:List EV->Nat->List EV
 | [],_=>[]
 | a::r,n=>Bb (Nat.beq n 0) (a::r) (Zy r (Nat.pred n))
def takeN:List EV->Nat->Option (List EV)
 | [],n=>Bb (Nat.beq n 0) (some []) none
 | a::r,n=>Bb (Nat.beq n 0) (some []) (match takeN r (Nat.pred n)with|some x=>some (a::x)|none=>none)
def J0:List EV->List EV->Option (List EV)
 | l,[]=>some l
 | a::r,v::vs=>match J0 r vs with|some x=>some (v::x)|none=>none
 | [],_::_=>none
def Fx:List EV->Nat->List EV->Option (List EV)
 | [],off,vs=>Bb (Nat.beq off 0) (J0 [] vs) none
 | a::r,off,vs=>Bb (Nat.beq off 0) (J0 (a::r) vs) (match Fx r (Nat.pred off) vs with|some x=>some (a::x)|none=>none)
def j'(ws:List (Nat × List EV))(off:Nat):Option (Nat × List EV):=
 match ws with
 | []=>none
 | (o,l)::r=>Bb (Bb (Nat.ble o off) (Nat.ble (Nat.succ (Nat.sub off o)) (len l)) false) (some (o,l)) (j' r off)
def Jn(h:Ab)(i off n:Nat):Option (List EV):=
 match h.get i with
 | some (.cells l _)=>takeN (Zy l off) n
 | some (.vec l _ _)=>takeN (Zy l off) n
 | some (.view ws _)=>match j' ws off with|some (o,l)=>takeN (Zy l (Nat.sub off o)) n|none=>none
 | _=>none
def Mx(h:Ab)(i off:Nat)(vs:List EV):Option Ab:=
 match h.get i with
 | some (.cells l t)=>match Fx l off vs with|some l'=>some (h.put i (.cells l' t))|none=>none
 | some (.vec l t s)=>match Fx l off vs with|some l'=>some (h.put i (.vec l' t s))|none=>none
 | _=>none
def uE:IntKind->Nat
 | .u8=>256 | .u16=>65536 | .u32=>4294967296 | .u64=>18446744073709551616 | .i8=>128 | .i16=>32768 | .i32=>2147483648 | .i64=>9223372036854775808
def floor:IntKind->Nat
 | .i8=>128 | .i16=>32768 | .i32=>2147483648 | .i64=>9223372036854775808|_=>0
def Cs(k:IntKind)(n:Int):Int:=
 match n with
 | .ofNat m=>Bb (Nat.ble (Nat.succ m) (uE k)) (.ofNat m) (k.wrap (.ofNat m))
 | .negSucc m=>Bb (Nat.ble (Nat.succ m) (floor k)) (.negSucc m) (k.wrap (.negSucc m))
def Pv:IntKind->Nat
 | .u8=>0 | .u16=>1 | .u32=>2 | .u64=>3 | .i8=>4 | .i16=>5 | .i32=>6 | .i64=>7
def j_:Int->Int->Bool
 | .ofNat a,.ofNat b=>Nat.ble (Nat.succ a) b
 | .ofNat _,.negSucc _=>false
 | .negSucc _,.ofNat _=>true
 | .negSucc a,.negSucc b=>Nat.ble (Nat.succ b) a
def iE:Int->Int->Bool
 | .ofNat a,.ofNat b=>Nat.beq a b
 | .negSucc a,.negSucc b=>Nat.beq a b
 | _,_=>false
def pU:List UInt8->List UInt8->Bool
 | [],[]=>true
 | a::r,b::s=>Bb (Nat.beq a.toNat b.toNat) (pU r s) false
 | _,_=>false
def jC:EV->EV->Option Bool
 | .int k a,.int k' b=>Bb (Nat.beq (Pv k) (Pv k')) (some (iE a b)) none
 | .str a,.str b=>some (pU a.data.toList b.data.toList)
 | .bool a,.bool b=>some (Bb a b (Bb b false true))
 | _,_=>none
def Ey:List EV->List EV->Option Bool
 | [],[]=>some true
 | a::r,b::s=>match jC a b with
  | some true=>Ey r s
  | some false=>match Ey r s with|some _=>some false|none=>none
  | none=>none
 | _,_=>none
def shaped:List Nat->List EV->Bool
 | [],[]=>true
 | b::s,.int _ _::l=>Bb (Nat.beq b 0) (shaped s l) false
 | b::s,.bool _::l=>Bb (Nat.beq b 1) (shaped s l) false
 | b::s,.str _::l=>Bb (Nat.beq b 2) (shaped s l) false
 | _,_=>false
def jq(T:I5)(t:TypeId):EV->EV->Option Bool
 | .agg a,.agg b=>match T.eqs t with|some sh=>Bb (shaped sh a) (Ey a b) none|none=>none
 | .bool a,.bool b=>match T.Ud t with
  | some .bool=>some (Bb a b (Bb b false true))
  | _=>none
 | .Bz,.Bz=>match T.Ud t with|some (.pointer _)=>some true|_=>none
 | .Bz,.ptr _ _=>match T.Ud t with|some (.pointer _)=>some false|_=>none
 | .ptr _ _,.Bz=>match T.Ud t with|some (.pointer _)=>some false|_=>none
 | .ptr i o,.ptr j p=>match T.Ud t with|some (.pointer e)=>(match T.size e with|some _=>Bb (Nat.beq i j) (Bb (Nat.beq o p) (some true) none) none|none=>none)|_=>none
 | .An,.An=>match T.Ud t with|some (.slice _)=>some true|_=>none
 | .slice ..,.An=>match T.Ud t with|some (.slice _)=>some false|_=>none
 | .tail ..,.An=>match T.Ud t with|some (.slice _)=>some false|_=>none
 | _,_=>none
def pN(op:BinOp)(k:IntKind)(a b:Int):Option EV:=
 match op with
 | .add=>some (.int k (Cs k (Int.add a b)))
 | .sub=>some (.int k (Cs k (Int.sub a b)))
 | .mul=>some (.int k (Cs k (Int.mul a b)))
 | .quo=>Bb (iE b 0) none (some (.int k (Cs k (a.tdiv b))))
 | .rem=>Bb (iE b 0) none (some (.int k (a.tmod b)))
 | .and=>match a,b with | .ofNat a,.ofNat b=>some (.int k (Cs k (.ofNat (Nat.land a b))))|_,_=>none
 | .or=>match a,b with | .ofNat a,.ofNat b=>some (.int k (Cs k (.ofNat (Nat.lor a b))))|_,_=>none
 | .xor=>match a,b with | .ofNat a,.ofNat b=>some (.int k (Cs k (.ofNat (Nat.xor a b))))|_,_=>none
 | .lss=>some (.bool (j_ a b))
 | .leq=>some (.bool (Bb (j_ b a) false true))
 | .gtr=>some (.bool (j_ b a))
 | .geq=>some (.bool (Bb (j_ a b) false true))
 | .eql=>some (.bool (iE a b))
 | .neq=>some (.bool (Bb (iE a b) false true))
 | _=>none
def uF(op:BinOp)(k:IntKind)(a:Int)(b:Nat):Option EV:=
 match op with
 | .shl=>some (.int k (Cs k (Int.mul a (.ofNat (Nat.pow 2 (Bb (Nat.ble b k.bits) b k.bits))))))
 | .shr=>match a with
  | .ofNat a=>some (.int k (.ofNat (Nat.shiftRight a (Bb (Nat.ble b k.bits) b k.bits))))
  | .negSucc _=>some (.int k (a.fdiv (.ofNat (Nat.pow 2 (Bb (Nat.ble b k.bits) b k.bits)))))
 | _=>none
def ur:BinOp->Bool
 | .shl=>true
 | .shr=>true
 | _=>false
def bin(T:I5)(op:BinOp)(t:TypeId)(x y:EV):Option EV:=
 match x,y with
 | .int k a,.int k' b=>Bb (ur op) (match b with | .ofNat b=>uF op k a b | .negSucc _=>none)
  (Bb (Nat.beq (Pv k) (Pv k')) (pN op k a b) none)
 | x,y=>match op with
  | .eql=>match jq T t x y with|some b=>some (.bool b)|none=>none
  | .neq=>match jq T t x y with|some b=>some (.bool (Bb b false true))|none=>none
  | _=>none
def fill(place:Nat->Option (Nat × Nat))(cells:List EV):List (Nat × EV)->Option (List EV)
 | []=>some cells
 | (i,v)::rest=>
  match place i with
  | none=>none
  | some (off,size)=>Bb (v.plain) (Bb (Nat.beq (len v.cells) size) (match Fx cells off v.cells with
   | some c=>fill place c rest
   | none=>none) none) none
def Zq(tm:Ba):List (Nat × Operand)->Option (List (Nat × EV))
 | []=>some []
 | (i,x)::r=>match Cg tm x with
  | some a=>match Zq tm r with
   | some b=>some ((i,a)::b)
   | none=>none
  | none=>none
def rep(l:List EV):Nat->List EV
 | 0=>[]
 | n+1=>l++rep l n
def bound(x:Option EV)(hi jU:Nat):Option Nat:=
 match x with
 | none=>some jU
 | some (.int _ (.ofNat n))=>Bb (Nat.ble n hi) (some n) none
 | _=>none
def iJ(x:EV)(size:Nat)(lo hi mx:Option EV):Option EV:=
 match x with
 | .slice i off len room op=>
  match mx with
  | none=>
   match bound hi room len with
   | none=>none
   | some h=>match bound lo h 0 with
    | none=>none
    | some l=>
     Bb op
      (Bb (Nat.beq l 0) (some (.slice i off h room true))
       (Bb (Nat.ble (Nat.succ l) room) (some (.slice i (Nat.add off (Nat.mul l size)) (Nat.sub h l) (Nat.sub room l) true))
        (Bb (Nat.beq l room) (Bb (Nat.beq h l) (some (.tail i (Nat.add off (Nat.mul l size)) off)) none) none)))
      (Bb (Nat.ble l room) (some (.slice i (Bb (Nat.beq room l) off (Nat.add off (Nat.mul l size))) (Nat.sub h l) (Nat.sub room l) false)) none)
  | some _=>
   match bound mx room 0,hi with
   | some m,some _=>match bound hi m 0 with
    | none=>none
    | some h=>match bound lo h 0 with
     | none=>none
     | some l=>some (.slice i (Bb (Nat.beq m l) off (Nat.add off (Nat.mul l size))) (Nat.sub h l) (Nat.sub m l) false)
   | _,_=>none
 | .An=>
  match mx with
  | none=>
   match bound hi 0 0 with
   | none=>none
   | some h=>match bound lo h 0 with
    | none=>none
    | some _=>some .An
  | some _=>none
 | _=>none
def jd(tm:Ba):Option Operand->Option (Option EV)
 | none=>some none
 | some x=>match Cg tm x with
  | some v=>some (some v)
  | none=>none
def lenOf:EV->Option Nat
 | .An=>some 0
 | .slice _ _ n _ _=>some n
 | .tail ..=>some 0
 | .odd _=>some 0
 | _=>none
def cellsOf(h:Ab)(size n:Nat):EV->Option (List EV)
 | .An=>Bb (Nat.beq n 0) (some []) none
 | .slice i off _ _ _=>Bb (Nat.beq n 0) (some []) (Jn h i off (Nat.mul n size))
 | .tail ..=>Bb (Nat.beq n 0) (some []) none
 | _=>none
def append(T:I5)(st:TypeId)(s x:EV)(h:Ab):Option (EV × Ab):=
 match T.Ud st with
 | some (.slice e)=>match T.size e,T.zero e with
  | some size,some _=>match lenOf x with
   | some n=>Bb (Nat.beq n 0)
    (match s with
     | .slice _ _ d room _=>Bb (Nat.ble d room) (some (s,h)) none
     | .An=>some (s,h)
     | _=>none)
    (Bb (Nat.ble n 65536) (match cellsOf h size n x with
    | some new=>
     (match s with
     | .An=>some (.slice h.next 0 n n true,h.new (.vec new e size))
     | .slice i off d room op=>Bb (Nat.ble d 1048576) (match cellsOf h size d s with
      | some Cn=>
       Bb op
        (Bb (Nat.beq off 0) (Bb (Nat.beq room d) (match h.get i with
         | some (.vec l e' s')=>Bb (Nat.beq (len l) (Nat.mul d size)) (Bb (Nat.beq s' size) (Bb (Nat.beq e' e)
          (some (.slice h.next 0 (Nat.add d n) (Nat.add d n) true,(h.del i).new (.vec (Cn++new) e size))) none) none) none
         | _=>none) none) none)
        (Bb (Nat.ble (Nat.add d n) room) none (some (.slice h.next 0 (Nat.add d n) (Nat.add d n) true,h.new (.vec (Cn++new) e size))))
      | none=>none) none
     | _=>none)
    | none=>none) none)
   | none=>none
  | _,_=>none
 | _=>none
def mu:EV->EV->Option Bool
 | .agg a,.agg b=>Ey a b
 | .int k a,.int k' b=>Bb (Nat.beq (Pv k) (Pv k')) (some (iE a b)) none
 | _,_=>none
def O6(T:I5)(t:TypeId):EV->Bool
 | .agg a=>Bb (T.key t) (match T.eqs t with
  | some sh=>Bb (shaped sh a) (match Ey a a with|some _=>true|none=>false) false
  | none=>false) false
 | .int k _=>match T.Ud t with
  | some (.int k')=>Nat.beq (Pv k) (Pv k')
  | _=>false
 | _=>false
def Ip(k:EV):List (EV × EV)->Nat->Option (Option (Nat × EV))
 | [],_=>some none
 | (a,b)::r,i=>match mu k a with
  | some true=>some (some (i,b))
  | some false=>Ip k r (Nat.succ i)
  | none=>none
def hU(mx:Bool)(k:IntKind)(a:Int):List EV->Option EV
 | []=>some (.int k a)
 | .int _ b::r=>hU mx k (Bb (Bb mx (j_ a b) (j_ b a)) b a) r
 | _=>none
def xZ(l:List UInt8):Nat:=match l with | []=>0|_::r=>Nat.succ (xZ r)
def builtin(T:I5)(b:Builtin)(ts:Array TypeId)(args:List EV)(h:Ab):Option (EV × Ab):=
 match b,args with
 | .append,[s,x]=>match ts.toList with | [t,u]=>(match T.Ud u with|some (.slice _)=>append T t s x h|_=>none)|_=>none
 | .len,[x]=>match ts.toList with
  | [t]=>match T.Ud t,x with
   | some (.array n _),_=>some (.int .i64 (.ofNat n),h)
   | some (.slice _),x=>match lenOf x with|some n=>some (.int .i64 (.ofNat n),h)|none=>none
   | some .string,.str s=>some (.int .i64 (.ofNat (xZ s.data.toList)),h)
   | some (.chan ..),.chan i=>match h.get i with|some (.chan _ buf)=>some (.int .i64 (.ofNat (len buf)),h)|_=>none
   | _,_=>none
  | _=>none
 | .copy,[d,s]=>match ts.toList with
  | [t,u]=>match T.Ud t,T.Ud u with
   | some (.slice e),some (.slice _)=>match T.size e,lenOf d,lenOf s with
    | some size,some dn,some sn=>
     let n:=Bb (Nat.ble sn dn) sn dn
     Bb (Nat.beq n 0) none (match cellsOf h size n s with
     | some cs=>(match d with
      | .slice i off _ _ _=>match Mx h i off cs with|some h'=>some (.int .i64 (.ofNat n),h')|none=>none
      | _=>none)
     | none=>none)
    | _,_,_=>none
   | _,_=>none
  | _=>none
 | .delete,[m,k]=>match ts.toList with
  | t::_=>match T.Ud t,m with
   | some (.map y _),.map i=>Bb (O6 T y k) (match h.get i with
    | some (.map es)=>match Ip k es 0 with
     | some (some (j,_))=>some (.tuple [],h.put i (.map (es.eraseIdx j)))
     | some none=>some (.tuple [],h.put i (.map es))
     | none=>none
    | _=>none) none
   | _,_=>none
  | _=>none
 | .min,.int k a::l=>match hU false k a l with|some v=>some (v,h)|none=>none
 | .max,.int k a::l=>match hU true k a l with|some v=>some (v,h)|none=>none
 | _,_=>none
def part(T:I5)(t:TypeId)(cs:List EV)(off:Nat):Option EV:=
 match T.agg t with
 | some true=>(match T.size t with
  | some n=>match takeN (Zy cs off) n with|some l=>some (.agg l)|none=>none
  | none=>none)
 | some false=>(match Zy cs off with|v::_=>some v | []=>none)
 | none=>none
def mm(l:List Field)(i:Nat):Option Field:=
 match l with
 | []=>none
 | a::r=>Bb (Nat.beq i 0) (some a) (mm r (Nat.pred i))
def zeroOf(T:I5)(t:TypeId):Option EV:=
 match T.zero t with
 | some z=>match T.agg t with
  | some true=>some (.agg z)
  | some false=>(match z with | [v]=>some v|_=>none)
  | none=>none
 | none=>none
def placesOf(T:I5):List Field->Option (List (Nat × Nat))
 | []=>some []
 | f::r=>match T.size f.type with
  | some n=>match placesOf T r with
   | some l=>some ((f.offset,n)::l)
   | none=>none
  | none=>none
def kY(l:List (Nat × Nat))(i:Nat):Option (Nat × Nat):=
 match l with
 | []=>none
 | a::r=>Bb (Nat.beq i 0) (some a) (kY r (Nat.pred i))
def pV(l:List UInt8)(i:Nat):Option UInt8:=
 match l with
 | []=>none
 | a::r=>Bb (Nat.beq i 0) (some a) (pV r (Nat.pred i))
def E6(T:I5)(tm:Ba)(op:Op):Option EV:=
 match op with
 | .move x=>Cg tm x
 | .assign x=>Cg tm x
 | .pick c a b=>match Cg tm c with
  | some (.bool true)=>Cg tm a
  | some (.bool false)=>Cg tm b
  | _=>none
 | .binOp op t x y _=>match Cg tm x with
  | some a=>match Cg tm y with
   | some b=>bin T op t a b
   | none=>none
  | none=>none
 | .unOp .not _ x=>match Cg tm x with
  | some (.bool b)=>some (.bool (Bb b false true))
  | _=>none
 | .unOp .neg _ x=>match Cg tm x with
  | some (.int k n)=>some (.int k (Cs k (Int.sub 0 n)))
  | _=>none
 | .nilCheck x=>match Cg tm x with
  | some (.ptr i o)=>some (.ptr i o)
  | _=>none
 | .fieldAddr s x f=>match Cg tm x with
  | some (.ptr i off)=>match T.Ud s with
   | some (.struct fields)=>match mm fields.toList f with
    | some fd=>match T.size fd.type with
     | some n=>Bb (Nat.beq n 0) none (some (.ptr i (Nat.add off fd.offset)))
     | none=>none
    | none=>none
   | _=>none
  | _=>none
 | .indexAddr t x ix=>match Cg tm ix with
  | some (.int _ (.ofNat n))=>match T.Ud t,Cg tm x with
   | some (.array len e),some (.ptr i off)=>match T.size e with
    | some s=>Bb (Nat.ble (Nat.succ n) len) (some (.ptr i (Nat.add off (Nat.mul n s)))) none
    | none=>none
   | some (.slice e),some (.slice i off len _ _)=>match T.size e with
    | some s=>Bb (Nat.ble (Nat.succ n) len) (some (.ptr i (Nat.add off (Nat.mul n s)))) none
    | none=>none
   | _,_=>none
  | _=>none
 | .index t x ix=>match Cg tm ix with
  | some (.int _ (.ofNat n))=>match T.Ud t,Cg tm x with
   | some (.array len e),some (.agg cs)=>match T.size e with
    | some s=>Bb (Nat.ble (Nat.succ n) len) (part T e cs (Nat.mul n s)) none
    | none=>none
   | some .string,some (.str s)=>match pV s.data.toList n with
    | some b=>some (.int .u8 (.ofNat b.toNat))
    | none=>none
   | _,_=>none
  | _=>none
 | .field t x f=>match T.Ud t,Cg tm x with
  | some (.struct fields),some (.agg cs)=>match mm fields.toList f with
   | some fd=>part T fd.type cs fd.offset
   | none=>none
  | _,_=>none
 | .convert src dst x=>match T.Ud src,T.Ud dst,Cg tm x with
  | some _,some (.int k),some (.int _ n)=>some (.int k (Cs k n))
  | _,_,_=>none
 | .extract x ix=>match Cg tm x with
  | some (.tuple l)=>match Zy l ix with|v::_=>some v | []=>none
  | _=>none
 | .slice t x lo hi mx=>
  match jd tm lo,jd tm hi,jd tm mx with
  | some lo,some hi,some mx=>match T.Ud t,Cg tm x with
   | some (.array n e),some (.ptr i off)=>match T.size e with
    | some s=>iJ (.slice i off n n false) s lo hi mx
    | none=>none
   | some (.slice e),some v=>match T.size e with
    | some s=>iJ v s lo hi mx
    | none=>none
   | _,_=>none
  | _,_,_=>none
 | .build t ps=>match T.zero t,Zq tm ps.toList,T.Ud t with
  | some z,some l,some (.struct fields)=>match placesOf T fields.toList with
   | some ps=>match fill (kY ps) z l with
    | some c=>some (.agg c)
    | none=>none
   | none=>none
  | some z,some l,some (.array _ e)=>match T.size e with
   | some s=>match fill (fun i=>some (Nat.mul i s,s)) z l with
    | some c=>some (.agg c)
    | none=>none
   | none=>none
  | _,_,_=>none
 | .makeFunc (.func f) first captured=>match Nj tm first.toList,Nj tm captured.toList with
  | some a,some b=>some (.func f a b)
  | _,_=>none
 | .sliceToArrayPointer t x=>match T.Ud t,Cg tm x with
  | some (.array n _),some (.slice i off len _ _)=>Bb (Nat.ble n len) (some (.ptr i off)) none
  | _,_=>none
 | _=>none
def nu:Op->Bool
 | .move _=>true | .assign _=>true | .pick ..=>true | .binOp ..=>true | .unOp ..=>true | .nilCheck _=>true | .fieldAddr ..=>true | .indexAddr ..=>true | .index ..=>true
 | .field ..=>true | .convert ..=>true | .extract ..=>true | .slice ..=>true | .build ..=>true | .makeFunc ..=>true | .sliceToArrayPointer ..=>true
 | _=>false
def Dx(T:I5)(tm:Ba)(op:Op)(h:Ab):Option (EV × Ab):=
 match op with
 | .load t a=>match Cg tm a with
  | some (.ptr i off)=>match T.agg t with
   | some true=>(match T.size t with
    | some n=>match Jn h i off n with|some l=>some (.agg l,h)|none=>none
    | none=>none)
   | some false=>(match Jn h i off 1 with|some [v]=>some (v,h)|_=>none)
   | none=>none
  | _=>none
 | .store t a x=>match Cg tm a,Cg tm x,T.size t with
  | some (.ptr i off),some v,some n=>Bb (v.plain) (Bb (Nat.beq (len v.cells) n)
   (match Mx h i off v.cells with|some h'=>some (.tuple [],h')|none=>none) none) none
  | _,_,_=>none
 | .alloc t=>match T.zero t with
  | some z=>some (.ptr h.next 0,h.new (.cells z t))
  | none=>none
 | .box t x=>match Cg tm x with
  | some v=>Bb v.plain (some (.ptr h.next 0,h.new (.cells v.cells t))) none
  | none=>none
 | .call { callee:=.builtin b,args,argTypes }=>match Nj tm args.toList with
  | some as=>builtin T b argTypes as h
  | none=>none
 | .buildSlice t n ps=>match T.Ud t,Zq tm ps.toList with
  | some (.slice e),some l=>match T.size e,T.zero e with
   | some s,some z=>Bb (Nat.ble (Nat.mul n s) 65536) (match fill (fun i=>some (Nat.mul i s,s)) (rep z n) l with
    | some c=>some (.slice h.next 0 n n false,h.new (.cells c e))
    | none=>none) none
   | _,_=>none
  | _,_=>none
 | .makeSlice t l c=>match T.Ud t,Cg tm l,Cg tm c with
  | some (.slice e),some (.int _ (.ofNat n)),some (.int _ (.ofNat m))=>match T.zero e with
   | some z=>Bb (Nat.ble n m) (Bb (Nat.ble m 65536) (some (.slice h.next 0 n m false,h.new (.cells (rep z m) e))) none) none
   | none=>none
  | _,_,_=>none
 | .makeMap _ none=>some (.map h.next,h.new (.map []))
 | .makeChan t s=>match T.Ud t,Cg tm s with
  | some (.chan _ e),some (.int _ (.ofNat n))=>match T.size e with
   | some _=>Bb (Nat.ble n 65536) (some (.chan h.next,h.new (.chan n []))) none
   | none=>none
  | _,_=>none
 | .lookup t x k ok=>match T.Ud t,Cg tm x,Cg tm k with
  | some (.map u e),some (.map i),some d=>Bb (O6 T u d) (match h.get i with
   | some (.map es)=>match Ip d es 0 with
    | some (some (_,v))=>some (Bb ok (.tuple [v,.bool true]) v,h)
    | some none=>match zeroOf T e with
     | some zv=>some (Bb ok (.tuple [zv,.bool false]) zv,h)
     | none=>none
    | none=>none
   | _=>none) none
  | _,_,_=>none
 | .mapUpdate t m k x=>match T.Ud t,Cg tm m,Cg tm k,Cg tm x with
  | some (.map u _),some (.map i),some d,some v=>Bb (O6 T u d) (match h.get i with
   | some (.map es)=>match Ip d es 0 with
    | some (some (j,_))=>some (.tuple [],h.put i (.map (es.set j (d,v))))
    | some none=>some (.tuple [],h.put i (.map (es++[(d,v)])))
    | none=>none
   | _=>none) none
  | _,_,_,_=>none
 | .select cs false=>match cs.toList with
  | [c]=>match Cg tm c.chan,c.send with
   | some (.chan i),some x=>match h.get i,Cg tm x with
    | some (.chan cap buf),some v=>match zeroOf T c.elem with
     | some _=>Bb (Nat.ble (Nat.succ (len buf)) cap) (some (.tuple [.int .i64 0,.bool false],h.put i (.chan cap (buf++[v]))))
      (some (.tuple [.int .i64 (-1),.bool false],h))
     | none=>none
    | _,_=>none
   | some (.chan i),none=>match h.get i,zeroOf T c.elem with
    | some (.chan cap buf),some zv=>
     match buf with
     | v::r=>some (.tuple [.int .i64 0,.bool true,v],h.put i (.chan cap r))
     | []=>some (.tuple [.int .i64 (-1),.bool false,zv],h)
    | _,_=>none
   | _,_=>none
  | _=>none
 | _=>none
def setArgs:List EV->Nat->Tr EV->Tr EV
 | [],_,t=>t
 | v::r,i,t=>setArgs r (Nat.succ i) (t.put i (some v))
def Wy:List Tmp->List EV->Nat->Tr EV->Option (Tr EV)
 | [],[],_,t=>some t
 | p::r,v::s,n,t=>Wy r s n (Bb (Nat.ble (Nat.succ p) n) (t.put p (some v)) t)
 | _,_,_,_=>none
def enter(T:I5)(f:Nat)(args:List EV):Option Ajg:=
 match T.fn f with
 | some { ntmps:=n,body:=some c,.. }=>Bb (Nat.ble (len args) n) (some ⟨f,n,setArgs args 0 .nil,[.code c],[],false,none⟩) none
 | _=>none
def kj(l:List Oper)(i:Nat):Option Oper:=
 match l with
 | []=>none
 | a::r=>Bb (Nat.beq i 0) (some a) (kj r (Nat.pred i))
def yielded(ops:List Oper)(tm:Ba)(j:Nat):Option Bool:=
 match kj ops j with
 | some o=>match o.dst with
  | some d=>match tm.get d with
   | some (.bool b)=>some b
   | _=>none
  | none=>none
 | none=>none
def wanted(ops:List Oper)(tm:Ba)(g:Option (Nat × Bool)):Bool:=
 match g with
 | none=>true
 | some (j,want)=>match yielded ops tm j with|some b=>Bb b want (Bb want false true)|none=>false
def aop(T:I5)(call round:Ah)(tm:Ba)(op:Op)(h:Ab):Option (EV × Ab):=
 Bb (nu op) (match E6 T tm op with|some v=>some (v,h)|none=>none)
  (match op with
  | .call { callee:=.value f,args,.. }=>match Cg tm f,Nj tm args.toList with
   | some (.func g first captured),some as=>call g (first++(as++captured)) h
   | some (.U5 l),some as=>round l as h
   | _,_=>none
  | op=>Dx T tm op h)
def jl(T:I5)(call round:Ah)(n:Nat)(ops:List Oper):List Oper->Ba->Ab->Option (Ba × Ab)
 | [],tm,h=>some (tm,h)
 | ⟨dst,op,_,_,_,g⟩::r,tm,h=>Bb (wanted ops tm g)
  (match aop T call round tm op h with
   | some (v,h')=>jl T call round n ops r (Qu n tm dst v) h'
   | none=>none)
  (jl T call round n ops r (Qu n tm dst (.tuple [])) h)
inductive k_ where
 | val|load|new|pur|sto|big
def mo:Op->Bool
 | .call { callee:=.builtin .len,.. }=>true
 | .call { callee:=.builtin .min,.. }=>true
 | .call { callee:=.builtin .max,.. }=>true
 | _=>false
def cls:Op->k_
 | .load ..=>.load
 | .store ..=>.sto
 | .alloc _=>.new | .box ..=>.new | .buildSlice ..=>.new | .makeSlice ..=>.new | .makeMap ..=>.new | .makeChan ..=>.new
 | op=>Bb (nu op) .val (Bb (mo op) .pur .big)
def nv(e:Edge):Bool:=
 match e.ground with
 | .textOnly _=>false
 | .gcOnly _=>false
 | _=>true
def pW(bs:Tr Nat):List Edge->Nat->Nat
 | [],x=>x
 | e::r,x=>pW bs r (Bb (nv e) (Nat.lor x (Nat.lor (Nat.shiftLeft 1 e.on) (match bs.get e.on with|some y=>y|none=>0))) x)
def O7:List Oper->Nat->Tr Nat->Tr Nat
 | [],_,bs=>bs
 | o::r,i,bs=>O7 r (Nat.succ i) (bs.put i (some (pW bs o.after.toList 0)))
def my:List Operand->Nat->Nat
 | [],x=>x
 | .tmp t::r,x=>my r (Nat.lor x (Nat.shiftLeft 1 t))
 | _::r,x=>my r x
def ny(o:Oper):Nat:=match o.dst with|some d=>Nat.shiftLeft 1 d|none=>0
def oJ(ops:List Oper)(o:Oper):Nat:=
 Nat.lor (my o.op.operands.toList 0) (match o.guard with|some (j,_)=>(match kj ops j with|some g=>ny g|none=>0)|none=>0)
def uG(j d l u l' b:Nat):Bool:=
 Bb (Nat.beq (Nat.land b (Nat.shiftLeft 1 j)) 0) (Nat.beq (Nat.lor (Nat.land d (Nat.lor u l')) (Nat.land l u)) 0) true
def rP(u l' b:Nat):List (Nat × Nat)->Nat->Bool
 | [],_=>true
 | (d,l)::r,j=>Bb (uG j d l u l' b) (rP u l' b r (Nat.succ j)) false
def mj(ops:List Oper)(bs:Tr Nat):List Oper->Nat->List (Nat × Nat)->Bool
 | [],_,_=>true
 | o::r,i,ms=>match bs.get i with
  | some b=>Bb (rP (ny o) (oJ ops o) b ms 0) (mj ops bs r (Nat.succ i) (ms++[(ny o,oJ ops o)])) false
  | none=>false
def within(x b:Nat):Bool:=Nat.beq (Nat.land x b) x
def Xt(b q:Nat):List (Nat × Nat)->Bool
 | []=>true
 | (m,w)::r=>Bb (Bb (within m b) true (Nat.ble (Nat.succ q) w)) (Xt b q r) false
def Tb(b w:Nat):List (Nat × Nat)->Bool
 | []=>true
 | (m,q)::r=>Bb (Bb (within m b) true (Nat.ble (Nat.succ q) w)) (Tb b w r) false
def loose(b:Nat):List (Nat × Nat)->List Nat
 | []=>[]
 | (m,q)::r=>Bb (within m b) (loose b r) (q::loose b r)
def kg(t:Tr Ds):List Nat->Tr Ds
 | []=>t
 | q::r=>(kg t r).put q none
def jZ(t d:Tr Ds):List Nat->Tr Ds
 | []=>d
 | q::r=>(jZ t d r).put q (t.get q)
structure iP where
 tm:Ba
 h:Ab
 bg:Nat
 nw:List (Nat × Nat)
 Cy:List (Nat × Nat)
 lou:List (Nat × Nat)
 st:List (Nat × Nat)
def Fh(b q:Nat):List (Nat × Nat)->Bool
 | []=>true
 | (m,r)::l=>Bb (Bb (within m b) true (Bb (Nat.beq q r) false true)) (Fh b q l) false
def Ayf(b:Nat):List (Nat × Nat)->Bool
 | []=>true
 | (m,_)::l=>Bb (within m b) (Ayf b l) false
def A1d(q:Nat):List Nat->Bool
 | []=>true
 | r::l=>Bb (Nat.beq q r) false (A1d q l)
def Ws(T:I5)(call round:Ah)(n:Nat)(ops:List Oper)(bs:Tr Nat)(base:Nat)(o:Oper)(i:Nat)(s:iP):Option iP:=
 match o,s with
 | ⟨dst,op,_,_,_,g⟩,⟨tm,h,bg,nw,Cy,lou,st⟩=>Bb (wanted ops tm g)
  (match bs.get i with
  | none=>none
  | some b=>match cls op with
   | .val=>match E6 T tm op with
    | some v=>some ⟨Qu n tm dst v,h,bg,nw,Cy,lou,st⟩
    | none=>none
   | .load=>match op with
    | .load t x=>match Cg tm x with
     | some (.ptr q _)=>
      Bb (Bb (Fh b q st) (Bb (Nat.ble (Nat.succ q) base) (Xt b q lou) (Bb (within bg b) (match loose b nw with | []=>true|_=>false) false)) false) (match Dx T tm (.load t x) h with
      | some (v,_)=>some ⟨Qu n tm dst v,h,bg,nw,(Nat.shiftLeft 1 i,q)::Cy,lou,st⟩
      | none=>none) none
     | _=>none
    | _=>none
   | .new=>match Dx T tm op h with
    | some (v,h')=>some ⟨Qu n tm dst v,h',bg,(Nat.shiftLeft 1 i,h.next)::nw,Cy,lou,st⟩
    | none=>none
   | .sto=>match op with
    | .store t a x=>match Cg tm a with
     | some (.ptr q _)=>
      Bb (Bb (within bg b) (Bb (Fh b q st) (Bb (Fh b q Cy) (A1d q (loose b nw)) false) false) false) (match Dx T tm (.store t a x) h with
      | some (v,h')=>some ⟨Qu n tm dst v,h',bg,nw,Cy,lou,(Nat.shiftLeft 1 i,q)::st⟩
      | none=>none) none
     | _=>none
    | _=>none
   | .pur=>match Dx T tm op ⟨.nil,h.next,h.next⟩with
    | some (v,_)=>some ⟨Qu n tm dst v,h,bg,nw,Cy,lou,st⟩
    | none=>none
   | .big=>Bb (Bb (within bg b) (Ayf b st) false) (match h with
    | ⟨t,nx,mw⟩=>match aop T call round tm op ⟨kg t (loose b nw),nx,nx⟩with
     | some (v,⟨u,j,d⟩)=>
      Bb (Nat.ble nx d)
       (some ⟨Qu n tm dst v,⟨jZ t u (loose b nw),j,mw⟩,Nat.lor bg (Nat.shiftLeft 1 i),nw,Cy,lou,st⟩)
       (Bb (Tb b d Cy)
        (some ⟨Qu n tm dst v,⟨jZ t u (loose b nw),j,Bb (Nat.ble mw d) mw d⟩,Nat.lor bg (Nat.shiftLeft 1 i),nw,Cy,(Nat.shiftLeft 1 i,d)::lou,st⟩)
        none)
     | none=>none) none)
  (some ⟨Qu n tm dst (.tuple []),h,bg,nw,Cy,lou,st⟩)
def Tk(T:I5)(call round:Ah)(n:Nat)(ops:List Oper)(bs:Tr Nat)(base:Nat):List Oper->Nat->iP->Option iP
 | [],_,s=>some s
 | o::r,i,s=>match Ws T call round n ops bs base o i s with
  | some s'=>Tk T call round n ops bs base r (Nat.succ i) s'
  | none=>none
def uH(i:Nat):List Edge->Bool
 | []=>true
 | e::r=>Bb (Bb (nv e) (Nat.ble (Nat.succ e.on) i) true) (uH i r) false
def nj:List Oper->Nat->Bool
 | [],_=>true
 | o::r,i=>Bb (uH i o.after.toList) (nj r (Nat.succ i)) false
def kZ(T:I5)(call round:Ah)(n:Nat)(ops:List Oper)(tm:Ba)(h:Ab):Option (Ba × Ab):=
 Bb (nj ops 0) (Bb (mj ops (O7 ops 0 .nil) ops 0 []) (match Tk T call round n ops (O7 ops 0 .nil) h.next ops 0 ⟨tm,h,0,[],[],[],[]⟩with
  | some ⟨d,h',_,_,_,_,_⟩=>some (d,h')
  | none=>none) none) none
def Np(T:I5)(tm:Ba)(h:Ab):List ResultVar->Option (List EV)
 | []=>some []
 | .tmp t::r=>match Np T tm h r with|some l=>some (tmp tm t::l)|none=>none
 | .cell a t::r=>match tmp tm a,Np T tm h r,T.size t with
  | .ptr i off,some l,some n=>match Jn h i off n with
   | some cs=>match T.agg t with
    | some true=>some (.agg cs::l)
    | some false=>(match cs with | [v]=>some (v::l)|_=>none)
    | none=>none
   | none=>none
  | _,_,_=>none
inductive AR where
 | go (s:Hz)
 | done (v:EV) (h:Ab)
 | fail
def leave(fn n:Nat)(tm:Ba)(todo:List Item)(defers:List Nat)(Dr:Option Nat)(h:Ab)(jump:Option Code):AR:=
 match Dr with
 | none=>match jump with
  | none=>.go ⟨⟨fn,n,tm,todo,defers,true,Dr⟩,h⟩
  | some .ret=>.go ⟨⟨fn,n,tm,todo,defers,true,Dr⟩,h⟩
  | some _=>.fail
 | some l=>match h.get l with
  | some (.loop _ _ f n tm ps dT body d)=>
   match jump with
   | none=>.done (.bool true) (h.put l (.loop .ready none f n tm ps dT body d))
   | some c=>.done (.bool false) (h.put l (.loop .done (some c) f n tm ps dT body d))
  | _=>.fail
def behind(fn n:Nat)(tm:Ba)(defers:List Nat)(Dr:Option Nat)(l:Nat)(k:List Item)(r:Option (EV × Ab)):AR:=
 match r with
 | none=>.fail
 | some (_,h)=>match h.get l with
  | some (.loop st p f u j ps dT body d)=>match st with
   | .busy=>.fail
   | _=>.go ⟨⟨fn,n,tm,(match p with|some c=>.code c::k|none=>k),defers,false,Dr⟩,h.put l (.loop .exhausted p f u j ps dT body d)⟩
  | _=>.fail
def Cm(T:I5)(call round:Ah):Hz->AR
 | ⟨⟨fn,n,tm,todo,defers,true,Dr⟩,h⟩=>match defers with
  | d::ds=>match h.get d with
   | some (.deferred true)=>.go ⟨⟨fn,n,tm,todo,ds,true,Dr⟩,h.put d (.deferred false)⟩
   | _=>.fail
  | []=>match T.fn fn with
   | some f=>match Np T tm h f.results.toList with
    | some [v]=>.done v h
    | some l=>.done (.tuple l) h
    | none=>.fail
   | none=>.fail
 | ⟨⟨fn,n,tm,todo,defers,false,Dr⟩,h⟩=>
  match todo with
  | []=>leave fn n tm todo defers Dr h none
  | .code c::k=>match c with
   | .region _ ops false=>match jl T call round n ops.toList ops.toList tm h with
    | some (j,h')=>.go ⟨⟨fn,n,j,k,defers,false,Dr⟩,h'⟩
    | none=>.fail
   | .region _ ops true=>match kZ T call round n ops.toList tm h with
    | some (j,h')=>.go ⟨⟨fn,n,j,k,defers,false,Dr⟩,h'⟩
    | none=>.fail
   | .seq a b=>.go ⟨⟨fn,n,tm,.code a :: .code b::k,defers,false,Dr⟩,h⟩
   | .skip=>.go ⟨⟨fn,n,tm,k,defers,false,Dr⟩,h⟩
   | .cond c a b=>match Cg tm c with
    | some (.bool true)=>.go ⟨⟨fn,n,tm,.code a::k,defers,false,Dr⟩,h⟩
    | some (.bool false)=>.go ⟨⟨fn,n,tm,.code b::k,defers,false,Dr⟩,h⟩
    | _=>.fail
   | .block id c=>.go ⟨⟨fn,n,tm,.code c :: .inBlock id::k,defers,false,Dr⟩,h⟩
   | .loop c=>.go ⟨⟨fn,n,tm,.code c :: .inLoop c::k,defers,false,Dr⟩,h⟩
   | .label _=>.go ⟨⟨fn,n,tm,k,defers,false,Dr⟩,h⟩
   | .exit id=>match exitTo id k with
    | some k'=>.go ⟨⟨fn,n,tm,k',defers,false,Dr⟩,h⟩
    | none=>leave fn n tm todo defers Dr h (some (.exit id))
   | .ret=>leave fn n tm todo defers Dr h (some .ret)
   | .rangeFunc f params dT body=>
    match Cg tm f with
    | some (.func g first captured)=>
     match Dr with
     | none=>
      behind fn n tm (h.next::defers) Dr (Nat.succ h.next) k (call g (first++(.U5 (Nat.succ h.next)::captured)) ((h.new (.deferred true)).new (.loop .ready none fn n tm params.toList dT body h.next)))
     | some l0=>match h.get l0 with
      | some (.loop _ _ _ _ _ _ _ _ d)=>
       behind fn n tm defers Dr h.next k (call g (first++(.U5 h.next::captured)) (h.new (.loop .ready none fn n tm params.toList dT body d)))
      | _=>.fail
    | _=>.fail
   | _=>.fail
  | .inBlock _::k=>.go ⟨⟨fn,n,tm,k,defers,false,Dr⟩,h⟩
  | .inLoop c::k=>.go ⟨⟨fn,n,tm,.code c :: .inLoop c::k,defers,false,Dr⟩,h⟩
  | .beginRound::k=>match Dr with
   | some l=>match h.get l with
    | some (.loop .ready p f u j ps dT body d)=>.go ⟨⟨fn,n,tm,k,defers,false,Dr⟩,h.put l (.loop .busy p f u j ps dT body d)⟩
    | _=>.fail
   | none=>.fail
  | _=>.fail
def uA(l:Nat)(args:List EV)(h:Ab):Option Ajg:=
 match h.get l with
 | some (.loop _ _ f n tm ps dT body _)=>match Wy ps args n tm with
  | some d=>some ⟨f,n,d,[.code dT,.beginRound,.code body],[],false,some l⟩
  | none=>none
 | _=>none
end
variable {a vs buf args:List EV}{h h' h1 h2:Ab}{v zv:EV}{tm:Ba}{hi lo mx:Option EV}{o':Ds}{ws:List (Nat × List EV)}{es:List (EV × EV)}{T:I5}{round:Ah}
section
section Bb
@[simp] theorem Aj(x y:α):Bb true x y=x:=rfl
@[simp] theorem Bk(x y:α):Bb false x y=y:=rfl
theorem Br(b:Bool)(x y:α):Bb b x y=if b=true then x else y:=by cases b<;>rfl
theorem Ap {b:Bool}{x:Option α}{r:α}(h:Bb b x none=some r):b=true/\x=some r:=by cases b<;>simp_all [Br]
theorem T2 {b:Bool}{x:Option α}{r:α}(h:Bb b none x=some r):b=false/\x=some r:=by cases b<;>simp_all [Br]
end Bb
theorem nA {a b:Nat}(h:a<=b):Nat.ble a b=true:=aM h
theorem pX {a b:Nat}(h:¬a<=b):Nat.ble a b=false:=Bool.eq_false_iff.2 fun e=>h (bG e)
theorem beq_false {a b:Nat}(h:a≠b):Nat.beq a b=false:=Bool.eq_false_iff.2 fun e=>h (aJ e)
section tree
theorem Tr.get_nil(i:Nat):(Tr.nil:Tr α).get i=none:=rfl
theorem Tr.Xu(l r:Tr α)(v:Option α)(i:Nat):(Tr.node l v r).get i=if i=0 then v else if i%2=1 then l.get (i/2)else r.get (i/2-1):=by
 have e:(Tr.node l v r).get i=Bb (Nat.beq i 0) v (Bb (Nat.beq (Nat.land i 1) 1) (l.get (Nat.div i 2)) (r.get (Nat.pred (Nat.div i 2)))):=rfl;have e2:Nat.land i 1=i%2:=Nat.and_one_is_mod i;rw[e,Br,Br,e2];simp only[Nat.beq_eq];rfl
theorem Tr.set_nil(n i:Nat)(v:Option α):Tr.set (n+1) (.nil:Tr α) i v =
 Bb (Nat.beq i 0) (.node .nil v .nil) (Bb (Nat.beq (Nat.land i 1) 1) (Tr.lf none .nil (Tr.set n .nil (Nat.div i 2) v)) (Tr.rt .nil none (Tr.set n .nil (Nat.pred (Nat.div i 2)) v))):=rfl
theorem Tr.rQ(n i:Nat)(l r:Tr α)(x v:Option α):Tr.set (n+1) (.node l x r) i v =
 Bb (Nat.beq i 0) (.node l v r) (Bb (Nat.beq (Nat.land i 1) 1) (Tr.lf x r (Tr.set n l (Nat.div i 2) v)) (Tr.rt l x (Tr.set n r (Nat.pred (Nat.div i 2)) v))):=rfl
theorem Tr.OU(x:Option α)(r a c:Tr α)(b:Option α):Tr.lf x r (.node a b c)=.node (.node a b c) x r:=rfl
theorem Tr.OV(x:Option α)(l a c:Tr α)(b:Option α):Tr.rt l x (.node a b c)=.node l x (.node a b c):=rfl
theorem Tr.Th:∀(n:Nat) (t:Tr α) (i:Nat) (v:Option α),i+1<2^n->∃a b c,Tr.set n t i v=.node a b c
 | 0,_,i,_,h=>by simp at h
 | n+1,t,i,v,h=>by
  have e2:Nat.land i 1=i%2:=Nat.and_one_is_mod i;rw[eU]at h;by_cases h0:i=0
  ·subst h0
   cases t with
   | nil=>exact⟨_,_,_,rfl⟩
   | node l x r=>exact⟨_,_,_,rfl⟩
  ·have b0:Nat.beq i 0=false:=by cases hb:Nat.beq i 0 with|false=>rfl|true=>exact absurd (aJ hb) h0
   by_cases h1:i%2=1
   ·have b1:Nat.beq (i%2) 1=true:=by rw[h1];rfl
    cases t with
    | nil=>
     obtain⟨a,b,c,e⟩:=Tr.Th n (.nil:Tr α) (i/2) v a_;exact⟨_,_,_,by rw[Tr.set_nil,b0,Bk,e2,b1,Aj];exact congrArg (Tr.lf none .nil) e⟩
    | node l x r=>
     obtain⟨a,b,c,e⟩:=Tr.Th n l (i/2) v a_;exact⟨_,_,_,by rw[Tr.rQ,b0,Bk,e2,b1,Aj];exact congrArg (Tr.lf x r) e⟩
   ·have b1:Nat.beq (i%2) 1=false:=by cases hb:Nat.beq (i%2) 1 with|false=>rfl|true=>exact absurd (aJ hb) h1
    cases t with
    | nil=>
     obtain⟨a,b,c,e⟩:=Tr.Th n (.nil:Tr α) (i/2-1) v a_;exact⟨_,_,_,by rw[Tr.set_nil,b0,Bk,e2,b1,Bk];exact congrArg (Tr.rt .nil none) e⟩
    | node l x r=>
     obtain⟨a,b,c,e⟩:=Tr.Th n r (i/2-1) v a_;exact⟨_,_,_,by rw[Tr.rQ,b0,Bk,e2,b1,Bk];exact congrArg (Tr.rt l x) e⟩
theorem Tr.rS:∀(n:Nat) (t:Tr α) (i:Nat) (v:Option α) (j:Nat),i+1<2^n->(Tr.set n t i v).get j=if i=j then v else t.get j
 | 0,_,i,_,_,h=>by simp at h
 | n+1,t,i,v,j,h=>by
  have e2:Nat.land i 1=i%2:=Nat.and_one_is_mod i;rw[eU]at h;by_cases h0:i=0
  ·subst h0
   cases t with
   | nil=>
    rw[Tr.set_nil,show Nat.beq 0 0=true from rfl,Aj,Tr.Xu];by_cases hj:j=0
    ·simp[hj]
    ·rw[aK hj,aK (cn hj)];simp only[Tr.get_nil,ite_self]
   | node l x r=>
    rw[Tr.rQ,show Nat.beq 0 0=true from rfl,Aj,Tr.Xu,Tr.Xu];by_cases hj:j=0
    ·simp[hj]
    ·rw[aK hj,aK (cn hj),aK hj]
  ·have b0:Nat.beq i 0=false:=by cases hb:Nat.beq i 0 with|false=>rfl|true=>exact absurd (aJ hb) h0
   by_cases h1:i%2=1
   ·have b1:Nat.beq (i%2) 1=true:=by rw[h1];rfl
    have hs:i/2+1<2^n:=a_
    cases t with
    | nil=>
     obtain⟨a,b,c,e⟩:=Tr.Th n (.nil:Tr α) (i/2) v hs;have u:=Tr.rS n (.nil:Tr α) (i/2) v (j/2) hs;rw[e]at u;have e':Tr.set n (.nil:Tr α) (Nat.div i 2) v=.node a b c:=e;rw[Tr.set_nil,b0,Bk,e2,b1,Aj,e',Tr.OU,Tr.Xu];by_cases hj:j=0
     ·subst hj;simp[h0,Tr.get_nil]
     ·rw[aK hj]
      by_cases d:j%2=1
      ·rw[aN d,u]
       by_cases he:i=j
       ·subst he;simp
       ·rw[aK he,aK a_];rfl
      ·rw[aK d,aK (by rintro rfl;exact d h1)];rfl
    | node l x r=>
     obtain⟨a,b,c,e⟩:=Tr.Th n l (i/2) v hs;have u:=Tr.rS n l (i/2) v (j/2) hs;rw[e]at u;have e':Tr.set n l (Nat.div i 2) v=.node a b c:=e;rw[Tr.rQ,b0,Bk,e2,b1,Aj,e',Tr.OU,Tr.Xu,Tr.Xu l r x j];by_cases hj:j=0
     ·subst hj;simp[h0]
     ·rw[aK hj,aK hj]
      by_cases d:j%2=1
      ·rw[aN d,aN d,u]
       by_cases he:i=j
       ·subst he;simp
       ·rw[aK he,aK a_]
      ·rw[aK d,aK d,aK (by rintro rfl;exact d h1)]
   ·have b1:Nat.beq (i%2) 1=false:=by cases hb:Nat.beq (i%2) 1 with|false=>rfl|true=>exact absurd (aJ hb) h1
    have hs:i/2-1+1<2^n:=a_
    cases t with
    | nil=>
     obtain⟨a,b,c,e⟩:=Tr.Th n (.nil:Tr α) (i/2-1) v hs;have u:=Tr.rS n (.nil:Tr α) (i/2-1) v (j/2-1) hs;rw[e]at u;have e':Tr.set n (.nil:Tr α) (Nat.pred (Nat.div i 2)) v=.node a b c:=e;rw[Tr.set_nil,b0,Bk,e2,b1,Bk,e',Tr.OV,Tr.Xu];by_cases hj:j=0
     ·subst hj;simp[h0,Tr.get_nil]
     ·rw[aK hj]
      by_cases d:j%2=1
      ·rw[aN d,aK (by rintro rfl;exact h1 d)];rfl
      ·rw[aK d,u]
       by_cases he:i=j
       ·subst he;simp
       ·rw[aK he,aK a_];rfl
    | node l x r=>
     obtain⟨a,b,c,e⟩:=Tr.Th n r (i/2-1) v hs;have u:=Tr.rS n r (i/2-1) v (j/2-1) hs;rw[e]at u;have e':Tr.set n r (Nat.pred (Nat.div i 2)) v=.node a b c:=e;rw[Tr.rQ,b0,Bk,e2,b1,Bk,e',Tr.OV,Tr.Xu,Tr.Xu l r x j];by_cases hj:j=0
     ·subst hj;simp[h0]
     ·rw[aK hj,aK hj]
      by_cases d:j%2=1
      ·rw[aN d,aN d,aK (by rintro rfl;exact h1 d)]
      ·rw[aK d,aK d,u]
       by_cases he:i=j
       ·subst he;simp
       ·rw[aK he,aK a_]
theorem Tr.get_put(t:Tr α)(i:Nat)(v:Option α)(j:Nat):(t.put i v).get j=if i=j then v else t.get j:=
 Tr.rS _ t i v j Nat.lt_log2_self
theorem Tr.Af(t:Tr α)(i:Nat)(v:Option α):(t.put i v).get i=v:=by rw[Tr.get_put,aN rfl]
theorem Tr.Ae(t:Tr α){j:Nat}(v:Option α)(h:i≠j):(t.put i v).get j=t.get j:=by rw[Tr.get_put,aK h]
end tree
structure Loc where
 b:Nat->Nat
 sp:Nat->Nat
mutual
def Cl(f:Loc):EV->Value
 | .int k n=>.int k n
 | .bool b=>.bool b
 | .str s=>.string s
 | .ptr i off=>.pointer (some ⟨f.b i,off,none⟩)
 | .Bz=>.pointer none
 | .slice i off len room op=>.slice (some ⟨f.b i,off,none⟩) len (if op=true then room+f.sp i else room)
 | .tail i off poff=>.slice (some ⟨f.b i,if f.sp i=0 then poff else off,none⟩) 0 (f.sp i)
 | .An=>.slice none 0 0
 | .odd a=>.slice (some a) 0 0
 | .map i=>.map (some (f.b i))
 | .Al9=>.map none
 | .chan i=>.chan (some (f.b i))
 | .Aex=>.chan none
 | .func g a c=>.func (.func g) (Bo f a).toArray (Bo f c).toArray
 | .U5 l=>.func (.yield (f.b l)) #[] #[]
 | .Ahh=>.nilFunc
 | .Ab6=>.nilIface
 | .agg l=>.agg (Bo f l).toArray
 | .tuple l=>.tuple (Bo f l).toArray
def Bo(f:Loc):List EV->List Value
 | []=>[]
 | v::r=>Cl f v::Bo f r
end
theorem Pt(f:Loc):∀l:List EV,Bo f l=l.map (Cl f)
 | []=>rfl
 | v::r=>by rw[Bo,Pt f r];rfl
theorem Cw(f:Loc)(l:List EV):(Bo f l).length=l.length:=by rw[Pt,bT]
theorem Tc(f:Loc)(a b:List EV):Bo f (a++b)=Bo f a++Bo f b:=by simp only[Pt,bZ]
def EV.one:EV->Bool
 | .agg _=>false
 | .tuple _=>false
 | _=>true
theorem Bam(f:Loc)(v:EV)(h:v.one=true):(Cl f v).oneCell'=true:=by
 cases v<;>first|rfl|(simp[EV.one]at h)
theorem Yd(f:Loc)(l:List EV)(h:∀v∈l,v.one=true):∀x∈Bo f l,x.oneCell'=true:=by
 intro x d;rw[Pt,b9]at d;obtain⟨v,j,rfl⟩:=d;exact Bam f v (h v j)
mutual
def EV.ok(p:Nat->Prop):EV->Prop
 | .ptr i _=>p i
 | .slice i _ _ _ _=>p i
 | .tail i _ _=>p i
 | .map i=>p i
 | .chan i=>p i
 | .U5 l=>p l
 | .func _ a c=>EV.T4 p a/\EV.T4 p c
 | .agg l=>EV.T4 p l/\l.all EV.one=true
 | .tuple l=>EV.T4 p l
 | _=>True
def EV.T4(p:Nat->Prop):List EV->Prop
 | []=>True
 | v::r=>EV.ok p v/\EV.T4 p r
end
theorem Ie(p:Nat->Prop):∀l:List EV,EV.T4 p l↔∀v∈l,v.ok p
 | []=>by simp[EV.T4]
 | v::r=>by rw[EV.T4,Ie p r];simp
def Loc.agree(p:Nat->Prop)(f g:Loc):Prop:=∀i,p i->f.b i=g.b i/\f.sp i=g.sp i
theorem Loc.uI(p:Nat->Prop)(f:Loc):Loc.agree p f f:=fun _ _=>⟨rfl,rfl⟩
theorem Loc.agree.trans{f g h:Loc}(a:Loc.agree p f g)(b:Loc.agree p g h):Loc.agree p f h:=fun i hi=>⟨(a i hi).1.trans (b i hi).1,(a i hi).2.trans (b i hi).2⟩
theorem Loc.agree.mono{f g:Loc}(a:Loc.agree p f g)(h:∀i,q i->p i):Loc.agree q f g:=fun i hi=>a i (h i hi)
mutual
theorem pY{f g:Loc}(d:Loc.agree p f g):∀v:EV,v.ok p->Cl f v=Cl g v
 | .int _ _,_=>rfl
 | .bool _,_=>rfl
 | .str _,_=>rfl
 | .ptr i off,h=>by simp only[Cl];rw[(d i h).1]
 | .Bz,_=>rfl
 | .slice i off len room op,h=>by simp only[Cl];rw[(d i h).1,(d i h).2]
 | .tail i off poff,h=>by simp only[Cl];rw[(d i h).1,(d i h).2]
 | .An,_=>rfl
 | .odd _,_=>rfl
 | .map i,h=>by simp only[Cl];rw[(d i h).1]
 | .Al9,_=>rfl
 | .chan i,h=>by simp only[Cl];rw[(d i h).1]
 | .Aex,_=>rfl
 | .func a b c,h=>by simp only[Cl];rw[F9 d b h.1,F9 d c h.2]
 | .U5 l,h=>by simp only[Cl];rw[(d l h).1]
 | .Ahh,_=>rfl
 | .Ab6,_=>rfl
 | .agg l,h=>by simp only[Cl];rw[F9 d l h.1]
 | .tuple l,h=>by simp only[Cl];rw[F9 d l h]
theorem F9{f g:Loc}(d:Loc.agree p f g):∀l:List EV,EV.T4 p l->Bo f l=Bo g l
 | [],_=>rfl
 | v::r,h=>by simp only[Bo];rw[pY d v h.1,F9 d r h.2]
end
mutual
theorem EV.ok.mono(d:∀i,p i->q i):∀v:EV,v.ok p->v.ok q
 | .int _ _,_=>trivial
 | .bool _,_=>trivial
 | .str _,_=>trivial
 | .ptr i _,h=>d i h
 | .Bz,_=>trivial
 | .slice i _ _ _ _,h=>d i h
 | .tail i _ _,h=>d i h
 | .An,_=>trivial
 | .odd _,_=>trivial
 | .map i,h=>d i h
 | .Al9,_=>trivial
 | .chan i,h=>d i h
 | .Aex,_=>trivial
 | .func _ b c,h=>⟨EV.T4.mono d b h.1,EV.T4.mono d c h.2⟩
 | .U5 l,h=>d l h
 | .Ahh,_=>trivial
 | .Ab6,_=>trivial
 | .agg l,h=>⟨EV.T4.mono d l h.1,h.2⟩
 | .tuple l,h=>EV.T4.mono d l h
theorem EV.T4.mono(d:∀i,p i->q i):∀l:List EV,EV.T4 p l->EV.T4 q l
 | [],_=>trivial
 | v::r,h=>⟨EV.ok.mono d v h.1,EV.T4.mono d r h.2⟩
end
theorem Va(h:v.ok p)(d:v.plain=true):EV.T4 p v.cells/\∀x∈v.cells,x.one=true:=by
 cases v with
 | tuple l=>simp[EV.plain]at d
 | agg l=>obtain⟨h1,h2⟩:=h;exact⟨h1,by simpa [EV.cells]using h2⟩
 | _=>exact⟨⟨h,trivial⟩,by simp[EV.cells,EV.one]⟩
theorem Tz(f:Loc)(v:EV):(Cl f v).cells=(Bo f v.cells).toArray:=by
 cases v<;>rfl
theorem OW(f:Loc){v:Value}{x:EV}(h:pR v=some x):Cl f x=v:=by
 unfold pR at h;split at h<;>first|(cases h;rfl)|(cases h)
theorem OX(p:Nat->Prop){v:Value}{x:EV}(h:pR v=some x):x.ok p/\x.one=true:=by
 unfold pR at h;split at h<;>first|(cases h;exact⟨trivial,rfl⟩)|(cases h)
theorem OY(f:Loc):∀{l:List Value} {xs:List EV},pT l=some xs->Bo f xs=l
 | [],_,h=>by cases h;rfl
 | v::r,_,h=>by
  unfold pT at h;split at h
  next x d=>
   split at h
   next y j=>
    cases h;rw[Bo,OW f d,OY f j]
   ·cases h
  ·cases h
theorem OZ(p:Nat->Prop):∀{l:List Value} {xs:List EV},pT l=some xs->EV.T4 p xs/\xs.all EV.one=true
 | [],_,h=>by cases h;exact⟨trivial,rfl⟩
 | v::r,_,h=>by
  unfold pT at h;split at h
  next x d=>
   split at h
   next y j=>
    cases h;have h1:=OX p d;have h2:=OZ p j;exact⟨⟨h1.1,h2.1⟩,by simp[h1.2];simpa using h2.2⟩
   ·cases h
  ·cases h
theorem O'(f:Loc){v:Value}{x:EV}(h:ofV v=some x):Cl f x=v:=by
 unfold ofV at h;split at h
 next cs=>
  split at h
  next l d=>
   cases h;rw[Cl,OY f d]
  ·cases h
 next cs=>
  split at h
  next d=>
   cases h;rw[Cl,Bo];congr 1;apply dX;simpa using d.symm
  ·cases h
 ·exact OW f h
theorem x_(p:Nat->Prop){v:Value}{x:EV}(h:ofV v=some x):x.ok p:=by
 unfold ofV at h;split at h
 ·split at h
  next l d=>
   cases h;exact OZ p d
  ·cases h
 ·split at h
  ·cases h;trivial
  ·cases h
 ·exact(OX p h).1
def Bi(f:Loc)(n:Nat)(tm:Ba):Array Value:=((List.range n).map fun t=>Cl f (tmp tm t)).toArray
structure Lv(p:Nat->Prop)(n:Nat)(tm:Ba):Prop where
 ok:∀t v,tm.get t=some v->v.ok p
 out:∀t,n<=t->tm.get t=none
theorem Lv.tmp(h:Lv p n tm)(t:Nat):(tmp tm t).ok p:=by
 unfold Go.Ev.tmp;split
 next v d=>exact h.ok t v d
 ·trivial
theorem Lv.mono(h:Lv p n tm)(d:∀i,p i->q i):Lv q n tm:=⟨fun t v j=>EV.ok.mono d v (h.ok t v j),h.out⟩
theorem A8a(f:Loc)(n:Nat)(tm:Ba):(Bi f n tm).size=n:=by simp[Bi]
theorem rU(f:Loc)(n:Nat)(tm:Ba)(t:Nat):(Bi f n tm)[t]? = if t<n then some (Cl f (tmp tm t))else none:=by
 unfold Bi;simp only[bX,aY];by_cases h:t<n
 ·simp[h]
 ·simp[h,cN (l:=List.range n) (i:=t) (by simp;omega)]
theorem rX(f:Loc)(h:Lv p n tm)(t:Nat):(Bi f n tm).getD t undef=Cl f (tmp tm t):=by
 rw[eS,rU];by_cases d:t<n
 ·simp[d]
 ·have:tmp tm t=.tuple []:=by unfold tmp;rw[h.out t a_]
  simp[d,this,Cl,Bo,undef]
theorem O_(n:Nat)(tm:Ba)(d:Nat)(v:EV)(t:Nat):tmp (Qu n tm (some d) v) t=if d=t/\d<n then v else tmp tm t:=by
 unfold Qu;by_cases hd:d<n
 ·simp only[show Nat.ble (Nat.succ d) n=true from nA hd,Aj]
  unfold tmp;rw[Tr.get_put];by_cases j:d=t
  ·simp[j,j▸hd]
  ·simp[j]
 ·simp only[show Nat.ble (Nat.succ d) n=false from pX hd,Bk]
  rw[aK a_]
theorem PB(f:Loc)(n:Nat)(tm:Ba)(d:Nat)(v:EV):(Bi f n tm).setIfInBounds d (Cl f v)=Bi f n (Qu n tm (some d) v):=by
 apply fI;intro t;rw[rU,Array.getElem?_setIfInBounds,A8a,rU,O_];by_cases hd:d=t
 ·subst hd
  by_cases j:d<n<;>simp[j]
 ·simp[hd]
theorem Lv.put(h:Lv p n tm)(d:Option Tmp)(A:v.ok p):Lv p n (Qu n tm d v):=by
 cases d with
 | none=>exact h
 | some d=>
  unfold Qu;by_cases hd:d<n
  ·simp only[show Nat.ble (Nat.succ d) n=true from nA hd,Aj]
   refine⟨fun t x j=>?_,fun t y=>?_⟩
   ·rw[Tr.get_put]at j
    split at j
    ·cases j;exact A
    ·exact h.ok t x j
   ·have u:(d:Nat)≠t:=fun e=>by have h1:(d:Nat)<n:=hd;have h2:n<=t:=y;rw[<-e]at h2;exact absurd h1 (Nat.not_lt.2 h2)
    rw[Tr.Ae _ _ u];exact h.out t y
  ·simp only[show Nat.ble (Nat.succ d) n=false from pX hd,Bk]
   exact h
theorem Lf{f g:Loc}(d:Loc.agree p f g)(h:Lv p n tm):Bi f n tm=Bi g n tm:=by
 unfold Bi;congr 1;apply cr;intro t _;exact pY d _ (h.tmp t)
structure Reads(f:Loc)(tm:Ba)(ρ:Operand->Value):Prop where
 tmp:∀t,ρ (.tmp t)=Cl f (tmp tm t)
 const:∀v,ρ (.const v)=v
 func:∀g,ρ (.func g)=.func (.func g) #[] #[]
theorem Bj {f:Loc}(d:Reads f tm ρ)(h:Cg tm x=some v):ρ x=Cl f v:=by
 cases x with
 | tmp t=>rw[d.tmp];simp only[Cg]at h;cases h;rfl
 | const c=>rw[d.const];exact(O' f h).symm
 | global g=>cases h
 | func g=>rw[d.func];cases h;rfl
theorem E3(d:Lv p n tm)(h:Cg tm x=some v):v.ok p:=by
 cases x with
 | tmp t=>simp only[Cg]at h;cases h;exact d.tmp t
 | const c=>exact x_ p h
 | global g=>cases h
 | func g=>cases h;exact⟨trivial,trivial⟩
theorem pZ {f:Loc}(d:Reads f tm ρ):∀{xs:List Operand} {l:List EV},Nj tm xs=some l->xs.map ρ=Bo f l
 | [],_,h=>by cases h;rfl
 | x::r,_,h=>by
  unfold Nj at h;split at h
  next a j=>
   split at h
   next b hb=>
    cases h;rw[cZ,Bj d j,pZ d hb,Bo]
   ·cases h
  ·cases h
theorem p'(d:Lv p n tm):∀{xs:List Operand} {l:List EV},Nj tm xs=some l->EV.T4 p l
 | [],_,h=>by cases h;trivial
 | x::r,_,h=>by
  unfold Nj at h;split at h
  next a j=>
   split at h
   next b hb=>
    cases h;exact⟨E3 d j,p' d hb⟩
   ·cases h
  ·cases h
theorem uJ {f:Loc}(d:Reads f tm ρ):∀{xs:List (Nat × Operand)} {l:List (Nat × EV)},Zq tm xs=some l->xs.map (fun(i,x)=>(i,ρ x))=l.map (fun(i,v)=>(i,Cl f v))
 | [],_,h=>by cases h;rfl
 | (i,x)::r,_,h=>by
  unfold Zq at h;split at h
  next a j=>
   split at h
   next b hb=>
    cases h;rw[cZ,cZ,uJ d hb];show(i,ρ x)::_=(i,Cl f a)::_;rw[Bj d j]
   ·cases h
  ·cases h
theorem uK(j:Lv p n tm):∀{xs:List (Nat × Operand)} {l:List (Nat × EV)},Zq tm xs=some l->∀q∈l,q.2.ok p
 | [],_,h=>by cases h;simp
 | (i,x)::r,_,h=>by
  unfold Zq at h;split at h
  next a u=>
   split at h
   next b hb=>
    cases h;intro q d;rcases bc.1 d with rfl|d
    ·exact E3 j u
    ·exact uK j hb q d
   ·cases h
  ·cases h
end
variable {f g:Loc}
section
theorem Ux:∀l:List EV,len l=l.length
 | []=>rfl
 | _::r=>by rw[len,Ux r];rfl
theorem Tq:∀(l:List EV) (n:Nat),Zy l n=l.drop n
 | [],n=>by simp[Zy]
 | a::r,0=>rfl
 | a::r,n+1=>by
  have:Zy (a::r) (n+1)=Zy r n:=rfl;rw[this,Tq r n];rfl
theorem rY:∀{l:List EV} {n:Nat} {x:List EV},takeN l n=some x->n<=l.length/\x=l.take n
 | [],0,x,h=>by cases h;exact⟨aD _,rfl⟩
 | [],n+1,x,h=>by cases h
 | a::r,0,x,h=>by cases h;exact⟨cO _,rfl⟩
 | a::r,n+1,x,h=>by
  have e:takeN (a::r) (n+1)=match takeN r n with|some x=>some (a::x)|none=>none:=rfl
  rw[e]at h;split at h
  next y d=>
   cases h;obtain⟨h1,rfl⟩:=rY d;exact⟨by simp;omega,rfl⟩
  ·cases h
theorem ya:∀{l vs x:List EV},J0 l vs=some x->vs.length<=l.length/\x=vs++l.drop vs.length
 | l,[],x,h=>by
  have:J0 l []=some l:=by cases l<;>rfl
  rw[this]at h;cases h;exact⟨cO _,rfl⟩
 | [],v::vs,x,h=>by cases h
 | a::r,v::vs,x,h=>by
  have e:J0 (a::r) (v::vs)=match J0 r vs with|some x=>some (v::x)|none=>none:=rfl
  rw[e]at h;split at h
  next y d=>
   cases h;obtain⟨h1,rfl⟩:=ya d;exact⟨by simp;omega,rfl⟩
  ·cases h
theorem Y1:∀{l:List EV} {off:Nat} {vs x:List EV},Fx l off vs=some x->off+vs.length<=l.length/\x=l.take off++vs++l.drop (off+vs.length)
 | [],0,vs,x,h=>by
  have e:Fx [] 0 vs=J0 [] vs:=rfl;rw[e]at h;obtain⟨h1,rfl⟩:=ya h;exact⟨a_,by simp⟩
 | [],off+1,vs,x,h=>by cases h
 | a::r,0,vs,x,h=>by
  have e:Fx (a::r) 0 vs=J0 (a::r) vs:=rfl;rw[e]at h;obtain⟨h1,rfl⟩:=ya h;exact⟨a_,by simp⟩
 | a::r,off+1,vs,x,h=>by
  have e:Fx (a::r) (off+1) vs=match Fx r off vs with|some x=>some (a::x)|none=>none:=rfl
  rw[e]at h;split at h
  next y d=>
   cases h;obtain⟨h1,rfl⟩:=Y1 d;refine⟨by simp;omega,?_⟩;rw[show off+1+vs.length=(off+vs.length)+1 from a_];simp
  ·cases h
theorem yb {l:List EV}{x:List EV}(h:Fx l off vs=some x)(d:v∈x):v∈l\/v∈vs:=by
 obtain⟨h1,rfl⟩:=Y1 h;simp only[bO]at d;rcases d with(d|d)|d
 ·exact .inl (bS d)
 ·exact .inr d
 ·exact .inl (aG d)
theorem yc:∀(l:List Field) (i:Nat),mm l i=l[i]?
 | [],i=>by simp[mm]
 | a::r,0=>rfl
 | a::r,i+1=>by
  have:mm (a::r) (i+1)=mm r i:=rfl;rw[this,yc r i];simp
theorem uL:∀(l:List Oper) (i:Nat),kj l i=l[i]?
 | [],i=>by simp[kj]
 | a::r,0=>rfl
 | a::r,i+1=>by
  have:kj (a::r) (i+1)=kj r i:=rfl;rw[this,uL r i];simp
theorem uM(l:List EV):∀n,(rep l n).length=n*l.length
 | 0=>by simp[rep]
 | n+1=>by rw[rep,aE,uM l n,fW];omega
theorem rZ {l:List EV}:∀{n:Nat},v∈rep l n->v∈l
 | 0,h=>by simp[rep]at h
 | n+1,h=>by
  rw[rep,bO]at h;rcases h with h|h
  ·exact h
  ·exact rZ h
theorem PC(l:List EV):∀(n i:Nat),i<n*l.length->(rep l n)[i]? = l[i%l.length]?
 | 0,i,h=>by simp at h
 | n+1,i,h=>by
  rw[rep];by_cases hi:i<l.length
  ·rw[cI hi,fV hi]
  ·rw[bm a_,PC l n (i-l.length) (by rw[fW]at h;omega)]
   rw[<-Nat.mod_eq_sub_mod a_]
theorem r8 {k:IntKind}(h:Nat.beq (Pv k) (Pv k')=true):k=k':=by
 cases k<;>cases k'<;>first|rfl|(cases h)
theorem uN(k:IntKind)(hs:k.signed=false)(n:Int)(h0:0<=n)(h1:n<2^k.bits):k.wrap n=n:=by
 unfold IntKind.wrap;simp only[hs,bB,aT,ak];exact Int.emod_eq_of_lt h0 h1
theorem lh(k:IntKind)(hs:k.signed=true)(n M:Int)(j:(2:Int)^k.bits=2*M)(d:(2:Int)^(k.bits-1)=M)(h0 : -M<=n)(h1:n<M):k.wrap n=n:=by
 unfold IntKind.wrap;simp only[hs,bF,av,j,d,ge_iff_le];by_cases u:0<=n
 ·rw[Int.emod_eq_of_lt u a_,aK a_]
 ·have e:n%(2*M)=n+2*M:=by
   rw[<-Int.add_emod_right];exact Int.emod_eq_of_lt a_ a_
  rw[e,aN a_];omega
theorem L7(k:IntKind)(n:Int):Cs k n=k.wrap n:=by
 cases n with
 | ofNat m=>
  show Bb (Nat.ble (Nat.succ m) (uE k)) (Int.ofNat m) (k.wrap (Int.ofNat m))=_;rw[Br];split
  next h=>
   have h:=bG h;symm;cases k<;>simp only[uE]at h
   case u8=>exact uN _ rfl _ (by simp) (by simp only[IntKind.bits,aX];omega)
   case u16=>exact uN _ rfl _ (by simp) (by simp only[IntKind.bits,aX];omega)
   case u32=>exact uN _ rfl _ (by simp) (by simp only[IntKind.bits,aX];omega)
   case u64=>exact uN _ rfl _ (by simp) (by simp only[IntKind.bits,aX];omega)
   case i8=>exact lh _ rfl _ 128 rfl rfl (by simp only[aX];omega) (by simp only[aX];omega)
   case i16=>exact lh _ rfl _ 32768 rfl rfl (by simp only[aX];omega) (by simp only[aX];omega)
   case i32=>exact lh _ rfl _ 2147483648 rfl rfl (by simp only[aX];omega) (by simp only[aX];omega)
   case i64=>exact lh _ rfl _ 9223372036854775808 rfl rfl (by simp only[aX];omega) (by simp only[aX];omega)
  ·rfl
 | negSucc m=>
  show Bb (Nat.ble (Nat.succ m) (floor k)) (Int.negSucc m) (k.wrap (Int.negSucc m))=_;rw[Br];split
  next h=>
   have h:=bG h;symm;cases k<;>simp only[floor]at h
   case i8=>exact lh _ rfl _ 128 rfl rfl (by rw[cz];omega) (by rw[cz];omega)
   case i16=>exact lh _ rfl _ 32768 rfl rfl (by rw[cz];omega) (by rw[cz];omega)
   case i32=>exact lh _ rfl _ 2147483648 rfl rfl (by rw[cz];omega) (by rw[cz];omega)
   case i64=>exact lh _ rfl _ 9223372036854775808 rfl rfl (by rw[cz];omega) (by rw[cz];omega)
   all_goals exact absurd h a_
  ·rfl
theorem p_(a b:Int):j_ a b=decide (a<b):=by
 cases a<;>cases b<;>simp only[j_]<;>(first
  | (rw[fN];simp only[dH,av];simp only[aX,cz];omega)
  | (simp only[aX,cz];symm;first|(rw[dM];omega)|(rw[av];omega)))
theorem lr(a b:Int):iE a b=decide (a=b):=by
 cases a<;>cases b<;>simp only[iE]<;>(first
  | (rw[fN];simp only[Nat.beq_eq,av];simp only[aX,cz];omega)
  | (simp only[aX,cz];symm;rw[dM];omega))
theorem yd(k:IntKind)(x:Nat):k.wrap ((x%2^k.bits:Nat):Int)=k.wrap (x:Int):=by
 unfold IntKind.wrap;have:((x%2^k.bits:Nat):Int)%(2^k.bits:Int)=(x:Int)%(2^k.bits:Int):=by
  rw[Int.natCast_emod];simp
 simp only[this]
theorem Bj3(k:IntKind)(a b:Nat):k.wrap (((BitVec.ofInt k.bits (Int.ofNat a)&&& BitVec.ofInt k.bits (Int.ofNat b)).toNat:Nat):Int)=k.wrap (Int.ofNat (Nat.land a b)):=by
 have:(BitVec.ofInt k.bits (Int.ofNat a)&&& BitVec.ofInt k.bits (Int.ofNat b)).toNat=(a&&& b)%2^k.bits:=by
  simp only[aX,BitVec.ofInt_natCast,BitVec.toNat_and,BitVec.toNat_ofNat];rw[Nat.and_mod_two_pow]
 rw[this,yd];rfl
theorem Bor(k:IntKind)(a b:Nat):k.wrap (((BitVec.ofInt k.bits (Int.ofNat a)||| BitVec.ofInt k.bits (Int.ofNat b)).toNat:Nat):Int)=k.wrap (Int.ofNat (Nat.lor a b)):=by
 have:(BitVec.ofInt k.bits (Int.ofNat a)||| BitVec.ofInt k.bits (Int.ofNat b)).toNat=(a||| b)%2^k.bits:=by
  simp only[aX,BitVec.ofInt_natCast,BitVec.toNat_or,BitVec.toNat_ofNat];rw[Nat.or_mod_two_pow]
 rw[this,yd];rfl
theorem Bjj(k:IntKind)(a b:Nat):k.wrap (((BitVec.ofInt k.bits (Int.ofNat a) ^^^ BitVec.ofInt k.bits (Int.ofNat b)).toNat:Nat):Int)=k.wrap (Int.ofNat (Nat.xor a b)):=by
 have:(BitVec.ofInt k.bits (Int.ofNat a) ^^^ BitVec.ofInt k.bits (Int.ofNat b)).toNat=(a ^^^ b)%2^k.bits:=by
  simp only[aX,BitVec.ofInt_natCast,BitVec.toNat_xor,BitVec.toNat_ofNat];rw[Nat.xor_mod_two_pow]
 rw[this,yd];rfl
section
variable(f:Loc)(w:World)
theorem Bmx{k:IntKind}{a b:Int}(t:TypeId)(hs:ur op=false)(h:pN op k a b=some v):
 (binOp op t (.int k a) (.int k b)).run P w=.ok (Cl f v) w:=by
 cases op<;>simp only[pN]at h
 case add=>cases h;simp[binOp,Op.intArith,Cl,L7];try rfl
 case sub=>cases h;simp[binOp,Op.intArith,Cl,L7];try rfl
 case mul=>cases h;simp[binOp,Op.intArith,Cl,L7];try rfl
 case quo=>
  obtain⟨h1,h2⟩:=T2 h;cases h2;rw[lr,dM]at h1;simp[binOp,Op.intDiv,Cl,L7,h1]
 case rem=>
  obtain⟨h1,h2⟩:=T2 h;cases h2;rw[lr,dM]at h1;simp[binOp,Op.intDiv,Cl,h1]
 case and=>
  split at h
  ·cases h;simp only[binOp,ne_eq,aC,ak,Op.intBits,aR,Bj3,Cl,L7]
  ·cases h
 case or=>
  split at h
  ·cases h;simp only[binOp,ne_eq,aC,ak,Op.intBits,aR,Bor,Cl,L7]
  ·cases h
 case xor=>
  split at h
  ·cases h;simp only[binOp,ne_eq,aC,ak,Op.intBits,aR,Bjj,Cl,L7]
  ·cases h
 case lss=>cases h;simp only[binOp,ne_eq,aC,ak,Op.intCmp,aR,Cl,p_]
 case gtr=>cases h;simp only[binOp,ne_eq,aC,ak,Op.intCmp,aR,Cl,p_,gt_iff_lt]
 case eql=>
  cases h;simp only[binOp,ne_eq,aC,ak,Op.intCmp,aR,Cl,lr];congr 2
 case neq=>
  cases h;simp only[binOp,ne_eq,aC,ak,Op.intCmp,aR,Cl,lr,Br];congr 2;by_cases e:a=b<;>simp[e]
 case leq=>
  cases h;simp only[binOp,ne_eq,aC,ak,Op.intCmp,aR,Cl,p_,Br];congr 2;by_cases e:b<a
  ·simp[e]
  ·simp[e,Int.not_lt.1 e]
 case geq=>
  cases h;simp only[binOp,ne_eq,aC,ak,Op.intCmp,aR,Cl,p_,Br];congr 2;by_cases e:a<b
  ·simp[e]
  ·simp[e,Int.not_lt.1 e]
 all_goals first|(cases h;done)|(simp[ur]at hs;done)
theorem Bhs{k:IntKind}{a:Int}{b:Nat}(t:TypeId)(h:uF op k a b=some v):
 (binOp op t (.int k a) (.int k' (.ofNat b))).run P w=.ok (Cl f v) w:=by
 have hm:Bb (Nat.ble b k.bits) b k.bits=min b k.bits:=by
  rw[Br];simp only[dH];split<;>omega
 have hb:¬(Int.ofNat b<0):=by simp
 cases op<;>simp only[uF]at h
 case shl=>
  cases h;simp only[binOp,Op.shift,hb,ak,aR,Cl,L7,hm];congr 3
 case shr=>
  split at h
  ·cases h
   simp only[binOp,Op.shift,hb,ak,aR,Cl,hm];congr 2;simp only[aX,bJ];have e:Nat.shiftRight=fun(a b:Nat)=>a >>> b:=rfl
   simp only[e];rw[fS,fQ _ (by exact_mod_cast cO _)];simp
  ·cases h
   simp only[binOp,Op.shift,hb,ak,aR,Cl,hm];congr 2
 all_goals (cases h;done)
end
end
section
def Awz:TypeDesc->Bool
 | .struct _=>true
 | .array _ _=>true
 | _=>false
structure Q4(P:Program)(T:I5):Prop where
 mixed:P.follows .mixedOrders=true
 fn:∀g fn,T.fn g=some fn->P.funcs[g]? = some fn/\(fn.name == "runtime.NumGoroutine")=false
 Ud:∀t d,T.Ud t=some d->P.underlying t=some d
 size:∀t n,T.size t=some n->∃i,P.info? t=some i/\i.size=n/\i.bytes<=1048576
 zero:∀t z,T.zero t=some z->∃i v x,P.info? t=some i/\i.zero=some v/\ofV v=some x/\x.plain=true/\z=x.cells/\i.size=z.length/\i.bytes<=1048576 /\
  (T.agg t=some true->x=.agg z)/\(T.agg t=some false->z = [x])
 agg:∀t b,T.agg t=some b->∃d,P.underlying t=some d/\Awz d=b
 eqs:∀t sh,T.eqs t=some sh->P.eqGuardType P.depth t=false/\∀(f:Loc) (w:World) (a b:List EV) (r:Bool),Ey a b=some r->shaped sh a=true ->
  (Op.equal t (.agg (Bo f a).toArray) (.agg (Bo f b).toArray)).run P w=.ok r w
 key:∀t,T.key t=true->(∃d,P.underlying t=some d/\Awz d=true)/\∀(f:Loc) (w:World) (e:Bool) (a:List EV) (sh:List Nat),T.eqs t=some sh->shaped sh a=true ->
  (Instr.checkKey e 10000 t (.agg (Bo f a).toArray)).run P w=.ok () w
section
variable(hT:Q4 P T)(w:World)
include hT
theorem Dz{d:TypeDesc}(h:T.Ud t=some d):(underlying t).run P w=.ok d w:=by
 simp[underlying,hT.Ud t d h]
theorem G0(h:T.size t=some n):(sizeOf t).run P w=.ok n w:=by
 obtain⟨i,h1,h2,_⟩:=hT.size t n h;simp[sizeOf,typeInfo,h1,h2]
theorem qa{b:Bool}(h:T.agg t=some b):(isAgg t).run P w=.ok b w:=by
 obtain⟨d,h1,h2⟩:=hT.agg t b h;subst h2;cases d<;>simp[isAgg,underlying,h1,Awz]
theorem PD(f:Loc){cs:List EV}(h:part T t cs off=some v):(Go.part t (Bo f cs).toArray off).run P w=.ok (Cl f v) w:=by
 unfold part at h;split at h
 next u=>
  split at h
  next n y=>
   split at h
   next l d=>
    cases h;obtain⟨h1,rfl⟩:=rY d;rw[Tq]at h1⊢;simp only[Go.part,Sem.run_bind,qa hT w u,aI,bM,G0 hT w y,aR,Cl];congr 2;apply dX;simp[Pt,List.extract_eq_take_drop]
   ·cases h
  ·cases h
 next u=>
  split at h
  next x r d=>
   cases h;rw[Tq]at d;have:(Bo f cs).toArray[off]? = some (Cl f v):=by
    have h1:cs[off]? = some v:=by
     have:=cq (xs:=cs) (i:=off) (j:=0);rw[d]at this;simpa using this.symm
    simp[Pt,h1]
   simp only[Go.part,Sem.run_bind,qa hT w u,aI,aT,ak,this,aR]
  ·cases h
 ·cases h
end
theorem U9(b o n:Nat):(⟨b,o,none⟩:Addr).add n=⟨b,o+n,none⟩:=by
 unfold Addr.add;split
 next h=>subst h;rfl
 ·rfl
theorem Bb9(cells vs:List Value)(off:Nat)(h:off+vs.length<=cells.length):
 vs.toArray.zipIdx.foldl (fun cs (x:Value × Nat)=>cs.setIfInBounds (off+x.2) x.1) cells.toArray=(cells.take off++vs++cells.drop (off+vs.length)).toArray:=by
 obtain⟨h1,h2⟩:=Great.foldl_set off vs 0 cells.toArray;have e:vs.toArray.zipIdx.foldl (fun cs (x:Value × Nat)=>cs.setIfInBounds (off+x.2) x.1) cells.toArray=(vs.zipIdx 0).foldl (fun cs (x:Value × Nat)=>cs.setIfInBounds (off+x.2) x.1) cells.toArray:=by
  simp
 rw[e];apply fI;intro k;rw[h2 k];simp only[dI,cp,bX];by_cases c1:k<off
 ·rw[aK a_,bQ,cI (by simp;omega),List.getElem?_take_of_lt c1]
 ·by_cases c2:k<off+vs.length
  ·rw[aN a_,cI (by simp;omega),bm (by simp;omega)]
   congr 1;simp;omega
  ·rw[aK a_,bm (by simp;omega),cq]
   congr 1;simp;omega
theorem ye(f:Loc)(l vs:List EV)(off:Nat):Bo f (l.take off++vs++l.drop (off+vs.length))=(Bo f l).take off++Bo f vs++(Bo f l).drop (off+(Bo f vs).length):=by
 simp[Pt,List.map_take,List.map_drop]
theorem uO(f:Loc)(place:Nat->Option (Nat × Nat))(d:Nat->Option (Nat × Nat))(y:∀i q,place i=some q->d i=some q):
 ∀{cells:List EV} {l:List (Nat × EV)} {c:List EV},fill place cells l=some c->Instr.fill d (Bo f cells).toArray (l.map fun(i,v)=>(i,Cl f v))=some (Bo f c).toArray
 | cells,[],c,h=>by cases h;rfl
 | cells,(i,v)::r,c,h=>by
  unfold fill at h;split at h
  ·cases h
  next off size A=>
   obtain⟨_,h⟩:=Ap h;obtain⟨h1,h2⟩:=Ap h;split at h2
   next x B=>
    rw[Ux]at h1;have u:v.cells.length=size:=aJ h1;obtain⟨D,h4⟩:=Y1 B;simp only[cZ,Instr.fill,y i _ A];have C:(Cl f v).cells=(Bo f v.cells).toArray:=Tz f v;rw[C];simp only[cp,Cw];rw[aK (by simp[u];omega)];have e:=Bb9 (Bo f cells) (Bo f v.cells) off (by simp only[Cw];omega);have e2:(fun(cs:Array Value) (x:Value × Nat)=>match x with|(c,j)=>cs.setIfInBounds (off+j) c)=fun cs x=>cs.setIfInBounds (off+x.2) x.1:=rfl
    rw[e2,e,<-ye,<-h4];exact uO f place d y h2
   ·cases h2
theorem r_(place:Nat->Option (Nat × Nat)){q:EV->Prop}:∀{cells:List EV} {l:List (Nat × EV)} {c:List EV},fill place cells l=some c->(∀v∈cells,q v)->(∀x∈l,∀v∈x.2.cells,q v)->∀v∈c,q v
 | cells,[],c,h,d,_=>by cases h;exact d
 | cells,(i,v)::r,c,h,d,j=>by
  unfold fill at h;split at h
  ·cases h
  ·obtain⟨_,h⟩:=Ap h
   obtain⟨h1,h2⟩:=Ap h;split at h2
   next x A=>
    refine r_ place h2 (fun u hu=>?_) (fun y B=>j y (by simp[B]));rcases yb A hu with hu|hu
    ·exact d u hu
    ·exact j (i,v) (by simp) u hu
   ·cases h2
theorem uP(place:Nat->Option (Nat × Nat)):∀{cells:List EV} {l:List (Nat × EV)} {c:List EV},fill place cells l=some c->∀q∈l,q.2.plain=true
 | cells,[],c,h=>by simp
 | cells,(i,v)::r,c,h=>by
  unfold fill at h;split at h
  ·cases h
  ·obtain⟨h0,h⟩:=Ap h
   obtain⟨h1,h2⟩:=Ap h;split at h2
   ·intro q d
    rcases bc.1 d with rfl|d
    ·exact h0
    ·exact uP place h2 q d
   ·cases h2
theorem uQ:∀(a b:List UInt8),pU a b=decide (a=b)
 | [],[]=>rfl
 | a::r,b::s=>by
  simp only[pU];rw[Br,uQ r s];by_cases h:a=b
  ·subst h
   rw[aN (by simp)];simp
  ·rw[aK]
   ·simp[h]
   ·intro e;exact h (UInt8.toNat_inj.1 (aJ e))
 | [],_::_=>rfl
 | _::_,[]=>rfl
theorem uR(a b:ByteArray):pU a.data.toList b.data.toList=(a == b):=by
 obtain⟨⟨x⟩⟩:=a;obtain⟨⟨y⟩⟩:=b;show pU x y=((⟨x⟩:Array UInt8) == ⟨y⟩);rw[uQ];simp only[List.beq_toArray];by_cases h:x=y
 ·subst h;simp
 ·have:(x == y)=false:=by simpa using h
  rw[this];simp[h]
theorem Bie {a b:ByteArray}(h:(a == b)=true):a=b:=by
 rw[<-uR,uQ]at h;have:=cX h;cases a;cases b;simp only[ByteArray.mk.injEq];apply dX;exact this
section
variable(hT:Q4 P T)(f:Loc)(w:World)
theorem Jz(op:BinOp)(t:TypeId)(x y:Operand)(a b:Value)(h1:∀c d,¬(a=.agg c/\b=.agg d))(h2:¬(a=.nilIface/\b=.nilIface)):(eqGuard op t x y a b).run P w=.ok () w:=by
 unfold eqGuard;cases op<;>simp<;>(split<;>first|rfl|(rename_i e1 e2;exact absurd ⟨rfl,rfl⟩ h2)|(rename_i c d;exact absurd ⟨rfl,rfl⟩ (h1 c d))|simp_all)
theorem A9e(op:BinOp)(t:TypeId)(x y:Operand)(c d:Array Value)(h:P.eqGuardType P.depth t=false):(eqGuard op t x y (.agg c) (.agg d)).run P w=.ok () w:=by
 unfold eqGuard;cases op<;>simp[h]
theorem PE(d:Nat)(t:TypeId)(a b:Bool)(hu:P.underlying t=some .bool):(Op.equalIn (d+1) t (.bool a) (.bool b)).run P w=.ok (a == b) w:=by
 simp[Op.equalIn,underlying,hu]
theorem Bkp(d:Nat)(t:TypeId)(a b:ByteArray)(hu:P.underlying t=some .string):(Op.equalIn (d+1) t (.string a) (.string b)).run P w=.ok (a == b) w:=by
 simp[Op.equalIn,underlying,hu]
theorem PF(d:Nat)(t:TypeId)(e:TypeId)(b:Option Addr)(hu:P.underlying t=some (.pointer e)):(Op.equalIn (d+1) t (.pointer none) (.pointer b)).run P w=.ok b.isNone w:=by
 simp[Op.equalIn,underlying,hu]
theorem Bls(d:Nat)(t:TypeId)(e:TypeId)(b:Addr)(hu:P.underlying t=some (.pointer e)):(Op.equalIn (d+1) t (.pointer (some b)) (.pointer none)).run P w=.ok false w:=by
 simp[Op.equalIn,underlying,hu]
theorem Bf7(d:Nat)(t:TypeId)(e:TypeId)(n:Nat)(b:Addr)(hu:P.underlying t=some (.pointer e))(hs:(sizeOf e).run P w=.ok n w):(Op.equalIn (d+1) t (.pointer (some b)) (.pointer (some b))).run P w=.ok true w:=by
 simp only[Op.equalIn,underlying,hu,Sem.run_bind,hs];simp only[Sem.run_bind,hs,aI,samePointer,sameAddr];simp[hu,hs,aI]
theorem Bhk(d:Nat)(t:TypeId)(e:TypeId)(b:Option Addr)(n m:Nat)(hu:P.underlying t=some (.slice e)):(Op.equalIn (d+1) t (.slice none 0 0) (.slice b n m)).run P w=.ok b.isNone w:=by
 simp[Op.equalIn,underlying,hu]
theorem PG(d:Nat)(t:TypeId)(e:TypeId)(b:Addr)(n m:Nat)(hu:P.underlying t=some (.slice e)):(Op.equalIn (d+1) t (.slice (some b) n m) (.slice none 0 0)).run P w=.ok false w:=by
 simp[Op.equalIn,underlying,hu]
include hT
theorem PH{a b:EV}{r:Bool}(h:jq T t a b=some r):(Op.equal t (Cl f a) (Cl f b)).run P w=.ok r w /\
 (∀op x y,(eqGuard op t x y (Cl f a) (Cl f b)).run P w=.ok () w) /\
 binOp .eql t (Cl f a) (Cl f b)=(do pure (.bool (←Op.equal t (Cl f a) (Cl f b))))/\binOp .neq t (Cl f a) (Cl f b)=(do pure (.bool (!(←Op.equal t (Cl f a) (Cl f b))))):=by
 unfold jq at h;split at h
 next l l'=>
  split at h
  next sh u=>
   obtain⟨A,h4⟩:=Ap h;obtain⟨e1,e2⟩:=hT.eqs t sh u;exact⟨e2 f w l l' r h4 A,fun op x y=>A9e w op t x y _ _ e1,rfl,rfl⟩
  ·cases h
 next p q=>
  split at h
  next hu=>
   cases h;refine⟨?_,fun op x y=>Jz w op t x y _ _ (by intro c d j;cases j.1) (by intro j;cases j.1),rfl,rfl⟩;refine(PE w 9999 t p q (hT.Ud _ _ hu)).trans ?_;cases p<;>cases q<;>rfl
  ·cases h
 ·split at h
  next hu=>
   cases h;exact⟨PF w 9999 t _ none (hT.Ud _ _ hu),fun op x y=>Jz w op t x y _ _ (by intro c d j;cases j.1) (by intro j;cases j.1),rfl,rfl⟩
  ·cases h
 ·split at h
  next hu=>
   cases h;exact⟨PF w 9999 t _ (some _) (hT.Ud _ _ hu),fun op x y=>Jz w op t x y _ _ (by intro c d j;cases j.1) (by intro j;cases j.1),rfl,rfl⟩
  ·cases h
 ·split at h
  next hu=>
   cases h;exact⟨Bls w 9999 t _ _ (hT.Ud _ _ hu),fun op x y=>Jz w op t x y _ _ (by intro c d j;cases j.1) (by intro j;cases j.1),rfl,rfl⟩
  ·cases h
 ·split at h
  next hu=>
   split at h
   next n B=>
    obtain⟨h1,h2⟩:=Ap h;obtain⟨A,h4⟩:=Ap h2;cases h4;rw[aJ h1,aJ A];exact⟨Bf7 w 9999 t _ n _ (hT.Ud _ _ hu) (G0 hT w B),fun op x y=>Jz w op t x y _ _ (by intro c d j;cases j.1) (by intro j;cases j.1),rfl,rfl⟩
   ·cases h
  ·cases h
 ·split at h
  next hu=>
   cases h;exact⟨Bhk w 9999 t _ none 0 0 (hT.Ud _ _ hu),fun op x y=>Jz w op t x y _ _ (by intro c d j;cases j.1) (by intro j;cases j.1),rfl,rfl⟩
  ·cases h
 ·split at h
  next hu=>
   cases h;exact⟨PG w 9999 t _ _ _ _ (hT.Ud _ _ hu),fun op x y=>Jz w op t x y _ _ (by intro c d j;cases j.1) (by intro j;cases j.1),rfl,rfl⟩
  ·cases h
 ·split at h
  next hu=>
   cases h;exact⟨PG w 9999 t _ _ _ _ (hT.Ud _ _ hu),fun op x y=>Jz w op t x y _ _ (by intro c d j;cases j.1) (by intro j;cases j.1),rfl,rfl⟩
  ·cases h
 ·cases h
end
end
section
section
variable(hT:Q4 P T)(f:Loc)(w:World)
include hT
theorem Bop{a b:EV}(h:bin T op t a b=some v)(x y:Operand):
 (eqGuard op t x y (Cl f a) (Cl f b)).run P w=.ok () w/\(binOp op t (Cl f a) (Cl f b)).run P w=.ok (Cl f v) w:=by
 unfold bin at h;split at h
 next k a k' b=>
  refine⟨Jz w op t x y _ _ (by intro c d j;cases j.1) (by intro j;cases j.1),?_⟩;rw[Br]at h;split at h
  ·split at h
   ·exact Bhs f w t h
   ·cases h
  next hs=>
   obtain⟨h1,h2⟩:=Ap h;obtain rfl:=r8 h1;exact Bmx f w t (by simpa using hs) h2
 next B=>
  split at h
  ·split at h
   next r u=>
    cases h;obtain⟨h1,h2,A,_⟩:=PH hT f w u;refine⟨h2 _ x y,?_⟩;rw[A];simp[h1,Cl]
   ·cases h
  ·split at h
   next r u=>
    cases h;obtain⟨h1,h2,_,A⟩:=PH hT f w u;refine⟨h2 _ x y,?_⟩;rw[A];simp[h1,Cl,Br]
   ·cases h
  ·cases h
theorem sa {x:Option EV}{hi:Nat}(h:bound x hi jU=some n)(code:BoundsCode):
 (∀u,x=some u->(Instr.sliceBound (Cl f u) hi code).run P w=.ok n w)/\(x=none->n=jU):=by
 cases x with
 | none=>cases h;exact⟨fun u hu=>(by cases hu),fun _=>rfl⟩
 | some u=>
  refine⟨fun j hu=>?_,fun hu=>(by cases hu)⟩;cases hu;unfold bound at h;split at h
  next d=>cases d
  next k m d=>
   cases d;obtain⟨h1,h2⟩:=Ap h;cases h2;simp only[dH]at h1;simp only[Instr.sliceBound,Cl,asIntOf,Sem.run_bind,aR,aI];rw[aN (by simp;omega)];simp
  ·cases h
theorem yf{len h l:Nat}(d:Bool)(h1:bound hi cap len=some h)(h2:bound lo h 0=some l):
 (Instr.sliceBounds d len cap (lo.map (Cl f)) (hi.map (Cl f)) none).run P w=.ok (l,h,cap) w:=by
 obtain⟨j,A⟩:=sa hT f w h1 (if d=true then .sliceAcap else .sliceAlen);obtain⟨b1,b2⟩:=sa hT f w h2 .sliceB;unfold Instr.sliceBounds;cases hi with
 | none=>
  obtain rfl:=A rfl;cases lo with
  | none=>obtain rfl:=b2 rfl;simp
  | some u=>simp[b1 u rfl]
 | some y=>
  cases lo with
  | none=>obtain rfl:=b2 rfl;simp[j y rfl]
  | some u=>simp[j y rfl,b1 u rfl]
theorem A99{len room h l:Nat}(j:Bool){y d:EV}(hm:mx=some y)(C:hi=some d)(G:room<=cap)(h0:bound mx room 0=some m)(h1:bound hi m 0=some h)(h2:bound lo h 0=some l):
 (Instr.sliceBounds j len cap (lo.map (Cl f)) (hi.map (Cl f)) (mx.map (Cl f))).run P w=.ok (l,h,m) w:=by
 have A:bound mx cap 0=some m:=by
  subst hm;unfold bound at h0⊢;split at h0
  next D=>cases D
  ·obtain⟨E,F⟩:=Ap h0
   cases F;simp only[dH]at E;rw[Br,aN (by simp only[dH];omega)]
  ·cases h0
 obtain⟨c1,_⟩:=sa hT f w A (if j=true then .slice3Acap else .slice3Alen);obtain⟨B,_⟩:=sa hT f w h1 .slice3B;obtain⟨b1,b2⟩:=sa hT f w h2 .slice3C;subst hm C;unfold Instr.sliceBounds;cases lo with
 | none=>obtain rfl:=b2 rfl;simp[c1 y rfl,B d rfl]
 | some u=>simp[c1 y rfl,B d rfl,b1 u rfl]
omit hT in
theorem PI {x:Option EV}{hi:Nat}(hd:jU<=hi)(h:bound x hi jU=some n):n<=hi:=by
 unfold bound at h;split at h
 ·cases h;exact hd
 ·obtain⟨h1,h2⟩:=Ap h
  cases h2;simpa only[dH]using h1
 ·cases h
theorem PJ {len room:Nat}{op:Bool}{size:Nat}(h:iJ (.slice i off len room op) size lo hi mx=some v)(d:Bool):
 ∃l u m,(Instr.sliceBounds d len (if op=true then room+f.sp i else room) (lo.map (Cl f)) (hi.map (Cl f)) (mx.map (Cl f))).run P w=.ok (l,u,m) w /\
  Cl f v=.slice (some (if m=l then(⟨f.b i,off,none⟩:Addr)else(⟨f.b i,off,none⟩:Addr).add (l*size))) (u-l) (m-l):=by
 unfold iJ at h;simp only[Nat.add_eq,Nat.mul_eq,Nat.sub_eq]at h;split at h
 ·split at h
  ·cases h
  next u h1=>
   split at h
   ·cases h
   next l h2=>
    rw[Br]at h;split at h
    next y=>
     subst y;have C:bound hi (room+f.sp i) len=some u:=by
      unfold bound at h1⊢;split at h1
      ·exact h1
      ·obtain⟨H,J⟩:=Ap h1
       cases J;simp only[dH]at H;rw[Br,aN (by simp only[dH];omega)]
      ·cases h1
     have hb:=yf hT f w d C h2;refine⟨l,u,room+f.sp i,by simpa using hb,?_⟩;rw[Br]at h;split at h
     next h0=>
      have D:=aJ h0;subst D;cases h;simp only[Cl,bM,fZ,gO];congr 2;rw[U9];simp
     ·rw[Br]at h
      split at h
      next h0=>
       cases h;simp only[dH]at h0;rw[aK a_,U9];simp only[Cl,bM];congr 1;omega
      ·obtain⟨G,h4⟩:=Ap h
       have E:=aJ G;subst E;obtain⟨K,L⟩:=Ap h4;cases L;have F:=aJ K;subst F;simp only[Cl,fM,U9];congr 1
       ·by_cases A:f.sp i=0
        ·rw[aN A,aN a_]
        ·rw[aK A,aK a_]
       ·omega
    next y=>
     obtain⟨G,h4⟩:=Ap h;cases h4;have B:op=false:=by simpa using y
     subst B;have hb:=yf hT f w d h1 h2;refine⟨l,u,room,by simpa using hb,?_⟩;simp only[Cl,aT,ak];rw[Br];congr 2;by_cases j:room=l
     ·rw[aN (by rw[j];exact cP l),aN j]
     ·rw[aK (by simpa using j),aK j,U9]
 next M=>
  cases hm:bound (some M) room 0 with
  | none=>rw[hm]at h;cases h
  | some m=>
   rw[hm]at h;cases hi with
   | none=>cases h
   | some O=>
    simp only at h;split at h
    ·cases h
    next u h1=>
     split at h
     ·cases h
     next l h2=>
      cases h;have hb:=A99 hT f w (len:=len) d rfl rfl (cap:=if op=true then room+f.sp i else room) (room:=room) (by split<;>omega) hm h1 h2;refine⟨l,u,m,hb,?_⟩;simp only[Cl,aT,ak];rw[Br];congr 2;by_cases j:m=l
      ·rw[aN (by rw[j];exact cP l),aN j]
      ·rw[aK (by simpa using j),aK j,U9]
end
end
section
theorem PK:∀(l:List (Nat × Nat)) (i:Nat),kY l i=l[i]?
 | [],i=>by simp[kY]
 | a::r,0=>rfl
 | a::r,i+1=>by
  have:kY (a::r) (i+1)=kY r i:=rfl;rw[this,PK r i];simp
theorem PL:∀(l:List UInt8) (i:Nat),pV l i=l[i]?
 | [],i=>by simp[pV]
 | a::r,0=>rfl
 | a::r,i+1=>by
  have:pV (a::r) (i+1)=pV r i:=rfl;rw[this,PL r i];simp
theorem oK(f:Loc)(l:List EV)(i:Nat):(Bo f l)[i]? = (l[i]?).map (Cl f):=by rw[Pt,aY]
theorem Xc(d:Reads f tm ρ){x:Option Operand}{v:Option EV}(h:jd tm x=some v):x.map ρ=v.map (Cl f):=by
 cases x with
 | none=>simp only[jd]at h;cases h;rfl
 | some x=>
  simp only[jd]at h;split at h
  next a j=>
   cases h;simp[Bj d j]
  ·cases h
section
variable(hT:Q4 P T)(f:Loc)(w:World)
include hT
theorem PM:∀{l:List Field} {ps:List (Nat × Nat)},placesOf T l=some ps ->
 (l.mapM (m:=Sem) fun fd=>do pure (fd.offset,<-sizeOf fd.type)).run P w=.ok ps w
 | [],ps,h=>by cases h;rfl
 | fd::r,ps,h=>by
  unfold placesOf at h;split at h
  next n d=>
   split at h
   next q j=>
    cases h;rw[List.mapM_cons];have u:=PM j;simp only[Sem.run_bind,G0 hT w d,aI,aR,u]
   ·cases h
  ·cases h
theorem nB{z:List EV}(h:T.zero t=some z):∃x:EV,x.plain=true/\z=x.cells/\(zeroValue t).run P w=.ok (Cl f x) w /\
 (T.agg t=some true->x=.agg z)/\(T.agg t=some false->z = [x])/\(∀p,x.ok p)/\∃i,P.info? t=some i/\i.size=z.length/\i.bytes<=1048576:=by
 obtain⟨i,v,x,h1,h2,d,h4,j,u,y,A,B⟩:=hT.zero t z h;refine⟨x,h4,j,?_,A,B,fun p=>x_ p d,i,h1,u,y⟩;rw[O' f d];simp[zeroValue,typeInfo,h1,h2]
theorem Blc(A:Reads f tm ρ)(h:E6 T tm o.op=some v):
 (execOp ρ o).run P w=.ok (.value (Cl f v)) w:=by
 obtain⟨dst,op,type,after,pos,guard⟩:=o;simp only at h;cases op with
 | move x=>simp only[E6]at h;simp[execOp,Bj A h]
 | assign x=>simp only[E6]at h;simp[execOp,Bj A h]
 | pick c a b=>
  simp only[E6]at h;split at h
  next G=>simp[execOp,Bj A G,Bj A h,Cl,asBool]
  next G=>simp[execOp,Bj A G,Bj A h,Cl,asBool]
  ·cases h
 | binOp op t x y c=>
  simp only[E6]at h;split at h
  next a V=>
   split at h
   next b hb=>
    obtain⟨h1,h2⟩:=Bop hT f w h x y;simp[execOp,Bj A V,Bj A hb,h1,h2]
   ·cases h
  ·cases h
 | unOp op t x=>
  cases op with
  | not=>
   simp only[E6]at h;split at h
   next b B=>
    cases h;cases b<;>simp[execOp,Bj A B,Cl,Op.unary]
   ·cases h
  | neg=>
   simp only[E6]at h;split at h
   next k n B=>
    cases h;simp only[execOp,Bj A B,Cl,Op.unary,Op.intArith,L7,Sem.run_bind,aR,aI];rfl
   ·cases h
  | _=>simp[E6]at h
 | nilCheck x=>
  simp only[E6]at h;split at h
  next i off B=>
   cases h;simp[execOp,Bj A B,Cl]
  ·cases h
 | fieldAddr s x W=>
  simp only[E6]at h;split at h
  next i off B=>
   split at h
   next fields hu=>
    split at h
    next fd S=>
     split at h
     next n hn=>
      obtain⟨h1,h2⟩:=T2 h;cases h2;rw[yc]at S;have H:fields[W]? = some fd:=by simpa using S
      have U:n≠0:=by intro e;subst e;cases h1
      simp[execOp,Instr.fieldAt,Bj A B,Dz hT w hu,H,Cl,Instr.sureAddr,fieldPlace,G0 hT w hn,U,U9]
     ·cases h
    ·cases h
   ·cases h
  ·cases h
 | indexAddr t x ix=>
  simp only[E6]at h;split at h
  next k n C=>
   split at h
   next len e i off hu B=>
    split at h
    next s hs=>
     obtain⟨h1,h2⟩:=Ap h;cases h2;simp only[dH]at h1;have F:(n:Int)<len:=a_
     simp[execOp,Instr.indexAt,Bj A C,Bj A B,Cl,asIntOf,Dz hT w hu,Instr.sureAddr,G0 hT w hs,U9];exact fun hle=>absurd hle a_
    ·cases h
   next e i off len r op hu B=>
    split at h
    next s hs=>
     obtain⟨h1,h2⟩:=Ap h;cases h2;simp only[dH]at h1;have F:(n:Int)<len:=a_
     simp[execOp,Instr.indexAt,Bj A C,Bj A B,Cl,asIntOf,Dz hT w hu,G0 hT w hs,U9];exact fun hle=>absurd hle a_
    ·cases h
   ·cases h
  ·cases h
 | index t x ix=>
  simp only[E6]at h;split at h
  next k n C=>
   split at h
   next len e cs hu B=>
    split at h
    next s hs=>
     obtain⟨h1,h2⟩:=Ap h;simp only[dH]at h1;have F:(n:Int)<len:=a_
     have M:=PD hT w f h2;simp only[Nat.mul_eq]at M;simp[execOp,Instr.index,Bj A C,Bj A B,Cl,asIntOf,Dz hT w hu,G0 hT w hs,M];exact fun hle=>absurd hle a_
    ·cases h
   next s hu B=>
    split at h
    next b hb=>
     cases h;rw[PL]at hb;have X:s[n]? = some b:=by
      have e:s.data[n]? = some b:=by simpa using hb
      rw[<-e];rfl
     simp[execOp,Instr.index,Bj A C,Bj A B,Cl,asIntOf,Dz hT w hu,X]
    ·cases h
   ·cases h
  ·cases h
 | field t x W=>
  simp only[E6]at h;split at h
  next fields cs hu B=>
   split at h
   next fd S=>
    rw[yc]at S;have H:fields[W]? = some fd:=by simpa using S
    have M:=PD hT w f h;simp[execOp,Instr.field,Bj A B,Cl,Dz hT w hu,H,asAgg,M]
   ·cases h
  ·cases h
 | convert src d x=>
  simp only[E6]at h;split at h
  next ud k k' n hs hd B=>
   cases h;simp only[execOp,Go.convert,Bj A B,Cl,Sem.run_bind,Dz hT w hs,Dz hT w hd,aI,Conv.intToInt,aR,L7]
  ·cases h
 | extract x ix=>
  simp only[E6]at h;split at h
  next l B=>
   split at h
   next u r O=>
    cases h;rw[Tq]at O;have h1:l[ix]? = some v:=by
     have:=cq (xs:=l) (i:=ix) (j:=0);rw[O]at this;simpa using this.symm
    simp[execOp,Instr.extract,Bj A B,Cl,oK,h1]
   ·cases h
  ·cases h
 | slice t x lo hi mx=>
  simp only[E6]at h;split at h
  next ad ae Y J K D=>
   split at h
   next n e i off hu B=>
    split at h
    next s hs=>
     obtain⟨l,Z,m,h1,h2⟩:=PJ hT f w h false;simp only[aT,ak]at h1;simp[execOp,Instr.sliceAt,Dz hT w hu,Bj A B,Xc A J,Xc A K,Xc A D,Cl,Instr.sureAddr,h1,G0 hT w hs,h2]
    ·cases h
   next e x' hu B=>
    split at h
    next s hs=>
     cases x' with
     | slice i off len room op=>
      obtain⟨l,Z,m,h1,h2⟩:=PJ hT f w h true;simp[execOp,Instr.sliceAt,Instr.slice,Dz hT w hu,Bj A B,Xc A J,Xc A K,Xc A D,Cl,h1,G0 hT w hs,h2];split<;>rfl
     | An=>
      unfold iJ at h;cases Y with
      | some _=>cases h
      | none=>
       simp only at h;split at h
       ·cases h
       next Z h1=>
        split at h
        ·cases h
        next l h2=>
         cases h;have e1:Z=0:=Nat.le_zero.1 (PI (aD _) h1);subst e1;have e2:l=0:=Nat.le_zero.1 (PI (aD _) h2);subst e2;have hb:=yf hT f w true h1 h2;have hm:mx=none:=by
          cases mx with
          | none=>rfl
          | some o=>simp only[jd]at D;split at D<;>cases D
         subst hm;simp[execOp,Instr.sliceAt,Instr.slice,Dz hT w hu,Bj A B,Xc A J,Xc A K,Cl,hb,G0 hT w hs]
     | _=>simp[iJ]at h
    ·cases h
   ·cases h
  ·cases h
 | build t ps=>
  simp only[E6]at h;split at h
  next z l fields U O hu=>
   split at h
   next pl aa=>
    split at h
    next c G=>
     cases h;obtain⟨x,_,e1,e2,_⟩:=nB hT f w U;have M:(fields.mapM (m:=Sem) fun fd=>do pure (fd.offset,<-sizeOf fd.type)).run P w=.ok pl.toArray w:=by
      have e:fields=fields.toList.toArray:=by simp
      rw[e,List.mapM_toArray];have Q:=PM hT w aa;simp only[map_eq_pure_bind,Sem.run_bind,Q,aI,aR]
     have E:=uO f (kY pl) (fun i=>pl.toArray[i]?) (fun i q Q=>by rw[PK]at Q;simpa using Q) G;have L:(ps.map fun(i,x)=>(i,ρ x)).toList=l.map fun(i,v)=>(i,Cl f v):=by
      rw[Array.toList_map,uJ A O]
     rw[e1]at E;simp only[execOp,Instr.build,Sem.run_bind,e2,aI,Dz hT w hu,M,Tz,L,E,aR,Cl]
    ·cases h
   ·cases h
  next z l n e U O hu=>
   split at h
   next s hs=>
    split at h
    next c G=>
     cases h;obtain⟨x,_,e1,e2,_⟩:=nB hT f w U;have E:=uO f (fun i=>some (Nat.mul i s,s)) (fun i=>some (i*s,s)) (fun i q Q=>Q) G;have L:(ps.map fun(i,x)=>(i,ρ x)).toList=l.map fun(i,v)=>(i,Cl f v):=by
      rw[Array.toList_map,uJ A O]
     rw[e1]at E;simp only[execOp,Instr.build,Sem.run_bind,e2,aI,Dz hT w hu,G0 hT w hs,Tz,L,E,aR,Cl]
    ·cases h
   ·cases h
  ·cases h
 | makeFunc fn first captured=>
  cases fn with
  | func g=>
   simp only[E6]at h;split at h
   next a b V hb=>
    cases h;have h1:first.map ρ=(Bo f a).toArray:=by apply dX;simp[pZ A V]
    have h2:captured.map ρ=(Bo f b).toArray:=by apply dX;simp[pZ A hb]
    simp[execOp,Instr.makeFunc,Cl,h1,h2]
   ·cases h
  | _=>simp[E6]at h
 | sliceToArrayPointer t x=>
  simp only[E6]at h;split at h
  next n e i off len room op hu B=>
   obtain⟨h1,h2⟩:=Ap h;cases h2;simp only[dH]at h1;have F:¬len<n:=a_
   simp[execOp,Instr.arrayAt,Dz hT w hu,Bj A B,Cl,F]
  ·cases h
 | _=>simp[E6]at h
end
end
theorem Ab.get_put(h:Ab)(i:Nat)(o:Ds)(j:Nat):(h.put i o).get j=if i=j then some o else h.get j:=by
 obtain⟨t,n,m⟩:=h;exact Tr.get_put t i (some o) j
theorem Ab.kQ(h:Ab)(i j:Nat):(h.del i).get j=if i=j then none else h.get j:=by
 obtain⟨t,n,m⟩:=h;exact Tr.get_put t i none j
theorem Ab.Lj(h:Ab)(o:Ds)(j:Nat):(h.new o).get j=if h.next=j then some o else h.get j:=by
 obtain⟨t,n,m⟩:=h;exact Tr.get_put t n (some o) j
theorem Ab.Nz(h:Ab)(i:Nat)(o:Ds):(h.put i o).next=h.next:=rfl
theorem Ab.q_(h:Ab)(i:Nat):(h.del i).next=h.next:=rfl
theorem Ab.Dh(h:Ab)(o:Ds):(h.new o).next=h.next+1:=rfl
theorem Ab.mZ(h:Ab)(i:Nat)(o:Ds):(h.put i o).mw=min i h.mw:=by
 obtain⟨t,n,m⟩:=h;show Bb (Nat.ble i m) i m=min i m;rw[Br];by_cases hi:i<=m
 ·rw[aN (nA hi)];omega
 ·rw[aK (by rw[pX hi];simp)];omega
theorem Ab.ra(h:Ab)(i:Nat):(h.del i).mw=min i h.mw:=Ab.mZ h i (.deferred true)
theorem Ab.Bq3(h:Ab)(o:Ds):(h.new o).mw=h.mw:=rfl
def Ds.ok(p:Nat->Prop):Ds->Prop
 | .cells l _=>EV.T4 p l/\l.all EV.one=true
 | .vec l _ _=>EV.T4 p l/\l.all EV.one=true
 | .map es=>∀e∈es,e.1.ok p/\e.2.ok p
 | .chan _ buf=>EV.T4 p buf
 | .loop _ _ _ n tm _ _ _ d=>Lv p n tm/\p d
 | .deferred _=>True
 | .view ws _=>∀x∈ws,EV.T4 p x.2/\x.2.all EV.one=true
theorem Ds.ok.mono(j:∀i,p i->q i){o:Ds}(h:o.ok p):o.ok q:=by
 cases o with
 | cells l t=>exact⟨EV.T4.mono j l h.1,h.2⟩
 | vec l t s=>exact⟨EV.T4.mono j l h.1,h.2⟩
 | map es=>exact fun e he=>⟨EV.ok.mono j _ (h e he).1,EV.ok.mono j _ (h e he).2⟩
 | chan c buf=>exact EV.T4.mono j buf h
 | loop st y fn n tm ps dT body d=>exact⟨Lv.mono h.1 j,j d h.2⟩
 | deferred b=>trivial
 | view ws _=>exact fun x u=>⟨EV.T4.mono j x.2 (h x u).1,(h x u).2⟩
def Te(f:Loc)(i:Nat):Ds->Obj->Prop
 | .cells l e,r=>r=.cells (Bo f l).toArray e (0,0)
 | .vec l e s,r=>∃more:List Value,r=.cells (Bo f l++more).toArray e (0,0)/\more.length=f.sp i*s
 | .map es,r=>∃fc clock,r=.map fc clock/\fc.toList.map (fun e=>(e.key,e.val))=es.map (fun e=>(Cl f e.1,Cl f e.2))
 | .chan cap buf,r=>∃s c,r=.chan cap (Bo f buf).toArray false s c false
 | .loop st p fn n tm ps dT body d,r=>r=.loop ⟨st,p,fn,Bi f n tm,ps.toArray,dT,body,f.b d⟩
 | .deferred op,r=>r=.deferred (if op=true then some []else none)
 | .view ws r0,r=>r=r0/\∃arr e fr,r=.cells arr e fr/\∀x∈ws,∀(j:Nat) v,x.2[j]? = some v->arr[x.1+j]? = some (Cl f v)
theorem Te.congr(u:Loc.agree p f g)(hi:p i){o:Ds}(y:o.ok p){r:Obj}(h:Te f i o r):Te g i o r:=by
 cases o with
 | cells l t=>simp only[Te]at h⊢;rw[h,F9 u l y.1]
 | vec l t s=>simp only[Te]at h⊢;obtain⟨more,h1,h2⟩:=h;exact⟨more,by rw[h1,F9 u l y.1],by rw[h2,(u i hi).2]⟩
 | map es=>
  obtain⟨fc,clock,h1,h2⟩:=h;refine⟨fc,clock,h1,?_⟩;rw[h2];apply cr;intro e he;rw[pY u _ (y e he).1,pY u _ (y e he).2]
 | chan c buf=>obtain⟨s,B,h1⟩:=h;exact⟨s,B,by rw[h1,F9 u buf y]⟩
 | loop st C fn n tm ps dT body d=>simp only[Te]at h⊢;rw[h,Lf u y.1,(u d y.2).1]
 | deferred b=>exact h
 | view ws r0=>
  obtain⟨h0,arr,e,fr,h1,h2⟩:=h;exact⟨h0,arr,e,fr,h1,fun x A j v hj=>by rw[<-pY u v ((Ie p x.2).1 (y x A).1 v (dR hj))];exact h2 x A j v hj⟩
structure Tw(p:Nat->Prop)(h:Ab):Prop where
 lt:∀i,p i->i<h.next
 get:∀i o,h.get i=some o->p i/\o.ok p
structure T8(f:Loc)(h:Ab)(w:World):Prop where
 obj:∀i o,h.get i=some o->∃r,w.heap[f.b i]? = some r/\Te f i o r
 inj:∀i j o o',h.get i=some o->h.get j=some o'->f.b i=f.b j->i=j
theorem T8.sub{w:World}(y:T8 f h w)(hs:∀i o,h'.get i=some o->h.get i=some o):T8 f h' w where
 obj i o d:=y.obj i o (hs i o d)
 inj i j o o' d u e:=y.inj i j o o' (hs i o d) (hs j o' u) e
theorem T8.lt{w:World}(d:T8 f h w){o:Ds}(j:h.get i=some o):f.b i<w.heap.size:=by
 obtain⟨r,h1,_⟩:=d.obj i o j;exact(br.1 h1).1
def grow(p:Nat->Prop)(h h':Ab)(i:Nat):Prop:=p i\/(h.next<=i/\i<h'.next)
theorem Ks(p:Nat->Prop)(h h':Ab)(e:h'.next=h.next):grow p h h'=p:=by
 funext i;exact propext ⟨fun x=>x.elim id (fun⟨a,b⟩=>absurd b a_),.inl⟩
theorem pQ(p:Nat->Prop)(a:h.next<=h1.next)(b:h1.next<=h2.next):grow (grow p h h1) h1 h2=grow p h h2:=by
 funext i;apply propext;constructor
 ·rintro((x|x)|x)
  ·exact .inl x
  ·exact .inr a_
  ·exact .inr a_
 ·rintro(x|x)
  ·exact .inl (.inl x)
  ·by_cases c:i<h1.next
   ·exact .inl (.inr ⟨x.1,c⟩)
   ·exact .inr a_
structure Wf(p:Nat->Prop)(h h':Ab):Prop where
 next:h.next<=h'.next
 mw:h'.mw<=h.mw
 same:∀i,i<h'.mw->i<h.next->h'.get i=h.get i
 live:∀i o,h'.get i=some o->(∃o',h.get i=some o')\/h.next<=i
 hok:Tw (grow p h h') h'
structure Move(p:Nat->Prop)(f:Loc)(h:Ab)(w:World)(f':Loc)(h':Ab)(w':World):Prop where
 agree:Loc.agree p f f'
 rep:T8 f' h' w'
 kept:∀b,b<w.heap.size->(∀i o,h.get i=some o->f.b i≠b)->w'.heap[b]? = w.heap[b]?
 size:w.heap.size<=w'.heap.size
 tape:w'.tape=w.tape
 os:w'.os=w.os
 output:w'.output=w.output
 own:∀i o,h'.get i=some o->w.heap.size<=f'.b i\/∃j o',h.get j=some o'/\f'.b i=f.b j
theorem Wf.refl(d:Tw p h):Wf p h h where
 next:=aD _
 mw:=aD _
 same _ _ _:=rfl
 live i o j:=.inl ⟨o,j⟩
 hok:=by rw[Ks p h h rfl];exact d
theorem Wf.trans(a:Wf p h h1)(b:Wf (grow p h h1) h1 h2):Wf p h h2 where
 next:=bN a.next b.next
 mw:=bN b.mw a.mw
 same i x y:=by rw[b.same i x (by have:=a.next;omega),a.same i (by have:=b.mw;omega) y]
 live i o j:=by
  rcases b.live i o j with⟨o',d⟩|hi
  ·exact a.live i o' d
  ·exact .inr (by have:=a.next;omega)
 hok:=by rw[<-pQ p a.next b.next];exact b.hok
theorem Move.refl{w:World}(d:T8 f h w):Move p f h w f h w where
 agree:=Loc.uI p f
 rep:=d
 kept _ _ _:=rfl
 size:=aD _
 tape:=rfl
 os:=rfl
 output:=rfl
 own i o j:=.inr ⟨i,o,j,rfl⟩
theorem Move.trans{f1 f2:Loc}{w w1 w2:World}(a:Move p f h w f1 h1 w1)
 (b:Move (grow p h h1) f1 h1 w1 f2 h2 w2):Move p f h w f2 h2 w2 where
 agree:=a.agree.trans (b.agree.mono fun i hi=>.inl hi)
 rep:=b.rep
 kept x B C:=by
  rw[b.kept x (aL B a.size) ?_,a.kept x B C];intro i o y e;rcases a.own i o y with hi|⟨j,o',d,hj⟩
  ·omega
  ·exact C j o' d (hj▸e)
 size:=bN a.size b.size
 tape:=b.tape.trans a.tape
 os:=b.os.trans a.os
 output:=b.output.trans a.output
 own i o y:=by
  rcases b.own i o y with hi|⟨j,o',d,hj⟩
  ·exact .inl (bN a.size hi)
  ·rcases a.own j o' d with hi|⟨k,A,u,D⟩
   ·exact .inl (hj▸hi)
   ·exact .inr ⟨k,A,u,hj.trans D⟩
theorem Wf.put(d:Tw p h){o:Ds}(hi:h.get i=some o)(u:o'.ok p):Wf p h (h.put i o') where
 next:=aD _
 mw:=by rw[Ab.mZ];omega
 same j x _:=by rw[Ab.mZ]at x;rw[Ab.get_put,aK a_]
 live j q hj:=by
  rw[Ab.get_put]at hj;split at hj
  next e=>subst e;exact .inl ⟨o,hi⟩
  ·exact .inl ⟨q,hj⟩
 hok:=by
  rw[Ks p h (h.put i o') rfl];refine⟨d.lt,fun j q hj=>?_⟩;rw[Ab.get_put]at hj;split at hj
  next e=>subst e;cases hj;exact⟨(d.get i o hi).1,u⟩
  ·exact d.get j q hj
theorem Move.put{w:World}(d:T8 f h w){o:Ds}(hi:h.get i=some o)
 {r:Obj} (h1:w'.heap[f.b i]? = some r) (h2:Te f i o' r) (B:∀b,b≠f.b i->w'.heap[b]? = w.heap[b]?) (h4:w'.heap.size=w.heap.size)
 (C:w'.tape=w.tape) (D:w'.os=w.os) (E:w'.output=w.output):Move p f h w f (h.put i o') w' where
 agree:=Loc.uI p f
 rep:=by
  refine⟨fun j q hj=>?_,fun j k q q' hj u e=>?_⟩
  ·rw[Ab.get_put]at hj
   split at hj
   next e=>subst e;cases hj;exact⟨r,h1,h2⟩
   next e=>
    obtain⟨F,a,b⟩:=d.obj j q hj;refine⟨F,?_,b⟩;rw[B _ ?_]
    ·exact a
    ·intro e';exact e (d.inj j i q o hj hi e').symm
  ·have y:∃q,h.get j=some q:=by
    rw[Ab.get_put]at hj;split at hj
    next e=>exact⟨o,e▸hi⟩
    ·exact⟨q,hj⟩
   have A:∃q,h.get k=some q:=by
    rw[Ab.get_put]at u;split at u
    next e=>exact⟨o,e▸hi⟩
    ·exact⟨q',u⟩
   obtain⟨a,G⟩:=y;obtain⟨b,hb⟩:=A;exact d.inj j k a b G hb e
 kept b _ H:=B b (fun e=>H i o hi e.symm)
 size:=a_
 tape:=C
 os:=D
 output:=E
 own j q hj:=by
  rw[Ab.get_put]at hj;split at hj
  next e=>subst e;exact .inr ⟨i,o,hi,rfl⟩
  ·exact .inr ⟨j,q,hj,rfl⟩
def Loc.set(f:Loc)(i b sp:Nat):Loc:=⟨fun j=>if j=i then b else f.b j,fun j=>if j=i then sp else f.sp j⟩
theorem Loc.Xp(f:Loc)(i b sp:Nat):(f.set i b sp).b i=b:=aN rfl
theorem Loc.nC(f:Loc)(i b sp:Nat):(f.set i b sp).sp i=sp:=aN rfl
theorem Loc.Uu(f:Loc){j:Nat}(b sp:Nat)(h:j≠i):(f.set i b sp).b j=f.b j/\(f.set i b sp).sp j=f.sp j:=⟨aK h,aK h⟩
theorem Loc.Nq(f:Loc)(b sp:Nat)(h:¬p i):Loc.agree p f (f.set i b sp):=fun j hj=>
 have e:j≠i:=fun e=>h (e▸hj)
 ⟨(f.Uu b sp e).1.symm,(f.Uu b sp e).2.symm⟩
theorem Tw.fresh(d:Tw p h):¬p h.next:=fun x=>absurd (d.lt _ x) a_
theorem Tw.oL(d:Tw p h){o:Ds}(hi:h.get i=some o):i≠h.next:=fun e=>d.fresh (e▸(d.get i o hi).1)
theorem Wf.new(d:Tw p h){o:Ds}(u:o.ok (grow p h (h.new o))):Wf p h (h.new o) where
 next:=by rw[Ab.Dh];omega
 mw:=aD _
 same j x y:=by rw[Ab.Lj,aK a_]
 live j q hj:=by
  rw[Ab.Lj]at hj;split at hj
  next e=>exact .inr a_
  ·exact .inl ⟨q,hj⟩
 hok:=by
  refine⟨fun j hj=>?_,fun j q hj=>?_⟩
  ·rcases hj with hj|hj
   ·have:=d.lt j hj;rw[Ab.Dh];omega
   ·exact hj.2
  ·rw[Ab.Lj]at hj
   split at hj
   next e=>cases hj;exact⟨.inr (by rw[Ab.Dh];omega),u⟩
   ·exact⟨.inl (d.get j q hj).1,Ds.ok.mono (fun i hi=>.inl hi) (d.get j q hj).2⟩
theorem Move.new{w:World}(d:Tw p h)(y:T8 f h w){o:Ds}(sp:Nat)
 {r:Obj} (h1:w'.heap=w.heap.push r) (h2:Te (f.set h.next w.heap.size sp) h.next o r)
 (A:w'.tape=w.tape) (B:w'.os=w.os) (C:w'.output=w.output):Move p f h w (f.set h.next w.heap.size sp) (h.new o) w' where
 agree:=f.Nq _ _ d.fresh
 rep:=by
  refine⟨fun j q hj=>?_,fun j k q q' hj u e=>?_⟩
  ·rw[Ab.Lj]at hj
   split at hj
   next e=>subst e;cases hj;exact⟨r,by rw[Loc.Xp,h1];simp,h2⟩
   ·obtain⟨D,a,b⟩:=y.obj j q hj
    have F:=y.lt hj;obtain⟨E,hok⟩:=d.get j q hj;refine⟨D,?_,b.congr (f.Nq _ _ d.fresh) E hok⟩;rw[(f.Uu _ _ (d.oL hj)).1,h1,Array.getElem?_push,aK a_];exact a
  ·rw[Ab.Lj]at hj u
   split at hj
   next e1=>
    split at u
    next e2=>omega
    ·subst e1
     rw[Loc.Xp,(f.Uu _ _ (d.oL u)).1]at e;have:=y.lt u;omega
   ·split at u
    next e2=>
     subst e2;rw[Loc.Xp,(f.Uu _ _ (d.oL hj)).1]at e;have:=y.lt hj;omega
    ·rw[(f.Uu _ _ (d.oL hj)).1,(f.Uu _ _ (d.oL u)).1]at e
     exact y.inj j k q q' hj u e
 kept b hb _:=by rw[h1,Array.getElem?_push,aK a_]
 size:=by rw[h1];simp
 tape:=A
 os:=B
 output:=C
 own j q hj:=by
  rw[Ab.Lj]at hj;split at hj
  next e=>subst e;rw[Loc.Xp];exact .inl (aD _)
  ·exact .inr ⟨j,q,hj,(f.Uu _ _ (d.oL hj)).1⟩
theorem Tw.del(d:Tw p h)(i:Nat):Tw p (h.del i):=
 ⟨d.lt,fun j q hj=>by rw[Ab.kQ]at hj;split at hj;cases hj;exact d.get j q hj⟩
theorem Wf.del(d:Tw p h)(i:Nat):Wf p h (h.del i) where
 next:=aD _
 mw:=by rw[Ab.ra];omega
 same j x _:=by rw[Ab.ra]at x;rw[Ab.kQ,aK a_]
 live j q hj:=by
  rw[Ab.kQ]at hj;split at hj
  ·cases hj
  ·exact .inl ⟨q,hj⟩
 hok:=by rw[Ks p h (h.del i) rfl];exact d.del i
theorem oM:∀j o,(h.del i).get j=some o->h.get j=some o:=by
 intro j o hj;rw[Ab.kQ]at hj;split at hj
 ·cases hj
 ·exact hj
theorem Wf.oN(d:Tw p h)(i:Nat){o:Ds}(j:o.ok (grow p h (h.new o))):Wf p h ((h.del i).new o):=by
 have a:=Wf.del d i;have e:grow p h (h.del i)=p:=Ks p h (h.del i) rfl;have b:Wf (grow p h (h.del i)) (h.del i) ((h.del i).new o):=by
  rw[e];exact Wf.new (d.del i) j
 exact a.trans b
theorem Move.oN{w:World}(y:Tw p h)(d:T8 f h w){o:Ds}(hi:h.get i=some o)(sp:Nat)
 {r:Obj} (h1:w'.heap[f.b i]? = some r) (h2:Te (f.set h.next (f.b i) sp) h.next o' r) (A:∀b,b≠f.b i->w'.heap[b]? = w.heap[b]?) (h4:w'.heap.size=w.heap.size)
 (C:w'.tape=w.tape) (D:w'.os=w.os) (E:w'.output=w.output):Move p f h w (f.set h.next (f.b i) sp) ((h.del i).new o') w' where
 agree:=f.Nq _ _ y.fresh
 rep:=by
  have key:∀j q,((h.del i).new o').get j=some q->(j=h.next/\q=o')\/(j≠i/\j≠h.next/\h.get j=some q):=by
   intro j q hj;rw[Ab.Lj]at hj;split at hj
   next e=>cases hj;exact .inl ⟨e.symm,rfl⟩
   next e=>
    rw[Ab.kQ]at hj;split at hj
    ·cases hj
    next e'=>exact .inr ⟨fun x=>e' x.symm,fun x=>e x.symm,hj⟩
  refine⟨fun j q hj=>?_,fun j k q q' hj B e=>?_⟩
  ·rcases key j q hj with⟨rfl,rfl⟩|⟨c1,c2,c3⟩
   ·exact⟨r,by rw[Loc.Xp];exact h1,h2⟩
   ·obtain⟨F,a,b⟩:=d.obj j q c3
    obtain⟨G,hok⟩:=y.get j q c3;refine⟨F,?_,b.congr (f.Nq _ _ y.fresh) G hok⟩;rw[(f.Uu _ _ c2).1,A _ (fun e=>c1 (d.inj j i q o c3 hi e))];exact a
  ·rcases key j q hj with⟨rfl,rfl⟩|⟨c1,c2,c3⟩
   ·rcases key k q' B with⟨rfl,rfl⟩|⟨d1,d2,d3⟩
    ·rfl
    ·rw[Loc.Xp,(f.Uu _ _ d2).1]at e
     exact absurd (d.inj i k o q' hi d3 e).symm d1
   ·rcases key k q' B with⟨rfl,rfl⟩|⟨d1,d2,d3⟩
    ·rw[Loc.Xp,(f.Uu _ _ c2).1]at e
     exact absurd (d.inj j i q o c3 hi e) c1
    ·rw[(f.Uu _ _ c2).1,(f.Uu _ _ d2).1]at e
     exact d.inj j k q q' c3 d3 e
 kept b _ H:=A b (fun e=>H i o hi e.symm)
 size:=a_
 tape:=C
 os:=D
 output:=E
 own j q hj:=by
  rw[Ab.Lj]at hj;split at hj
  next e=>rw[show j=h.next from e.symm,Loc.Xp];exact .inr ⟨i,o,hi,rfl⟩
  ·have u:=oM j q hj
   exact .inr ⟨j,q,u,(f.Uu _ _ (y.oL u)).1⟩
theorem Move.Br9{w:World}(d:Tw p h)(u:T8 f h w)(i:Nat){o:Ds}(sp:Nat)
 {r:Obj} (h1:w'.heap=w.heap.push r) (h2:Te (f.set h.next w.heap.size sp) h.next o r)
 (y:w'.tape=w.tape) (A:w'.os=w.os) (B:w'.output=w.output):Move p f h w (f.set h.next w.heap.size sp) ((h.del i).new o) w':=by
 have a:=Move.new (d.del i) (u.sub oM) (o:=o) sp h1 h2 y A B;exact⟨a.agree,a.rep,fun b hb C=>a.kept b hb (fun j q hj=>C j q (oM j q hj)),a.size,a.tape,a.os,a.output,
  fun j q hj=>(a.own j q hj).imp id (fun⟨k,q',D,e⟩=>⟨k,q',oM k q' D,e⟩)⟩
section
def kD(P:Program)(s:Sem Next)(p:Nat->Prop)(f:Loc)(h:Ab)(w:World)(v:EV)(h':Ab):Prop:=
 ∃f' w' N,s.run P w=.ok N w'/\(N=.value (Cl f' v)\/(N=.skip/\v=.tuple []))/\Move p f h w f' h' w'/\Wf p h h'/\v.ok (grow p h h')
theorem S9{l:List EV}(d:EV.T4 p l):EV.T4 (grow p h h') l:=EV.T4.mono (fun _ hi=>.inl hi) l d
theorem PN{l:List EV}(d:EV.T4 p l)(off n:Nat):EV.T4 p ((l.drop off).take n):=
 (Ie p _).2 fun v j=>(Ie p _).1 d v (aG (bS j))
theorem qb{b:List EV}(d:EV.T4 p a)(hb:EV.T4 p b):EV.T4 p (a++b):=
 (Ie p _).2 fun v j=>(bO.1 j).elim ((Ie p _).1 d v) ((Ie p _).1 hb v)
theorem PO {l:List EV}(d:l.all EV.one=true)(off n:Nat):((l.drop off).take n).all EV.one=true:=by
 rw[dS]at d⊢;exact fun v j=>d v (aG (bS j))
theorem Bb5 {b:List EV}(d:a.all EV.one=true)(hb:b.all EV.one=true):(a++b).all EV.one=true:=by
 rw[List.all_append,d,hb];rfl
theorem PQ{l x:List EV}(h:Fx l off vs=some x)(d:EV.T4 p l)(j:EV.T4 p vs):EV.T4 p x:=
 (Ie p _).2 fun v u=>(yb h u).elim ((Ie p _).1 d v) ((Ie p _).1 j v)
theorem PR {l x:List EV}(h:Fx l off vs=some x)(d:l.all EV.one=true)(j:vs.all EV.one=true):x.all EV.one=true:=by
 rw[dS]at *;exact fun v u=>(yb h u).elim (d v) (j v)
theorem setRow_other(w:World)(g:Nat)(cs:Array Value)(b:Nat)(hb:b≠g):(w.setRow g cs).heap[b]? = w.heap[b]?:=by
 simp only[World.setRow,Array.getElem?_modify];rw[aK (cn hb)]
theorem setRow_size(w:World)(g:Nat)(cs:Array Value):(w.setRow g cs).heap.size=w.heap.size:=by simp[World.setRow]
section
variable{w:World}
theorem Bcs{o:Nat}{l:List EV}(e:j' ws off=some (o,l)):(o,l)∈ws/\o<=off:=by
 induction ws with
 | nil=>cases e
 | cons x r d=>
  obtain⟨o',l'⟩:=x;unfold j' at e;cases h1:Nat.ble o' off with
  | false=>rw[h1]at e;exact⟨aV _ (d e).1,(d e).2⟩
  | true=>
   rw[h1,Aj]at e;cases h2:Nat.ble (Nat.succ (Nat.sub off o')) (len l')with
   | false=>rw[h2]at e;exact⟨aV _ (d e).1,(d e).2⟩
   | true=>rw[h2]at e;cases e;exact⟨aW ..,bG h1⟩
theorem uS(C:Tw p h)(D:T8 f h w){l:List EV}(d:Jn h i off n=some l):
 (loadCells ⟨f.b i,off,none⟩ n).run P w=.ok (Bo f l).toArray w/\EV.T4 p l/\l.all EV.one=true/\l.length=n /\
  ∀j v,l[j]? = some v->w.cell? ⟨f.b i,off+j,none⟩=some (Cl f v):=by
 have key:∀(L:List EV) (arr:Array Value) (e:TypeId) (fr:Nat × Nat) (o:Nat),w.heap[f.b i]? = some (.cells arr e fr)->o<=off->(∀(j:Nat) v,L[j]? = some v->arr[o+j]? = some (Cl f v))->EV.T4 p L->L.all EV.one=true ->
  takeN (Zy L (off-o)) n=some l->(loadCells ⟨f.b i,off,none⟩ n).run P w=.ok (Bo f l).toArray w/\EV.T4 p l/\l.all EV.one=true/\l.length=n /\
  ∀j v,l[j]? = some v->w.cell? ⟨f.b i,off+j,none⟩=some (Cl f v):=by
  intro L arr e fr o h1 M h2 A h4 E;obtain⟨F,B⟩:=rY E;rw[Tq]at F B;have hlen:l.length=n:=by rw[B,bH];omega
  have H:∀j v,l[j]? = some v->w.cell? ⟨f.b i,off+j,none⟩=some (Cl f v):=by
   intro j v hj;rw[B,eD]at hj;split at hj
   ·rw[cq]at hj
    simp only[World.cell?,h1];have:=h2 _ _ hj;rw[show o+(off-o+j)=off+j from a_]at this;simpa using this
   ·cases hj
  refine⟨?_,B▸PN A (off-o) n,B▸PO h4 (off-o) n,hlen,H⟩;have J:(Bo f l).length=n:=by rw[Cw,hlen]
  rw[<-J];apply run_loadCells_list;intro j v hj;rw[oK]at hj;cases G:l[j]? with
  | none=>rw[G]at hj;cases hj
  | some u=>
   rw[G]at hj;cases hj;rw[U9];exact H j u G
 unfold Jn at d;split at d
 next L e y=>
  obtain⟨r,h1,h2⟩:=D.obj i _ y;obtain⟨_,A,h4⟩:=C.get i _ y;simp only[Te]at h2;subst h2;exact key L _ e (0,0) 0 h1 (cO _) (fun j v hj=>by simp[oK,hj]) A h4 d
 next L e s y=>
  obtain⟨r,h1,more,h2,_⟩:=D.obj i _ y;obtain⟨_,A,h4⟩:=C.get i _ y;subst h2;refine key L _ e (0,0) 0 h1 (cO _) (fun j v hj=>?_) A h4 d;rw[bI];have:j<(Bo f L).length:=by rw[Cw];exact(bA.1 hj).1
  simp only[bX];rw[cI this,oK,hj];rfl
 next ws r0 y=>
  split at d
  next o L hw=>
   obtain⟨hm,E⟩:=Bcs hw;obtain⟨r,h1,_,arr,e,fr,h2,F⟩:=D.obj i _ y;obtain⟨_,K⟩:=C.get i _ y;obtain⟨A,h4⟩:=K _ hm;subst h2;exact key L _ e fr o h1 E (F _ hm) A h4 d
  ·cases d
 ·cases d
theorem PS(B:Tw p h)(C:T8 f h w)(j:Mx h i off vs=some h')(F:EV.T4 p vs)(h1:vs.all EV.one=true):
 ∃w',(storeCells ⟨f.b i,off,none⟩ (Bo f vs)).run P w=.ok () w'/\Move p f h w f h' w'/\Wf p h h':=by
 have y:∀v∈Bo f vs,v.oneCell'=true:=Yd f vs (by simpa using h1);unfold Mx at j;split at j
 next L e u=>
  obtain⟨r,A,D⟩:=C.obj i _ u;obtain⟨_,a3,a4⟩:=B.get i _ u;simp only[Te]at D;subst D;split at j
  next E hs=>
   cases j;obtain⟨b1,b2⟩:=Y1 hs;have d:=run_storeCells_at (P:=P) (f.b i) off e (Bo f vs) 0 (Bo f L).toArray w A (by simp only[Cw,cp];omega) y;refine⟨_,d,?_,Wf.put B u ⟨PQ hs a3 F,PR hs a4 h1⟩⟩;refine Move.put C u (r:=.cells (Bo f E).toArray e (0,0)) ?_ rfl (fun b hb=>setRow_other _ _ _ _ hb) (setRow_size _ _ _) rfl rfl rfl;rw[setRow_heap w (f.b i) _ _ e (0,0) A,b2,ye];simp
  ·cases j
 next L e s u=>
  obtain⟨r,A,more,D,G⟩:=C.obj i _ u;obtain⟨_,a3,a4⟩:=B.get i _ u;subst D;split at j
  next E hs=>
   cases j;obtain⟨b1,b2⟩:=Y1 hs;have d:=run_storeCells_at (P:=P) (f.b i) off e (Bo f vs) 0 (Bo f L++more).toArray w A (by simp only[Cw,cp,aE];omega) y;refine⟨_,d,?_,Wf.put B u ⟨PQ hs a3 F,PR hs a4 h1⟩⟩;refine Move.put C u (r:=.cells (Bo f E++more).toArray e (0,0)) ?_ ⟨more,rfl,G⟩ (fun b hb=>setRow_other _ _ _ _ hb) (setRow_size _ _ _) rfl rfl rfl;rw[setRow_heap w (f.b i) _ _ e (0,0) A,b2,ye];simp only[dY,dI];rw[dP (by rw[Cw];omega),fD (by simp only[Cw];omega)];simp
  ·cases j
 ·cases j
variable (hT:Q4 P T)
include hT
theorem Bnb(A:Reads f tm ρ)(B:Tw p h)(C:T8 f h w)
 {a:Operand} (D:o.op=.load t a) (d:Dx T tm (.load t a) h=some (v,h')) :
 h'=h/\v.ok p/\(execOp ρ o).run P w=.ok (.value (Cl f v)) w:=by
 simp only[Dx]at d;split at d
 next i off E=>
  split at d
  next j=>
   split at d
   next n J=>
    split at d
    next l y=>
     cases d;obtain⟨h1,h2,F,h4,G⟩:=uS (P:=P) B C y;refine⟨rfl,⟨h2,F⟩,?_⟩;simp only[execOp,D,Instr.loadAt,Bj A E,Cl,Instr.sureAddr,loadVar,Sem.run_bind,aR,aI,qa hT w j,G0 hT w J,h1,bM]
    ·cases d
   ·cases d
  next j=>
   split at d
   next u y=>
    cases d;obtain⟨h1,h2,F,h4,G⟩:=uS (P:=P) B C y;refine⟨rfl,h2.1,?_⟩;have H:=G 0 v rfl;simp only[execOp,D,Instr.loadAt,Bj A E,Cl,Instr.sureAddr,loadVar,Sem.run_bind,aR,aI,qa hT w j,run_load,aT,ak];simp only[dI]at H;rw[H];rfl
   ·cases d
  ·cases d
 ·cases d
theorem Bic(y:Reads f tm ρ)(D:Lv p n tm)(E:Tw p h)(F:T8 f h w)
 {a:Operand} (G:o.op=.store t a x) (d:Dx T tm (.store t a x) h=some (v,h')) :
 kD P (execOp ρ o) p f h w v h':=by
 simp only[Dx]at d;split at d
 next i off u m H A B=>
  obtain⟨h1,h2⟩:=Ap d;obtain⟨C,h4⟩:=Ap h2;split at h4
  next J hw=>
   cases h4;rw[Ux]at C;have j:=aJ C;obtain⟨c1,c2⟩:=Va (E3 D A) h1;obtain⟨w',K,L,M⟩:=PS (P:=P) E F hw c1 (by simpa using c2);refine⟨f,w',.skip,?_,.inr ⟨rfl,rfl⟩,L,M,trivial⟩;simp only[execOp,G,Instr.storeAt,Bj y H,Bj y A,Instr.sureAddr,storeVar,Sem.run_bind,aR,aI,G0 hT w B];simp only[Cl,aR,aI,Tz,Sem.run_bind,G0 hT w B];simp[j,K,Cw]
  ·cases h4
 ·cases d
omit hT in
theorem uT(d:Tw p h)(u:T8 f h w)(e:TypeId){l:List EV}(j:EV.T4 p l)(h1:l.all EV.one=true):
 ∃f' w',(newRow e (Bo f l).toArray).run P w=.ok ⟨f'.b h.next,0,none⟩ w'/\Move p f h w f' (h.new (.cells l e)) w'/\Wf p h (h.new (.cells l e))/\grow p h (h.new (.cells l e)) h.next:=by
 refine⟨f.set h.next w.heap.size 0,{ w with heap:=w.heap.push (.cells (Bo f l).toArray e) },?_,?_,Wf.new d ⟨S9 j,h1⟩,.inr ⟨aD _,by rw[Ab.Dh];omega⟩⟩
 ·rw[Loc.Xp];rfl
 ·refine Move.new d u 0 rfl ?_ rfl rfl rfl
  simp only[Te];rw[F9 (f.Nq _ _ d.fresh) l j]
theorem Bha(u:Tw p h)(y:T8 f h w)
 (A:o.op=.alloc t) (d:Dx T tm (.alloc t) h=some (v,h')) :
 kD P (execOp ρ o) p f h w v h':=by
 simp only[Dx]at d;split at d
 next z B=>
  cases d;obtain⟨x,C,j,D,_,_,E,_⟩:=nB hT f w B;obtain⟨c1,c2⟩:=Va (E p) C;rw[<-j]at c1 c2;obtain⟨f',w',F,G,H,J⟩:=uT (P:=P) u y t c1 (by simpa using c2);refine⟨f',w',_,?_,.inl rfl,G,H,J⟩;simp only[execOp,A,Instr.alloc,Sem.run_bind,D,aI,newVar,Tz,<-j,F,aR,Cl]
 ·cases d
omit hT in
theorem Bpi(j:Reads f tm ρ)(y:Lv p n tm)(A:Tw p h)(B:T8 f h w)
 (C:o.op=.box t x) (d:Dx T tm (.box t x) h=some (v,h')) :
 kD P (execOp ρ o) p f h w v h':=by
 simp only[Dx]at d;split at d
 next u hu=>
  obtain⟨h1,h2⟩:=Ap d;cases h2;obtain⟨c1,c2⟩:=Va (E3 y hu) h1;obtain⟨f',w',D,E,F,G⟩:=uT (P:=P) A B t c1 (by simpa using c2);refine⟨f',w',_,?_,.inl rfl,E,F,G⟩;simp only[execOp,C,Instr.box,Bj j hu,Sem.run_bind,aI,newVar,Tz,D,aR,Cl]
 ·cases d
omit hT in
theorem PT(f:Loc)(z:List EV)(m:Nat)(j:m*z.length≠0):
 (Array.range (m*z.length)).map (fun i=>(Bo f z).toArray[i%(Bo f z).toArray.size]!)=(Bo f (rep z m)).toArray:=by
 apply fI;intro i;simp only[Array.getElem?_map,bX,oK,cp,Cw];by_cases hi:i<m*z.length
 ·rw[PC z m i hi]
  have d:i%z.length<z.length:=Nat.mod_lt _ (by rcases eC z.length with e|e;(simp[e]at j);exact e);simp[hi,oK,d,aF d]
 ·have:(rep z m)[i]? = none:=cN (by rw[uM];omega)
  simp[this];omega
theorem A25 {n:Nat}(F:Reads f tm ρ)(H:Tw p h)(J:T8 f h w)
 {y:Operand} (K:o.op=.makeSlice t x y) (d:Dx T tm (.makeSlice t x y) h=some (v,h')) :
 kD P (execOp ρ o) p f h w v h':=by
 simp only[Dx]at d;split at d
 next e k a k' b hu L M=>
  split at d
  next z O=>
   obtain⟨h1,h2⟩:=Ap d;obtain⟨C,h4⟩:=Ap h2;cases h4;simp only[dH]at h1 C;obtain⟨u,Q,G,S,_,_,U,i,i1,i2,i3⟩:=nB hT f w O;obtain⟨c1,c2⟩:=Va (U p) Q;rw[<-G]at c1 c2;have d1:EV.T4 p (rep z b):=(Ie p _).2 fun v D=>(Ie p _).1 c1 v (rZ D)
   have d2:(rep z b).all EV.one=true:=by rw[dS];exact fun v D=>c2 v (rZ D)
   obtain⟨f',w',E,V,W,X⟩:=uT (P:=P) H J e d1 d2;refine⟨f',w',_,?_,.inl rfl,V,W,X⟩;have Y:IntKind.i64.wrap (Int.ofNat a)=a:=lh .i64 rfl _ 9223372036854775808 rfl rfl (by simp only[aX];omega) (by simp only[aX];omega);have wb:IntKind.i64.wrap (Int.ofNat b)=b:=lh .i64 rfl _ 9223372036854775808 rfl rfl (by simp only[aX];omega) (by simp only[aX];omega);have B:¬((2:Int)^48<(i.bytes:Int)*b):=by
    have:i.bytes*b<=1048576*65536:=gJ i3 C;have e:((i.bytes*b:Nat):Int)=(i.bytes:Int)*b:=by simp
    omega
   have A:¬(roomBytes<b*i.bytes):=by
    have:b*i.bytes<=65536*1048576:=gJ C i3;unfold roomBytes;omega
   simp only[execOp,K,Instr.makeSlice,Bj F L,Bj F M,Cl,Sem.run_bind,Dz hT w hu,aI,asInt,aR];have Z:(decide ((b:Int)<0)||decide ((i.bytes:Int)*b>2^48)||decide ((a:Int)<0)||decide ((a:Int)>b))=false:=by
    simp only[Bool.or_eq_false_iff,dM];exact⟨⟨⟨a_,B⟩,a_⟩,a_⟩
   simp only[typeInfo,asIntOf,Sem.run_bind,fX,i1,aI,aR,Y,wb];rw[Z];simp only[aT,ak,askRoom,bJ,Sem.run_bind,gt_iff_lt,A,aR,aI,sizeOf,typeInfo,fX,i1,i2];by_cases j:b*z.length=0
   ·have er:rep z b = []:=bh.1 (by rw[uM];exact j)
    rw[er]at E;have e0:∀g:Nat->Value,Array.map g (Array.range 0)=(Bo f []).toArray:=fun g=>by simp[Bo]
    simp only[j,bM,Sem.run_bind,aR,aI];rw[e0,E];simp
   ·rw[aK j]
    simp only[Sem.run_bind,S,aR,aI,Tz,<-G];rw[PT f z b j,E];simp
  ·cases d
 ·cases d
end
end
section
section
variable{w:World}(hT:Q4 P T)
include hT
theorem A1p(M:Reads f tm ρ)(H:Lv p n tm)(O:Tw p h)(Q:T8 f h w)
 (S:o.op=.buildSlice t m ps) (d:Dx T tm (.buildSlice t m ps) h=some (v,h')) :
 kD P (execOp ρ o) p f h w v h':=by
 simp only[Dx]at d;split at d
 next e l hu F=>
  split at d
  next s z hs U=>
   obtain⟨h1,h2⟩:=Ap d;split at h2
   next c D=>
    cases h2;simp only[dH,Nat.mul_eq]at h1;obtain⟨u,V,J,W,_,_,X,i,i1,i2,i3⟩:=nB hT f w U;obtain⟨i',K,j2,j3⟩:=hT.size e s hs;have G:s=z.length:=by rw[i1]at K;cases K;omega
    subst G;obtain⟨c1,c2⟩:=Va (X p) V;rw[<-J]at c1 c2;have d1:∀v∈c,v.ok p:=r_ (fun i=>some (Nat.mul i z.length,z.length)) D (fun v y=>(Ie p _).1 c1 v (rZ y))
     (fun q A v y=>(Ie p _).1 (Va (uK H F q A) (uP _ D q A)).1 v y)
    have d2:∀v∈c,v.one=true:=r_ (fun i=>some (Nat.mul i z.length,z.length)) D (fun v y=>c2 v (rZ y))
     (fun q A v y=>(Va (uK H F q A) (uP _ D q A)).2 v y)
    obtain⟨f',w',L,Y,Z,r4⟩:=uT (P:=P) O Q e ((Ie p _).2 d1) (by simpa using d2);refine⟨f',w',_,?_,.inl rfl,Y,Z,r4⟩;have B:=uO f (fun i=>some (Nat.mul i z.length,z.length)) (fun i=>some (i*z.length,z.length)) (fun i q A=>A) D;have E:(ps.map fun(i,x)=>(i,ρ x)).toList=l.map fun(i,v)=>(i,Cl f v):=by
     rw[Array.toList_map,uJ M F]
    have C:¬(2^24<m*z.length):=a_
    simp only[execOp,S,Instr.buildSlice,Sem.run_bind,Dz hT w hu,aI,G0 hT w hs,gt_iff_lt,C,ak,aR];by_cases j:m*z.length=0
    ·have er:rep z m = []:=bh.1 (by rw[uM];exact j)
     have e0:∀g:Nat->Value,Array.map g (Array.range 0)=(Bo f []).toArray:=fun g=>by simp[Bo]
     rw[er]at B;simp only[j,bM,Sem.run_bind,aR,aI];rw[e0,E,B];simp only[Sem.run_bind,L,aI,aR];simp[Cl]
    ·rw[aK j]
     simp only[Sem.run_bind,W,aR,aI,Tz,<-J];rw[PT f z m j,E,B];simp only[Sem.run_bind,L,aI,aR];simp[Cl]
   ·cases h2
  ·cases d
 ·cases d
omit hT in
theorem Bav(j:Tw p h)(u:T8 f h w)
 {r:Option Operand} (y:o.op=.makeMap t r) (d:Dx T tm (.makeMap t r) h=some (v,h')) :
 kD P (execOp ρ o) p f h w v h':=by
 cases r with
 | some x=>simp[Dx]at d
 | none=>
  simp only[Dx]at d;cases d;refine⟨f.set h.next w.heap.size 0,{ w with heap:=w.heap.push (.map #[] 0) },_,?_,.inl rfl,Move.new j u 0 rfl ⟨#[],0,rfl,rfl⟩ rfl rfl rfl,Wf.new j (by simp[Ds.ok]),.inr ⟨aD _,by rw[Ab.Dh];omega⟩⟩;simp only[execOp,y,Instr.makeMap,Cl,Loc.Xp];simp
theorem A6j(A:Reads f tm ρ)(y:Tw p h)(B:T8 f h w)
 (C:o.op=.makeChan t x) (j:Dx T tm (.makeChan t x) h=some (v,h')) :
 kD P (execOp ρ o) p f h w v h':=by
 simp only[Dx]at j;split at j
 next d e k n hu D=>
  split at j
  next s hs=>
   obtain⟨h1,h2⟩:=Ap j;cases h2;simp only[dH]at h1;obtain⟨i,i1,i2,i3⟩:=hT.size e s hs;have u:¬(((n:Int)<0)\/((n:Int)>IntKind.i64.max)\/((i.bytes:Int)*n>2^48-112)):=by
    have:i.bytes*n<=1048576*65536:=gJ i3 h1;have e:((i.bytes*n:Nat):Int)=(i.bytes:Int)*n:=by simp
    have e2:IntKind.i64.max=9223372036854775807:=rfl;omega
   refine⟨f.set h.next w.heap.size 0,{ w with heap:=w.heap.push (.chan n #[] false 0 0 false) },_,?_,.inl rfl,Move.new y B 0 rfl ⟨0,0,rfl⟩ rfl rfl rfl,Wf.new y trivial,.inr ⟨aD _,by rw[Ab.Dh];omega⟩⟩;simp only[execOp,C,Instr.makeChan,Bj A D,Cl,asInt,asIntOf,Sem.run_bind,aR,aI,Dz hT w hu,typeInfo,fX,i1,aX];rw[aK u];simp[Loc.Xp]
  ·cases j
 ·cases j
omit hT in
theorem PU:∀{a b:List EV},Ey a b=some true->a=b
 | [],[],_=>rfl
 | x::r,y::s,h=>by
  unfold Ey at h;split at h
  next j=>
   have A:=PU h;have:x=y:=by
    unfold jC at j;split at j
    ·obtain⟨h1,h2⟩:=Ap j
     obtain rfl:=r8 h1;cases d:iE _ _ with
     | false=>rw[d]at h2;cases h2
     | true=>rw[lr]at d;rw[cX d]
    next p q=>
     have u:=ek j;rw[uR]at u;rw[Bie u]
    next p q=>
     cases p<;>cases q<;>first|rfl|(cases j)
    ·cases j
   rw[this,A]
  ·split at h<;>cases h
  ·cases h
 | [],_::_,h=>by cases h
 | _::_,[],h=>by cases h
omit hT in
theorem Bi3 {a b:EV}{r:Bool}(h:jC a b=some r):(∃k n,a=.int k n)\/(∃c,a=.bool c)\/(∃s,a=.str s):=by
 unfold jC at h;split at h
 ·exact .inl ⟨_,_,rfl⟩
 ·exact .inr (.inr ⟨_,rfl⟩)
 ·exact .inr (.inl ⟨_,rfl⟩)
 ·cases h
theorem Re{k:EV}(d:O6 T t k=true)(e:Bool):(Instr.checkKey e 10000 t (Cl f k)).run P w=.ok () w:=by
 unfold O6 at d;split at d
 next a=>
  rw[Br]at d;split at d
  next j=>
   split at d
   next sh u=>
    rw[Br]at d;split at d
    next hs=>
     split at d
     ·exact(hT.key t j).2 f w e a sh u hs
     ·cases d
    ·cases d
   ·cases d
  ·cases d
 next kk n=>
  split at d
  next k' hu=>
   rw[Instr.checkKey.eq_def];simp[Dz hT w hu,Cl]
  ·cases d
 ·cases d
omit hT in
def lu(f:Loc)(fc:List MapEntry)(es:List (EV × EV)):Prop:=fc.map (fun e=>(e.key,e.val))=es.map (fun e=>(Cl f e.1,Cl f e.2))
theorem PV{kk:IntKind}{n:Int}(j:Nat.beq (Pv kk) (Pv k')=true):∀{fc:List MapEntry} {es:List (EV × EV)} {i:Nat} {r:Option (Nat × EV)},lu f fc es->Ip (.int kk n) es i=some r ->
 Instr.findNow (.int k') (.int kk n) fc i=some (r.map fun x=>(x.1,Cl f x.2))
 | [],[],i,r,_,h=>by simp only[Ip]at h;cases h;rfl
 | A::fc,(a,b)::es,i,r,he,h=>by
  simp only[lu,cZ,gA,fC]at he;obtain⟨⟨e1,e2⟩,e3⟩:=he;unfold Ip at h;unfold Instr.findNow;have y:∀c,mu (.int kk n) a=some c->Instr.sameNow (.int k') (.int kk n) A.key=some c:=by
   intro c d;unfold mu at d;split at d
   next u=>cases u
   next B C D b1 u=>
    cases u;obtain⟨h1,h2⟩:=Ap d;obtain rfl:=r8 h1;cases h2;rw[e1];simp[Cl,Instr.sameNow,lr];rfl
   ·cases d
  split at h
  next d=>
   cases h;rw[y _ d,e2];rfl
  next d=>
   rw[y _ d];exact PV j e3 h
  ·cases h
 | [],_::_,_,_,he,_=>by simp[lu]at he
 | _::_,[],_,_,he,_=>by simp[lu]at he
theorem PW{sh:List Nat}(j:T.eqs t=some sh)(A:shaped sh a=true):∀{fc:List MapEntry} {es:List (EV × EV)} {i:Nat} {r:Option (Nat × EV)},lu f fc es->Ip (.agg a) es i=some r ->
 (Instr.findAsking t (Cl f (.agg a)) fc i).run P w=.ok (r.map fun x=>(x.1,Cl f x.2)) w
 | [],[],i,r,_,h=>by simp only[Ip]at h;cases h;rfl
 | C::fc,(b,c)::es,i,r,he,h=>by
  simp only[lu,cZ,gA,fC]at he;obtain⟨⟨e1,e2⟩,e3⟩:=he;unfold Ip at h;unfold Instr.findAsking;have B:∀d,mu (.agg a) b=some d->(Op.equal t (Cl f (.agg a)) C.key).run P w=.ok d w:=by
   intro d hd;unfold mu at hd;split at hd
   next u=>
    cases u;rw[e1];exact(hT.eqs t sh j).2 f w _ _ d hd A
   next u=>cases u
   ·cases hd
  split at h
  next y=>
   cases h;simp only[Sem.run_bind,B _ y,aI,bM,aR,e2];rfl
  next y=>
   simp only[Sem.run_bind,B _ y,aI,aT,ak];exact PW j A e3 h
  ·cases h
 | [],_::_,_,_,he,_=>by simp[lu]at he
 | _::_,[],_,_,he,_=>by simp[lu]at he
theorem Wx{k:EV}(d:O6 T t k=true){r:Option (Nat × EV)}(he:lu f fc es)(hm:Ip k es 0=some r):
 (Instr.findKey t (Cl f k) fc).run P w=.ok (r.map fun x=>(x.1,Cl f x.2)) w:=by
 unfold O6 at d;split at d
 next a=>
  rw[Br]at d;split at d
  next j=>
   split at d
   next sh A=>
    rw[Br]at d;split at d
    next C=>
     obtain⟨u,B,y⟩:=(hT.key t j).1;simp only[Instr.findKey,underlying,Sem.run_bind,fX,B,aI,aR];cases fc with
     | nil=>
      cases es with
      | nil=>simp only[Ip]at hm;cases hm;rfl
      | cons x r=>simp[lu]at he
     | cons D fc=>
      have:Instr.findNow u (Cl f (.agg a)) (D::fc) 0=none:=by
       cases u<;>first|(simp[Awz]at y;done)|simp[Instr.findNow,Instr.sameNow,Cl]
      rw[this];exact PW hT A C he hm
    ·cases d
   ·cases d
  ·cases d
 next kk n=>
  split at d
  next k' hu=>
   have:=PV (f:=f) hT d he hm;simp only[Instr.findKey,Sem.run_bind,Dz hT w hu,aI,Cl,this,aR]
  ·cases d
 ·cases d
omit hT in
theorem yg {k:EV}:∀{es:List (EV × EV)} {i j:Nat} {v:EV},Ip k es i=some (some (j,v))->∃a,i<=j/\es[j-i]? = some (a,v)/\mu k a=some true
 | [],i,j,v,h=>by simp[Ip]at h
 | (a,b)::es,i,j,v,h=>by
  unfold Ip at h;split at h
  next d=>
   cases h;exact⟨a,aD _,by simp,d⟩
  ·obtain⟨u,h1,h2,y⟩:=yg h
   refine⟨u,a_,?_,y⟩;have:j-i=(j-Nat.succ i)+1:=a_
   rw[this];simpa using h2
  ·cases h
omit hT in
theorem Bdu {k a:EV}(h:mu k a=some true):k=a:=by
 unfold mu at h;split at h
 ·rw[PU h]
 ·obtain⟨h1,h2⟩:=Ap h
  obtain rfl:=r8 h1;cases d:iE _ _ with
  | false=>rw[d]at h2;cases h2
  | true=>rw[lr]at d;rw[cX d]
 ·cases h
end
end
section
theorem O3{w:World}{r:Nat}{o:Obj}(h:w.heap[r]? = some o)(d:∀c e z,o≠.cells c e z):(getObj r).run P w=.ok o w:=by
 unfold getObj;simp only[Sem.run,h]
theorem Rg{w:World}{r:Nat}{o o':Obj}(h:w.heap[r]? = some o)(d:∀c e z,o≠.cells c e z):(setObj r o').run P w=.ok () { w with heap:=w.heap.setIfInBounds r o' }:=by
 unfold setObj;simp only[Sem.run,h]
section
variable{w:World}
theorem Move.setObj(d:T8 f h w){o:Ds}(hi:h.get i=some o){r:Obj}(h2:Te f i o' r):
 Move p f h w f (h.put i o') { w with heap:=w.heap.setIfInBounds (f.b i) r }:=by
 have j:=d.lt hi;refine Move.put d hi (r:=r) ?_ h2 (fun b hb=>?_) ?_ rfl rfl rfl
 ·simp[j]
 ·simp[Array.getElem?_setIfInBounds,cn hb]
 ·simp
variable (hT:Q4 P T)
include hT
theorem yh(d:zeroOf T t=some v):(zeroValue t).run P w=.ok (Cl f v) w/\∀q,v.ok q:=by
 unfold zeroOf at d;split at d
 next z j=>
  obtain⟨u,E,F,A,C,D,B,_⟩:=nB hT f w j;split at d
  next y=>
   cases d;rw[<-C y];exact⟨A,B⟩
  next y=>
   have e:=D y;split at d
   next G=>
    cases d;cases e;exact⟨A,B⟩
   ·cases d
  ·cases d
 ·cases d
theorem Bdj {n:Nat}(B:Reads f tm ρ)(D:Tw p h)(E:T8 f h w)
 {k:Operand} {ok:Bool} (G:o.op=.lookup t x k ok) (d:Dx T tm (.lookup t x k ok) h=some (v,h')) :
 kD P (execOp ρ o) p f h w v h':=by
 simp only[Dx]at d;split at d
 next Q e i S hu C H=>
  obtain⟨h1,h2⟩:=Ap d;split at h2
  next es J=>
   obtain⟨r,L,fc,clock,M,a3⟩:=E.obj i _ J;obtain⟨_,a4⟩:=D.get i _ J;subst M;have y:=O3 (P:=P) L (by intro c e z C;cases C);split at h2
   next j u hm=>
    cases h2;have F:=Wx (w:=w) (f:=f) hT h1 a3 hm;obtain⟨a,_,b2,_⟩:=yg hm;have A:u.ok p:=(a4 _ (dR b2)).2;refine⟨f,w,_,?_,.inl rfl,Move.refl E,Wf.refl D,?_⟩
    ·simp only[execOp,G,Instr.lookup,Bj B C,Bj B H,Cl,Sem.run_bind,Dz hT w hu,aI,y,aR,Re hT h1,F,eA]
     cases ok<;>rfl
    ·rw[Ks p h h rfl]
     cases ok
     ·exact A
     ·exact⟨A,trivial,trivial⟩
   next hm=>
    split at h2
    next zv O=>
     cases h2;obtain⟨z1,K⟩:=yh (w:=w) (f:=f) hT O;have F:=Wx (w:=w) (f:=f) hT h1 a3 hm;refine⟨f,w,_,?_,.inl rfl,Move.refl E,Wf.refl D,?_⟩
     ·simp only[execOp,G,Instr.lookup,Bj B C,Bj B H,Cl,Sem.run_bind,Dz hT w hu,aI,y,aR,Re hT h1,F,Option.map_none,z1]
      cases ok<;>rfl
     ·rw[Ks p h h rfl]
      cases ok
      ·exact K p
      ·exact⟨K p,trivial,trivial⟩
    ·cases h2
   ·cases h2
  ·cases h2
 ·cases d
omit hT in
theorem PX(n:Nat)(k:IntKind)(a:Int):Instr.sameBits n (.int k a) (.int k a)=true:=by
 unfold Instr.sameBits;simp
omit hT in
theorem PY(n:Nat)(f:Loc):∀{a:List EV} {r:Bool},Ey a a=some r->((Bo f a).zip (Bo f a)).all (fun(x,y)=>Instr.sameBits n x y)=true
 | [],_,_=>rfl
 | x::r,s,h=>by
  unfold Ey at h;have B:∃c,jC x x=some c/\∃A,Ey r r=some A:=by
   split at h
   next u=>exact⟨_,u,_,h⟩
   next u=>
    split at h
    next A j=>exact⟨_,u,_,j⟩
    ·cases h
   ·cases h
  obtain⟨c,u,A,j⟩:=B;simp only[Bo,List.zip_cons_cons,List.all_cons,PY n f j,Bool.and_true];rcases Bi3 u with⟨k,m,rfl⟩|⟨d,rfl⟩|⟨d,rfl⟩
  ·exact PX n k m
  ·simp only[Cl];unfold Instr.sameBits;simp
  ·simp only[Cl];unfold Instr.sameBits;rw[<-uR,uQ];simp
omit hT in
theorem A7g{k:EV}(d:O6 T t k=true):Instr.sameBits 10000 (Cl f k) (Cl f k)=true:=by
 unfold O6 at d;split at d
 next a=>
  rw[Br]at d;split at d
  ·split at d
   ·rw[Br]at d
    split at d
    ·split at d
     next r j=>
      have:=PY 9999 f j;simp only[Cl];unfold Instr.sameBits;simpa using this
     ·cases d
    ·cases d
   ·cases d
  ·cases d
 ·exact PX _ _ _
 ·cases d
theorem A2w(F:Reads f tm ρ)(K:Lv p n tm)(M:Tw p h)(O:T8 f h w)
 {m k:Operand} (S:o.op=.mapUpdate t m k x) (A:Dx T tm (.mapUpdate t m k x) h=some (v,h')) :
 kD P (execOp ρ o) p f h w v h':=by
 simp only[Dx]at A;split at A
 next Z e i H u hu hm L C=>
  obtain⟨h1,h2⟩:=Ap A;split at h2
  next es G=>
   obtain⟨r,U,fc,clock,X,a3⟩:=O.obj i _ G;obtain⟨_,a4⟩:=M.get i _ G;subst X;have D:=O3 (P:=P) U (by intro c e z C;cases C);have E:=fun o'=>Rg (P:=P) (o':=o') U (by intro c e z C;cases C)
   split at h2
   next j Y y=>
    cases h2;have Q:=Wx (w:=w) (f:=f) hT h1 a3 y;obtain⟨a,_,b2,b3⟩:=yg y;obtain rfl:=Bdu b3;simp only[gO]at b2;have J:((fc[j]?).map (·.key)).getD (Cl f H)=Cl f H:=by
     have B:(fc.toList.map (fun e=>(e.key,e.val)))[j]? = some (Cl f H,Cl f Y):=by
      rw[a3,aY,b2];rfl
     rw[aY,cQ]at B;cases he:fc[j]? with
     | none=>rw[he]at B;cases B
     | some V=>rw[he]at B;simp only[eA,cV,fC]at B;simp[B.1]
    refine⟨f,_,.skip,?_,.inr ⟨rfl,rfl⟩,Move.setObj O G (r:=.map (fc.modify j fun V=>{ V with key:=Cl f H,val:=Cl f u }) clock) ⟨_,_,rfl,?_⟩,Wf.put M G ?_,trivial⟩
    ·simp only[execOp,S,Instr.mapUpdate,Bj F hm,Bj F L,Bj F C]
     simp only[Cl,Sem.run_bind,Dz hT w hu,aI,D,Re hT h1,Q,eA,J,Instr.keyThatStays,A7g h1,bM,aR,E]
    ·rw[List.map_set,<-a3]
     apply eR;intro q;simp only[Array.toList_modify,aY,List.getElem?_modify,List.getElem?_set,bT];by_cases W:j=q
     ·subst W
      have B:j<fc.toList.length:=by
       have:=(bA.1 b2).1;have e:=congrArg List.length a3;simp only[bT]at e;omega
      simp at B;simp[B]
     ·simp[W]
    ·intro e' d
     rcases dO d with d|rfl
     ·exact a4 e' d
     ·exact⟨E3 K L,E3 K C⟩
   next y=>
    cases h2;have Q:=Wx (w:=w) (f:=f) hT h1 a3 y;refine⟨f,_,.skip,?_,.inr ⟨rfl,rfl⟩,Move.setObj O G (r:=.map (fc.push { key:=Cl f H,val:=Cl f u,born:=clock }) (clock+1)) ⟨_,_,rfl,?_⟩,Wf.put M G ?_,trivial⟩
    ·simp only[execOp,S,Instr.mapUpdate,Bj F hm,Bj F L,Bj F C]
     simp only[Cl,Sem.run_bind,Dz hT w hu,aI,D,Re hT h1,Q,Option.map_none,aR,E]
    ·simp[a3]
    ·intro e' d
     rcases bO.1 d with d|d
     ·exact a4 e' d
     ·simp only[aP]at d;subst d;exact⟨E3 K L,E3 K C⟩
   ·cases h2
  ·cases h2
 ·cases A
end
end
section
section
variable{w:World}
theorem T8.world(d:T8 f h w)(e:w'.heap=w.heap):T8 f h w':=⟨fun i o j=>by rw[e];exact d.obj i o j,d.inj⟩
theorem yi(mx:Bool)(k:IntKind):∀{l:List EV} {a:Int} {v:EV},hU mx k a l=some v->(∃b,v=.int k b) /\
 (l.map (Cl f)).foldlM (m:=Sem) (if mx=true then Builtin.max2 else Builtin.min2) (.int k a)=(pure (Cl f v):Sem Value)
 | [],a,v,h=>by simp only[hU]at h;cases h;exact⟨⟨a,rfl⟩,rfl⟩
 | .int k' b::r,a,v,h=>by
  simp only[hU]at h;obtain⟨h1,h2⟩:=yi mx k h;refine⟨h1,?_⟩;rw[cZ,List.foldlM_cons,<-h2];cases mx
  ·simp only[aT,ak,Cl,Builtin.min2,Br,p_,av]
   rfl
  ·simp only[bM,Cl,Builtin.max2,Br,p_,av,gt_iff_lt]
   rfl
 | .bool _::_,_,_,h=>by simp[hU]at h
 | .str _::_,_,_,h=>by simp[hU]at h
 | .ptr _ _::_,_,_,h=>by simp[hU]at h
 | .Bz::_,_,_,h=>by simp[hU]at h
 | .slice _ _ _ _ _::_,_,_,h=>by simp[hU]at h
 | .tail _ _ _::_,_,_,h=>by simp[hU]at h
 | .An::_,_,_,h=>by simp[hU]at h
 | .odd _::_,_,_,h=>by simp[hU]at h
 | .map _::_,_,_,h=>by simp[hU]at h
 | .Al9::_,_,_,h=>by simp[hU]at h
 | .chan _::_,_,_,h=>by simp[hU]at h
 | .Aex::_,_,_,h=>by simp[hU]at h
 | .func _ _ _::_,_,_,h=>by simp[hU]at h
 | .U5 _::_,_,_,h=>by simp[hU]at h
 | .Ahh::_,_,_,h=>by simp[hU]at h
 | .Ab6::_,_,_,h=>by simp[hU]at h
 | .agg _::_,_,_,h=>by simp[hU]at h
 | .tuple _::_,_,_,h=>by simp[hU]at h
theorem yj {x:EV}(d:lenOf x=some n):∃b c,Cl f x=.slice b n c:=by
 unfold lenOf at d;split at d<;>first|(cases d;exact⟨_,_,rfl⟩)|(cases d)
theorem se(j:Tw p h)(u:T8 f h w){size:Nat}{x:EV}{l:List EV}(d:cellsOf h size n x=some l):
 (Builtin.firstCells size n (Cl f x)).run P w=.ok (Bo f l).toArray w/\EV.T4 p l/\l.all EV.one=true/\l.length=n*size:=by
 unfold cellsOf at d;split at d
 ·obtain⟨h1,h2⟩:=Ap d
  cases h2;have:=aJ h1;subst this;exact⟨by simp[Cl,Builtin.firstCells,Bo],trivial,rfl,by simp⟩
 next i off a b c=>
  rw[Br]at d;split at d
  next h1=>
   cases d;have:=aJ h1;subst this;refine⟨?_,trivial,rfl,by simp⟩;simp[Cl,Builtin.firstCells,Bo,loadCells,loadCellsFrom]
  ·obtain⟨h1,h2,y,h4,_⟩:=uS (P:=P) j u d
   exact⟨by simp only[Cl,Builtin.firstCells];exact h1,h2,y,h4⟩
 ·obtain⟨h1,h2⟩:=Ap d
  cases h2;have:=aJ h1;subst this;refine⟨?_,trivial,rfl,by simp⟩;simp[Cl,Builtin.firstCells,Bo,loadCells,loadCellsFrom]
 ·cases d
variable (hT:Q4 P T)
include hT
theorem yk {st u e':TypeId}(D:T.Ud st=some (.slice e))(hu:T.Ud u=some (.slice e')){size:Nat}(hs:T.size e=some size){z:List EV}(E:T.zero e=some z)
 {sLen sCap G:Nat} {H:Option Addr} {Cn new:Array Value} (A:¬sLen+n<=sCap) (S:sLen<=1048576) (U:n<=65536)
 (h1:∀d,(Builtin.firstCells size sLen (.slice base sLen sCap)).run P { w with drawn:=d }=.ok Cn { w with drawn:=d })
 (h2:∀d,(Builtin.firstCells size n (.slice H n G)).run P { w with drawn:=d }=.ok new { w with drawn:=d }) :
 ∃cap rest,sLen+n<=cap/\rest.size=(cap-(sLen+n))*size /\
  (Builtin.append_ #[st,u] ty #[.slice base sLen sCap,.slice H n G]).run P w=.ok (.slice (some ⟨w.heap.size,0,none⟩) (sLen+n) cap) { w with drawn:=w.drawn+1,heap:=w.heap.push (.cells (Cn++new++rest) e) }:=by
 have⟨f⟩:Nonempty Loc:=⟨⟨id,id⟩⟩;obtain⟨x,V,M,C,_,_,W,i,i1,i2,i3⟩:=nB hT f w E;obtain⟨J,K,X,Y⟩:=hT.size e size hs;have hi:J=i:=by rw[i1]at K;cases K;rfl
 subst hi;have hb:Builtin.nextslicecap (sLen+n) sCap<=4000000:=by
  unfold Builtin.nextslicecap;split
  ·omega
  ·split
   ·omega
   ·simp only[Builtin.growBy]
    repeat' split
    all_goals omega
 have B:¬(2^48<Builtin.nextslicecap (sLen+n) sCap*J.bytes):=by
  have:=gJ hb i3;omega
 refine⟨(Question.appendCap (sLen+n) sCap e).cut (w.tape w.drawn (.appendCap (sLen+n) sCap e)),Builtin.zeroCells (Cl f x).cells ((Question.appendCap (sLen+n) sCap e).cut (w.tape w.drawn (.appendCap (sLen+n) sCap e))-(sLen+n)),?_,?_,?_⟩
 rotate_left 2
 ·have j:¬(((sLen+n:Nat):Int)>IntKind.i64.max):=by
   have e2:IntKind.i64.max=9223372036854775807:=rfl;omega
  have F:∀d,(zeroValue e).run P { w with drawn:=d }=.ok (Cl f x) { w with drawn:=d }:=by
   intro d;obtain⟨y,_,Z,y3,_⟩:=nB hT f { w with drawn:=d } E;obtain⟨O,v,xx,L,Q,a3,_⟩:=hT.zero e z E;simp only[zeroValue,typeInfo,Sem.run_bind,fX,i1,aI,aR]at C⊢;rw[i1]at L;cases L;rw[Q]at C⊢;simp only[aR,Result.ok.injEq]at C⊢;exact⟨C.1,trivial⟩
  simp only[Builtin.append_,Sem.run_bind,bX,bR,cM,Dz hT w D,Dz hT w hu,G0 hT w hs,aI,aR,Builtin.lenOf,aT,ak,A];simp only[j,gP,ak,Sem.run_bind,aR,aI,typeInfo,fX,i1,gt_iff_lt,B,run_choose,Question.forced,aT,run_askRoom,h1,h2,F,dL,bM];rfl
 ·simp only[Question.cut];omega
 ·rw[Builtin.zeroCells]
  have e1:(Cl f x).cells.size=size:=by rw[Tz,<-M];simp[Cw];omega
  simp[e1]
end
end
section
def kE(P:Program)(s:Sem Value)(p:Nat->Prop)(f:Loc)(h:Ab)(w:World)(v:EV)(h':Ab):Prop:=
 ∃f' w',s.run P w=.ok (Cl f' v) w'/\Move p f h w f' h' w'/\Wf p h h'/\v.ok (grow p h h')
section
variable{w:World}(hT:Q4 P T)
include hT
theorem yl(u:Tw p h)(C:T8 f h w){l:List EV}(A:EV.T4 p l)(h1:l.all EV.one=true){size:Nat}(B:m<=cap){rest:Array Value}(j:rest.size=(cap-m)*size){Cn new:List EV}(y:l=Cn++new)(d:Nat):
 Move p f h w (f.set h.next w.heap.size (cap-m)) (h.new (.vec l e size)) { w with drawn:=d,heap:=w.heap.push (.cells ((Bo f Cn).toArray++(Bo f new).toArray++rest) e) }/\Wf p h (h.new (.vec l e size)) /\
  Cl (f.set h.next w.heap.size (cap-m)) (.slice h.next 0 m m true)=.slice (some ⟨w.heap.size,0,none⟩) m cap:=by
 refine⟨Move.new u C _ rfl ?_ rfl rfl rfl,Wf.new u ⟨S9 A,h1⟩,?_⟩
 ·refine⟨rest.toList,?_,by simp[j,Loc.nC]⟩
  rw[<-F9 (f.Nq _ _ u.fresh) l A,y,Tc];congr 1;apply dX;simp
 ·simp only[Cl,Loc.Xp,Loc.nC,bM]
  congr 1;omega
theorem Bdt(C:Tw p h)(G:T8 f h w){st u e':TypeId}{s x:EV}(hs:s.ok p)(hu:T.Ud u=some (.slice e'))(A:append T st s x h=some (v,h')):
 kE P (Builtin.append_ #[st,u] ty #[Cl f s,Cl f x]) p f h w v h':=by
 unfold append at A;split at A
 next e D=>
  split at A
  next size z E hz=>
   split at A
   next n hn=>
    obtain⟨bx,cx,L⟩:=yj (f:=f) hn;rw[Br]at A;split at A
    next h0=>
     have:=aJ h0;subst this;have Y:∀(size:Nat),(Builtin.firstCells size 0 (.slice bx 0 cx)).run P w=.ok #[] w:=by
      intro size;cases bx<;>simp[Builtin.firstCells,loadCells,loadCellsFrom]
     split at A
     next i off y room op=>
      obtain⟨h1,h2⟩:=Ap A;cases h2;simp only[dH]at h1;refine⟨f,w,?_,Move.refl G,Wf.refl C,by rw[Ks p h h rfl];exact hs⟩;rw[L];have hle:y<=(if op=true then room+f.sp i else room):=by split<;>omega
      simp only[Cl,Builtin.append_,Sem.run_bind,bX,bR,cM,Dz hT w D,Dz hT w hu,G0 hT w E,aI,aR,Builtin.lenOf,aT,ak,dI,hle,bM,dL,Y];simp[storeCells]
     ·cases A
      refine⟨f,w,?_,Move.refl G,Wf.refl C,trivial⟩;rw[L];simp only[Cl,Builtin.append_,Sem.run_bind,bX,bR,cM,Dz hT w D,Dz hT w hu,G0 hT w E,aI,aR,Builtin.lenOf,aT,ak,dI,aD,bM,dL,Y]
     ·cases A
    next h0=>
     obtain⟨J,h2⟩:=Ap A;simp only[dH]at J;split at h2
     next new M=>
      obtain⟨n1,n2,n3,n4⟩:=se (P:=P) C G M;have nd:∀d,(Builtin.firstCells size n (.slice bx n cx)).run P { w with drawn:=d }=.ok (Bo f new).toArray { w with drawn:=d }:=by
       intro d;rw[<-L];exact(se (P:=P) C (G.world (w':={ w with drawn:=d }) rfl) M).1
      split at h2
      ·cases h2
       have a7:n≠0:=fun e=>h0 (by rw[e];rfl)
       obtain⟨cap,rest,V,W,X⟩:=yk (w:=w) (ty:=ty) hT D hu E hz (base:=none) (sLen:=0) (sCap:=0) (Cn:=(Bo f []).toArray) a_ a_ J
        (by intro d;simp[Builtin.firstCells,Bo]) nd
       simp only[bI]at V W X;obtain⟨F,k2,Z⟩:=yl hT C G (e:=e) (l:=new) n2 n3 V W (Cn:=[]) rfl (w.drawn+1);refine⟨_,_,?_,F,k2,.inr ⟨aD _,by rw[Ab.Dh];omega⟩⟩;rw[Z,L];exact X
      next i off y room op=>
       obtain⟨O,Q⟩:=Ap h2;simp only[dH]at O;split at Q
       next Cn hold=>
        obtain⟨o1,o2,o3,o4⟩:=se (P:=P) C G hold;have od:∀d,(Builtin.firstCells size y (Cl f (.slice i off y room op))).run P { w with drawn:=d }=.ok (Bo f Cn).toArray { w with drawn:=d }:=by
         intro d;exact(se (P:=P) C (G.world (w':={ w with drawn:=d }) rfl) hold).1
        have hok:EV.T4 p (Cn++new):=qb o2 n2;have B:(Cn++new).all EV.one=true:=Bb5 o3 n3;rw[Br]at Q;split at Q
        next H=>
         subst H;obtain⟨c1,h4⟩:=Ap Q;obtain⟨c2,h5⟩:=Ap h4;clear Q h4;have:=aJ c1;subst this;have:=aJ c2;subst this;split at h5
         next l e1 s1 hg=>
          obtain⟨c3,h6⟩:=Ap h5;obtain⟨c4,h7⟩:=Ap h6;obtain⟨c5,h8⟩:=Ap h7;clear h5 h6 h7;rw[Ux]at c3;have K:=aJ c3;have:=aJ c4;subst this;have:=aJ c5;subst this;cases h8;simp only[Nat.mul_eq]at K;by_cases S:n<=f.sp i
          ·
           obtain⟨r,a1,more,a2,a5⟩:=G.obj i _ hg;subst a2;have ai:Cn=l:=by
            unfold cellsOf at hold;simp only at hold;rw[Br]at hold;split at hold
            next aj=>
             have:=aJ aj;subst this;cases hold;simp at K;exact K.symm
            ·unfold Jn at hold
             rw[hg]at hold;obtain⟨_,q2⟩:=rY hold;rw[Tq]at q2;rw[q2];simp only[dK,Nat.mul_eq];rw[<-K,cF]
           subst ai;have bk:n*s1<=more.length:=by rw[a5];exact Nat.mul_le_mul_right _ S
           have aa:=run_storeCells_at (P:=P) (f.b i) (room*s1) e1 (Bo f new) 0 (Bo f Cn++more).toArray w a1 (by simp only[Cw,cp,aE];omega) (Yd f new (by simpa using n3));refine⟨f.set h.next (f.b i) (f.sp i-n),w.setRow (f.b i) (Bo f Cn++Bo f new++more.drop (n*s1)).toArray,?_,Move.oN C G hg (f.sp i-n) (r:=.cells (Bo f (Cn++new)++more.drop (n*s1)).toArray e1 (0,0)) ?_ ?_ (fun b hb=>setRow_other _ _ _ _ hb) (setRow_size _ _ _) rfl rfl rfl,Wf.oN C i ⟨S9 hok,B⟩,.inr ⟨aD _,by rw[Ab.Dh,Ab.q_];omega⟩⟩
           rotate_left 1
           ·rw[setRow_heap w (f.b i) _ _ e1 (0,0) a1,Tc]
           ·refine⟨more.drop (n*s1),?_,?_⟩
            ·rw[F9 (f.Nq _ _ C.fresh) (Cn++new) hok]
            ·rw[Loc.nC,aU,a5,Nat.sub_mul]
           ·rw[L]
            have hle:room+n<=room+f.sp i:=a_
            simp only[Cl,Builtin.append_,Sem.run_bind,bX,bR,cM,Dz hT w D,Dz hT w hu,G0 hT w E,aI,aR,Builtin.lenOf,aT,ak,bM,hle,dL,Loc.Xp,Loc.nC];rw[<-L,n1];simp only[aI,Sem.run_bind,U9,bI,aa,aR];congr 1
            ·congr 1
             simp only[Nat.add_eq];omega
            ·congr 1
             simp only[dI,Cw];rw[dP (by rw[Cw];omega),bK (by rw[Cw];omega)];rw[List.drop_append,dG (by rw[Cw];omega)];simp only[Cw,cS];congr 4;omega
          ·obtain⟨cap,rest,V,W,X⟩:=yk (w:=w) (ty:=ty) hT D hu E hz (base:=some ⟨f.b i,0,none⟩) (sLen:=room) (sCap:=room+f.sp i) (Cn:=(Bo f Cn).toArray) a_ O J
            (by intro d;simpa [Cl]using od d) nd
           obtain⟨F,_,Z⟩:=yl hT (C.del i) (G.sub oM) (e:=e1) (l:=Cn++new) hok B V W rfl (w.drawn+1);refine⟨f.set h.next w.heap.size (cap-(room+n)),_,?_,⟨F.agree,F.rep,fun b hb hn=>F.kept b hb (fun j q hj=>hn j q (oM j q hj)),F.size,F.tape,F.os,F.output,fun j q hj=>(F.own j q hj).imp id (fun⟨k,q',hk,e⟩=>⟨k,q',oM k q' hk,e⟩)⟩,
            Wf.oN C i ⟨S9 hok,B⟩,.inr ⟨aD _,by rw[Ab.Dh,Ab.q_];omega⟩⟩
           rw[show Cl (f.set h.next w.heap.size (cap-(room+n))) (.slice h.next 0 (Nat.add room n) (Nat.add room n) true)=_ from Z,L];simpa [Cl]using X
         ·cases h5
        next H=>
         have U:op=false:=by simpa using H
         subst U;obtain⟨c1,h4⟩:=T2 Q;cases h4;have hc:¬y+n<=room:=by
          intro e;have:=nA e;rw[show Nat.add y n=y+n from rfl]at c1;rw[this]at c1;cases c1
         obtain⟨cap,rest,V,W,X⟩:=yk (w:=w) (ty:=ty) hT D hu E hz (base:=some ⟨f.b i,off,none⟩) (sLen:=y) (sCap:=room) (Cn:=(Bo f Cn).toArray) hc O J
          (by intro d;simpa [Cl]using od d) nd
         obtain⟨F,k2,Z⟩:=yl hT C G (e:=e) (l:=Cn++new) hok B V W rfl (w.drawn+1);refine⟨_,_,?_,F,k2,.inr ⟨aD _,by rw[Ab.Dh];omega⟩⟩;rw[show Cl (f.set h.next w.heap.size (cap-(y+n))) (.slice h.next 0 (Nat.add y n) (Nat.add y n) true)=_ from Z,L];simpa [Cl]using X
       ·cases Q
      ·cases h2
     ·cases h2
   ·cases A
  ·cases A
 ·cases A
end
end
section
theorem PZ:∀l:List UInt8,xZ l=l.length
 | []=>rfl
 | _::r=>congrArg Nat.succ (PZ r)
section
variable{w:World}(hT:Q4 P T)
include hT
omit hT in
theorem kE.stay(d:Tw p h)(j:T8 f h w){s:Sem Value}(hs:s.run P w=.ok (Cl f v) w)(u:v.ok p):kE P s p f h w v h:=
 ⟨f,w,hs,Move.refl j,Wf.refl d,by rw[Ks p h h rfl];exact u⟩
theorem Bjw(D:Tw p h)(E:T8 f h w){t u ty e e':TypeId}{d s:EV}(G:T.Ud t=some (.slice e)){size dn sn:Nat}(hs:T.size e=some size)(hd:lenOf d=some dn)(A:lenOf s=some sn)
 (H:n=Bb (Nat.ble sn dn) sn dn) {cs:List EV} (J:cellsOf h size n s=some cs) {a b:Nat} {op:Bool} (B:d=.slice i off a b op) (hw:Mx h i off cs=some h') :
 kE P (Builtin.copy_ #[t,u] ty #[Cl f d,Cl f s]) p f h w (.int .i64 (.ofNat n)) h':=by
 obtain⟨F,K,n3,n4⟩:=se (P:=P) D E J;obtain⟨bs,Q,j⟩:=yj (f:=f) A;obtain⟨w',L,M,O⟩:=PS (P:=P) D E hw K n3;subst B;have C:dn=a:=by simp only[lenOf]at hd;cases hd;rfl
 subst C;have y:Nat.min sn dn=n:=by
  rw[H,Br];show min sn dn=_;by_cases hle:sn<=dn
  ·rw[aN (nA hle)];omega
  ·rw[aK (by rw[pX hle];simp)];omega
 refine⟨f,w',?_,M,O,trivial⟩;rw[j];rw[j]at F;simp only[Cl,Builtin.copy_,Sem.run_bind,bX,bR,cM,Dz hT w G,aI,Builtin.lenOf,aR,G0 hT w hs,y,F,L];rfl
theorem A7z(G:Tw p h)(F:T8 f h w){b:Builtin}{cs:Array Bool}(S:EV.T4 p args)(A:builtin T b ts args h=some (v,h')):
 ∃s,(Go.builtin b ts ty cs (Bo f args).toArray)=(do pure (.value (←s)):Sem Next)/\kE P s p f h w v h':=by
 unfold builtin at A;split at A
 next s x=>
  split at A
  next t u C=>
   have B:ts = #[t,u]:=by apply dX;simpa using C
   subst B;split at A
   next e' hu=>
    exact⟨_,rfl,Bdt hT G F S.1 hu A⟩
   ·cases A
  ·cases A
 next x=>
  split at A
  next t C=>
   have B:ts = #[t]:=by apply dX;simpa using C
   subst B;refine⟨_,rfl,?_⟩;split at A
   next n e hu=>
    cases A;exact kE.stay G F (by simp[Builtin.len_,Dz hT w hu,Bo,Cl,goInt]) trivial
   next e y hu=>
    split at A
    next n U=>
     cases A;obtain⟨bx,cx,K⟩:=yj (f:=f) U;exact kE.stay G F (by simp[Builtin.len_,Dz hT w hu,Bo,K,goInt,Cl]) trivial
    ·cases A
   next s hu=>
    cases A;exact kE.stay G F (by simp[Builtin.len_,Dz hT w hu,Bo,Cl,goInt,PZ]) trivial
   next d e i hu=>
    split at A
    next c buf H=>
     cases A;obtain⟨r,L,s1,c1,M⟩:=F.obj i _ H;subst M;have E:=O3 (P:=P) L (by intro c e z K;cases K);exact kE.stay G F (by simp[Builtin.len_,Dz hT w hu,Bo,Cl,E,goInt,Ux,Cw]) trivial
    ·cases A
   ·cases A
  ·cases A
 next d s=>
  split at A
  next t u C=>
   have B:ts = #[t,u]:=by apply dX;simpa using C
   subst B;split at A
   next e e' V hu=>
    split at A
    next size dn sn hs hd O=>
     obtain⟨_,A⟩:=T2 A;split at A
     next W X=>
      split at A
      ·split at A
       next Y hw=>
        cases A;exact⟨_,rfl,Bjw hT G F (e':=e') V hs hd O rfl X rfl hw⟩
       ·cases A
      ·cases A
     ·cases A
    ·cases A
   ·cases A
  ·cases A
 next m k=>
  split at A
  next t tr C=>
   have h0:ts[0]? = some t:=by
    have:ts.toList[0]? = some t:=by rw[C];rfl
    simpa using this
   split at A
   next kt e i hu=>
    obtain⟨h1,h2⟩:=Ap A;split at h2
    next es H=>
     obtain⟨r,L,fc,clock,M,a3⟩:=F.obj i _ H;obtain⟨_,a4⟩:=G.get i _ H;subst M;have E:=O3 (P:=P) L (by intro c e z K;cases K);have J:=fun o'=>Rg (P:=P) (o':=o') L (by intro c e z K;cases K)
     refine⟨_,rfl,?_⟩;split at h2
     next j u' D=>
      cases h2;have Q:=Wx (w:=w) (f:=f) hT h1 a3 D;refine⟨f,_,?_,Move.setObj F H (r:=.map (fc.eraseIdxIfInBounds j) clock) ⟨_,_,rfl,?_⟩,Wf.put G H (fun q Z=>a4 q (List.mem_of_mem_eraseIdx Z)),trivial⟩
      ·simp only[Builtin.delete_,Bo,Cl,Sem.run_bind,bX,bR,cM,h0,Dz hT w hu,aI,E,Re hT h1,Q,eA,J,aR]
      ·have e1:(fc.eraseIdxIfInBounds j).toList=fc.toList.eraseIdx j:=by
        rw[Array.eraseIdxIfInBounds_eq];split
        ·simp
        next hj=>
         rw[List.eraseIdx_of_length_le (by simpa using hj)]
       rw[e1,List.eraseIdx_eq_take_drop_succ,List.eraseIdx_eq_take_drop_succ];simp only[bZ,List.map_take,List.map_drop,a3]
     next D=>
      cases h2;have Q:=Wx (w:=w) (f:=f) hT h1 a3 D;refine⟨f,_,?_,Move.setObj F H (r:=.map fc clock) ⟨_,_,rfl,a3⟩,Wf.put G H a4,trivial⟩;simp only[Builtin.delete_,Bo,Cl,Sem.run_bind,bX,bR,cM,h0,Dz hT w hu,aI,E,Re hT h1,Q,Option.map_none,J,aR]
     ·cases h2
    ·cases h2
   ·cases A
  ·cases A
 next k a l=>
  split at A
  next u hm=>
   cases A;obtain⟨⟨c,rfl⟩,h2⟩:=yi (f:=f) false k hm;refine⟨_,rfl,kE.stay G F ?_ trivial⟩;simp only[Builtin.min_,Bo,dY,Cl,Pt];simp only[aT,ak,Cl]at h2;rw[h2];rfl
  ·cases A
 next k a l=>
  split at A
  next u hm=>
   cases A;obtain⟨⟨c,rfl⟩,h2⟩:=yi (f:=f) true k hm;refine⟨_,rfl,kE.stay G F ?_ trivial⟩;simp only[Builtin.max_,Bo,dY,Cl,Pt];simp only[bM,Cl]at h2;rw[h2];rfl
  ·cases A
 ·cases A
end
end
section
structure FB where
 fn:Nat
 defers:List Deferred
 Dr:Option Nat
def FB.at(b:FB)(tmps:Array Value)(todo:List Item):Frame:={ fn:=b.fn,tmps,todo,defers:=b.defers,mode:=.run,kind:=.normal,roundOf:=b.Dr }
def Jf(tmps:Array Value):Operand->Value:=(Act.mk tmps []).eval
def nE(tmps:Array Value)(d:Option Tmp)(v:Value):Array Value:=
 match d with
 | some d=>tmps.setIfInBounds d v
 | none=>tmps
theorem FB.eval_at(b:FB)(tmps:Array Value)(todo:List Item):(b.at tmps todo).eval=Jf tmps:=by funext x;cases x<;>rfl
theorem FB.finish_at(b:FB)(tmps:Array Value)(d:ops[i]? = some o)(rest:List Nat)(k:List Item)(v:Value):
 (b.at tmps (.inRegion ops (i::rest)::k)).finish v=b.at (nE tmps o.dst v) (.inRegion ops rest::k):=by
 cases hd:o.dst<;>simp[Frame.finish,FB.at,nE,d,hd]
def oO:Op->Bool
 | .defer _=>true
 | _=>false
section
variable{b:FB}{rest:List Nat}{k:List Item}{cs:List Frame}{w:World}
theorem sf(u:ops[i]? = some o)(hw:Region.wanted o (Go.yielded ops tmps)=true)(hd:oO o.op=false):
 stepG P true { frame:=b.at tmps (.inRegion ops (i::rest)::k),callers:=cs,status:=.running,dying:=none } w =
  stepG.apply P true (b.at tmps (.inRegion ops (i::rest)::k)) cs none (execOp (Jf tmps) o) w:=by
 have he:=FB.eval_at b tmps (.inRegion ops (i::rest)::k);simp only[FB.at]at he;cases j:b.Dr<;>cases d:o.op<;>simp[stepG,stepG.exec,stepG.oper,Frame.oper?,FB.at,u,hw,j,d]<;>first|(rw[j]at he;rw[he];done)|(simp[d,oO]at hd)
theorem A29(d:ops[i]? = some o)(hw:Region.wanted o (Go.yielded ops tmps)=true)(hd:oO o.op=false){v:Value}
 (j:(execOp (Jf tmps) o).run P w=.ok (.value v) w') :
 step P (lone (b.at tmps (.inRegion ops (i::rest)::k)) cs w)=.next (lone (b.at (nE tmps o.dst v) (.inRegion ops rest::k)) cs w'):=by
 refine cR ?_;rw[sf d hw hd,<-FB.finish_at b tmps d];simp[stepG.apply,j]
theorem A5n(d:ops[i]? = some o)(hw:Region.wanted o (Go.yielded ops tmps)=true)(hd:oO o.op=false)
 (j:(execOp (Jf tmps) o).run P w=.ok .skip w') :
 step P (lone (b.at tmps (.inRegion ops (i::rest)::k)) cs w)=.next (lone (b.at (nE tmps o.dst undef) (.inRegion ops rest::k)) cs w'):=by
 refine cR ?_;rw[sf d hw hd,<-FB.finish_at b tmps d];simp[stepG.apply,j]
theorem A2q(d:ops[i]? = some o)(hw:Region.wanted o (Go.yielded ops tmps)=true)(hd:oO o.op=false){g:FuncId}{args:Array Value}
 (j:(execOp (Jf tmps) o).run P w=.ok (.enter g args) w') :
 step P (lone (b.at tmps (.inRegion ops (i::rest)::k)) cs w)=.next (lone (Frame.enter P g args .normal) (b.at tmps (.inRegion ops (i::rest)::k)::cs) w'):=by
 refine cR ?_;rw[sf d hw hd];simp[stepG.apply,j,FB.at]
theorem A2m(d:ops[i]? = some o)(hw:Region.wanted o (Go.yielded ops tmps)=true)(hd:oO o.op=false){l g:Nat}{ts:Array Value}{dT body:Code}
 (j:(execOp (Jf tmps) o).run P w=.ok (.round l g ts dT body) w') :
 step P (lone (b.at tmps (.inRegion ops (i::rest)::k)) cs w)=.next (lone (Frame.round l g ts dT body .normal) (b.at tmps (.inRegion ops (i::rest)::k)::cs) w'):=by
 refine cR ?_;rw[sf d hw hd];simp[stepG.apply,j,FB.at]
theorem P_(d:ops[i]? = some o)(hw:Region.wanted o (Go.yielded ops tmps)=false):
 step P (lone (b.at tmps (.inRegion ops (i::rest)::k)) cs w)=.next (lone (b.at (nE tmps o.dst undef) (.inRegion ops rest::k)) cs w):=by
 refine cR ?_;rw[<-FB.finish_at b tmps d];simp[stepG,stepG.exec,FB.at,d,hw]
theorem QA:step P (lone (b.at tmps (.inRegion ops []::k)) cs w)=.next (lone (b.at tmps k) cs w):=
 cR (by simp[stepG,stepG.exec,FB.at])
end
def iQ(P:Program)(o:Oper)(tmps:Array Value)(p:Nat->Prop)(f:Loc)(h:Ab)(w:World)(v:EV)(h':Ab):Prop:=
 ∀(b:FB) (ops:Array Oper) (i:Nat) (rest:List Nat) (k:List Item) (cs:List Frame),ops[i]? = some o->Region.wanted o (Go.yielded ops tmps)=true ->
  ∃f' w',Steps P (lone (b.at tmps (.inRegion ops (i::rest)::k)) cs w) (lone (b.at (nE tmps o.dst (Cl f' v)) (.inRegion ops rest::k)) cs w') /\
   Move p f h w f' h' w'/\Wf p h h'/\v.ok (grow p h h')
theorem iQ.kn{w:World}(hd:oO o.op=false)
 (he:kD P (execOp (Jf tmps) o) p f h w v h'):iQ P o tmps p f h w v h':=by
 intro b ops i rest k cs d hw;obtain⟨f',w',N,h1,h2,j,h4,u⟩:=he;refine⟨f',w',?_,j,h4,u⟩;rcases h2 with rfl|⟨rfl,rfl⟩
 ·exact .one (A29 d hw hd h1)
 ·exact .one (A5n d hw hd h1)
def kC(P:Program)(c:Ah):Prop:=
 ∀g args h v h',c g args h=some (v,h')->(∃fn,P.funcs[g]? = some fn/\fn.body.isSome=true/\(fn.name == "runtime.NumGoroutine")=false) /\
  ∀p f w,Tw p h->T8 f h w->EV.T4 p args->∀cs,∃fr f' w',Steps P (lone (Frame.enter P g (Bo f args).toArray .normal) cs w) (lone fr cs w')/\fr.fn=g /\
   fr.leaving P w' (.returned (Cl f' v))/\Move p f h w f' h' w'/\Wf p h h'/\v.ok (grow p h h')
def oI(P:Program)(c:Ah):Prop:=
 ∀l args h v h',c l args h=some (v,h')->∃st u fn n tm ps dT body d j,h.get l=some (.loop st u fn n tm ps dT body d)/\Wy ps args n tm=some j /\
  ∀p f w,Tw p h->T8 f h w->EV.T4 p args->∀caller cs,∃f' w',Steps P (lone (Frame.round (f.b l) fn (Bi f n j) dT body .normal) (caller::cs) w) (lone (caller.finish (Cl f' v)) cs w') /\
   Move p f h w f' h' w'/\Wf p h h'/\v.ok (grow p h h')
theorem Bql(n:Nat)(tm:Ba)(d:Nat)(v:EV):Bb (Nat.ble (Nat.succ d) n) (tm.put d (some v)) tm=Qu n tm (some d) v:=rfl
theorem xX(f:Loc):∀{ps:List Tmp} {args:List EV} {tm d:Ba},Wy ps args n tm=some d->EV.T4 p args->Lv p n tm ->
 ps.length=args.length/\Lv p n d/\(ps.zip (Bo f args)).foldl (fun tmps (x:Tmp × Value)=>tmps.setIfInBounds x.1 x.2) (Bi f n tm)=Bi f n d
 | [],[],tm,d,h,_,j=>by cases h;exact⟨rfl,j,rfl⟩
 | q::r,v::s,tm,d,h,u,j=>by
  simp only[Wy,Bql]at h;obtain⟨h1,h2,y⟩:=xX f h u.2 (j.put (some q) u.1);refine⟨by simp[h1],h2,?_⟩;simp only[Bo,List.zip_cons_cons,List.foldl_cons];rw[PB];exact y
 | [],_::_,_,_,h,_,_=>by cases h
 | _::_,[],_,_,h,_,_=>by cases h
theorem T7(d:Lv p n tm):Reads f tm (Jf (Bi f n tm)) where
 tmp t:=by simp only[Jf,Act.eval];exact rX f d t
 const v:=rfl
 func g:=rfl
end
section
section
variable{w:World}(hT:Q4 P T)
theorem Bq2{a b:EV}(d:bin T op t a b=some v):v.ok p:=by
 unfold bin at d;split at d
 next k a k' b=>
  rw[Br]at d;split at d
  ·split at d
   ·unfold uF at d
    split at d
    ·cases d;trivial
    ·split at d<;>(cases d;trivial)
    ·cases d
   ·cases d
  ·rw[Br]at d
   split at d
   ·unfold pN at d
    split at d
    all_goals first
     | (cases d;done)
     | (cases d;trivial)
     | (obtain⟨_,h2⟩:=T2 d;cases h2;trivial)
     | (split at d<;>first|(cases d;done)|(cases d;trivial))
   ·cases d
 ·split at d
  ·split at d<;>first|(cases d;trivial)|cases d
  ·split at d<;>first|(cases d;trivial)|cases d
  ·cases d
theorem QB{cs:List EV}(j:EV.T4 p cs)(h1:cs.all EV.one=true)(d:part T t cs off=some v):v.ok p:=by
 unfold part at d;split at d
 ·split at d
  ·split at d
   next n y l u=>
    cases d;obtain⟨_,h2⟩:=rY u;rw[h2,Tq];exact⟨PN j _ _,PO h1 _ _⟩
   ·cases d
  ·cases d
 ·split at d
  next A r hd=>
   cases d;rw[Tq]at hd;exact(Ie p cs).1 j _ (aG (by rw[hd];exact aW))
  ·cases d
 ·cases d
theorem QC {x:EV}{size:Nat}(j:x.ok p)(d:iJ x size lo hi mx=some v):v.ok p:=by
 unfold iJ at d;split at d
 next i off len room op=>
  have u:p i:=j;split at d
  ·split at d
   ·cases d
   ·split at d
    ·cases d
    ·simp only[Br]at d
     repeat' split at d
     all_goals first|(cases d;exact u)|cases d
  ·split at d
   ·split at d
    ·cases d
    ·split at d
     ·cases d
     ·cases d;exact u
   ·cases d
 ·split at d
  ·split at d
   ·cases d
   ·split at d
    ·cases d
    ·cases d;exact j
  ·cases d
 ·cases d
include hT in
theorem Bnw(A:Lv p n tm){op:Op}(j:E6 T tm op=some v):v.ok p:=by
 cases op with
 | move x=>exact E3 A j
 | assign x=>exact E3 A j
 | pick c a b=>
  simp only[E6]at j;split at j
  ·exact E3 A j
  ·exact E3 A j
  ·cases j
 | binOp op t x y u=>
  simp only[E6]at j;split at j
  ·split at j
   ·exact Bq2 j
   ·cases j
  ·cases j
 | unOp u t x=>
  cases u<;>simp only[E6]at j
  all_goals first
   | (split at j<;>first|(cases j;trivial)|cases j)
   | cases j
 | nilCheck x=>
  simp only[E6]at j;split at j
  next i o' he=>
   cases j;exact E3 A he
  ·cases j
 | fieldAddr s x M=>
  simp only[E6]at j;split at j
  next i off he=>
   have O:p i:=E3 A he;split at j
   ·split at j
    ·split at j
     ·obtain⟨_,h2⟩:=T2 j;cases h2;exact O
     ·cases j
    ·cases j
   ·cases j
  ·cases j
 | indexAddr t x ix=>
  simp only[E6]at j;split at j
  ·split at j
   next he=>
    split at j
    ·obtain⟨_,h2⟩:=Ap j;cases h2;have:=E3 A he;exact this
    ·cases j
   next he=>
    split at j
    ·obtain⟨_,h2⟩:=Ap j;cases h2;have:=E3 A he;exact this
    ·cases j
   ·cases j
  ·cases j
 | index t x ix=>
  simp only[E6]at j;split at j
  ·split at j
   next he=>
    split at j
    ·obtain⟨_,h2⟩:=Ap j
     have C:=E3 (v:=.agg _) A he;exact QB C.1 C.2 h2
    ·cases j
   ·split at j
    ·cases j;trivial
    ·cases j
   ·cases j
  ·cases j
 | field t x M=>
  simp only[E6]at j;split at j
  next he=>
   split at j
   ·have C:=E3 (v:=.agg _) A he
    exact QB C.1 C.2 j
   ·cases j
  ·cases j
 | convert s d x=>
  simp only[E6]at j;split at j
  ·cases j;trivial
  ·cases j
 | extract x ix=>
  simp only[E6]at j;split at j
  next l he=>
   split at j
   next U r hd=>
    cases j;rw[Tq]at hd;exact(Ie p l).1 (E3 (v:=.tuple l) A he) _ (aG (by rw[hd];exact aW))
   ·cases j
  ·cases j
 | slice t x lo hi mx=>
  simp only[E6]at j;split at j
  ·split at j
   next he=>
    split at j
    ·exact QC (x:=.slice _ _ _ _ _) (E3 (v:=.ptr _ _) A he) j
    ·cases j
   next he=>
    split at j
    ·exact QC (E3 A he) j
    ·cases j
   ·cases j
  ·cases j
 | build t ps=>
  have key:∀{z c:List EV} {l:List (Nat × EV)} {pl:Nat->Option (Nat × Nat)},T.zero t=some z->Zq tm ps.toList=some l->fill pl z l=some c->(EV.agg c).ok p:=by
   intro z c l pl D E B;obtain⟨i,V,W,_,_,Q,L,rfl,_⟩:=hT.zero t z D;have F:=Va (x_ p Q) L;have G:=uK A E;have H:=uP pl B;refine⟨(Ie p c).2 (r_ pl (q:=fun v=>v.ok p) B (fun v J=>(Ie p _).1 F.1 v J) (fun q K v J=>(Ie p _).1 (Va (G q K) (H q K)).1 v J)),?_⟩;rw[dS];exact r_ pl (q:=fun v=>v.one=true) B F.2 (fun q K v J=>(Va (G q K) (H q K)).2 v J)
  simp only[E6]at j;split at j
  next D E _=>
   split at j
   ·split at j
    next B=>cases j;exact key D E B
    ·cases j
   ·cases j
  next D E _=>
   split at j
   ·split at j
    next B=>cases j;exact key D E B
    ·cases j
   ·cases j
  ·cases j
 | makeFunc fn a b=>
  cases fn<;>simp only[E6]at j
  all_goals first
   | (split at j
      next S hb=>cases j;exact⟨p' A S,p' A hb⟩
      ·cases j)
   | cases j
 | sliceToArrayPointer t x=>
  simp only[E6]at j;split at j
  next he=>
   obtain⟨_,h2⟩:=Ap j;cases h2;exact E3 (v:=.slice _ _ _ _ _) A he
  ·cases j
 | _=>cases j
theorem QD(u:Tw p h)(y:T8 f h w){d:List EV}(j:h.get i=some (.chan cap buf))(hb:EV.T4 p d)(s r:Nat):
 Move p f h w f (h.put i (.chan cap d)) (w.setChan (f.b i) cap (Bo f d).toArray false s r false)/\Wf p h (h.put i (.chan cap d)):=
 ⟨Move.setObj (p:=p) y j (o':=.chan cap d) (r:=.chan cap (Bo f d).toArray false s r false) ⟨s,r,rfl⟩,Wf.put u j hb⟩
theorem QE{c:SelectCase}(A:o.op=.select #[c] false){zv:Value}(u:(zeroValue c.elem).run P w=.ok zv w)
 (b:FB) {d:Array Value} (y:execOp (Jf tmps) o=execOp (Jf d) o) (rest:List Nat) (k:List Item) (cs:List Frame) (hi:ops[i]? = some o) (hw:Region.wanted o (Go.yielded ops tmps)=true) :
 ∃es,stepG P true (Conc.G (b.at tmps (.inRegion ops (i::rest)::k)) cs) w=.comm (Conc.G (b.at tmps (.inRegion ops (i::rest)::k)) cs)
  #[{ chan:=Jf d c.chan,send:=c.send.map (Jf d),zero:=zv }] false .select w es:=by
 have:=sf (P:=P) (b:=b) (rest:=rest) (k:=k) (cs:=cs) (w:=w) hi hw (by rw[A];rfl);have j:(execOp (Jf tmps) o).run P w=.ok (.comm #[{ chan:=Jf d c.chan,send:=c.send.map (Jf d),zero:=zv }] false .select) w:=by
  rw[y];simp only[execOp,A];simp[u]
 rw[Conc.G,this];simp only[stepG.apply,Sem.runT_eq,j,GStep.after,bM];exact⟨_,rfl⟩
include hT in
theorem A9n(H:Lv p n tm)(y:Tw p h)(A:T8 f h w)(B:execOp (Jf tmps) o=execOp (Jf (Bi f n tm)) o){c:SelectCase}(L:o.op=.select #[c] false)
 (M:Cg tm c.chan=some (.chan i)) (hs:c.send=some x) {C:EV} (D:h.get i=some (.chan cap buf)) (J:Cg tm x=some C) (O:zeroOf T c.elem=some zv)
 (d:Bb (Nat.ble (Nat.succ (len buf)) cap) (some (EV.tuple [.int .i64 0,.bool false],h.put i (.chan cap (buf++[C])))) (some (.tuple [.int .i64 (-1),.bool false],h))=some (v,h')) :
 iQ P o tmps p f h w v h':=by
 intro b ops j rest k cs hj hw;have K:=T7 (f:=f) H;obtain⟨r0,u,s,r,rfl⟩:=A.obj i _ D;have E:=(yh hT (f:=f) (w:=w) O).1;obtain⟨es,he⟩:=QE L E b B rest k cs hj hw;rw[Bj K M,hs,eA,Bj K J]at he;have hok:=(y.get i _ D).2;by_cases hb:buf.length<cap
 ·rw[Ux,nA a_,Aj]at d
  cases d;have F:EV.T4 p (buf++[C]):=qb hok ⟨E3 H J,trivial⟩;obtain⟨Q,S⟩:=QD y A D F (s+1) r;refine⟨f,_,.one ?_,Q,S,?_⟩
  ·have:=Conc.step_lone_select_send_room he u (by simpa [Cw]using hb)
   rw[FB.finish_at b _ hj]at this;simpa [Tc,Bo,Cl,goInt,Conc.solo,Conc.G,lone]using this
  ·simp[EV.ok,EV.T4]
 ·rw[Ux,pX a_,Bk]at d
  cases d;refine⟨f,w,.one ?_,Move.refl A,Wf.refl y,?_⟩
  ·have:=Conc.step_lone_select_send_full he u (by simpa [Cw]using hb)
   rw[FB.finish_at b _ hj]at this;simpa [Tc,Bo,Cl,goInt,Conc.solo,Conc.G,lone]using this
  ·simp[EV.ok,EV.T4]
include hT in
theorem A9w(H:Lv p n tm)(A:Tw p h)(B:T8 f h w)(C:execOp (Jf tmps) o=execOp (Jf (Bi f n tm)) o){c:SelectCase}(J:o.op=.select #[c] false)
 (K:Cg tm c.chan=some (.chan i)) (hs:c.send=none)
 (d:(match buf with
  | v::r=>some (EV.tuple [.int .i64 0,.bool true,v],h.put i (.chan cap r))
  | []=>some (.tuple [.int .i64 (-1),.bool false,zv],h))=some (v,h')) (D:h.get i=some (.chan cap buf)) (L:zeroOf T c.elem=some zv) :
 iQ P o tmps p f h w v h':=by
 intro b ops j rest k cs hj hw;have M:=T7 (f:=f) H;obtain⟨r0,u,s,r,rfl⟩:=B.obj i _ D;obtain⟨E,F⟩:=yh hT (f:=f) (w:=w) L;obtain⟨es,he⟩:=QE J E b C rest k cs hj hw;rw[Bj M K,hs,Option.map_none]at he;have hok:=(A.get i _ D).2;cases buf with
 | cons x l=>
  cases d;obtain⟨O,Q⟩:=QD A B D hok.2 s (r+1);refine⟨f,_,.one ?_,O,Q,?_⟩
  ·have:=Conc.step_lone_select_recv_buf he u (by simp[Bo])
   rw[FB.finish_at b _ hj]at this;simpa [Bo,Cl,goInt,Conc.solo,Conc.G,lone]using this
  ·exact⟨trivial,trivial,EV.ok.mono (fun _ hi=>.inl hi) _ hok.1,trivial⟩
 | nil=>
  cases d;refine⟨f,w,.one ?_,Move.refl B,Wf.refl A,?_⟩
  ·have:=Conc.step_lone_sel_default he (by
    intro S y;simp only[List.mem_toArray,aP]at y;subst y;exact Conc.noWay_recv u)
   rw[FB.finish_at b _ hj]at this;simpa [commResult,Bo,Cl,goInt,Conc.solo,Conc.G,lone]using this
  ·exact⟨trivial,trivial,F _,trivial⟩
include hT
theorem Boh(D:Lv p n tm)(A:Tw p h)(B:T8 f h w)(u:execOp (Jf tmps) o=execOp (Jf (Bi f n tm)) o)(d:Dx T tm o.op h=some (v,h')):
 iQ P o tmps p f h w v h':=by
 have C:=T7 (f:=f) D;cases j:o.op with
 | load t a=>
  rw[j]at d;obtain⟨rfl,h2,E⟩:=Bnb hT C A B j d;refine iQ.kn (by rw[j];rfl) ⟨f,w,_,(by rw[u];exact E),.inl rfl,Move.refl B,Wf.refl A,?_⟩;rw[Ks _ _ _ rfl];exact h2
 | store t a x=>rw[j]at d;exact iQ.kn (by rw[j];rfl) (by rw[u];exact Bic hT C D A B j d)
 | alloc t=>rw[j]at d;exact iQ.kn (by rw[j];rfl) (by rw[u];exact Bha hT A B j d)
 | box t x=>rw[j]at d;exact iQ.kn (by rw[j];rfl) (by rw[u];exact Bpi C D A B j d)
 | makeSlice t x y=>rw[j]at d;exact iQ.kn (by rw[j];rfl) (by rw[u];exact A25 (n:=n) hT C A B j d)
 | buildSlice t m ps=>rw[j]at d;exact iQ.kn (by rw[j];rfl) (by rw[u];exact A1p hT C D A B j d)
 | makeMap t r=>rw[j]at d;exact iQ.kn (by rw[j];rfl) (by rw[u];exact Bav A B j d)
 | makeChan t x=>rw[j]at d;exact iQ.kn (by rw[j];rfl) (by rw[u];exact A6j hT C A B j d)
 | lookup t x k ok=>rw[j]at d;exact iQ.kn (by rw[j];rfl) (by rw[u];exact Bdj (n:=n) hT C A B j d)
 | mapUpdate t m k x=>rw[j]at d;exact iQ.kn (by rw[j];rfl) (by rw[u];exact A2w hT C D A B j d)
 | call c=>
  rw[j]at d;obtain⟨callee,args,argTypes⟩:=c;cases callee with
  | builtin bi=>
   simp only[Dx]at d;split at d
   next as has=>
    have key:∀cs,kD P (Go.builtin bi argTypes o.type cs (Bo f as).toArray) p f h w v h':=by
     intro cs;obtain⟨s,h1,f',w',h2,E,h4,G⟩:=A7z (ty:=o.type) (cs:=cs) hT A B (p' D has) d;refine⟨f',w',.value (Cl f' v),?_,.inl rfl,E,h4,G⟩;rw[h1];simp only[Sem.run_bind,h2,aI,aR]
    have he:args.map (Jf (Bi f n tm))=(Bo f as).toArray:=by
     rw[<-pZ C has];simp only[<-List.map_toArray,eK]
    obtain⟨f',w',N,h1,h2,E,h4,G⟩:=key (args.map fun | .const _=>true|_=>false);refine iQ.kn (by rw[j];rfl) ⟨f',w',N,?_,h2,E,h4,G⟩;rw[<-h1,u];simp only[execOp,j,resolve,Sem.run_bind,aR,aI,invoke,he];rfl
   ·cases d
  | value x=>cases d
  | invoke x m=>cases d
 | select cs bl=>
  rw[j]at d;cases bl with
  | true=>cases d
  | false=>
   simp only[Dx]at d;split at d
   next c H=>
    have F:cs = #[c]:=by apply dX;simpa using H
    subst F;split at d
    next i x J hs=>
     split at d
     next cap buf O K M=>
      split at d
      next zv L=>
       exact A9n hT D A B u j J hs K M L d
      ·cases d
     ·cases d
    next i J hs=>
     split at d
     next cap buf zv K L=>
      exact A9w hT D A B u j J hs d K L
     ·cases d
    ·cases d
   ·cases d
 | _=>rw[j]at d;cases d
end
end
section
section
variable{w:World}(hT:Q4 P T){call:Ah}(hC:kC P call)(hR:oI P round)
theorem Move.Bi{f':Loc}{w:World}(m:Move p f h w f' h' w')(d:Lv p n tm):Bi f n tm=Bi f' n tm:=Lf m.agree d
theorem uU(f:Loc)(n:Nat)(tm:Ba)(d:Option Tmp)(v:EV):nE (Bi f n tm) d (Cl f v)=Bi f n (Qu n tm d v):=by
 cases d with
 | none=>rfl
 | some d=>exact PB f n tm d v
include hT hC hR in
theorem QF(G:Lv p n tm)(H:Tw p h)(J:T8 f h w)(A:execOp (Jf tmps) o=execOp (Jf (Bi f n tm)) o)(j:aop T call round tm o.op h=some (v,h')):
 iQ P o tmps p f h w v h':=by
 have K:=T7 (f:=f) G;unfold aop at j;rw[Br]at j;split at j
 next hv=>
  split at j
  next v' L=>
   cases j;refine iQ.kn ?_ ⟨f,w,_,(by rw[A];exact Blc hT f w K L),.inl rfl,Move.refl J,Wf.refl H,?_⟩
   ·cases C:o.op<;>first|rfl|(rw[C]at hv;cases hv)
   ·rw[Ks _ _ _ rfl];exact Bnw hT G L
  ·cases j
 ·split at j
  next fo args af heq=>
   split at j
   next g first captured as S has=>
    obtain⟨⟨fn,W,X,D⟩,Y⟩:=hC _ _ _ _ _ j;intro b ops i rest k cs C hw;have M:=E3 (v:=.func g first captured) G S;have B:=p' G has;have E:EV.T4 p (first++(as++captured)):=qb M.1 (qb B M.2);obtain⟨fr,f',w',hs,ag,hl,hm,hwf,F⟩:=Y p f w H J E (b.at tmps (.inRegion ops (i::rest)::k)::cs);refine⟨f',w',?_,hm,hwf,F⟩;have he:args.map (Jf (Bi f n tm))=(Bo f as).toArray:=by
     rw[<-pZ K has];simp only[<-List.map_toArray,eK]
    have u:(execOp (Jf tmps) o).run P w=.ok (.enter g (Bo f (first++(as++captured))).toArray) w:=by
     rw[A];have hb:¬fn.body=none:=by cases hx:fn.body<;>simp_all
     have hn:¬fn.name = "runtime.NumGoroutine":=by simpa using D
     simp[execOp,heq,resolve,he,Bj K S,Cl,Deferred.ofValue,invoke,callFunc,W,hn,hb,Tc]
    refine .head (A2q C hw (by rw[heq];rfl) u) (hs.trans (.one ?_));rw[<-FB.finish_at b _ C];exact step_leave_returned hl
   next l as S has=>
    obtain⟨st,pd,fn,U,O,ps,dT,body,d,Q,hg,Z,Y⟩:=hR _ _ _ _ _ j;intro b ops i rest k cs C hw;have B:=p' G has;obtain⟨f',w',hs,hm,hwf,F⟩:=Y p f w H J B (b.at tmps (.inRegion ops (i::rest)::k)) cs;refine⟨f',w',?_,hm,hwf,F⟩;have he:args.map (Jf (Bi f n tm))=(Bo f as).toArray:=by
     rw[<-pZ K has];simp only[<-List.map_toArray,eK]
    obtain⟨r0,aa,rfl⟩:=J.obj l _ hg;obtain⟨hlen,al,y⟩:=xX f Z B (H.get l _ hg).2.1;have u:(execOp (Jf tmps) o).run P w=.ok (.round (f.b l) fn (Bi f U Q) dT body) w:=by
     rw[A];have V:Array.foldl (fun tmps (x:Tmp × Value)=>tmps.setIfInBounds x.1 x.2) (Bi f U O) (ps.toArray.zip (Bo f as).toArray)=Bi f U Q:=by
      rw[<-y,List.zip_toArray,List.foldl_toArray]
     have ab:(getObj (f.b l)).run P w=.ok (.loop ⟨st,pd,fn,Bi f U O,ps.toArray,dT,body,f.b d⟩) w:=O3 aa (by intros;simp);simp only[execOp,heq,resolve,he,Bj K S,Cl,Deferred.ofValue,invoke,Sem.run_bind,aR,aI,Instr.yield,Instr.getLoop,ab];simp[Cw,hlen];exact y
    refine .head (A2m C hw (by rw[heq];rfl) u) ?_;rw[<-FB.finish_at b _ C];exact hs
   ·cases j
  next ao=>
   exact Boh hT G H J A j
theorem Ba8(u:Lv p n tm)(ops:Array Oper)(j:Nat):Go.yielded ops (Bi f n tm) j=Ev.yielded ops.toList tm j:=by
 unfold Go.yielded Ev.yielded;rw[uL,cQ];cases ops[j]? with
 | none=>rfl
 | some o=>
  simp only[Option.bind_some];cases o.dst with
  | none=>rfl
  | some d=>
   simp only[Option.bind_some];rw[rU];by_cases hd:d<n
   ·rw[aN hd]
    unfold tmp;cases y:tm.get d with
    | none=>rfl
    | some v=>cases v<;>rfl
   ·rw[aK hd,u.out d (Nat.le_of_not_lt hd)]
theorem QG(d:Lv p n tm)(ops:Array Oper)(o:Oper):Region.wanted o (Go.yielded ops (Bi f n tm))=Ev.wanted ops.toList tm o.guard:=by
 unfold Region.wanted Ev.wanted;cases o.guard with
 | none=>rfl
 | some x=>
  obtain⟨j,want⟩:=x;simp only[];rw[Ba8 d];cases Ev.yielded ops.toList tm j with
  | none=>rfl
  | some b=>cases b<;>cases want<;>rfl
include hT hC hR in
theorem ym(ops:Array Oper):∀{l:List Oper} {i:Nat} {p:Nat->Prop} {f:Loc} {h:Ab} {w:World} {tm u:Ba} {h':Ab},l=ops.toList.drop i->Lv p n tm->Tw p h->T8 f h w ->
 jl T call round n ops.toList l tm h=some (u,h')->∀(b:FB) (k:List Item) (cs:List Frame),
  ∃f' w',Steps P (lone (b.at (Bi f n tm) (.inRegion ops (List.range' i l.length)::k)) cs w) (lone (b.at (Bi f' n u) (.inRegion ops []::k)) cs w') /\
   Move p f h w f' h' w'/\Wf p h h'/\Lv (grow p h h') n u
 | [],i,p,f,h,w,tm,u,h',L,A,J,K,d,b,k,cs=>by
  simp only[jl]at d;cases d;exact⟨f,w,.refl _ _,Move.refl K,Wf.refl J,by rw[Ks _ _ _ rfl];exact A⟩
 | o::r,i,p,f,h,w,tm,u,h',L,A,J,K,d,b,k,cs=>by
  have hi:ops[i]? = some o:=by
   have:=congrArg (fun l=>l[0]?) L;simp only[bR,cq,dI,cQ]at this;exact this.symm
  have U:r=ops.toList.drop (i+1):=by
   have:=congrArg List.tail L;simpa [List.tail_drop]using this
  obtain⟨dst,op,ty,ps,M,g⟩:=o;simp only[jl]at d;rw[Br]at d;have B:=QG (f:=f) A ops ⟨dst,op,ty,ps,M,g⟩;split at d
  next hw=>
   rw[hw]at B;split at d
   next v h1 H=>
    obtain⟨f1,w1,O,C,y,Q⟩:=QF hT hC hR A J K (o:=⟨dst,op,ty,ps,M,g⟩) rfl H b ops i (List.range' (i+1) r.length) k cs hi B;have D:Lv (grow p h h1) n (Qu n tm dst v):=(A.mono fun _ hi=>.inl hi).put dst Q;obtain⟨f2,w2,E,F,j,G⟩:=ym ops U D y.hok C.rep d b k cs;refine⟨f2,w2,?_,C.trans F,y.trans j,?_⟩
    ·rw[bP,List.range'_succ]
     refine O.trans ?_;rw[C.Bi A,uU];exact E
    ·rw[<-pQ p y.next j.next];exact G
   ·cases d
  next hw=>
   have S:Region.wanted ⟨dst,op,ty,ps,M,g⟩ (Go.yielded ops (Bi f n tm))=false:=by rw[B];simpa using hw
   have D:Lv p n (Qu n tm dst (.tuple [])):=A.put dst trivial;obtain⟨f2,w2,E,F,j,G⟩:=ym ops U D J K d b k cs;refine⟨f2,w2,?_,F,j,G⟩;rw[bP,List.range'_succ];refine .head (P_ hi S) ?_;have:(undef:Value)=Cl f (.tuple []):=rfl;rw[this,uU];exact E
end
end
structure AWf(h h':Ab):Prop where
 next:h.next<=h'.next
 mw:h'.mw<=h.mw
 same:∀q,q<h'.mw->q<h.next->h'.get q=h.get q
 live:∀q o,h'.get q=some o->(∃o',h.get q=some o')\/h.next<=q
 lt:(∀q o,h.get q=some o->q<h.next)->∀q o,h'.get q=some o->q<h'.next
theorem AWf.refl(h:Ab):AWf h h:=⟨aD _,aD _,fun _ _ _=>rfl,fun _ o d=>.inl ⟨o,d⟩,fun H=>H⟩
theorem AWf.trans {a b c:Ab}(x:AWf a b)(y:AWf b c):AWf a c where
 next:=bN x.next y.next
 mw:=bN y.mw x.mw
 same q h1 h2:=(y.same q h1 (aL h2 x.next)).trans (x.same q (aL h1 y.mw) h2)
 live q o d:=by
  rcases y.live q o d with⟨o',h1⟩|h1
  ·exact x.live q o' h1
  ·exact .inr (bN x.next h1)
 lt H:=y.lt (x.lt H)
theorem AWf.put{o:Ds}(hi:h.get i=some o)(o':Ds):AWf h (h.put i o') where
 next:=aD _
 mw:=by rw[Ab.mZ];exact Nat.min_le_right _ _
 same q h1 _:=by rw[Ab.mZ]at h1;rw[Ab.get_put,aK a_]
 live q x d:=by
  rw[Ab.get_put]at d;split at d
  next e=>subst e;exact .inl ⟨o,hi⟩
  ·exact .inl ⟨x,d⟩
 lt H q x d:=by
  rw[Ab.get_put]at d;split at d
  next e=>subst e;exact H _ _ hi
  ·exact H _ _ d
theorem AWf.new(h:Ab)(o:Ds):AWf h (h.new o) where
 next:=fK _
 mw:=aD _
 same q _ h2:=by rw[Ab.Lj,aK a_]
 live q x d:=by
  rw[Ab.Lj]at d;split at d
  next e=>exact .inr a_
  ·exact .inl ⟨x,d⟩
 lt H q x d:=by
  rw[Ab.Lj]at d;rw[Ab.Dh];split at d
  next e=>omega
  ·exact fP (H _ _ d)
theorem AWf.del(h:Ab)(i:Nat):AWf h (h.del i) where
 next:=aD _
 mw:=by rw[Ab.ra];exact Nat.min_le_right _ _
 same q h1 _:=by rw[Ab.ra]at h1;rw[Ab.kQ,aK a_]
 live q x d:=by
  rw[Ab.kQ]at d;split at d
  ·cases d
  ·exact .inl ⟨x,d⟩
 lt H q x d:=by
  rw[Ab.kQ]at d;split at d
  ·cases d
  ·exact H _ _ d
theorem QH(d:Mx h i off vs=some h'):AWf h h':=by
 unfold Mx at d;split at d
 next j=>
  split at d
  ·cases d;exact .put j _
  ·cases d
 next j=>
  split at d
  ·cases d;exact .put j _
  ·cases d
 ·cases d
theorem Bl4{st:TypeId}{s x:EV}(d:append T st s x h=some (v,h')):AWf h h':=by
 unfold append at d;split at d
 ·split at d
  ·split at d
   ·rw[Br]at d
    split at d
    ·split at d
     ·obtain⟨_,h2⟩:=Ap d;cases h2;exact .refl _
     ·cases d;exact .refl _
     ·cases d
    ·obtain⟨_,h2⟩:=Ap d
     split at h2
     ·split at h2
      ·cases h2;exact .new _ _
      ·obtain⟨_,j⟩:=Ap h2
       split at j
       ·rw[Br]at j
        split at j
        ·obtain⟨_,j⟩:=Ap j
         obtain⟨_,j⟩:=Ap j;split at j
         ·obtain⟨_,j⟩:=Ap j
          obtain⟨_,j⟩:=Ap j;obtain⟨_,j⟩:=Ap j;cases j;exact(AWf.del _ _).trans (.new _ _)
         ·cases j
        ·obtain⟨_,j⟩:=T2 j
         cases j;exact .new _ _
       ·cases j
      ·cases h2
     ·cases h2
   ·cases d
  ·cases d
 ·cases d
theorem Bik{b:Builtin}(d:builtin T b ts args h=some (v,h')):AWf h h':=by
 unfold builtin at d;split at d
 ·split at d
  ·split at d
   ·exact Bl4 d
   ·cases d
  ·cases d
 ·split at d
  ·split at d
   ·cases d;exact .refl _
   ·split at d<;>first|(cases d;done)|(cases d;exact .refl _)
   ·cases d;exact .refl _
   ·split at d<;>first|(cases d;done)|(cases d;exact .refl _)
   ·cases d
  ·cases d
 ·split at d
  ·split at d
   ·split at d
    ·obtain⟨_,h2⟩:=T2 d
     split at h2
     ·split at h2
      ·split at h2
       next hw=>cases h2;exact QH hw
       ·cases h2
      ·cases h2
     ·cases h2
    ·cases d
   ·cases d
  ·cases d
 ·split at d
  ·split at d
   ·obtain⟨_,h2⟩:=Ap d
    split at h2
    next j=>
     split at h2
     ·cases h2;exact .put j _
     ·cases h2;exact .put j _
     ·cases h2
    ·cases h2
   ·cases d
  ·cases d
 ·split at d<;>first|(cases d;done)|(cases d;exact .refl _)
 ·split at d<;>first|(cases d;done)|(cases d;exact .refl _)
 ·cases d
theorem Brr{op:Op}(d:Dx T tm op h=some (v,h')):AWf h h':=by
 unfold Dx at d;split at d
 ·
  split at d
  ·split at d
   ·split at d
    ·split at d<;>first|(cases d;done)|(cases d;exact .refl _)
    ·cases d
   ·split at d<;>first|(cases d;done)|(cases d;exact .refl _)
   ·cases d
  ·cases d
 ·
  split at d
  ·obtain⟨_,h2⟩:=Ap d
   obtain⟨_,h2⟩:=Ap h2;split at h2
   next hw=>cases h2;exact QH hw
   ·cases h2
  ·cases d
 ·split at d<;>first|(cases d;done)|(cases d;exact .new _ _)
 ·split at d
  ·obtain⟨_,h2⟩:=Ap d;cases h2;exact .new _ _
  ·cases d
 ·split at d
  ·exact Bik d
  ·cases d
 ·split at d
  ·split at d
   ·obtain⟨_,h2⟩:=Ap d
    split at h2
    ·cases h2;exact .new _ _
    ·cases h2
   ·cases d
  ·cases d
 ·split at d
  ·split at d
   ·obtain⟨_,h2⟩:=Ap d
    obtain⟨_,h2⟩:=Ap h2;cases h2;exact .new _ _
   ·cases d
  ·cases d
 ·cases d;exact .new _ _
 ·split at d
  ·split at d
   ·obtain⟨_,h2⟩:=Ap d;cases h2;exact .new _ _
   ·cases d
  ·cases d
 ·split at d
  ·obtain⟨_,h2⟩:=Ap d
   split at h2
   ·split at h2
    ·cases h2;exact .refl _
    ·split at h2<;>first|(cases h2;done)|(cases h2;exact .refl _)
    ·cases h2
   ·cases h2
  ·cases d
 ·split at d
  ·obtain⟨_,h2⟩:=Ap d
   split at h2
   next j=>
    split at h2
    ·cases h2;exact .put j _
    ·cases h2;exact .put j _
    ·cases h2
   ·cases h2
  ·cases d
 ·split at d
  ·split at d
   ·split at d
    next j _=>
     split at d
     ·rw[Br]at d
      split at d
      ·cases d;exact .put j _
      ·cases d;exact .refl _
     ·cases d
    ·cases d
   ·split at d
    next j _=>
     split at d
     ·cases d;exact .put j _
     ·cases d;exact .refl _
    ·cases d
   ·cases d
  ·cases d
 ·cases d
def W8(c:Ah):Prop:=∀g args h v h',c g args h=some (v,h')->AWf h h'
section
variable{call:Ah}(hC:W8 call)(hR:W8 round)
include hC hR
theorem QI{op:Op}(d:aop T call round tm op h=some (v,h')):AWf h h':=by
 unfold aop at d;rw[Br]at d;split at d
 ·split at d<;>first|(cases d;done)|(cases d;exact .refl _)
 ·split at d
  ·split at d
   ·exact hC _ _ _ _ _ d
   ·exact hR _ _ _ _ _ d
   ·cases d
  ·exact Brr d
theorem yn{ops:List Oper}:∀{l:List Oper} {tm j:Ba} {h h':Ab},jl T call round n ops l tm h=some (j,h')->AWf h h'
 | [],_,_,_,_,d=>by cases d;exact .refl _
 | ⟨dst,op,ty,ps,u,g⟩::r,tm,j,h,h',d=>by
  simp only[jl]at d;rw[Br]at d;split at d
  ·split at d
   next h1=>
    exact(QI hC hR h1).trans (yn d)
   ·cases d
  ·exact yn d
end
end
end Go.Ev
