import GoSem.Step
import Derived.Control
import Derived.Calls
import Derived.Laws.CopyRow
import Derived.Great.FillDense
set_option linter.all false
namespace Go.Ev
def aA:=@decide_false
def aB:=@decide_true
def aC:=@Nat.le_refl
def aD:=@not_true_eq_false
def aE:=@Nat.lt_succ_self
def aF.{u}:=@List.length_append.{u}
def aG:=@not_false_eq_true
def aH.{u}:=@List.getElem?_eq_getElem.{u}
def aI:=@Result.andThen_ok
def aJ:=@Nat.eq_of_beq_eq_true
def aK.{u}:=@if_neg.{u}
def aL:=@Nat.lt_of_lt_of_le
def aM.{u}:=@List.mem_of_mem_drop.{u}
def aN.{u}:=@if_pos.{u}
def aO.{u}:=@List.mem_singleton.{u}
def aP:=@decide_eq_true
def aQ:=@decide_eq_false
def aR:=@Nat.ble_eq_true_of_le
def aS:=@Sem.run_pure
def aT.{u}:=@List.mem_cons_of_mem.{u}
def aU:=@Bool.false_eq_true
def aV.{u}:=@List.mem_cons_self.{u}
def aW:=@Int.ofNat_eq_natCast
def aX:=@Bool.false_and
def aY.{u}:=@if_false.{u}
def aZ:=@Bool.true_and
def ak.{u}:=@List.length_drop.{u}
def av.{u,v}:=@List.getElem?_map.{u,v}
def bA.{u}:=@List.getElem?_eq_some_iff.{u}
def bB:=@Nat.le_of_ble_eq_true
def bC:=@Nat.zero_add
def bD:=@Int.eq_ofNat_of_zero_le
def bE:=@decide_eq_true_eq
def bF.{u}:=@List.getElem_mem.{u}
def bG.{u}:=@if_true.{u}
def bH.{u}:=@List.length_cons.{u}
def bI:=@Bool.and_eq_true
def bJ.{u}:=@List.length_take.{u}
def bK:=@Int.toNat_natCast
def bL.{u}:=@List.mem_append.{u}
def bM.{u}:=@List.getElem?_cons_zero.{u}
def bN:=@Nat.le_trans
def bO.{u}:=@List.mem_of_mem_take.{u}
def bP.{u}:=@List.take_of_length_le.{u}
def bQ.{u}:=@List.getElem?_toArray.{u}
def bR.{u}:=@List.length_set.{u}
def bS:=@Nat.lt_irrefl
def bT.{u}:=@List.length_replicate.{u}
def bU.{u,v}:=@List.length_map.{u,v}
def bV.{u}:=@List.mem_cons.{u}
def bW.{u}:=@List.length_eq_zero_iff.{u}
def bX.{u}:=@Array.getElem?_eq_some_iff.{u}
def bY.{u}:=@List.getElem?_append_right.{u}
def bZ.{u}:=@List.eq_of_mem_replicate.{u}
def bc:=@Nat.mul_one
def bh.{u}:=@List.getElem?_append_left.{u}
def bm.{u}:=@List.flatten_cons.{u}
def br.{u}:=@List.append_assoc.{u}
def b9.{u}:=@List.getElem?_cons_succ.{u}
def cA.{u}:=@List.getElem?_eq_none.{u}
def cB.{u,v}:=@List.map_append.{u,v}
def cC:=@step_lone_go
def cD.{u}:=@Array.getElem?_toList.{u}
def cF:=@List.getElem?_range
def cI:=@Nat.beq_refl
def cJ.{u,v}:=@List.mem_map.{u,v}
def cK.{u}:=@Array.getElem?_eq_getElem.{u}
def cL.{u}:=@Option.some.injEq.{u}
def cM.{u}:=@List.take_length.{u}
def cN.{u}:=@Ne.symm.{u}
def cO:=@Bool.not_false
def cP:=@of_decide_eq_true
def cQ.{u}:=@List.nodup_cons.{u}
def cR.{u}:=@List.append_nil.{u}
def cS:=@decide_eq_false_iff_not
def cT:=@Nat.not_lt_zero
def cU:=@Nat.zero_le
def cV.{u}:=@List.size_toArray.{u}
def cW.{u}:=@List.drop_drop.{u}
def cX.{u}:=@List.getElem?_drop.{u}
def cY.{u,v}:=@List.map_congr_left.{u,v}
def cZ.{u}:=@List.drop_eq_getElem_cons.{u}
def cj.{u}:=@List.nodup_nil.{u}
def cn:=@Bool.and_false
def cp:=@Int.negSucc_eq
def cq.{u}:=@Array.mem_toList_iff.{u}
def cr.{u}:=@List.drop_of_length_le.{u}
def cu:=@Nat.ble_eq
def cv.{u}:=@List.take_succ_eq_append_getElem.{u}
def cy.{u}:=@List.flatten_append.{u}
def cz:=@List.range_succ
def dA.{u}:=@List.drop_zero.{u}
def dB.{u,v}:=@List.map_cons.{u,v}
def dC:=@Nat.add_zero
def dD:=@decide_eq_true_iff
def dE.{u}:=@List.drop_left.{u}
def dF.{u}:=@List.mem_or_eq_of_mem_set.{u}
def dG.{u}:=@List.take_append_of_le_length.{u}
def dH:=@Nat.lt_or_ge
def dI.{u}:=@List.take_left.{u}
def dJ.{u}:=@List.nil_append.{u}
def dK.{u}:=@List.mem_of_getElem?.{u}
def dL.{u}:=@List.all_eq_true.{u}
def dM:=@Nat.zero_testBit
def dN.{u}:=@Array.ext'.{u}
def dO.{u}:=@List.toList_toArray.{u}
def dP:=@Bool.not_true
def dQ.{u,v}:=@Option.map_some.{u,v}
def dR:=@Nat.min_eq_left
def dS:=@Nat.eq_zero_or_pos
def dU.{u}:=@List.getElem?_take.{u}
def dV:=@Nat.xor_lt_two_pow
def dW:=@Nat.lt_succ_iff_lt_or_eq
def dX:=@Int.mul_le_mul_of_nonneg_left
def dY.{u}:=@List.eq_nil_of_length_eq_zero.{u}
def dZ.{u}:=@Array.toArray_toList.{u}
def dh:=@Addr.add_lit
def eA.{u}:=@List.ext_getElem?.{u}
def eB.{u}:=@List.replicate_succ.{u}
def eC.{u}:=@Array.getD_eq_getD_getElem?.{u}
def eD.{u}:=@List.mem_filter.{u}
def eE:=@Nat.pow_succ
def eF.{u}:=@List.filter_append.{u}
def eG.{u}:=@List.length_filter_le.{u}
def eH.{u}:=@List.set_append_right.{u}
def eI:=@List.length_range
def eJ.{u,v}:=@Prod.mk.injEq.{u,v}
def eK:=@decide_eq_decide
def eL.{u}:=@List.drop_append_of_le_length.{u}
def eO:=@List.mem_range
def eP:=@Nat.div_div_eq_div_mul
def eQ.{u}:=@Array.getElem?_eq_none.{u}
def eR.{u}:=@Array.ext_getElem?.{u}
def eS:=@Nat.succ_mul
def eT.{u}:=@List.length_nil.{u}
def eU:=@Bool.eq_iff_iff
def eV.{u}:=@List.mem_iff_getElem?.{u}
def eW:=@Int.fdiv_eq_ediv_of_nonneg
def eX:=@Nat.div_lt_of_lt_mul
def eY:=@Nat.pow_le_pow_right
def eZ:=@Nat.shiftRight_eq_div_pow
def eh.{u}:=@List.filter_cons.{u}
def ek:=@Nat.mod_eq_of_lt
def fB:=@Int.toNat_of_nonneg
def fC.{u}:=@List.take_succ_cons.{u}
def fD:=@Nat.add_mul
def fF:=@run_program
def fG:=@Nat.zero_mul
def fH:=@Nat.sub_self
def fI:=@Nat.mul_comm
def fJ.{u,v}:=@List.map_replicate.{u,v}
def fK.{u}:=@Option.some.inj.{u}
def fL:=@Go.setRow_other
def fM:=@Bool.true_eq_false
def fN:=@Nat.add_sub_cancel
def fO:=@Nat.min_def
def fP:=@Nat.mul_le_mul
def fQ:=@Go.setRow_heap
def fR:=@false_and
def fS:=@true_and
variable {b:Bool}{a x:Operand}{i n off dflt:Nat}{p q:Nat->Prop}{ρ:Operand->Value}{k k':IntKind}{op:BinOp}{t:TypeId}{w':World}{α:Type}{P:Program}
noncomputable section
inductive Tr (α:Type) where
 | nil
 | node (l:Tr α) (v:Option α) (r:Tr α)
noncomputable def Bb {α:Type}(b:Bool)(x y:α):α:=@Bool.rec (fun _=>α) y x b
noncomputable def Tr.get {α:Type}(t:Tr α):Nat->Option α:=
 @Tr.rec α (fun _=>Nat->Option α) (fun _=>none)
  (fun _ v _ d e i=>@Bool.rec (fun _=>Option α) (@Bool.rec (fun _=>Option α) (e (Nat.pred (Nat.div i 2))) (d (Nat.div i 2)) (Nat.beq (Nat.land i 1) 1)) v (Nat.beq i 0)) t
noncomputable def Tr.lf {α:Type}(x:Option α)(r:Tr α)(t:Tr α):Tr α:=@Tr.rec α (fun _=>Tr α) .nil (fun a b c _ _=>.node (.node a b c) x r) t
noncomputable def Tr.rt {α:Type}(l:Tr α)(x:Option α)(t:Tr α):Tr α:=@Tr.rec α (fun _=>Tr α) .nil (fun a b c _ _=>.node l x (.node a b c)) t
noncomputable def Tr.set {α:Type}(n:Nat):Tr α->Nat->Option α->Tr α:=
 @Nat.rec (fun _=>Tr α->Nat->Option α->Tr α) (fun t _ _=>t)
  (fun _ d t i v=>@Tr.rec α (fun _=>Tr α)
   (@Bool.rec (fun _=>Tr α) (@Bool.rec (fun _=>Tr α) (Tr.rt .nil none (d .nil (Nat.pred (Nat.div i 2)) v)) (Tr.lf none .nil (d .nil (Nat.div i 2) v)) (Nat.beq (Nat.land i 1) 1)) (.node .nil v .nil) (Nat.beq i 0))
   (fun l x r _ _=>@Bool.rec (fun _=>Tr α) (@Bool.rec (fun _=>Tr α) (Tr.rt l x (d r (Nat.pred (Nat.div i 2)) v)) (Tr.lf x r (d l (Nat.div i 2) v)) (Nat.beq (Nat.land i 1) 1)) (.node l v r) (Nat.beq i 0)) t) n
noncomputable def Tr.put {α:Type}(t:Tr α)(i:Nat)(v:Option α):Tr α:=Tr.set (Nat.succ (Nat.log2 (Nat.succ i))) t i v
inductive EV where
 | int (k:IntKind) (n:Int)
 | bool (b:Bool)
 | str (s:ByteArray)
 | ptr (i off:Nat)
 | Cl
 | slice (i off len room:Nat) (op:Bool)
 | tail (i off poff:Nat)
 | Ao
 | odd (a:Addr)
 | map (i:Nat)
 | Akk
 | chan (i:Nat)
 | Ad3
 | func (f:Nat) (first captured:List EV)
 | Sy (l:Nat)
 | Ahx
 | Abd
 | agg (l:List EV)
 | tuple (l:List EV)
 deriving Inhabited
def EV.cells:EV->List EV
 | .agg l=>l
 | v=>[v]
def EV.plain:EV->Bool
 | .tuple _=>false
 | _=>true
inductive Dz where
 | cells (l:List EV) (elem:TypeId)
 | vec (l:List EV) (elem:TypeId) (size:Nat)
 | map (es:List (EV × EV))
 | chan (cap:Nat) (buf:List EV)
 | loop (state:LoopState) (pending:Option Code) (fn:FuncId) (n:Nat) (tmps:Tr EV) (params:List Tmp) (assign body:Code) (defers:Nat)
 | deferred (open_:Bool)
 | view (ws:List (Nat × List EV)) (r:Obj)
structure Ab where
 t:Tr Dz
 next:Nat
 mw:Nat
def Ab.get:Ab->Nat->Option Dz
 | ⟨t,_,_⟩,i=>t.get i
def Ab.put:Ab->Nat->Dz->Ab
 | ⟨t,n,m⟩,i,o=>⟨t.put i (some o),n,Bb (Nat.ble i m) i m⟩
def Ab.del:Ab->Nat->Ab
 | ⟨t,n,m⟩,i=>⟨t.put i none,n,Bb (Nat.ble i m) i m⟩
def Ab.new:Ab->Dz->Ab
 | ⟨t,n,m⟩,o=>⟨t.put n (some o),Nat.succ n,m⟩
structure Aih where
 fn:Nat
 n:Nat
 tmps:Tr EV
 todo:List Item
 defers:List Nat
 ret:Bool
 Dp:Option Nat
structure Hv where
 fr:Aih
 h:Ab
structure Ih where
 fn:Nat->Option Func
 Tv:Nat->Option TypeDesc
 size:Nat->Option Nat
 zero:Nat->Option (List EV)
 agg:Nat->Option Bool
 eqs:Nat->Option (List Nat)
 key:Nat->Bool
abbrev Ai:=Nat->List EV->Ab->Option (EV × Ab)
def Bfm:Value->Option EV
 | .int k n=>some (.int k n)
 | .bool b=>some (.bool b)
 | .string s=>some (.str s)
 | .pointer none=>some .Cl
 | .slice none 0 0=>some .Ao
 | .map none=>some .Akk
 | .chan none=>some .Ad3
 | .nilFunc=>some .Ahx
 | .nilIface=>some .Abd
 | _=>none
def Bd8:List Value->Option (List EV)
 | []=>some []
 | v::r=>match Bfm v with
  | some x=>match Bd8 r with
   | some y=>some (x::y)
   | none=>none
  | none=>none
def ofV:Value->Option EV
 | .agg cs=>match Bd8 cs.toList with|some l=>some (.agg l)|none=>none
 | .tuple cs=>match cs.toList with | []=>some (.tuple [])|_=>none
 | v=>Bfm v
abbrev Ax:=Tr EV
def tmp(tm:Ax)(t:Nat):EV:=match tm.get t with|some v=>v|none=>.tuple []
def Cf(tm:Ax):Operand->Option EV
 | .tmp t=>some (match tm.get t with|some v=>v|none=>.tuple [])
 | .const v=>ofV v
 | .global _=>none
 | .func f=>some (.func f [] [])
def Md(tm:Ax):List Operand->Option (List EV)
 | []=>some []
 | x::r=>match Cf tm x with
  | some a=>match Md tm r with
   | some b=>some (a::b)
   | none=>none
  | none=>none
def Ps(n:Nat)(tm:Ax)(d:Option Tmp)(v:EV):Ax:=
 match d with
 | none=>tm
 | some d=>Bb (Nat.ble (Nat.succ d) n) (tm.put d (some v)) tm
def len(l:List EV):Nat:=match l with | []=>0|_::r=>Nat.succ (len r)
def Yu:List EV->Nat->List EV
 | [],_=>[]
 | a::r,n=>Bb (Nat.beq n 0) (a::r) (Yu r (Nat.pred n))
def takeN:List EV->Nat->Option (List EV)
 | [],n=>Bb (Nat.beq n 0) (some []) none
 | a::r,n=>Bb (Nat.beq n 0) (some []) (match takeN r (Nat.pred n)with|some x=>some (a::x)|none=>none)
def Jt:List EV->List EV->Option (List EV)
 | l,[]=>some l
 | a::r,v::vs=>match Jt r vs with|some x=>some (v::x)|none=>none
 | [],_::_=>none
def F6:List EV->Nat->List EV->Option (List EV)
 | [],off,vs=>Bb (Nat.beq off 0) (Jt [] vs) none
 | a::r,off,vs=>Bb (Nat.beq off 0) (Jt (a::r) vs) (match F6 r (Nat.pred off) vs with|some x=>some (a::x)|none=>none)
def Alr(ws:List (Nat × List EV))(off:Nat):Option (Nat × List EV):=
 match ws with
 | []=>none
 | (o,l)::r=>Bb (Bb (Nat.ble o off) (Nat.ble (Nat.succ (Nat.sub off o)) (len l)) false) (some (o,l)) (Alr r off)
def Jg(h:Ab)(i off n:Nat):Option (List EV):=
 match h.get i with
 | some (.cells l _)=>takeN (Yu l off) n
 | some (.vec l _ _)=>takeN (Yu l off) n
 | some (.view ws _)=>match Alr ws off with|some (o,l)=>takeN (Yu l (Nat.sub off o)) n|none=>none
 | _=>none
def L9(h:Ab)(i off:Nat)(vs:List EV):Option Ab:=
 match h.get i with
 | some (.cells l t)=>match F6 l off vs with|some l'=>some (h.put i (.cells l' t))|none=>none
 | some (.vec l t s)=>match F6 l off vs with|some l'=>some (h.put i (.vec l' t s))|none=>none
 | _=>none
def lid:IntKind->Nat
 | .u8=>256 | .u16=>65536 | .u32=>4294967296 | .u64=>18446744073709551616 | .i8=>128 | .i16=>32768 | .i32=>2147483648 | .i64=>9223372036854775808
def floor:IntKind->Nat
 | .i8=>128 | .i16=>32768 | .i32=>2147483648 | .i64=>9223372036854775808|_=>0
def Cx(k:IntKind)(n:Int):Int:=
 match n with
 | .ofNat m=>Bb (Nat.ble (Nat.succ m) (lid k)) (.ofNat m) (k.wrap (.ofNat m))
 | .negSucc m=>Bb (Nat.ble (Nat.succ m) (floor k)) (.negSucc m) (k.wrap (.negSucc m))
def Qb:IntKind->Nat
 | .u8=>0 | .u16=>1 | .u32=>2 | .u64=>3 | .i8=>4 | .i16=>5 | .i32=>6 | .i64=>7
def ltB:Int->Int->Bool
 | .ofNat a,.ofNat b=>Nat.ble (Nat.succ a) b
 | .ofNat _,.negSucc _=>false
 | .negSucc _,.ofNat _=>true
 | .negSucc a,.negSucc b=>Nat.ble (Nat.succ b) a
def eqB:Int->Int->Bool
 | .ofNat a,.ofNat b=>Nat.beq a b
 | .negSucc a,.negSucc b=>Nat.beq a b
 | _,_=>false
def Be0:List UInt8->List UInt8->Bool
 | [],[]=>true
 | a::r,b::s=>Bb (Nat.beq a.toNat b.toNat) (Be0 r s) false
 | _,_=>false
def Aiy:EV->EV->Option Bool
 | .int k a,.int k' b=>Bb (Nat.beq (Qb k) (Qb k')) (some (eqB a b)) none
 | .str a,.str b=>some (Be0 a.data.toList b.data.toList)
 | .bool a,.bool b=>some (Bb a b (Bb b false true))
 | _,_=>none
def Fv:List EV->List EV->Option Bool
 | [],[]=>some true
 | a::r,b::s=>match Aiy a b with
  | some true=>Fv r s
  | some false=>match Fv r s with|some _=>some false|none=>none
  | none=>none
 | _,_=>none
def shaped:List Nat->List EV->Bool
 | [],[]=>true
 | b::s,.int _ _::l=>Bb (Nat.beq b 0) (shaped s l) false
 | b::s,.bool _::l=>Bb (Nat.beq b 1) (shaped s l) false
 | b::s,.str _::l=>Bb (Nat.beq b 2) (shaped s l) false
 | _,_=>false
def Ave(T:Ih)(t:TypeId):EV->EV->Option Bool
 | .agg a,.agg b=>match T.eqs t with|some sh=>Bb (shaped sh a) (Fv a b) none|none=>none
 | .bool a,.bool b=>match T.Tv t with
  | some .bool=>some (Bb a b (Bb b false true))
  | _=>none
 | .Cl,.Cl=>match T.Tv t with|some (.pointer _)=>some true|_=>none
 | .Cl,.ptr _ _=>match T.Tv t with|some (.pointer _)=>some false|_=>none
 | .ptr _ _,.Cl=>match T.Tv t with|some (.pointer _)=>some false|_=>none
 | .ptr i o,.ptr j p=>match T.Tv t with|some (.pointer e)=>(match T.size e with|some _=>Bb (Nat.beq i j) (Bb (Nat.beq o p) (some true) none) none|none=>none)|_=>none
 | .Ao,.Ao=>match T.Tv t with|some (.slice _)=>some true|_=>none
 | .slice ..,.Ao=>match T.Tv t with|some (.slice _)=>some false|_=>none
 | .tail ..,.Ao=>match T.Tv t with|some (.slice _)=>some false|_=>none
 | _,_=>none
def Bfl(op:BinOp)(k:IntKind)(a b:Int):Option EV:=
 match op with
 | .add=>some (.int k (Cx k (Int.add a b)))
 | .sub=>some (.int k (Cx k (Int.sub a b)))
 | .mul=>some (.int k (Cx k (Int.mul a b)))
 | .quo=>Bb (eqB b 0) none (some (.int k (Cx k (a.tdiv b))))
 | .rem=>Bb (eqB b 0) none (some (.int k (a.tmod b)))
 | .and=>match a,b with | .ofNat a,.ofNat b=>some (.int k (Cx k (.ofNat (Nat.land a b))))|_,_=>none
 | .or=>match a,b with | .ofNat a,.ofNat b=>some (.int k (Cx k (.ofNat (Nat.lor a b))))|_,_=>none
 | .xor=>match a,b with | .ofNat a,.ofNat b=>some (.int k (Cx k (.ofNat (Nat.xor a b))))|_,_=>none
 | .lss=>some (.bool (ltB a b))
 | .leq=>some (.bool (Bb (ltB b a) false true))
 | .gtr=>some (.bool (ltB b a))
 | .geq=>some (.bool (Bb (ltB a b) false true))
 | .eql=>some (.bool (eqB a b))
 | .neq=>some (.bool (Bb (eqB a b) false true))
 | _=>none
def A24(op:BinOp)(k:IntKind)(a:Int)(b:Nat):Option EV:=
 match op with
 | .shl=>some (.int k (Cx k (Int.mul a (.ofNat (Nat.pow 2 (Bb (Nat.ble b k.bits) b k.bits))))))
 | .shr=>match a with
  | .ofNat a=>some (.int k (.ofNat (Nat.shiftRight a (Bb (Nat.ble b k.bits) b k.bits))))
  | .negSucc _=>some (.int k (a.fdiv (.ofNat (Nat.pow 2 (Bb (Nat.ble b k.bits) b k.bits)))))
 | _=>none
def Axp:BinOp->Bool
 | .shl=>true
 | .shr=>true
 | _=>false
def bin(T:Ih)(op:BinOp)(t:TypeId)(x y:EV):Option EV:=
 match x,y with
 | .int k a,.int k' b=>Bb (Axp op) (match b with | .ofNat b=>A24 op k a b | .negSucc _=>none)
  (Bb (Nat.beq (Qb k) (Qb k')) (Bfl op k a b) none)
 | x,y=>match op with
  | .eql=>match Ave T t x y with|some b=>some (.bool b)|none=>none
  | .neq=>match Ave T t x y with|some b=>some (.bool (Bb b false true))|none=>none
  | _=>none
def fill(place:Nat->Option (Nat × Nat))(cells:List EV):List (Nat × EV)->Option (List EV)
 | []=>some cells
 | (i,v)::rest=>
  match place i with
  | none=>none
  | some (off,size)=>Bb (v.plain) (Bb (Nat.beq (len v.cells) size) (match F6 cells off v.cells with
   | some c=>fill place c rest
   | none=>none) none) none
def Y8(tm:Ax):List (Nat × Operand)->Option (List (Nat × EV))
 | []=>some []
 | (i,x)::r=>match Cf tm x with
  | some a=>match Y8 tm r with
   | some b=>some ((i,a)::b)
   | none=>none
  | none=>none
def rep(l:List EV):Nat->List EV
 | 0=>[]
 | n+1=>l++rep l n
def bound(x:Option EV)(hi dflt:Nat):Option Nat:=
 match x with
 | none=>some dflt
 | some (.int _ (.ofNat n))=>Bb (Nat.ble n hi) (some n) none
 | _=>none
def slc(x:EV)(size:Nat)(lo hi d:Option EV):Option EV:=
 match x with
 | .slice i off len room op=>
  match d with
  | none=>
   match bound hi room len with
   | none=>none
   | some h=>match bound lo h 0 with
    | none=>none
    | some l=>
     Bb op
      (Bb (Nat.beq l 0) (some (.slice i off h room true))
       (Bb (Nat.ble (Nat.succ l) room) (some (.slice i (Nat.add off (Nat.mul l size)) (Nat.sub h l) (Nat.sub room l) true))
        (Bb (Nat.beq l room) (Bb (Nat.beq h l) (some (.tail i (Nat.add off (Nat.mul l size)) off)) none) none)))
      (Bb (Nat.ble l room) (some (.slice i (Bb (Nat.beq room l) off (Nat.add off (Nat.mul l size))) (Nat.sub h l) (Nat.sub room l) false)) none)
  | some _=>
   match bound d room 0,hi with
   | some m,some _=>match bound hi m 0 with
    | none=>none
    | some h=>match bound lo h 0 with
     | none=>none
     | some l=>some (.slice i (Bb (Nat.beq m l) off (Nat.add off (Nat.mul l size))) (Nat.sub h l) (Nat.sub m l) false)
   | _,_=>none
 | .Ao=>
  match d with
  | none=>
   match bound hi 0 0 with
   | none=>none
   | some h=>match bound lo h 0 with
    | none=>none
    | some _=>some .Ao
  | some _=>none
 | _=>none
def Abm(tm:Ax):Option Operand->Option (Option EV)
 | none=>some none
 | some x=>match Cf tm x with
  | some v=>some (some v)
  | none=>none
def lenOf:EV->Option Nat
 | .Ao=>some 0
 | .slice _ _ n _ _=>some n
 | .tail ..=>some 0
 | .odd _=>some 0
 | _=>none
def cellsOf(h:Ab)(size n:Nat):EV->Option (List EV)
 | .Ao=>Bb (Nat.beq n 0) (some []) none
 | .slice i off _ _ _=>Bb (Nat.beq n 0) (some []) (Jg h i off (Nat.mul n size))
 | .tail ..=>Bb (Nat.beq n 0) (some []) none
 | _=>none
def append(T:Ih)(st:TypeId)(s x:EV)(h:Ab):Option (EV × Ab):=
 match T.Tv st with
 | some (.slice e)=>match T.size e,T.zero e with
  | some size,some _=>match lenOf x with
   | some n=>Bb (Nat.beq n 0)
    (match s with
     | .slice _ _ d room _=>Bb (Nat.ble d room) (some (s,h)) none
     | .Ao=>some (s,h)
     | _=>none)
    (Bb (Nat.ble n 65536) (match cellsOf h size n x with
    | some new=>
     (match s with
     | .Ao=>some (.slice h.next 0 n n true,h.new (.vec new e size))
     | .slice i off d room op=>Bb (Nat.ble d 1048576) (match cellsOf h size d s with
      | some Cr=>
       Bb op
        (Bb (Nat.beq off 0) (Bb (Nat.beq room d) (match h.get i with
         | some (.vec l e' s')=>Bb (Nat.beq (len l) (Nat.mul d size)) (Bb (Nat.beq s' size) (Bb (Nat.beq e' e)
          (some (.slice h.next 0 (Nat.add d n) (Nat.add d n) true,(h.del i).new (.vec (Cr++new) e size))) none) none) none
         | _=>none) none) none)
        (Bb (Nat.ble (Nat.add d n) room) none (some (.slice h.next 0 (Nat.add d n) (Nat.add d n) true,h.new (.vec (Cr++new) e size))))
      | none=>none) none
     | _=>none)
    | none=>none) none)
   | none=>none
  | _,_=>none
 | _=>none
def Auz:EV->EV->Option Bool
 | .agg a,.agg b=>Fv a b
 | .int k a,.int k' b=>Bb (Nat.beq (Qb k) (Qb k')) (some (eqB a b)) none
 | _,_=>none
def Om(T:Ih)(t:TypeId):EV->Bool
 | .agg a=>Bb (T.key t) (match T.eqs t with
  | some sh=>Bb (shaped sh a) (match Fv a a with|some _=>true|none=>false) false
  | none=>false) false
 | .int k _=>match T.Tv t with
  | some (.int k')=>Nat.beq (Qb k) (Qb k')
  | _=>false
 | _=>false
def H0(k:EV):List (EV × EV)->Nat->Option (Option (Nat × EV))
 | [],_=>some none
 | (a,b)::r,i=>match Auz k a with
  | some true=>some (some (i,b))
  | some false=>H0 k r (Nat.succ i)
  | none=>none
def Aby(d:Bool)(k:IntKind)(a:Int):List EV->Option EV
 | []=>some (.int k a)
 | .int _ b::r=>Aby d k (Bb (Bb d (ltB a b) (ltB b a)) b a) r
 | _=>none
def Bn1(l:List UInt8):Nat:=match l with | []=>0|_::r=>Nat.succ (Bn1 r)
def builtin(T:Ih)(b:Builtin)(y:Array TypeId)(args:List EV)(h:Ab):Option (EV × Ab):=
 match b,args with
 | .append,[s,x]=>match y.toList with | [t,u]=>(match T.Tv u with|some (.slice _)=>append T t s x h|_=>none)|_=>none
 | .len,[x]=>match y.toList with
  | [t]=>match T.Tv t,x with
   | some (.array n _),_=>some (.int .i64 (.ofNat n),h)
   | some (.slice _),x=>match lenOf x with|some n=>some (.int .i64 (.ofNat n),h)|none=>none
   | some .string,.str s=>some (.int .i64 (.ofNat (Bn1 s.data.toList)),h)
   | some (.chan ..),.chan i=>match h.get i with|some (.chan _ buf)=>some (.int .i64 (.ofNat (len buf)),h)|_=>none
   | _,_=>none
  | _=>none
 | .copy,[d,s]=>match y.toList with
  | [t,u]=>match T.Tv t,T.Tv u with
   | some (.slice e),some (.slice _)=>match T.size e,lenOf d,lenOf s with
    | some size,some dn,some A=>
     let n:=Bb (Nat.ble A dn) A dn
     Bb (Nat.beq n 0) none (match cellsOf h size n s with
     | some cs=>(match d with
      | .slice i off _ _ _=>match L9 h i off cs with|some h'=>some (.int .i64 (.ofNat n),h')|none=>none
      | _=>none)
     | none=>none)
    | _,_,_=>none
   | _,_=>none
  | _=>none
 | .delete,[m,k]=>match y.toList with
  | t::_=>match T.Tv t,m with
   | some (.map B _),.map i=>Bb (Om T B k) (match h.get i with
    | some (.map es)=>match H0 k es 0 with
     | some (some (j,_))=>some (.tuple [],h.put i (.map (es.eraseIdx j)))
     | some none=>some (.tuple [],h.put i (.map es))
     | none=>none
    | _=>none) none
   | _,_=>none
  | _=>none
 | .min,.int k a::l=>match Aby false k a l with|some v=>some (v,h)|none=>none
 | .max,.int k a::l=>match Aby true k a l with|some v=>some (v,h)|none=>none
 | _,_=>none
def part(T:Ih)(t:TypeId)(cs:List EV)(off:Nat):Option EV:=
 match T.agg t with
 | some true=>(match T.size t with
  | some n=>match takeN (Yu cs off) n with|some l=>some (.agg l)|none=>none
  | none=>none)
 | some false=>(match Yu cs off with|v::_=>some v | []=>none)
 | none=>none
def A2q(l:List Field)(i:Nat):Option Field:=
 match l with
 | []=>none
 | a::r=>Bb (Nat.beq i 0) (some a) (A2q r (Nat.pred i))
def zeroOf(T:Ih)(t:TypeId):Option EV:=
 match T.zero t with
 | some z=>match T.agg t with
  | some true=>some (.agg z)
  | some false=>(match z with | [v]=>some v|_=>none)
  | none=>none
 | none=>none
def placesOf(T:Ih):List Field->Option (List (Nat × Nat))
 | []=>some []
 | f::r=>match T.size f.type with
  | some n=>match placesOf T r with
   | some l=>some ((f.offset,n)::l)
   | none=>none
  | none=>none
def A0m(l:List (Nat × Nat))(i:Nat):Option (Nat × Nat):=
 match l with
 | []=>none
 | a::r=>Bb (Nat.beq i 0) (some a) (A0m r (Nat.pred i))
def Bew(l:List UInt8)(i:Nat):Option UInt8:=
 match l with
 | []=>none
 | a::r=>Bb (Nat.beq i 0) (some a) (Bew r (Nat.pred i))
def Fg(T:Ih)(tm:Ax)(op:Op):Option EV:=
 match op with
 | .move x=>Cf tm x
 | .assign x=>Cf tm x
 | .pick c a b=>match Cf tm c with
  | some (.bool true)=>Cf tm a
  | some (.bool false)=>Cf tm b
  | _=>none
 | .binOp op t x y _=>match Cf tm x with
  | some a=>match Cf tm y with
   | some b=>bin T op t a b
   | none=>none
  | none=>none
 | .unOp .not _ x=>match Cf tm x with
  | some (.bool b)=>some (.bool (Bb b false true))
  | _=>none
 | .unOp .neg _ x=>match Cf tm x with
  | some (.int k n)=>some (.int k (Cx k (Int.sub 0 n)))
  | _=>none
 | .nilCheck x=>match Cf tm x with
  | some (.ptr i o)=>some (.ptr i o)
  | _=>none
 | .fieldAddr s x f=>match Cf tm x with
  | some (.ptr i off)=>match T.Tv s with
   | some (.struct fields)=>match A2q fields.toList f with
    | some fd=>match T.size fd.type with
     | some n=>Bb (Nat.beq n 0) none (some (.ptr i (Nat.add off fd.offset)))
     | none=>none
    | none=>none
   | _=>none
  | _=>none
 | .indexAddr t x ix=>match Cf tm ix with
  | some (.int _ (.ofNat n))=>match T.Tv t,Cf tm x with
   | some (.array len e),some (.ptr i off)=>match T.size e with
    | some s=>Bb (Nat.ble (Nat.succ n) len) (some (.ptr i (Nat.add off (Nat.mul n s)))) none
    | none=>none
   | some (.slice e),some (.slice i off len _ _)=>match T.size e with
    | some s=>Bb (Nat.ble (Nat.succ n) len) (some (.ptr i (Nat.add off (Nat.mul n s)))) none
    | none=>none
   | _,_=>none
  | _=>none
 | .index t x ix=>match Cf tm ix with
  | some (.int _ (.ofNat n))=>match T.Tv t,Cf tm x with
   | some (.array len e),some (.agg cs)=>match T.size e with
    | some s=>Bb (Nat.ble (Nat.succ n) len) (part T e cs (Nat.mul n s)) none
    | none=>none
   | some .string,some (.str s)=>match Bew s.data.toList n with
    | some b=>some (.int .u8 (.ofNat b.toNat))
    | none=>none
   | _,_=>none
  | _=>none
 | .field t x f=>match T.Tv t,Cf tm x with
  | some (.struct fields),some (.agg cs)=>match A2q fields.toList f with
   | some fd=>part T fd.type cs fd.offset
   | none=>none
  | _,_=>none
 | .convert src dst x=>match T.Tv src,T.Tv dst,Cf tm x with
  | some _,some (.int k),some (.int _ n)=>some (.int k (Cx k n))
  | _,_,_=>none
 | .extract x ix=>match Cf tm x with
  | some (.tuple l)=>match Yu l ix with|v::_=>some v | []=>none
  | _=>none
 | .slice t x lo hi d=>
  match Abm tm lo,Abm tm hi,Abm tm d with
  | some lo,some hi,some d=>match T.Tv t,Cf tm x with
   | some (.array n e),some (.ptr i off)=>match T.size e with
    | some s=>slc (.slice i off n n false) s lo hi d
    | none=>none
   | some (.slice e),some v=>match T.size e with
    | some s=>slc v s lo hi d
    | none=>none
   | _,_=>none
  | _,_,_=>none
 | .build t ps=>match T.zero t,Y8 tm ps.toList,T.Tv t with
  | some z,some l,some (.struct fields)=>match placesOf T fields.toList with
   | some ps=>match fill (A0m ps) z l with
    | some c=>some (.agg c)
    | none=>none
   | none=>none
  | some z,some l,some (.array _ e)=>match T.size e with
   | some s=>match fill (fun i=>some (Nat.mul i s,s)) z l with
    | some c=>some (.agg c)
    | none=>none
   | none=>none
  | _,_,_=>none
 | .makeFunc (.func f) first captured=>match Md tm first.toList,Md tm captured.toList with
  | some a,some b=>some (.func f a b)
  | _,_=>none
 | .sliceToArrayPointer t x=>match T.Tv t,Cf tm x with
  | some (.array n _),some (.slice i off len _ _)=>Bb (Nat.ble n len) (some (.ptr i off)) none
  | _,_=>none
 | _=>none
def isV:Op->Bool
 | .move _=>true | .assign _=>true | .pick ..=>true | .binOp ..=>true | .unOp ..=>true | .nilCheck _=>true | .fieldAddr ..=>true | .indexAddr ..=>true | .index ..=>true
 | .field ..=>true | .convert ..=>true | .extract ..=>true | .slice ..=>true | .build ..=>true | .makeFunc ..=>true | .sliceToArrayPointer ..=>true
 | _=>false
def Dw(T:Ih)(tm:Ax)(op:Op)(h:Ab):Option (EV × Ab):=
 match op with
 | .load t a=>match Cf tm a with
  | some (.ptr i off)=>match T.agg t with
   | some true=>(match T.size t with
    | some n=>match Jg h i off n with|some l=>some (.agg l,h)|none=>none
    | none=>none)
   | some false=>(match Jg h i off 1 with|some [v]=>some (v,h)|_=>none)
   | none=>none
  | _=>none
 | .store t a x=>match Cf tm a,Cf tm x,T.size t with
  | some (.ptr i off),some v,some n=>Bb (v.plain) (Bb (Nat.beq (len v.cells) n)
   (match L9 h i off v.cells with|some h'=>some (.tuple [],h')|none=>none) none) none
  | _,_,_=>none
 | .alloc t=>match T.zero t with
  | some z=>some (.ptr h.next 0,h.new (.cells z t))
  | none=>none
 | .box t x=>match Cf tm x with
  | some v=>Bb v.plain (some (.ptr h.next 0,h.new (.cells v.cells t))) none
  | none=>none
 | .call { callee:=.builtin b,args,argTypes }=>match Md tm args.toList with
  | some as=>builtin T b argTypes as h
  | none=>none
 | .buildSlice t n ps=>match T.Tv t,Y8 tm ps.toList with
  | some (.slice e),some l=>match T.size e,T.zero e with
   | some s,some z=>Bb (Nat.ble (Nat.mul n s) 65536) (match fill (fun i=>some (Nat.mul i s,s)) (rep z n) l with
    | some c=>some (.slice h.next 0 n n false,h.new (.cells c e))
    | none=>none) none
   | _,_=>none
  | _,_=>none
 | .makeSlice t l c=>match T.Tv t,Cf tm l,Cf tm c with
  | some (.slice e),some (.int _ (.ofNat n)),some (.int _ (.ofNat m))=>match T.zero e with
   | some z=>Bb (Nat.ble n m) (Bb (Nat.ble m 65536) (some (.slice h.next 0 n m false,h.new (.cells (rep z m) e))) none) none
   | none=>none
  | _,_,_=>none
 | .makeMap _ none=>some (.map h.next,h.new (.map []))
 | .makeChan t s=>match T.Tv t,Cf tm s with
  | some (.chan _ e),some (.int _ (.ofNat n))=>match T.size e with
   | some _=>Bb (Nat.ble n 65536) (some (.chan h.next,h.new (.chan n []))) none
   | none=>none
  | _,_=>none
 | .lookup t x k ok=>match T.Tv t,Cf tm x,Cf tm k with
  | some (.map y e),some (.map i),some d=>Bb (Om T y d) (match h.get i with
   | some (.map es)=>match H0 d es 0 with
    | some (some (_,v))=>some (Bb ok (.tuple [v,.bool true]) v,h)
    | some none=>match zeroOf T e with
     | some u=>some (Bb ok (.tuple [u,.bool false]) u,h)
     | none=>none
    | none=>none
   | _=>none) none
  | _,_,_=>none
 | .mapUpdate t m k x=>match T.Tv t,Cf tm m,Cf tm k,Cf tm x with
  | some (.map y _),some (.map i),some d,some v=>Bb (Om T y d) (match h.get i with
   | some (.map es)=>match H0 d es 0 with
    | some (some (j,_))=>some (.tuple [],h.put i (.map (es.set j (d,v))))
    | some none=>some (.tuple [],h.put i (.map (es++[(d,v)])))
    | none=>none
   | _=>none) none
  | _,_,_,_=>none
 | .select cs false=>match cs.toList with
  | [c]=>match Cf tm c.chan,c.send with
   | some (.chan i),some x=>match h.get i,Cf tm x with
    | some (.chan cap buf),some v=>match zeroOf T c.elem with
     | some _=>Bb (Nat.ble (Nat.succ (len buf)) cap) (some (.tuple [.int .i64 0,.bool false],h.put i (.chan cap (buf++[v]))))
      (some (.tuple [.int .i64 (-1),.bool false],h))
     | none=>none
    | _,_=>none
   | some (.chan i),none=>match h.get i,zeroOf T c.elem with
    | some (.chan cap buf),some u=>
     match buf with
     | v::r=>some (.tuple [.int .i64 0,.bool true,v],h.put i (.chan cap r))
     | []=>some (.tuple [.int .i64 (-1),.bool false,u],h)
    | _,_=>none
   | _,_=>none
  | _=>none
 | _=>none
def setArgs:List EV->Nat->Tr EV->Tr EV
 | [],_,t=>t
 | v::r,i,t=>setArgs r (Nat.succ i) (t.put i (some v))
def Vw:List Tmp->List EV->Nat->Tr EV->Option (Tr EV)
 | [],[],_,t=>some t
 | p::r,v::s,n,t=>Vw r s n (Bb (Nat.ble (Nat.succ p) n) (t.put p (some v)) t)
 | _,_,_,_=>none
def enter(T:Ih)(f:Nat)(args:List EV):Option Aih:=
 match T.fn f with
 | some { ntmps:=n,body:=some c,.. }=>Bb (Nat.ble (len args) n) (some ⟨f,n,setArgs args 0 .nil,[.code c],[],false,none⟩) none
 | _=>none
def Aw5(l:List Oper)(i:Nat):Option Oper:=
 match l with
 | []=>none
 | a::r=>Bb (Nat.beq i 0) (some a) (Aw5 r (Nat.pred i))
def yielded(ops:List Oper)(tm:Ax)(j:Nat):Option Bool:=
 match Aw5 ops j with
 | some o=>match o.dst with
  | some d=>match tm.get d with
   | some (.bool b)=>some b
   | _=>none
  | none=>none
 | none=>none
def wanted(ops:List Oper)(tm:Ax)(g:Option (Nat × Bool)):Bool:=
 match g with
 | none=>true
 | some (j,want)=>match yielded ops tm j with|some b=>Bb b want (Bb want false true)|none=>false
def aop(T:Ih)(call round:Ai)(tm:Ax)(op:Op)(h:Ab):Option (EV × Ab):=
 Bb (isV op) (match Fg T tm op with|some v=>some (v,h)|none=>none)
  (match op with
  | .call { callee:=.value f,args,.. }=>match Cf tm f,Md tm args.toList with
   | some (.func g first captured),some as=>call g (first++(as++captured)) h
   | some (.Sy l),some as=>round l as h
   | _,_=>none
  | op=>Dw T tm op h)
def Aqh(T:Ih)(call round:Ai)(n:Nat)(ops:List Oper):List Oper->Ax->Ab->Option (Ax × Ab)
 | [],tm,h=>some (tm,h)
 | ⟨dst,op,_,_,_,g⟩::r,tm,h=>Bb (wanted ops tm g)
  (match aop T call round tm op h with
   | some (v,h')=>Aqh T call round n ops r (Ps n tm dst v) h'
   | none=>none)
  (Aqh T call round n ops r (Ps n tm dst (.tuple [])) h)
inductive Cls where
 | val|load|new|pur|sto|big
def Ath:Op->Bool
 | .call { callee:=.builtin .len,.. }=>true
 | .call { callee:=.builtin .min,.. }=>true
 | .call { callee:=.builtin .max,.. }=>true
 | _=>false
def cls:Op->Cls
 | .load ..=>.load
 | .store ..=>.sto
 | .alloc _=>.new | .box ..=>.new | .buildSlice ..=>.new | .makeSlice ..=>.new | .makeMap ..=>.new | .makeChan ..=>.new
 | op=>Bb (isV op) .val (Bb (Ath op) .pur .big)
def Aa4(e:Edge):Bool:=
 match e.ground with
 | .textOnly _=>false
 | .gcOnly _=>false
 | _=>true
def Ajz(bs:Tr Nat):List Edge->Nat->Nat
 | [],x=>x
 | e::r,x=>Ajz bs r (Bb (Aa4 e) (Nat.lor x (Nat.lor (Nat.shiftLeft 1 e.on) (match bs.get e.on with|some y=>y|none=>0))) x)
def Oh:List Oper->Nat->Tr Nat->Tr Nat
 | [],_,bs=>bs
 | o::r,i,bs=>Oh r (Nat.succ i) (bs.put i (some (Ajz bs o.after.toList 0)))
def Adv:List Operand->Nat->Nat
 | [],x=>x
 | .tmp t::r,x=>Adv r (Nat.lor x (Nat.shiftLeft 1 t))
 | _::r,x=>Adv r x
def Ahg(o:Oper):Nat:=match o.dst with|some d=>Nat.shiftLeft 1 d|none=>0
def Zm(ops:List Oper)(o:Oper):Nat:=
 Nat.lor (Adv o.op.operands.toList 0) (match o.guard with|some (j,_)=>(match Aw5 ops j with|some g=>Ahg g|none=>0)|none=>0)
def A3n(j d l e l' b:Nat):Bool:=
 Bb (Nat.beq (Nat.land b (Nat.shiftLeft 1 j)) 0) (Nat.beq (Nat.lor (Nat.land d (Nat.lor e l')) (Nat.land l e)) 0) true
def Ata(e l' b:Nat):List (Nat × Nat)->Nat->Bool
 | [],_=>true
 | (d,l)::r,j=>Bb (A3n j d l e l' b) (Ata e l' b r (Nat.succ j)) false
def Ak9(ops:List Oper)(bs:Tr Nat):List Oper->Nat->List (Nat × Nat)->Bool
 | [],_,_=>true
 | o::r,i,ms=>match bs.get i with
  | some b=>Bb (Ata (Ahg o) (Zm ops o) b ms 0) (Ak9 ops bs r (Nat.succ i) (ms++[(Ahg o,Zm ops o)])) false
  | none=>false
def within(x b:Nat):Bool:=Nat.beq (Nat.land x b) x
def Z2(b q:Nat):List (Nat × Nat)->Bool
 | []=>true
 | (m,w)::r=>Bb (Bb (within m b) true (Nat.ble (Nat.succ q) w)) (Z2 b q r) false
def Abb(b w:Nat):List (Nat × Nat)->Bool
 | []=>true
 | (m,q)::r=>Bb (Bb (within m b) true (Nat.ble (Nat.succ q) w)) (Abb b w r) false
def loose(b:Nat):List (Nat × Nat)->List Nat
 | []=>[]
 | (m,q)::r=>Bb (within m b) (loose b r) (q::loose b r)
def Ab5(t:Tr Dz):List Nat->Tr Dz
 | []=>t
 | q::r=>(Ab5 t r).put q none
def Ab9(t d:Tr Dz):List Nat->Tr Dz
 | []=>d
 | q::r=>(Ab9 t d r).put q (t.get q)
structure DSt where
 tm:Ax
 h:Ab
 bg:Nat
 nw:List (Nat × Nat)
 Cy:List (Nat × Nat)
 lou:List (Nat × Nat)
 st:List (Nat × Nat)
def F2(b q:Nat):List (Nat × Nat)->Bool
 | []=>true
 | (m,r)::l=>Bb (Bb (within m b) true (Bb (Nat.beq q r) false true)) (F2 b q l) false
def Av8(b:Nat):List (Nat × Nat)->Bool
 | []=>true
 | (m,_)::l=>Bb (within m b) (Av8 b l) false
def Axw(q:Nat):List Nat->Bool
 | []=>true
 | r::l=>Bb (Nat.beq q r) false (Axw q l)
def Vr(T:Ih)(call round:Ai)(n:Nat)(ops:List Oper)(bs:Tr Nat)(base:Nat)(o:Oper)(i:Nat)(s:DSt):Option DSt:=
 match o,s with
 | ⟨dst,op,_,_,_,g⟩,⟨tm,h,bg,nw,Cy,lou,st⟩=>Bb (wanted ops tm g)
  (match bs.get i with
  | none=>none
  | some b=>match cls op with
   | .val=>match Fg T tm op with
    | some v=>some ⟨Ps n tm dst v,h,bg,nw,Cy,lou,st⟩
    | none=>none
   | .load=>match op with
    | .load t x=>match Cf tm x with
     | some (.ptr q _)=>
      Bb (Bb (F2 b q st) (Bb (Nat.ble (Nat.succ q) base) (Z2 b q lou) (Bb (within bg b) (match loose b nw with | []=>true|_=>false) false)) false) (match Dw T tm (.load t x) h with
      | some (v,_)=>some ⟨Ps n tm dst v,h,bg,nw,(Nat.shiftLeft 1 i,q)::Cy,lou,st⟩
      | none=>none) none
     | _=>none
    | _=>none
   | .new=>match Dw T tm op h with
    | some (v,h')=>some ⟨Ps n tm dst v,h',bg,(Nat.shiftLeft 1 i,h.next)::nw,Cy,lou,st⟩
    | none=>none
   | .sto=>match op with
    | .store t a x=>match Cf tm a with
     | some (.ptr q _)=>
      Bb (Bb (within bg b) (Bb (F2 b q st) (Bb (F2 b q Cy) (Axw q (loose b nw)) false) false) false) (match Dw T tm (.store t a x) h with
      | some (v,h')=>some ⟨Ps n tm dst v,h',bg,nw,Cy,lou,(Nat.shiftLeft 1 i,q)::st⟩
      | none=>none) none
     | _=>none
    | _=>none
   | .pur=>match Dw T tm op ⟨.nil,h.next,h.next⟩with
    | some (v,_)=>some ⟨Ps n tm dst v,h,bg,nw,Cy,lou,st⟩
    | none=>none
   | .big=>Bb (Bb (within bg b) (Av8 b st) false) (match h with
    | ⟨t,nx,mw⟩=>match aop T call round tm op ⟨Ab5 t (loose b nw),nx,nx⟩with
     | some (v,⟨j,e,d⟩)=>
      Bb (Nat.ble nx d)
       (some ⟨Ps n tm dst v,⟨Ab9 t j (loose b nw),e,mw⟩,Nat.lor bg (Nat.shiftLeft 1 i),nw,Cy,lou,st⟩)
       (Bb (Abb b d Cy)
        (some ⟨Ps n tm dst v,⟨Ab9 t j (loose b nw),e,Bb (Nat.ble mw d) mw d⟩,Nat.lor bg (Nat.shiftLeft 1 i),nw,Cy,(Nat.shiftLeft 1 i,d)::lou,st⟩)
        none)
     | none=>none) none)
  (some ⟨Ps n tm dst (.tuple []),h,bg,nw,Cy,lou,st⟩)
def Sb(T:Ih)(call round:Ai)(n:Nat)(ops:List Oper)(bs:Tr Nat)(base:Nat):List Oper->Nat->DSt->Option DSt
 | [],_,s=>some s
 | o::r,i,s=>match Vr T call round n ops bs base o i s with
  | some s'=>Sb T call round n ops bs base r (Nat.succ i) s'
  | none=>none
def Bbx(i:Nat):List Edge->Bool
 | []=>true
 | e::r=>Bb (Bb (Aa4 e) (Nat.ble (Nat.succ e.on) i) true) (Bbx i r) false
def Anb:List Oper->Nat->Bool
 | [],_=>true
 | o::r,i=>Bb (Bbx i o.after.toList) (Anb r (Nat.succ i)) false
def Aq1(T:Ih)(call round:Ai)(n:Nat)(ops:List Oper)(tm:Ax)(h:Ab):Option (Ax × Ab):=
 Bb (Anb ops 0) (Bb (Ak9 ops (Oh ops 0 .nil) ops 0 []) (match Sb T call round n ops (Oh ops 0 .nil) h.next ops 0 ⟨tm,h,0,[],[],[],[]⟩with
  | some ⟨d,h',_,_,_,_,_⟩=>some (d,h')
  | none=>none) none) none
def Mq(T:Ih)(tm:Ax)(h:Ab):List ResultVar->Option (List EV)
 | []=>some []
 | .tmp t::r=>match Mq T tm h r with|some l=>some (tmp tm t::l)|none=>none
 | .cell a t::r=>match tmp tm a,Mq T tm h r,T.size t with
  | .ptr i off,some l,some n=>match Jg h i off n with
   | some cs=>match T.agg t with
    | some true=>some (.agg cs::l)
    | some false=>(match cs with | [v]=>some (v::l)|_=>none)
    | none=>none
   | none=>none
  | _,_,_=>none
inductive AR where
 | go (s:Hv)
 | done (v:EV) (h:Ab)
 | fail
def leave(fn n:Nat)(tm:Ax)(todo:List Item)(defers:List Nat)(Dp:Option Nat)(h:Ab)(jump:Option Code):AR:=
 match Dp with
 | none=>match jump with
  | none=>.go ⟨⟨fn,n,tm,todo,defers,true,Dp⟩,h⟩
  | some .ret=>.go ⟨⟨fn,n,tm,todo,defers,true,Dp⟩,h⟩
  | some _=>.fail
 | some l=>match h.get l with
  | some (.loop _ _ f n tm ps asg body d)=>
   match jump with
   | none=>.done (.bool true) (h.put l (.loop .ready none f n tm ps asg body d))
   | some c=>.done (.bool false) (h.put l (.loop .done (some c) f n tm ps asg body d))
  | _=>.fail
def behind(fn n:Nat)(tm:Ax)(defers:List Nat)(Dp:Option Nat)(l:Nat)(k:List Item)(r:Option (EV × Ab)):AR:=
 match r with
 | none=>.fail
 | some (_,h)=>match h.get l with
  | some (.loop st p f j e ps asg body d)=>match st with
   | .busy=>.fail
   | _=>.go ⟨⟨fn,n,tm,(match p with|some c=>.code c::k|none=>k),defers,false,Dp⟩,h.put l (.loop .exhausted p f j e ps asg body d)⟩
  | _=>.fail
def Cm(T:Ih)(call round:Ai):Hv->AR
 | ⟨⟨fn,n,tm,todo,defers,true,Dp⟩,h⟩=>match defers with
  | d::ds=>match h.get d with
   | some (.deferred true)=>.go ⟨⟨fn,n,tm,todo,ds,true,Dp⟩,h.put d (.deferred false)⟩
   | _=>.fail
  | []=>match T.fn fn with
   | some f=>match Mq T tm h f.results.toList with
    | some [v]=>.done v h
    | some l=>.done (.tuple l) h
    | none=>.fail
   | none=>.fail
 | ⟨⟨fn,n,tm,todo,defers,false,Dp⟩,h⟩=>
  match todo with
  | []=>leave fn n tm todo defers Dp h none
  | .code c::k=>match c with
   | .region _ ops false=>match Aqh T call round n ops.toList ops.toList tm h with
    | some (e,h')=>.go ⟨⟨fn,n,e,k,defers,false,Dp⟩,h'⟩
    | none=>.fail
   | .region _ ops true=>match Aq1 T call round n ops.toList tm h with
    | some (e,h')=>.go ⟨⟨fn,n,e,k,defers,false,Dp⟩,h'⟩
    | none=>.fail
   | .seq a b=>.go ⟨⟨fn,n,tm,.code a :: .code b::k,defers,false,Dp⟩,h⟩
   | .skip=>.go ⟨⟨fn,n,tm,k,defers,false,Dp⟩,h⟩
   | .cond c a b=>match Cf tm c with
    | some (.bool true)=>.go ⟨⟨fn,n,tm,.code a::k,defers,false,Dp⟩,h⟩
    | some (.bool false)=>.go ⟨⟨fn,n,tm,.code b::k,defers,false,Dp⟩,h⟩
    | _=>.fail
   | .block id c=>.go ⟨⟨fn,n,tm,.code c :: .inBlock id::k,defers,false,Dp⟩,h⟩
   | .loop c=>.go ⟨⟨fn,n,tm,.code c :: .inLoop c::k,defers,false,Dp⟩,h⟩
   | .label _=>.go ⟨⟨fn,n,tm,k,defers,false,Dp⟩,h⟩
   | .exit id=>match exitTo id k with
    | some k'=>.go ⟨⟨fn,n,tm,k',defers,false,Dp⟩,h⟩
    | none=>leave fn n tm todo defers Dp h (some (.exit id))
   | .ret=>leave fn n tm todo defers Dp h (some .ret)
   | .rangeFunc f params asg body=>
    match Cf tm f with
    | some (.func g first captured)=>
     match Dp with
     | none=>
      behind fn n tm (h.next::defers) Dp (Nat.succ h.next) k (call g (first++(.Sy (Nat.succ h.next)::captured)) ((h.new (.deferred true)).new (.loop .ready none fn n tm params.toList asg body h.next)))
     | some l0=>match h.get l0 with
      | some (.loop _ _ _ _ _ _ _ _ d)=>
       behind fn n tm defers Dp h.next k (call g (first++(.Sy h.next::captured)) (h.new (.loop .ready none fn n tm params.toList asg body d)))
      | _=>.fail
    | _=>.fail
   | _=>.fail
  | .inBlock _::k=>.go ⟨⟨fn,n,tm,k,defers,false,Dp⟩,h⟩
  | .inLoop c::k=>.go ⟨⟨fn,n,tm,.code c :: .inLoop c::k,defers,false,Dp⟩,h⟩
  | .beginRound::k=>match Dp with
   | some l=>match h.get l with
    | some (.loop .ready p f j e ps asg body d)=>.go ⟨⟨fn,n,tm,k,defers,false,Dp⟩,h.put l (.loop .busy p f j e ps asg body d)⟩
    | _=>.fail
   | none=>.fail
  | _=>.fail
def Ak7(l:Nat)(args:List EV)(h:Ab):Option Aih:=
 match h.get l with
 | some (.loop _ _ f n tm ps asg body _)=>match Vw ps args n tm with
  | some d=>some ⟨f,n,d,[.code asg,.beginRound,.code body],[],false,some l⟩
  | none=>none
 | _=>none
end
variable {h h' h1 h2:Ab}{v:EV}{tm:Ax}{vs:List EV}{hi lo:Option EV}{o o':Dz}{ws:List (Nat × List EV)}{T:Ih}
section
section Bb
@[simp] theorem Al(x y:α):Bb true x y=x:=rfl
@[simp] theorem Bl(x y:α):Bb false x y=y:=rfl
theorem Bo(b:Bool)(x y:α):Bb b x y=if b=true then x else y:=by cases b<;>rfl
theorem Aq{x:Option α}{r:α}(h:Bb b x none=some r):b=true/\x=some r:=by cases b<;>simp_all [Bo]
theorem Th{x:Option α}{r:α}(h:Bb b none x=some r):b=false/\x=some r:=by cases b<;>simp_all [Bo]
end Bb
theorem Abn {a b:Nat}(h:a<=b):Nat.ble a b=true:=aR h
theorem Ad8 {a b:Nat}(h:¬a<=b):Nat.ble a b=false:=Bool.eq_false_iff.2 fun e=>h (bB e)
theorem beq_false {a b:Nat}(h:a≠b):Nat.beq a b=false:=Bool.eq_false_iff.2 fun e=>h (aJ e)
section tree
theorem Tr.get_nil(i:Nat):(Tr.nil:Tr α).get i=none:=rfl
theorem Tr.Xs(l r:Tr α)(v:Option α)(i:Nat):(Tr.node l v r).get i=if i=0 then v else if i%2=1 then l.get (i/2)else r.get (i/2-1):=by
 have e:(Tr.node l v r).get i=Bb (Nat.beq i 0) v (Bb (Nat.beq (Nat.land i 1) 1) (l.get (Nat.div i 2)) (r.get (Nat.pred (Nat.div i 2)))):=rfl;have e2:Nat.land i 1=i%2:=Nat.and_one_is_mod i;rw[e,Bo,Bo,e2];simp only[Nat.beq_eq];rfl
theorem Tr.set_nil(n i:Nat)(v:Option α):Tr.set (n+1) (.nil:Tr α) i v =
 Bb (Nat.beq i 0) (.node .nil v .nil) (Bb (Nat.beq (Nat.land i 1) 1) (Tr.lf none .nil (Tr.set n .nil (Nat.div i 2) v)) (Tr.rt .nil none (Tr.set n .nil (Nat.pred (Nat.div i 2)) v))):=rfl
theorem Tr.Anx(n i:Nat)(l r:Tr α)(x v:Option α):Tr.set (n+1) (.node l x r) i v =
 Bb (Nat.beq i 0) (.node l v r) (Bb (Nat.beq (Nat.land i 1) 1) (Tr.lf x r (Tr.set n l (Nat.div i 2) v)) (Tr.rt l x (Tr.set n r (Nat.pred (Nat.div i 2)) v))):=rfl
theorem Tr.Bbz(x:Option α)(r a c:Tr α)(b:Option α):Tr.lf x r (.node a b c)=.node (.node a b c) x r:=rfl
theorem Tr.Bco(x:Option α)(l a c:Tr α)(b:Option α):Tr.rt l x (.node a b c)=.node l x (.node a b c):=rfl
theorem Tr.Sa:∀(n:Nat) (t:Tr α) (i:Nat) (v:Option α),i+1<2^n->∃a b c,Tr.set n t i v=.node a b c
 | 0,_,i,_,h=>by simp at h
 | n+1,t,i,v,h=>by
  have e2:Nat.land i 1=i%2:=Nat.and_one_is_mod i;rw[eE]at h;by_cases h0:i=0
  ·subst h0
   cases t with
   | nil=>exact⟨_,_,_,rfl⟩
   | node l x r=>exact⟨_,_,_,rfl⟩
  ·have b0:Nat.beq i 0=false:=by cases hb:Nat.beq i 0 with|false=>rfl|true=>exact absurd (aJ hb) h0
   by_cases h1:i%2=1
   ·have b1:Nat.beq (i%2) 1=true:=by rw[h1];rfl
    cases t with
    | nil=>
     obtain⟨a,b,c,e⟩:=Tr.Sa n (.nil:Tr α) (i/2) v (by omega);exact⟨_,_,_,by rw[Tr.set_nil,b0,Bl,e2,b1,Al];exact congrArg (Tr.lf none .nil) e⟩
    | node l x r=>
     obtain⟨a,b,c,e⟩:=Tr.Sa n l (i/2) v (by omega);exact⟨_,_,_,by rw[Tr.Anx,b0,Bl,e2,b1,Al];exact congrArg (Tr.lf x r) e⟩
   ·have b1:Nat.beq (i%2) 1=false:=by cases hb:Nat.beq (i%2) 1 with|false=>rfl|true=>exact absurd (aJ hb) h1
    cases t with
    | nil=>
     obtain⟨a,b,c,e⟩:=Tr.Sa n (.nil:Tr α) (i/2-1) v (by omega);exact⟨_,_,_,by rw[Tr.set_nil,b0,Bl,e2,b1,Bl];exact congrArg (Tr.rt .nil none) e⟩
    | node l x r=>
     obtain⟨a,b,c,e⟩:=Tr.Sa n r (i/2-1) v (by omega);exact⟨_,_,_,by rw[Tr.Anx,b0,Bl,e2,b1,Bl];exact congrArg (Tr.rt l x) e⟩
theorem Tr.At6:∀(n:Nat) (t:Tr α) (i:Nat) (v:Option α) (j:Nat),i+1<2^n->(Tr.set n t i v).get j=if i=j then v else t.get j
 | 0,_,i,_,_,h=>by simp at h
 | n+1,t,i,v,j,h=>by
  have e2:Nat.land i 1=i%2:=Nat.and_one_is_mod i;rw[eE]at h;by_cases h0:i=0
  ·subst h0
   cases t with
   | nil=>
    rw[Tr.set_nil,show Nat.beq 0 0=true from rfl,Al,Tr.Xs];by_cases hj:j=0
    ·simp[hj]
    ·rw[aK hj,aK (cN hj)];simp only[Tr.get_nil,ite_self]
   | node l x r=>
    rw[Tr.Anx,show Nat.beq 0 0=true from rfl,Al,Tr.Xs,Tr.Xs];by_cases hj:j=0
    ·simp[hj]
    ·rw[aK hj,aK (cN hj),aK hj]
  ·have b0:Nat.beq i 0=false:=by cases hb:Nat.beq i 0 with|false=>rfl|true=>exact absurd (aJ hb) h0
   by_cases h1:i%2=1
   ·have b1:Nat.beq (i%2) 1=true:=by rw[h1];rfl
    have hs:i/2+1<2^n:=by omega
    cases t with
    | nil=>
     obtain⟨a,b,c,e⟩:=Tr.Sa n (.nil:Tr α) (i/2) v hs;have m:=Tr.At6 n (.nil:Tr α) (i/2) v (j/2) hs;rw[e]at m;have e':Tr.set n (.nil:Tr α) (Nat.div i 2) v=.node a b c:=e;rw[Tr.set_nil,b0,Bl,e2,b1,Al,e',Tr.Bbz,Tr.Xs];by_cases hj:j=0
     ·subst hj;simp[h0,Tr.get_nil]
     ·rw[aK hj]
      by_cases d:j%2=1
      ·rw[aN d,m]
       by_cases he:i=j
       ·subst he;simp
       ·rw[aK he,aK (by omega)];rfl
      ·rw[aK d,aK (by rintro rfl;exact d h1)];rfl
    | node l x r=>
     obtain⟨a,b,c,e⟩:=Tr.Sa n l (i/2) v hs;have m:=Tr.At6 n l (i/2) v (j/2) hs;rw[e]at m;have e':Tr.set n l (Nat.div i 2) v=.node a b c:=e;rw[Tr.Anx,b0,Bl,e2,b1,Al,e',Tr.Bbz,Tr.Xs,Tr.Xs l r x j];by_cases hj:j=0
     ·subst hj;simp[h0]
     ·rw[aK hj,aK hj]
      by_cases d:j%2=1
      ·rw[aN d,aN d,m]
       by_cases he:i=j
       ·subst he;simp
       ·rw[aK he,aK (by omega)]
      ·rw[aK d,aK d,aK (by rintro rfl;exact d h1)]
   ·have b1:Nat.beq (i%2) 1=false:=by cases hb:Nat.beq (i%2) 1 with|false=>rfl|true=>exact absurd (aJ hb) h1
    have hs:i/2-1+1<2^n:=by omega
    cases t with
    | nil=>
     obtain⟨a,b,c,e⟩:=Tr.Sa n (.nil:Tr α) (i/2-1) v hs;have m:=Tr.At6 n (.nil:Tr α) (i/2-1) v (j/2-1) hs;rw[e]at m;have e':Tr.set n (.nil:Tr α) (Nat.pred (Nat.div i 2)) v=.node a b c:=e;rw[Tr.set_nil,b0,Bl,e2,b1,Bl,e',Tr.Bco,Tr.Xs];by_cases hj:j=0
     ·subst hj;simp[h0,Tr.get_nil]
     ·rw[aK hj]
      by_cases d:j%2=1
      ·rw[aN d,aK (by rintro rfl;exact h1 d)];rfl
      ·rw[aK d,m]
       by_cases he:i=j
       ·subst he;simp
       ·rw[aK he,aK (by omega)];rfl
    | node l x r=>
     obtain⟨a,b,c,e⟩:=Tr.Sa n r (i/2-1) v hs;have m:=Tr.At6 n r (i/2-1) v (j/2-1) hs;rw[e]at m;have e':Tr.set n r (Nat.pred (Nat.div i 2)) v=.node a b c:=e;rw[Tr.Anx,b0,Bl,e2,b1,Bl,e',Tr.Bco,Tr.Xs,Tr.Xs l r x j];by_cases hj:j=0
     ·subst hj;simp[h0]
     ·rw[aK hj,aK hj]
      by_cases d:j%2=1
      ·rw[aN d,aN d,aK (by rintro rfl;exact h1 d)]
      ·rw[aK d,aK d,m]
       by_cases he:i=j
       ·subst he;simp
       ·rw[aK he,aK (by omega)]
theorem Tr.get_put(t:Tr α)(i:Nat)(v:Option α)(j:Nat):(t.put i v).get j=if i=j then v else t.get j:=
 Tr.At6 _ t i v j Nat.lt_log2_self
theorem Tr.Ae(t:Tr α)(i:Nat)(v:Option α):(t.put i v).get i=v:=by rw[Tr.get_put,aN rfl]
theorem Tr.Af(t:Tr α){j:Nat}(v:Option α)(h:i≠j):(t.put i v).get j=t.get j:=by rw[Tr.get_put,aK h]
end tree
structure Loc where
 b:Nat->Nat
 sp:Nat->Nat
mutual
def Cj(f:Loc):EV->Value
 | .int k n=>.int k n
 | .bool b=>.bool b
 | .str s=>.string s
 | .ptr i off=>.pointer (some ⟨f.b i,off,none⟩)
 | .Cl=>.pointer none
 | .slice i off len room op=>.slice (some ⟨f.b i,off,none⟩) len (if op=true then room+f.sp i else room)
 | .tail i off poff=>.slice (some ⟨f.b i,if f.sp i=0 then poff else off,none⟩) 0 (f.sp i)
 | .Ao=>.slice none 0 0
 | .odd a=>.slice (some a) 0 0
 | .map i=>.map (some (f.b i))
 | .Akk=>.map none
 | .chan i=>.chan (some (f.b i))
 | .Ad3=>.chan none
 | .func g a c=>.func (.func g) (Bn f a).toArray (Bn f c).toArray
 | .Sy l=>.func (.yield (f.b l)) #[] #[]
 | .Ahx=>.nilFunc
 | .Abd=>.nilIface
 | .agg l=>.agg (Bn f l).toArray
 | .tuple l=>.tuple (Bn f l).toArray
def Bn(f:Loc):List EV->List Value
 | []=>[]
 | v::r=>Cj f v::Bn f r
end
theorem Oz(f:Loc):∀l:List EV,Bn f l=l.map (Cj f)
 | []=>rfl
 | v::r=>by rw[Bn,Oz f r];rfl
theorem Cu(f:Loc)(l:List EV):(Bn f l).length=l.length:=by rw[Oz,bU]
theorem Sn(f:Loc)(a b:List EV):Bn f (a++b)=Bn f a++Bn f b:=by simp only[Oz,cB]
def EV.one:EV->Bool
 | .agg _=>false
 | .tuple _=>false
 | _=>true
theorem A5v(f:Loc)(v:EV)(h:v.one=true):(Cj f v).oneCell'=true:=by
 cases v<;>first|rfl|(simp[EV.one]at h)
theorem Ya(f:Loc)(l:List EV)(h:∀v∈l,v.one=true):∀x∈Bn f l,x.oneCell'=true:=by
 intro x d;rw[Oz,cJ]at d;obtain⟨v,e,rfl⟩:=d;exact A5v f v (h v e)
mutual
def EV.ok(p:Nat->Prop):EV->Prop
 | .ptr i _=>p i
 | .slice i _ _ _ _=>p i
 | .tail i _ _=>p i
 | .map i=>p i
 | .chan i=>p i
 | .Sy l=>p l
 | .func _ a c=>EV.Tg p a/\EV.Tg p c
 | .agg l=>EV.Tg p l/\l.all EV.one=true
 | .tuple l=>EV.Tg p l
 | _=>True
def EV.Tg(p:Nat->Prop):List EV->Prop
 | []=>True
 | v::r=>EV.ok p v/\EV.Tg p r
end
theorem H5(p:Nat->Prop):∀l:List EV,EV.Tg p l↔∀v∈l,v.ok p
 | []=>by simp[EV.Tg]
 | v::r=>by rw[EV.Tg,H5 p r];simp
def Loc.agree(p:Nat->Prop)(f g:Loc):Prop:=∀i,p i->f.b i=g.b i/\f.sp i=g.sp i
theorem Loc.Ald(p:Nat->Prop)(f:Loc):Loc.agree p f f:=fun _ _=>⟨rfl,rfl⟩
theorem Loc.agree.trans{f g h:Loc}(a:Loc.agree p f g)(b:Loc.agree p g h):Loc.agree p f h:=fun i hi=>⟨(a i hi).1.trans (b i hi).1,(a i hi).2.trans (b i hi).2⟩
theorem Loc.agree.mono{f g:Loc}(a:Loc.agree p f g)(h:∀i,q i->p i):Loc.agree q f g:=fun i hi=>a i (h i hi)
mutual
theorem Ad6{f g:Loc}(d:Loc.agree p f g):∀v:EV,v.ok p->Cj f v=Cj g v
 | .int _ _,_=>rfl
 | .bool _,_=>rfl
 | .str _,_=>rfl
 | .ptr i off,h=>by simp only[Cj];rw[(d i h).1]
 | .Cl,_=>rfl
 | .slice i off len room op,h=>by simp only[Cj];rw[(d i h).1,(d i h).2]
 | .tail i off poff,h=>by simp only[Cj];rw[(d i h).1,(d i h).2]
 | .Ao,_=>rfl
 | .odd _,_=>rfl
 | .map i,h=>by simp only[Cj];rw[(d i h).1]
 | .Akk,_=>rfl
 | .chan i,h=>by simp only[Cj];rw[(d i h).1]
 | .Ad3,_=>rfl
 | .func a b c,h=>by simp only[Cj];rw[Gb d b h.1,Gb d c h.2]
 | .Sy l,h=>by simp only[Cj];rw[(d l h).1]
 | .Ahx,_=>rfl
 | .Abd,_=>rfl
 | .agg l,h=>by simp only[Cj];rw[Gb d l h.1]
 | .tuple l,h=>by simp only[Cj];rw[Gb d l h]
theorem Gb{f g:Loc}(d:Loc.agree p f g):∀l:List EV,EV.Tg p l->Bn f l=Bn g l
 | [],_=>rfl
 | v::r,h=>by simp only[Bn];rw[Ad6 d v h.1,Gb d r h.2]
end
mutual
theorem EV.ok.mono(d:∀i,p i->q i):∀v:EV,v.ok p->v.ok q
 | .int _ _,_=>trivial
 | .bool _,_=>trivial
 | .str _,_=>trivial
 | .ptr i _,h=>d i h
 | .Cl,_=>trivial
 | .slice i _ _ _ _,h=>d i h
 | .tail i _ _,h=>d i h
 | .Ao,_=>trivial
 | .odd _,_=>trivial
 | .map i,h=>d i h
 | .Akk,_=>trivial
 | .chan i,h=>d i h
 | .Ad3,_=>trivial
 | .func _ b c,h=>⟨EV.Tg.mono d b h.1,EV.Tg.mono d c h.2⟩
 | .Sy l,h=>d l h
 | .Ahx,_=>trivial
 | .Abd,_=>trivial
 | .agg l,h=>⟨EV.Tg.mono d l h.1,h.2⟩
 | .tuple l,h=>EV.Tg.mono d l h
theorem EV.Tg.mono(d:∀i,p i->q i):∀l:List EV,EV.Tg p l->EV.Tg q l
 | [],_=>trivial
 | v::r,h=>⟨EV.ok.mono d v h.1,EV.Tg.mono d r h.2⟩
end
theorem Uk(h:v.ok p)(d:v.plain=true):EV.Tg p v.cells/\∀x∈v.cells,x.one=true:=by
 cases v with
 | tuple l=>simp[EV.plain]at d
 | agg l=>obtain⟨h1,h2⟩:=h;exact⟨h1,by simpa [EV.cells]using h2⟩
 | _=>exact⟨⟨h,trivial⟩,by simp[EV.cells,EV.one]⟩
theorem S9(f:Loc)(v:EV):(Cj f v).cells=(Bn f v.cells).toArray:=by
 cases v<;>rfl
theorem A71(f:Loc){v:Value}{x:EV}(h:Bfm v=some x):Cj f x=v:=by
 unfold Bfm at h;split at h<;>first|(cases h;rfl)|(cases h)
theorem Bbk(p:Nat->Prop){v:Value}{x:EV}(h:Bfm v=some x):x.ok p/\x.one=true:=by
 unfold Bfm at h;split at h<;>first|(cases h;exact⟨trivial,rfl⟩)|(cases h)
theorem A1l(f:Loc):∀{l:List Value} {xs:List EV},Bd8 l=some xs->Bn f xs=l
 | [],_,h=>by cases h;rfl
 | v::r,_,h=>by
  unfold Bd8 at h;split at h
  ·rename_i x d
   split at h
   ·rename_i y e
    cases h;rw[Bn,A71 f d,A1l f e]
   ·cases h
  ·cases h
theorem Bb3(p:Nat->Prop):∀{l:List Value} {xs:List EV},Bd8 l=some xs->EV.Tg p xs/\xs.all EV.one=true
 | [],_,h=>by cases h;exact⟨trivial,rfl⟩
 | v::r,_,h=>by
  unfold Bd8 at h;split at h
  ·rename_i x d
   split at h
   ·rename_i y e
    cases h;have h1:=Bbk p d;have h2:=Bb3 p e;exact⟨⟨h1.1,h2.1⟩,by simp[h1.2];simpa using h2.2⟩
   ·cases h
  ·cases h
theorem Ba7(f:Loc){v:Value}{x:EV}(h:ofV v=some x):Cj f x=v:=by
 unfold ofV at h;split at h
 ·rename_i cs
  split at h
  ·rename_i l d
   cases h;rw[Cj,A1l f d]
  ·cases h
 ·rename_i cs
  split at h
  ·rename_i d
   cases h;rw[Cj,Bn];congr 1;apply dN;simpa using d.symm
  ·cases h
 ·exact A71 f h
theorem A8p(p:Nat->Prop){v:Value}{x:EV}(h:ofV v=some x):x.ok p:=by
 unfold ofV at h;split at h
 ·split at h
  ·rename_i l d
   cases h;exact Bb3 p d
  ·cases h
 ·split at h
  ·cases h;trivial
  ·cases h
 ·exact(Bbk p h).1
noncomputable def Bg(f:Loc)(n:Nat)(tm:Ax):Array Value:=((List.range n).map fun t=>Cj f (tmp tm t)).toArray
structure Lk(p:Nat->Prop)(n:Nat)(tm:Ax):Prop where
 ok:∀t v,tm.get t=some v->v.ok p
 out:∀t,n<=t->tm.get t=none
theorem Lk.tmp(h:Lk p n tm)(t:Nat):(tmp tm t).ok p:=by
 unfold Go.Ev.tmp;split
 ·rename_i v d;exact h.ok t v d
 ·trivial
theorem Lk.mono(h:Lk p n tm)(d:∀i,p i->q i):Lk q n tm:=⟨fun t v e=>EV.ok.mono d v (h.ok t v e),h.out⟩
theorem A7k(f:Loc)(n:Nat)(tm:Ax):(Bg f n tm).size=n:=by simp[Bg]
theorem Aeo(f:Loc)(n:Nat)(tm:Ax)(t:Nat):(Bg f n tm)[t]? = if t<n then some (Cj f (tmp tm t))else none:=by
 unfold Bg;simp only[bQ,av];by_cases h:t<n
 ·simp[h]
 ·simp[h,cA (l:=List.range n) (i:=t) (by simp;omega)]
theorem Abh(f:Loc)(h:Lk p n tm)(t:Nat):(Bg f n tm).getD t undef=Cj f (tmp tm t):=by
 rw[eC,Aeo];by_cases d:t<n
 ·simp[d]
 ·have:tmp tm t=.tuple []:=by unfold tmp;rw[h.out t (by omega)]
  simp[d,this,Cj,Bn,undef]
theorem Bbj(n:Nat)(tm:Ax)(d:Nat)(v:EV)(t:Nat):tmp (Ps n tm (some d) v) t=if d=t/\d<n then v else tmp tm t:=by
 unfold Ps;by_cases hd:d<n
 ·simp only[show Nat.ble (Nat.succ d) n=true from Abn hd,Al]
  unfold tmp;rw[Tr.get_put];by_cases e:d=t
  ·simp[e,e▸hd]
  ·simp[e]
 ·simp only[show Nat.ble (Nat.succ d) n=false from Ad8 hd,Bl]
  rw[aK (by omega)]
theorem Ayk(f:Loc)(n:Nat)(tm:Ax)(d:Nat)(v:EV):(Bg f n tm).setIfInBounds d (Cj f v)=Bg f n (Ps n tm (some d) v):=by
 apply eR;intro t;rw[Aeo,Array.getElem?_setIfInBounds,A7k,Aeo,Bbj];by_cases hd:d=t
 ·subst hd
  by_cases e:d<n<;>simp[e]
 ·simp[hd]
theorem Lk.put(h:Lk p n tm)(d:Option Tmp)(y:v.ok p):Lk p n (Ps n tm d v):=by
 cases d with
 | none=>exact h
 | some d=>
  unfold Ps;by_cases hd:d<n
  ·simp only[show Nat.ble (Nat.succ d) n=true from Abn hd,Al]
   refine⟨fun t x j=>?_,fun t u=>?_⟩
   ·rw[Tr.get_put]at j
    split at j
    ·cases j;exact y
    ·exact h.ok t x j
   ·have m:(d:Nat)≠t:=fun e=>by have h1:(d:Nat)<n:=hd;have h2:n<=t:=u;rw[<-e]at h2;exact absurd h1 (Nat.not_lt.2 h2)
    rw[Tr.Af _ _ m];exact h.out t u
  ·simp only[show Nat.ble (Nat.succ d) n=false from Ad8 hd,Bl]
   exact h
theorem K5{f g:Loc}(d:Loc.agree p f g)(h:Lk p n tm):Bg f n tm=Bg g n tm:=by
 unfold Bg;congr 1;apply cY;intro t _;exact Ad6 d _ (h.tmp t)
structure Reads(f:Loc)(tm:Ax)(ρ:Operand->Value):Prop where
 tmp:∀t,ρ (.tmp t)=Cj f (tmp tm t)
 const:∀v,ρ (.const v)=v
 func:∀g,ρ (.func g)=.func (.func g) #[] #[]
theorem Bj {f:Loc}(d:Reads f tm ρ)(h:Cf tm x=some v):ρ x=Cj f v:=by
 cases x with
 | tmp t=>rw[d.tmp];simp only[Cf]at h;cases h;rfl
 | const c=>rw[d.const];exact(Ba7 f h).symm
 | global g=>cases h
 | func g=>rw[d.func];cases h;rfl
theorem E6(d:Lk p n tm)(h:Cf tm x=some v):v.ok p:=by
 cases x with
 | tmp t=>simp only[Cf]at h;cases h;exact d.tmp t
 | const c=>exact A8p p h
 | global g=>cases h
 | func g=>cases h;exact⟨trivial,trivial⟩
theorem Zu {f:Loc}(d:Reads f tm ρ):∀{xs:List Operand} {l:List EV},Md tm xs=some l->xs.map ρ=Bn f l
 | [],_,h=>by cases h;rfl
 | x::r,_,h=>by
  unfold Md at h;split at h
  ·rename_i a e
   split at h
   ·rename_i b hb
    cases h;rw[dB,Bj d e,Zu d hb,Bn]
   ·cases h
  ·cases h
theorem Ajd(d:Lk p n tm):∀{xs:List Operand} {l:List EV},Md tm xs=some l->EV.Tg p l
 | [],_,h=>by cases h;trivial
 | x::r,_,h=>by
  unfold Md at h;split at h
  ·rename_i a e
   split at h
   ·rename_i b hb
    cases h;exact⟨E6 d e,Ajd d hb⟩
   ·cases h
  ·cases h
theorem Akf {f:Loc}(d:Reads f tm ρ):∀{xs:List (Nat × Operand)} {l:List (Nat × EV)},Y8 tm xs=some l->xs.map (fun(i,x)=>(i,ρ x))=l.map (fun(i,v)=>(i,Cj f v))
 | [],_,h=>by cases h;rfl
 | (i,x)::r,_,h=>by
  unfold Y8 at h;split at h
  ·rename_i a e
   split at h
   ·rename_i b hb
    cases h;rw[dB,dB,Akf d hb];show(i,ρ x)::_=(i,Cj f a)::_;rw[Bj d e]
   ·cases h
  ·cases h
theorem At4(e:Lk p n tm):∀{xs:List (Nat × Operand)} {l:List (Nat × EV)},Y8 tm xs=some l->∀q∈l,q.2.ok p
 | [],_,h=>by cases h;simp
 | (i,x)::r,_,h=>by
  unfold Y8 at h;split at h
  ·rename_i a j
   split at h
   ·rename_i b hb
    cases h;intro q d;rcases bV.1 d with rfl|d
    ·exact E6 e j
    ·exact At4 e hb q d
   ·cases h
  ·cases h
end
variable {f g:Loc}
section
theorem Uf:∀l:List EV,len l=l.length
 | []=>rfl
 | _::r=>by rw[len,Uf r];rfl
theorem Ry:∀(l:List EV) (n:Nat),Yu l n=l.drop n
 | [],n=>by simp[Yu]
 | a::r,0=>rfl
 | a::r,n+1=>by
  have:Yu (a::r) (n+1)=Yu r n:=rfl;rw[this,Ry r n];rfl
theorem Ae1:∀{l:List EV} {n:Nat} {x:List EV},takeN l n=some x->n<=l.length/\x=l.take n
 | [],0,x,h=>by cases h;exact⟨aC _,rfl⟩
 | [],n+1,x,h=>by cases h
 | a::r,0,x,h=>by cases h;exact⟨cU _,rfl⟩
 | a::r,n+1,x,h=>by
  have e:takeN (a::r) (n+1)=match takeN r n with|some x=>some (a::x)|none=>none:=rfl
  rw[e]at h;split at h
  ·rename_i y d
   cases h;obtain⟨h1,rfl⟩:=Ae1 d;exact⟨by simp;omega,rfl⟩
  ·cases h
theorem Akp:∀{l vs x:List EV},Jt l vs=some x->vs.length<=l.length/\x=vs++l.drop vs.length
 | l,[],x,h=>by
  have:Jt l []=some l:=by cases l<;>rfl
  rw[this]at h;cases h;exact⟨cU _,rfl⟩
 | [],v::vs,x,h=>by cases h
 | a::r,v::vs,x,h=>by
  have e:Jt (a::r) (v::vs)=match Jt r vs with|some x=>some (v::x)|none=>none:=rfl
  rw[e]at h;split at h
  ·rename_i y d
   cases h;obtain⟨h1,rfl⟩:=Akp d;exact⟨by simp;omega,rfl⟩
  ·cases h
theorem Xi:∀{l:List EV} {off:Nat} {vs x:List EV},F6 l off vs=some x->off+vs.length<=l.length/\x=l.take off++vs++l.drop (off+vs.length)
 | [],0,vs,x,h=>by
  have e:F6 [] 0 vs=Jt [] vs:=rfl;rw[e]at h;obtain⟨h1,rfl⟩:=Akp h;exact⟨by omega,by simp⟩
 | [],off+1,vs,x,h=>by cases h
 | a::r,0,vs,x,h=>by
  have e:F6 (a::r) 0 vs=Jt (a::r) vs:=rfl;rw[e]at h;obtain⟨h1,rfl⟩:=Akp h;exact⟨by omega,by simp⟩
 | a::r,off+1,vs,x,h=>by
  have e:F6 (a::r) (off+1) vs=match F6 r off vs with|some x=>some (a::x)|none=>none:=rfl
  rw[e]at h;split at h
  ·rename_i y d
   cases h;obtain⟨h1,rfl⟩:=Xi d;refine⟨by simp;omega,?_⟩;rw[show off+1+vs.length=(off+vs.length)+1 from by omega];simp
  ·cases h
theorem Asg {l:List EV}{x:List EV}(h:F6 l off vs=some x)(d:v∈x):v∈l\/v∈vs:=by
 obtain⟨h1,rfl⟩:=Xi h;simp only[bL]at d;rcases d with(d|d)|d
 ·exact .inl (bO d)
 ·exact .inr d
 ·exact .inl (aM d)
theorem A2c:∀(l:List Field) (i:Nat),A2q l i=l[i]?
 | [],i=>by simp[A2q]
 | a::r,0=>rfl
 | a::r,i+1=>by
  have:A2q (a::r) (i+1)=A2q r i:=rfl;rw[this,A2c r i];simp
theorem Axj:∀(l:List Oper) (i:Nat),Aw5 l i=l[i]?
 | [],i=>by simp[Aw5]
 | a::r,0=>rfl
 | a::r,i+1=>by
  have:Aw5 (a::r) (i+1)=Aw5 r i:=rfl;rw[this,Axj r i];simp
theorem Akw(l:List EV):∀n,(rep l n).length=n*l.length
 | 0=>by simp[rep]
 | n+1=>by rw[rep,aF,Akw l n,fD];omega
theorem Asy {l:List EV}:∀{n:Nat},v∈rep l n->v∈l
 | 0,h=>by simp[rep]at h
 | n+1,h=>by
  rw[rep,bL]at h;rcases h with h|h
  ·exact h
  ·exact Asy h
theorem Bbc(l:List EV):∀(n i:Nat),i<n*l.length->(rep l n)[i]? = l[i%l.length]?
 | 0,i,h=>by simp at h
 | n+1,i,h=>by
  rw[rep];by_cases hi:i<l.length
  ·rw[bh hi,ek hi]
  ·rw[bY (by omega),Bbc l n (i-l.length) (by rw[fD]at h;omega)]
   rw[<-Nat.mod_eq_sub_mod (by omega)]
theorem Ans(h:Nat.beq (Qb k) (Qb k')=true):k=k':=by
 cases k<;>cases k'<;>first|rfl|(cases h)
theorem A2k(k:IntKind)(hs:k.signed=false)(n:Int)(h0:0<=n)(h1:n<2^k.bits):k.wrap n=n:=by
 unfold IntKind.wrap;simp only[hs,aX,aU,aY];exact Int.emod_eq_of_lt h0 h1
theorem Aij(k:IntKind)(hs:k.signed=true)(n M:Int)(j:(2:Int)^k.bits=2*M)(d:(2:Int)^(k.bits-1)=M)(h0 : -M<=n)(h1:n<M):k.wrap n=n:=by
 unfold IntKind.wrap;simp only[hs,aZ,bE,j,d,ge_iff_le];by_cases m:0<=n
 ·rw[Int.emod_eq_of_lt m (by omega),aK (by omega)]
 ·have e:n%(2*M)=n+2*M:=by
   rw[<-Int.add_emod_right];exact Int.emod_eq_of_lt (by omega) (by omega)
  rw[e,aN (by omega)];omega
theorem Ly(k:IntKind)(n:Int):Cx k n=k.wrap n:=by
 cases n with
 | ofNat m=>
  show Bb (Nat.ble (Nat.succ m) (lid k)) (Int.ofNat m) (k.wrap (Int.ofNat m))=_;rw[Bo];split
  ·rename_i h
   have h:=bB h;symm;cases k<;>simp only[lid]at h
   case u8=>exact A2k _ rfl _ (by simp) (by simp only[IntKind.bits,aW];omega)
   case u16=>exact A2k _ rfl _ (by simp) (by simp only[IntKind.bits,aW];omega)
   case u32=>exact A2k _ rfl _ (by simp) (by simp only[IntKind.bits,aW];omega)
   case u64=>exact A2k _ rfl _ (by simp) (by simp only[IntKind.bits,aW];omega)
   case i8=>exact Aij _ rfl _ 128 rfl rfl (by simp only[aW];omega) (by simp only[aW];omega)
   case i16=>exact Aij _ rfl _ 32768 rfl rfl (by simp only[aW];omega) (by simp only[aW];omega)
   case i32=>exact Aij _ rfl _ 2147483648 rfl rfl (by simp only[aW];omega) (by simp only[aW];omega)
   case i64=>exact Aij _ rfl _ 9223372036854775808 rfl rfl (by simp only[aW];omega) (by simp only[aW];omega)
  ·rfl
 | negSucc m=>
  show Bb (Nat.ble (Nat.succ m) (floor k)) (Int.negSucc m) (k.wrap (Int.negSucc m))=_;rw[Bo];split
  ·rename_i h
   have h:=bB h;symm;cases k<;>simp only[floor]at h
   case i8=>exact Aij _ rfl _ 128 rfl rfl (by rw[cp];omega) (by rw[cp];omega)
   case i16=>exact Aij _ rfl _ 32768 rfl rfl (by rw[cp];omega) (by rw[cp];omega)
   case i32=>exact Aij _ rfl _ 2147483648 rfl rfl (by rw[cp];omega) (by rw[cp];omega)
   case i64=>exact Aij _ rfl _ 9223372036854775808 rfl rfl (by rw[cp];omega) (by rw[cp];omega)
   all_goals exact absurd h (by omega)
  ·rfl
theorem Avd(a b:Int):ltB a b=decide (a<b):=by
 cases a<;>cases b<;>simp only[ltB]<;>(first
  | (rw[eU];simp only[cu,bE];simp only[aW,cp];omega)
  | (simp only[aW,cp];symm;first|(rw[cS];omega)|(rw[bE];omega)))
theorem Aip(a b:Int):eqB a b=decide (a=b):=by
 cases a<;>cases b<;>simp only[eqB]<;>(first
  | (rw[eU];simp only[Nat.beq_eq,bE];simp only[aW,cp];omega)
  | (simp only[aW,cp];symm;rw[cS];omega))
theorem Ay3(k:IntKind)(x:Nat):k.wrap ((x%2^k.bits:Nat):Int)=k.wrap (x:Int):=by
 unfold IntKind.wrap;have:((x%2^k.bits:Nat):Int)%(2^k.bits:Int)=(x:Int)%(2^k.bits:Int):=by
  rw[Int.natCast_emod];simp
 simp only[this]
theorem Bgw(k:IntKind)(a b:Nat):k.wrap (((BitVec.ofInt k.bits (Int.ofNat a)&&& BitVec.ofInt k.bits (Int.ofNat b)).toNat:Nat):Int)=k.wrap (Int.ofNat (Nat.land a b)):=by
 have:(BitVec.ofInt k.bits (Int.ofNat a)&&& BitVec.ofInt k.bits (Int.ofNat b)).toNat=(a&&& b)%2^k.bits:=by
  simp only[aW,BitVec.ofInt_natCast,BitVec.toNat_and,BitVec.toNat_ofNat];rw[Nat.and_mod_two_pow]
 rw[this,Ay3];rfl
theorem Bms(k:IntKind)(a b:Nat):k.wrap (((BitVec.ofInt k.bits (Int.ofNat a)||| BitVec.ofInt k.bits (Int.ofNat b)).toNat:Nat):Int)=k.wrap (Int.ofNat (Nat.lor a b)):=by
 have:(BitVec.ofInt k.bits (Int.ofNat a)||| BitVec.ofInt k.bits (Int.ofNat b)).toNat=(a||| b)%2^k.bits:=by
  simp only[aW,BitVec.ofInt_natCast,BitVec.toNat_or,BitVec.toNat_ofNat];rw[Nat.or_mod_two_pow]
 rw[this,Ay3];rfl
theorem Bge(k:IntKind)(a b:Nat):k.wrap (((BitVec.ofInt k.bits (Int.ofNat a) ^^^ BitVec.ofInt k.bits (Int.ofNat b)).toNat:Nat):Int)=k.wrap (Int.ofNat (Nat.xor a b)):=by
 have:(BitVec.ofInt k.bits (Int.ofNat a) ^^^ BitVec.ofInt k.bits (Int.ofNat b)).toNat=(a ^^^ b)%2^k.bits:=by
  simp only[aW,BitVec.ofInt_natCast,BitVec.toNat_xor,BitVec.toNat_ofNat];rw[Nat.xor_mod_two_pow]
 rw[this,Ay3];rfl
section
variable(f:Loc)(w:World)
theorem Bj7{a b:Int}(t:TypeId)(hs:Axp op=false)(h:Bfl op k a b=some v):
 (binOp op t (.int k a) (.int k b)).run P w=.ok (Cj f v) w:=by
 cases op<;>simp only[Bfl]at h
 case add=>cases h;simp[binOp,Op.intArith,Cj,Ly];try rfl
 case sub=>cases h;simp[binOp,Op.intArith,Cj,Ly];try rfl
 case mul=>cases h;simp[binOp,Op.intArith,Cj,Ly];try rfl
 case quo=>
  obtain⟨h1,h2⟩:=Th h;cases h2;rw[Aip,cS]at h1;simp[binOp,Op.intDiv,Cj,Ly,h1]
 case rem=>
  obtain⟨h1,h2⟩:=Th h;cases h2;rw[Aip,cS]at h1;simp[binOp,Op.intDiv,Cj,h1]
 case and=>
  split at h
  ·cases h;simp only[binOp,ne_eq,aD,aY,Op.intBits,aS,Bgw,Cj,Ly]
  ·cases h
 case or=>
  split at h
  ·cases h;simp only[binOp,ne_eq,aD,aY,Op.intBits,aS,Bms,Cj,Ly]
  ·cases h
 case xor=>
  split at h
  ·cases h;simp only[binOp,ne_eq,aD,aY,Op.intBits,aS,Bge,Cj,Ly]
  ·cases h
 case lss=>cases h;simp only[binOp,ne_eq,aD,aY,Op.intCmp,aS,Cj,Avd]
 case gtr=>cases h;simp only[binOp,ne_eq,aD,aY,Op.intCmp,aS,Cj,Avd,gt_iff_lt]
 case eql=>
  cases h;simp only[binOp,ne_eq,aD,aY,Op.intCmp,aS,Cj,Aip];congr 2
 case neq=>
  cases h;simp only[binOp,ne_eq,aD,aY,Op.intCmp,aS,Cj,Aip,Bo];congr 2;by_cases e:a=b<;>simp[e]
 case leq=>
  cases h;simp only[binOp,ne_eq,aD,aY,Op.intCmp,aS,Cj,Avd,Bo];congr 2;by_cases e:b<a
  ·simp[e]
  ·simp[e,Int.not_lt.1 e]
 case geq=>
  cases h;simp only[binOp,ne_eq,aD,aY,Op.intCmp,aS,Cj,Avd,Bo];congr 2;by_cases e:a<b
  ·simp[e]
  ·simp[e,Int.not_lt.1 e]
 all_goals first|(cases h;done)|(simp[Axp]at hs;done)
theorem Bd5{a:Int}{b:Nat}(t:TypeId)(h:A24 op k a b=some v):
 (binOp op t (.int k a) (.int k' (.ofNat b))).run P w=.ok (Cj f v) w:=by
 have hm:Bb (Nat.ble b k.bits) b k.bits=min b k.bits:=by
  rw[Bo];simp only[cu];split<;>omega
 have hb:¬(Int.ofNat b<0):=by simp
 cases op<;>simp only[A24]at h
 case shl=>
  cases h;simp only[binOp,Op.shift,hb,aY,aS,Cj,Ly,hm];congr 3
 case shr=>
  split at h
  ·cases h
   simp only[binOp,Op.shift,hb,aY,aS,Cj,hm];congr 2;simp only[aW,bK];have e:Nat.shiftRight=fun(a b:Nat)=>a >>> b:=rfl
   simp only[e];rw[eZ,eW _ (by exact_mod_cast cU _)];simp
  ·cases h
   simp only[binOp,Op.shift,hb,aY,aS,Cj,hm];congr 2
 all_goals (cases h;done)
end
end
section
def Avk:TypeDesc->Bool
 | .struct _=>true
 | .array _ _=>true
 | _=>false
structure O6(P:Program)(T:Ih):Prop where
 mixed:P.follows .mixedOrders=true
 fn:∀g fn,T.fn g=some fn->P.funcs[g]? = some fn/\(fn.name == "runtime.NumGoroutine")=false
 Tv:∀t d,T.Tv t=some d->P.underlying t=some d
 size:∀t n,T.size t=some n->∃i,P.info? t=some i/\i.size=n/\i.bytes<=1048576
 zero:∀t z,T.zero t=some z->∃i v x,P.info? t=some i/\i.zero=some v/\ofV v=some x/\x.plain=true/\z=x.cells/\i.size=z.length/\i.bytes<=1048576 /\
  (T.agg t=some true->x=.agg z)/\(T.agg t=some false->z = [x])
 agg:∀t b,T.agg t=some b->∃d,P.underlying t=some d/\Avk d=b
 eqs:∀t sh,T.eqs t=some sh->P.eqGuardType P.depth t=false/\∀(f:Loc) (w:World) (a b:List EV) (r:Bool),Fv a b=some r->shaped sh a=true ->
  (Op.equal t (.agg (Bn f a).toArray) (.agg (Bn f b).toArray)).run P w=.ok r w
 key:∀t,T.key t=true->(∃d,P.underlying t=some d/\Avk d=true)/\∀(f:Loc) (w:World) (e:Bool) (a:List EV) (sh:List Nat),T.eqs t=some sh->shaped sh a=true ->
  (Instr.checkKey e 10000 t (.agg (Bn f a).toArray)).run P w=.ok () w
section
variable(hT:O6 P T)(w:World)
include hT
theorem Dy{d:TypeDesc}(h:T.Tv t=some d):(underlying t).run P w=.ok d w:=by
 simp[underlying,hT.Tv t d h]
theorem G4(h:T.size t=some n):(sizeOf t).run P w=.ok n w:=by
 obtain⟨i,h1,h2,_⟩:=hT.size t n h;simp[sizeOf,typeInfo,h1,h2]
theorem Apl(h:T.agg t=some b):(isAgg t).run P w=.ok b w:=by
 obtain⟨d,h1,h2⟩:=hT.agg t b h;subst h2;cases d<;>simp[isAgg,underlying,h1,Avk]
theorem A5m(f:Loc){cs:List EV}(h:part T t cs off=some v):(Go.part t (Bn f cs).toArray off).run P w=.ok (Cj f v) w:=by
 unfold part at h;split at h
 ·rename_i e
  split at h
  ·rename_i n m
   split at h
   ·rename_i l d
    cases h;obtain⟨h1,rfl⟩:=Ae1 d;rw[Ry]at h1⊢;simp only[Go.part,Sem.run_bind,Apl hT w e,aI,bG,G4 hT w m,aS,Cj];congr 2;apply dN;simp[Oz,List.extract_eq_take_drop]
   ·cases h
  ·cases h
 ·rename_i e
  split at h
  ·rename_i x r d
   cases h;rw[Ry]at d;have:(Bn f cs).toArray[off]? = some (Cj f v):=by
    have h1:cs[off]? = some v:=by
     have:=cX (xs:=cs) (i:=off) (j:=0);rw[d]at this;simpa using this.symm
    simp[Oz,h1]
   simp only[Go.part,Sem.run_bind,Apl hT w e,aI,aU,aY,this,aS]
  ·cases h
 ·cases h
end
theorem Uq(b o n:Nat):(⟨b,o,none⟩:Addr).add n=⟨b,o+n,none⟩:=by
 unfold Addr.add;split
 ·rename_i h;subst h;rfl
 ·rfl
theorem A90(cells vs:List Value)(off:Nat)(h:off+vs.length<=cells.length):
 vs.toArray.zipIdx.foldl (fun cs (x:Value × Nat)=>cs.setIfInBounds (off+x.2) x.1) cells.toArray=(cells.take off++vs++cells.drop (off+vs.length)).toArray:=by
 obtain⟨h1,h2⟩:=Great.foldl_set off vs 0 cells.toArray;have e:vs.toArray.zipIdx.foldl (fun cs (x:Value × Nat)=>cs.setIfInBounds (off+x.2) x.1) cells.toArray=(vs.zipIdx 0).foldl (fun cs (x:Value × Nat)=>cs.setIfInBounds (off+x.2) x.1) cells.toArray:=by
  simp
 rw[e];apply eR;intro k;rw[h2 k];simp only[dC,cV,bQ];by_cases c1:k<off
 ·rw[aK (by omega),br,bh (by simp;omega),List.getElem?_take_of_lt c1]
 ·by_cases c2:k<off+vs.length
  ·rw[aN (by omega),bh (by simp;omega),bY (by simp;omega)]
   congr 1;simp;omega
  ·rw[aK (by omega),bY (by simp;omega),cX]
   congr 1;simp;omega
theorem Anh(f:Loc)(l vs:List EV)(off:Nat):Bn f (l.take off++vs++l.drop (off+vs.length))=(Bn f l).take off++Bn f vs++(Bn f l).drop (off+(Bn f vs).length):=by
 simp[Oz,List.map_take,List.map_drop]
theorem Auj(f:Loc)(place:Nat->Option (Nat × Nat))(d:Nat->Option (Nat × Nat))(u:∀i q,place i=some q->d i=some q):
 ∀{cells:List EV} {l:List (Nat × EV)} {c:List EV},fill place cells l=some c->Instr.fill d (Bn f cells).toArray (l.map fun(i,v)=>(i,Cj f v))=some (Bn f c).toArray
 | cells,[],c,h=>by cases h;rfl
 | cells,(i,v)::r,c,h=>by
  unfold fill at h;split at h
  ·cases h
  ·rename_i off size y
   obtain⟨_,h⟩:=Aq h;obtain⟨h1,h2⟩:=Aq h;split at h2
   ·rename_i x A
    rw[Uf]at h1;have m:v.cells.length=size:=aJ h1;obtain⟨C,h4⟩:=Xi A;simp only[dB,Instr.fill,u i _ y];have B:(Cj f v).cells=(Bn f v.cells).toArray:=S9 f v;rw[B];simp only[cV,Cu];rw[aK (by simp[m];omega)];have e:=A90 (Bn f cells) (Bn f v.cells) off (by simp only[Cu];omega);have e2:(fun(cs:Array Value) (x:Value × Nat)=>match x with|(c,j)=>cs.setIfInBounds (off+j) c)=fun cs x=>cs.setIfInBounds (off+x.2) x.1:=rfl
    rw[e2,e,<-Anh,<-h4];exact Auj f place d u h2
   ·cases h2
theorem Ang(place:Nat->Option (Nat × Nat)){q:EV->Prop}:∀{cells:List EV} {l:List (Nat × EV)} {c:List EV},fill place cells l=some c->(∀v∈cells,q v)->(∀x∈l,∀v∈x.2.cells,q v)->∀v∈c,q v
 | cells,[],c,h,d,_=>by cases h;exact d
 | cells,(i,v)::r,c,h,d,e=>by
  unfold fill at h;split at h
  ·cases h
  ·obtain⟨_,h⟩:=Aq h
   obtain⟨h1,h2⟩:=Aq h;split at h2
   ·rename_i x j
    refine Ang place h2 (fun u hu=>?_) (fun y m=>e y (by simp[m]));rcases Asg j hu with hu|hu
    ·exact d u hu
    ·exact e (i,v) (by simp) u hu
   ·cases h2
theorem Aki(place:Nat->Option (Nat × Nat)):∀{cells:List EV} {l:List (Nat × EV)} {c:List EV},fill place cells l=some c->∀q∈l,q.2.plain=true
 | cells,[],c,h=>by simp
 | cells,(i,v)::r,c,h=>by
  unfold fill at h;split at h
  ·cases h
  ·obtain⟨h0,h⟩:=Aq h
   obtain⟨h1,h2⟩:=Aq h;split at h2
   ·intro q d
    rcases bV.1 d with rfl|d
    ·exact h0
    ·exact Aki place h2 q d
   ·cases h2
theorem Apm:∀(a b:List UInt8),Be0 a b=decide (a=b)
 | [],[]=>rfl
 | a::r,b::s=>by
  simp only[Be0];rw[Bo,Apm r s];by_cases h:a=b
  ·subst h
   rw[aN (by simp)];simp
  ·rw[aK]
   ·simp[h]
   ·intro e;exact h (UInt8.toNat_inj.1 (aJ e))
 | [],_::_=>rfl
 | _::_,[]=>rfl
theorem Axr(a b:ByteArray):Be0 a.data.toList b.data.toList=(a == b):=by
 obtain⟨⟨x⟩⟩:=a;obtain⟨⟨y⟩⟩:=b;show Be0 x y=((⟨x⟩:Array UInt8) == ⟨y⟩);rw[Apm];simp only[List.beq_toArray];by_cases h:x=y
 ·subst h;simp
 ·have:(x == y)=false:=by simpa using h
  rw[this];simp[h]
theorem Bfk {a b:ByteArray}(h:(a == b)=true):a=b:=by
 rw[<-Axr,Apm]at h;have:=cP h;cases a;cases b;simp only[ByteArray.mk.injEq];apply dN;exact this
section
variable(hT:O6 P T)(f:Loc)(w:World)
theorem Jr(op:BinOp)(t:TypeId)(x y:Operand)(a b:Value)(h1:∀c d,¬(a=.agg c/\b=.agg d))(h2:¬(a=.nilIface/\b=.nilIface)):(eqGuard op t x y a b).run P w=.ok () w:=by
 unfold eqGuard;cases op<;>simp<;>(split<;>first|rfl|(rename_i e1 e2;exact absurd ⟨rfl,rfl⟩ h2)|(rename_i c d;exact absurd ⟨rfl,rfl⟩ (h1 c d))|simp_all)
theorem A72(op:BinOp)(t:TypeId)(x y:Operand)(c d:Array Value)(h:P.eqGuardType P.depth t=false):(eqGuard op t x y (.agg c) (.agg d)).run P w=.ok () w:=by
 unfold eqGuard;cases op<;>simp[h]
theorem A2a(d:Nat)(t:TypeId)(a b:Bool)(hu:P.underlying t=some .bool):(Op.equalIn (d+1) t (.bool a) (.bool b)).run P w=.ok (a == b) w:=by
 simp[Op.equalIn,underlying,hu]
theorem Bh3(d:Nat)(t:TypeId)(a b:ByteArray)(hu:P.underlying t=some .string):(Op.equalIn (d+1) t (.string a) (.string b)).run P w=.ok (a == b) w:=by
 simp[Op.equalIn,underlying,hu]
theorem A6a(d:Nat)(t:TypeId)(e:TypeId)(b:Option Addr)(hu:P.underlying t=some (.pointer e)):(Op.equalIn (d+1) t (.pointer none) (.pointer b)).run P w=.ok b.isNone w:=by
 simp[Op.equalIn,underlying,hu]
theorem Bhe(d:Nat)(t:TypeId)(e:TypeId)(b:Addr)(hu:P.underlying t=some (.pointer e)):(Op.equalIn (d+1) t (.pointer (some b)) (.pointer none)).run P w=.ok false w:=by
 simp[Op.equalIn,underlying,hu]
theorem Bd2(d:Nat)(t:TypeId)(e:TypeId)(n:Nat)(b:Addr)(hu:P.underlying t=some (.pointer e))(hs:(sizeOf e).run P w=.ok n w):(Op.equalIn (d+1) t (.pointer (some b)) (.pointer (some b))).run P w=.ok true w:=by
 simp only[Op.equalIn,underlying,hu,Sem.run_bind,hs];simp only[Sem.run_bind,hs,aI,samePointer,sameAddr];simp[hu,hs,aI]
theorem Bei(d:Nat)(t:TypeId)(e:TypeId)(b:Option Addr)(n m:Nat)(hu:P.underlying t=some (.slice e)):(Op.equalIn (d+1) t (.slice none 0 0) (.slice b n m)).run P w=.ok b.isNone w:=by
 simp[Op.equalIn,underlying,hu]
theorem Ayz(d:Nat)(t:TypeId)(e:TypeId)(b:Addr)(n m:Nat)(hu:P.underlying t=some (.slice e)):(Op.equalIn (d+1) t (.slice (some b) n m) (.slice none 0 0)).run P w=.ok false w:=by
 simp[Op.equalIn,underlying,hu]
include hT
theorem A47{a b:EV}{r:Bool}(h:Ave T t a b=some r):(Op.equal t (Cj f a) (Cj f b)).run P w=.ok r w /\
 (∀op x y,(eqGuard op t x y (Cj f a) (Cj f b)).run P w=.ok () w) /\
 binOp .eql t (Cj f a) (Cj f b)=(do pure (.bool (←Op.equal t (Cj f a) (Cj f b))))/\binOp .neq t (Cj f a) (Cj f b)=(do pure (.bool (!(←Op.equal t (Cj f a) (Cj f b))))):=by
 unfold Ave at h;split at h
 ·rename_i l l'
  split at h
  ·rename_i sh j
   obtain⟨m,h4⟩:=Aq h;obtain⟨e1,e2⟩:=hT.eqs t sh j;exact⟨e2 f w l l' r h4 m,fun op x y=>A72 w op t x y _ _ e1,rfl,rfl⟩
  ·cases h
 ·rename_i p q
  split at h
  ·rename_i hu
   cases h;refine⟨?_,fun op x y=>Jr w op t x y _ _ (by intro c d e;cases e.1) (by intro e;cases e.1),rfl,rfl⟩;refine(A2a w 9999 t p q (hT.Tv _ _ hu)).trans ?_;cases p<;>cases q<;>rfl
  ·cases h
 ·split at h
  ·rename_i hu
   cases h;exact⟨A6a w 9999 t _ none (hT.Tv _ _ hu),fun op x y=>Jr w op t x y _ _ (by intro c d e;cases e.1) (by intro e;cases e.1),rfl,rfl⟩
  ·cases h
 ·split at h
  ·rename_i hu
   cases h;exact⟨A6a w 9999 t _ (some _) (hT.Tv _ _ hu),fun op x y=>Jr w op t x y _ _ (by intro c d e;cases e.1) (by intro e;cases e.1),rfl,rfl⟩
  ·cases h
 ·split at h
  ·rename_i hu
   cases h;exact⟨Bhe w 9999 t _ _ (hT.Tv _ _ hu),fun op x y=>Jr w op t x y _ _ (by intro c d e;cases e.1) (by intro e;cases e.1),rfl,rfl⟩
  ·cases h
 ·split at h
  ·rename_i hu
   split at h
   ·rename_i n u
    obtain⟨h1,h2⟩:=Aq h;obtain⟨m,h4⟩:=Aq h2;cases h4;rw[aJ h1,aJ m];exact⟨Bd2 w 9999 t _ n _ (hT.Tv _ _ hu) (G4 hT w u),fun op x y=>Jr w op t x y _ _ (by intro c d e;cases e.1) (by intro e;cases e.1),rfl,rfl⟩
   ·cases h
  ·cases h
 ·split at h
  ·rename_i hu
   cases h;exact⟨Bei w 9999 t _ none 0 0 (hT.Tv _ _ hu),fun op x y=>Jr w op t x y _ _ (by intro c d e;cases e.1) (by intro e;cases e.1),rfl,rfl⟩
  ·cases h
 ·split at h
  ·rename_i hu
   cases h;exact⟨Ayz w 9999 t _ _ _ _ (hT.Tv _ _ hu),fun op x y=>Jr w op t x y _ _ (by intro c d e;cases e.1) (by intro e;cases e.1),rfl,rfl⟩
  ·cases h
 ·split at h
  ·rename_i hu
   cases h;exact⟨Ayz w 9999 t _ _ _ _ (hT.Tv _ _ hu),fun op x y=>Jr w op t x y _ _ (by intro c d e;cases e.1) (by intro e;cases e.1),rfl,rfl⟩
  ·cases h
 ·cases h
end
end
section
section
variable(hT:O6 P T)(f:Loc)(w:World)
include hT
theorem Bkm{a b:EV}(h:bin T op t a b=some v)(x y:Operand):
 (eqGuard op t x y (Cj f a) (Cj f b)).run P w=.ok () w/\(binOp op t (Cj f a) (Cj f b)).run P w=.ok (Cj f v) w:=by
 unfold bin at h;split at h
 ·rename_i k a k' b
  refine⟨Jr w op t x y _ _ (by intro c d e;cases e.1) (by intro e;cases e.1),?_⟩;rw[Bo]at h;split at h
  ·split at h
   ·exact Bd5 f w t h
   ·cases h
  ·rename_i hs
   obtain⟨h1,h2⟩:=Aq h;obtain rfl:=Ans h1;exact Bj7 f w t (by simpa using hs) h2
 ·rename_i u
  split at h
  ·split at h
   ·rename_i r j
    cases h;obtain⟨h1,h2,m,_⟩:=A47 hT f w j;refine⟨h2 _ x y,?_⟩;rw[m];simp[h1,Cj]
   ·cases h
  ·split at h
   ·rename_i r j
    cases h;obtain⟨h1,h2,_,m⟩:=A47 hT f w j;refine⟨h2 _ x y,?_⟩;rw[m];simp[h1,Cj,Bo]
   ·cases h
  ·cases h
theorem Aji {x:Option EV}{hi:Nat}(h:bound x hi dflt=some n)(code:BoundsCode):
 (∀u,x=some u->(Instr.sliceBound (Cj f u) hi code).run P w=.ok n w)/\(x=none->n=dflt):=by
 cases x with
 | none=>cases h;exact⟨fun u hu=>(by cases hu),fun _=>rfl⟩
 | some u=>
  refine⟨fun e hu=>?_,fun hu=>(by cases hu)⟩;cases hu;unfold bound at h;split at h
  ·rename_i d;cases d
  ·rename_i k m d
   cases d;obtain⟨h1,h2⟩:=Aq h;cases h2;simp only[cu]at h1;simp only[Instr.sliceBound,Cj,asIntOf,Sem.run_bind,aS,aI];rw[aN (by simp;omega)];simp
  ·cases h
theorem Aru{len cap h l:Nat}(d:Bool)(h1:bound hi cap len=some h)(h2:bound lo h 0=some l):
 (Instr.sliceBounds d len cap (lo.map (Cj f)) (hi.map (Cj f)) none).run P w=.ok (l,h,cap) w:=by
 obtain⟨e,m⟩:=Aji hT f w h1 (if d=true then .sliceAcap else .sliceAlen);obtain⟨b1,b2⟩:=Aji hT f w h2 .sliceB;unfold Instr.sliceBounds;cases hi with
 | none=>
  obtain rfl:=m rfl;cases lo with
  | none=>obtain rfl:=b2 rfl;simp
  | some u=>simp[b1 u rfl]
 | some j=>
  cases lo with
  | none=>obtain rfl:=b2 rfl;simp[e j rfl]
  | some u=>simp[e j rfl,b1 u rfl]
theorem A6q {j:Option EV}{len cap room m h l:Nat}(e:Bool){y d:EV}(hm:j=some y)(C:hi=some d)(G:room<=cap)(h0:bound j room 0=some m)(h1:bound hi m 0=some h)(h2:bound lo h 0=some l):
 (Instr.sliceBounds e len cap (lo.map (Cj f)) (hi.map (Cj f)) (j.map (Cj f))).run P w=.ok (l,h,m) w:=by
 have A:bound j cap 0=some m:=by
  subst hm;unfold bound at h0⊢;split at h0
  ·rename_i D;cases D
  ·obtain⟨E,F⟩:=Aq h0
   cases F;simp only[cu]at E;rw[Bo,aN (by simp only[cu];omega)]
  ·cases h0
 obtain⟨c1,_⟩:=Aji hT f w A (if e=true then .slice3Acap else .slice3Alen);obtain⟨B,_⟩:=Aji hT f w h1 .slice3B;obtain⟨b1,b2⟩:=Aji hT f w h2 .slice3C;subst hm C;unfold Instr.sliceBounds;cases lo with
 | none=>obtain rfl:=b2 rfl;simp[c1 y rfl,B d rfl]
 | some u=>simp[c1 y rfl,B d rfl,b1 u rfl]
omit hT in
theorem A7t {x:Option EV}{hi:Nat}(hd:dflt<=hi)(h:bound x hi dflt=some n):n<=hi:=by
 unfold bound at h;split at h
 ·cases h;exact hd
 ·obtain⟨h1,h2⟩:=Aq h
  cases h2;simpa only[cu]using h1
 ·cases h
theorem Bb2 {len room:Nat}{op:Bool}{size:Nat}{F:Option EV}(h:slc (.slice i off len room op) size lo hi F=some v)(d:Bool):
 ∃l j m,(Instr.sliceBounds d len (if op=true then room+f.sp i else room) (lo.map (Cj f)) (hi.map (Cj f)) (F.map (Cj f))).run P w=.ok (l,j,m) w /\
  Cj f v=.slice (some (if m=l then(⟨f.b i,off,none⟩:Addr)else(⟨f.b i,off,none⟩:Addr).add (l*size))) (j-l) (m-l):=by
 unfold slc at h;simp only[Nat.add_eq,Nat.mul_eq,Nat.sub_eq]at h;split at h
 ·split at h
  ·cases h
  ·rename_i j h1
   split at h
   ·cases h
   ·rename_i l h2
    rw[Bo]at h;split at h
    ·rename_i u
     subst u;have B:bound hi (room+f.sp i) len=some j:=by
      unfold bound at h1⊢;split at h1
      ·exact h1
      ·obtain⟨H,J⟩:=Aq h1
       cases J;simp only[cu]at H;rw[Bo,aN (by simp only[cu];omega)]
      ·cases h1
     have hb:=Aru hT f w d B h2;refine⟨l,j,room+f.sp i,by simpa using hb,?_⟩;rw[Bo]at h;split at h
     ·rename_i h0
      have C:=aJ h0;subst C;cases h;simp only[Cj,bG,fG,Nat.sub_zero];congr 2;rw[Uq];simp
     ·rw[Bo]at h
      split at h
      ·rename_i h0
       cases h;simp only[cu]at h0;rw[aK (by omega),Uq];simp only[Cj,bG];congr 1;omega
      ·obtain⟨G,h4⟩:=Aq h
       have D:=aJ G;subst D;obtain⟨K,L⟩:=Aq h4;cases L;have E:=aJ K;subst E;simp only[Cj,fH,Uq];congr 1
       ·by_cases y:f.sp i=0
        ·rw[aN y,aN (by omega)]
        ·rw[aK y,aK (by omega)]
       ·omega
    ·rename_i u
     obtain⟨G,h4⟩:=Aq h;cases h4;have A:op=false:=by simpa using u
     subst A;have hb:=Aru hT f w d h1 h2;refine⟨l,j,room,by simpa using hb,?_⟩;simp only[Cj,aU,aY];rw[Bo];congr 2;by_cases e:room=l
     ·rw[aN (by rw[e];exact cI l),aN e]
     ·rw[aK (by simpa using e),aK e,Uq]
 ·rename_i M
  cases hm:bound (some M) room 0 with
  | none=>rw[hm]at h;cases h
  | some m=>
   rw[hm]at h;cases hi with
   | none=>cases h
   | some O=>
    simp only at h;split at h
    ·cases h
    ·rename_i j h1
     split at h
     ·cases h
     ·rename_i l h2
      cases h;have hb:=A6q hT f w (len:=len) d rfl rfl (cap:=if op=true then room+f.sp i else room) (room:=room) (by split<;>omega) hm h1 h2;refine⟨l,j,m,hb,?_⟩;simp only[Cj,aU,aY];rw[Bo];congr 2;by_cases e:m=l
      ·rw[aN (by rw[e];exact cI l),aN e]
      ·rw[aK (by simpa using e),aK e,Uq]
end
end
section
theorem Bba:∀(l:List (Nat × Nat)) (i:Nat),A0m l i=l[i]?
 | [],i=>by simp[A0m]
 | a::r,0=>rfl
 | a::r,i+1=>by
  have:A0m (a::r) (i+1)=A0m r i:=rfl;rw[this,Bba r i];simp
theorem Bb0:∀(l:List UInt8) (i:Nat),Bew l i=l[i]?
 | [],i=>by simp[Bew]
 | a::r,0=>rfl
 | a::r,i+1=>by
  have:Bew (a::r) (i+1)=Bew r i:=rfl;rw[this,Bb0 r i];simp
theorem Ae4(f:Loc)(l:List EV)(i:Nat):(Bn f l)[i]? = (l[i]?).map (Cj f):=by rw[Oz,av]
theorem Vj(d:Reads f tm ρ){x:Option Operand}{v:Option EV}(h:Abm tm x=some v):x.map ρ=v.map (Cj f):=by
 cases x with
 | none=>simp only[Abm]at h;cases h;rfl
 | some x=>
  simp only[Abm]at h;split at h
  ·rename_i a e
   cases h;simp[Bj d e]
  ·cases h
section
variable(hT:O6 P T)(f:Loc)(w:World)
include hT
theorem Ayt:∀{l:List Field} {ps:List (Nat × Nat)},placesOf T l=some ps ->
 (l.mapM (m:=Sem) fun fd=>do pure (fd.offset,<-sizeOf fd.type)).run P w=.ok ps w
 | [],ps,h=>by cases h;rfl
 | fd::r,ps,h=>by
  unfold placesOf at h;split at h
  ·rename_i n d
   split at h
   ·rename_i q e
    cases h;rw[List.mapM_cons];have j:=Ayt e;simp only[Sem.run_bind,G4 hT w d,aI,aS,j]
   ·cases h
  ·cases h
theorem Aa2{z:List EV}(h:T.zero t=some z):∃x:EV,x.plain=true/\z=x.cells/\(zeroValue t).run P w=.ok (Cj f x) w /\
 (T.agg t=some true->x=.agg z)/\(T.agg t=some false->z = [x])/\(∀p,x.ok p)/\∃i,P.info? t=some i/\i.size=z.length/\i.bytes<=1048576:=by
 obtain⟨i,v,x,h1,h2,d,h4,e,j,m,u,y⟩:=hT.zero t z h;refine⟨x,h4,e,?_,u,y,fun p=>A8p p d,i,h1,j,m⟩;rw[Ba7 f d];simp[zeroValue,typeInfo,h1,h2]
theorem Bg6(A:Reads f tm ρ){o:Oper}(h:Fg T tm o.op=some v):
 (execOp ρ o).run P w=.ok (.value (Cj f v)) w:=by
 obtain⟨dst,op,type,after,pos,guard⟩:=o;simp only at h;cases op with
 | move x=>simp only[Fg]at h;simp[execOp,Bj A h]
 | assign x=>simp only[Fg]at h;simp[execOp,Bj A h]
 | pick c a b=>
  simp only[Fg]at h;split at h
  ·rename_i G;simp[execOp,Bj A G,Bj A h,Cj,asBool]
  ·rename_i G;simp[execOp,Bj A G,Bj A h,Cj,asBool]
  ·cases h
 | binOp op t x y c=>
  simp only[Fg]at h;split at h
  ·rename_i a V
   split at h
   ·rename_i b hb
    obtain⟨h1,h2⟩:=Bkm hT f w h x y;simp[execOp,Bj A V,Bj A hb,h1,h2]
   ·cases h
  ·cases h
 | unOp op t x=>
  cases op with
  | not=>
   simp only[Fg]at h;split at h
   ·rename_i b B
    cases h;cases b<;>simp[execOp,Bj A B,Cj,Op.unary]
   ·cases h
  | neg=>
   simp only[Fg]at h;split at h
   ·rename_i k n B
    cases h;simp only[execOp,Bj A B,Cj,Op.unary,Op.intArith,Ly,Sem.run_bind,aS,aI];rfl
   ·cases h
  | _=>simp[Fg]at h
 | nilCheck x=>
  simp only[Fg]at h;split at h
  ·rename_i i off B
   cases h;simp[execOp,Bj A B,Cj]
  ·cases h
 | fieldAddr s x W=>
  simp only[Fg]at h;split at h
  ·rename_i i off B
   split at h
   ·rename_i fields hu
    split at h
    ·rename_i fd S
     split at h
     ·rename_i n hn
      obtain⟨h1,h2⟩:=Th h;cases h2;rw[A2c]at S;have H:fields[W]? = some fd:=by simpa using S
      have U:n≠0:=by intro e;subst e;cases h1
      simp[execOp,Instr.fieldAt,Bj A B,Dy hT w hu,H,Cj,Instr.sureAddr,fieldPlace,G4 hT w hn,U,Uq]
     ·cases h
    ·cases h
   ·cases h
  ·cases h
 | indexAddr t x ix=>
  simp only[Fg]at h;split at h
  ·rename_i k n C
   split at h
   ·rename_i len e i off hu B
    split at h
    ·rename_i s hs
     obtain⟨h1,h2⟩:=Aq h;cases h2;simp only[cu]at h1;have F:(n:Int)<len:=by omega
     simp[execOp,Instr.indexAt,Bj A C,Bj A B,Cj,asIntOf,Dy hT w hu,Instr.sureAddr,G4 hT w hs,Uq];exact fun hle=>absurd hle (by omega)
    ·cases h
   ·rename_i e i off len r op hu B
    split at h
    ·rename_i s hs
     obtain⟨h1,h2⟩:=Aq h;cases h2;simp only[cu]at h1;have F:(n:Int)<len:=by omega
     simp[execOp,Instr.indexAt,Bj A C,Bj A B,Cj,asIntOf,Dy hT w hu,G4 hT w hs,Uq];exact fun hle=>absurd hle (by omega)
    ·cases h
   ·cases h
  ·cases h
 | index t x ix=>
  simp only[Fg]at h;split at h
  ·rename_i k n C
   split at h
   ·rename_i len e cs hu B
    split at h
    ·rename_i s hs
     obtain⟨h1,h2⟩:=Aq h;simp only[cu]at h1;have F:(n:Int)<len:=by omega
     have M:=A5m hT w f h2;simp only[Nat.mul_eq]at M;simp[execOp,Instr.index,Bj A C,Bj A B,Cj,asIntOf,Dy hT w hu,G4 hT w hs,M];exact fun hle=>absurd hle (by omega)
    ·cases h
   ·rename_i s hu B
    split at h
    ·rename_i b hb
     cases h;rw[Bb0]at hb;have X:s[n]? = some b:=by
      have e:s.data[n]? = some b:=by simpa using hb
      rw[<-e];rfl
     simp[execOp,Instr.index,Bj A C,Bj A B,Cj,asIntOf,Dy hT w hu,X]
    ·cases h
   ·cases h
  ·cases h
 | field t x W=>
  simp only[Fg]at h;split at h
  ·rename_i fields cs hu B
   split at h
   ·rename_i fd S
    rw[A2c]at S;have H:fields[W]? = some fd:=by simpa using S
    have M:=A5m hT w f h;simp[execOp,Instr.field,Bj A B,Cj,Dy hT w hu,H,asAgg,M]
   ·cases h
  ·cases h
 | convert src d x=>
  simp only[Fg]at h;split at h
  ·rename_i ud k k' n hs hd B
   cases h;simp only[execOp,Go.convert,Bj A B,Cj,Sem.run_bind,Dy hT w hs,Dy hT w hd,aI,Conv.intToInt,aS,Ly]
  ·cases h
 | extract x ix=>
  simp only[Fg]at h;split at h
  ·rename_i l B
   split at h
   ·rename_i u r O
    cases h;rw[Ry]at O;have h1:l[ix]? = some v:=by
     have:=cX (xs:=l) (i:=ix) (j:=0);rw[O]at this;simpa using this.symm
    simp[execOp,Instr.extract,Bj A B,Cj,Ae4,h1]
   ·cases h
  ·cases h
 | slice t x lo hi mx=>
  simp only[Fg]at h;split at h
  ·rename_i ae af Y J K D
   split at h
   ·rename_i n e i off hu B
    split at h
    ·rename_i s hs
     obtain⟨l,Z,m,h1,h2⟩:=Bb2 hT f w h false;simp only[aU,aY]at h1;simp[execOp,Instr.sliceAt,Dy hT w hu,Bj A B,Vj A J,Vj A K,Vj A D,Cj,Instr.sureAddr,h1,G4 hT w hs,h2]
    ·cases h
   ·rename_i e x' hu B
    split at h
    ·rename_i s hs
     cases x' with
     | slice i off len room op=>
      obtain⟨l,Z,m,h1,h2⟩:=Bb2 hT f w h true;simp[execOp,Instr.sliceAt,Instr.slice,Dy hT w hu,Bj A B,Vj A J,Vj A K,Vj A D,Cj,h1,G4 hT w hs,h2];split<;>rfl
     | Ao=>
      unfold slc at h;cases Y with
      | some _=>cases h
      | none=>
       simp only at h;split at h
       ·cases h
       ·rename_i Z h1
        split at h
        ·cases h
        ·rename_i l h2
         cases h;have e1:Z=0:=Nat.le_zero.1 (A7t (aC _) h1);subst e1;have e2:l=0:=Nat.le_zero.1 (A7t (aC _) h2);subst e2;have hb:=Aru hT f w true h1 h2;have hm:mx=none:=by
          cases mx with
          | none=>rfl
          | some o=>simp only[Abm]at D;split at D<;>cases D
         subst hm;simp[execOp,Instr.sliceAt,Instr.slice,Dy hT w hu,Bj A B,Vj A J,Vj A K,Cj,hb,G4 hT w hs]
     | _=>simp[slc]at h
    ·cases h
   ·cases h
  ·cases h
 | build t ps=>
  simp only[Fg]at h;split at h
  ·rename_i z l fields U O hu
   split at h
   ·rename_i pl aa
    split at h
    ·rename_i c G
     cases h;obtain⟨x,_,e1,e2,_⟩:=Aa2 hT f w U;have M:(fields.mapM (m:=Sem) fun fd=>do pure (fd.offset,<-sizeOf fd.type)).run P w=.ok pl.toArray w:=by
      have e:fields=fields.toList.toArray:=by simp
      rw[e,List.mapM_toArray];have Q:=Ayt hT w aa;simp only[map_eq_pure_bind,Sem.run_bind,Q,aI,aS]
     have E:=Auj f (A0m pl) (fun i=>pl.toArray[i]?) (fun i q Q=>by rw[Bba]at Q;simpa using Q) G;have L:(ps.map fun(i,x)=>(i,ρ x)).toList=l.map fun(i,v)=>(i,Cj f v):=by
      rw[Array.toList_map,Akf A O]
     rw[e1]at E;simp only[execOp,Instr.build,Sem.run_bind,e2,aI,Dy hT w hu,M,S9,L,E,aS,Cj]
    ·cases h
   ·cases h
  ·rename_i z l n e U O hu
   split at h
   ·rename_i s hs
    split at h
    ·rename_i c G
     cases h;obtain⟨x,_,e1,e2,_⟩:=Aa2 hT f w U;have E:=Auj f (fun i=>some (Nat.mul i s,s)) (fun i=>some (i*s,s)) (fun i q Q=>Q) G;have L:(ps.map fun(i,x)=>(i,ρ x)).toList=l.map fun(i,v)=>(i,Cj f v):=by
      rw[Array.toList_map,Akf A O]
     rw[e1]at E;simp only[execOp,Instr.build,Sem.run_bind,e2,aI,Dy hT w hu,G4 hT w hs,S9,L,E,aS,Cj]
    ·cases h
   ·cases h
  ·cases h
 | makeFunc fn first captured=>
  cases fn with
  | func g=>
   simp only[Fg]at h;split at h
   ·rename_i a b V hb
    cases h;have h1:first.map ρ=(Bn f a).toArray:=by apply dN;simp[Zu A V]
    have h2:captured.map ρ=(Bn f b).toArray:=by apply dN;simp[Zu A hb]
    simp[execOp,Instr.makeFunc,Cj,h1,h2]
   ·cases h
  | _=>simp[Fg]at h
 | sliceToArrayPointer t x=>
  simp only[Fg]at h;split at h
  ·rename_i n e i off len room op hu B
   obtain⟨h1,h2⟩:=Aq h;cases h2;simp only[cu]at h1;have F:¬len<n:=by omega
   simp[execOp,Instr.arrayAt,Dy hT w hu,Bj A B,Cj,F]
  ·cases h
 | _=>simp[Fg]at h
end
end
theorem Ab.get_put(h:Ab)(i:Nat)(o:Dz)(j:Nat):(h.put i o).get j=if i=j then some o else h.get j:=by
 obtain⟨t,n,m⟩:=h;exact Tr.get_put t i (some o) j
theorem Ab.Aab(h:Ab)(i j:Nat):(h.del i).get j=if i=j then none else h.get j:=by
 obtain⟨t,n,m⟩:=h;exact Tr.get_put t i none j
theorem Ab.K6(h:Ab)(o:Dz)(j:Nat):(h.new o).get j=if h.next=j then some o else h.get j:=by
 obtain⟨t,n,m⟩:=h;exact Tr.get_put t n (some o) j
theorem Ab.Qf(h:Ab)(i:Nat)(o:Dz):(h.put i o).next=h.next:=rfl
theorem Ab.Anp(h:Ab)(i:Nat):(h.del i).next=h.next:=rfl
theorem Ab.Cv(h:Ab)(o:Dz):(h.new o).next=h.next+1:=rfl
theorem Ab.Aog(h:Ab)(i:Nat)(o:Dz):(h.put i o).mw=min i h.mw:=by
 obtain⟨t,n,m⟩:=h;show Bb (Nat.ble i m) i m=min i m;rw[Bo];by_cases hi:i<=m
 ·rw[aN (Abn hi)];omega
 ·rw[aK (by rw[Ad8 hi];simp)];omega
theorem Ab.Azi(h:Ab)(i:Nat):(h.del i).mw=min i h.mw:=Ab.Aog h i (.deferred true)
theorem Ab.Boh(h:Ab)(o:Dz):(h.new o).mw=h.mw:=rfl
def Dz.ok(p:Nat->Prop):Dz->Prop
 | .cells l _=>EV.Tg p l/\l.all EV.one=true
 | .vec l _ _=>EV.Tg p l/\l.all EV.one=true
 | .map es=>∀e∈es,e.1.ok p/\e.2.ok p
 | .chan _ buf=>EV.Tg p buf
 | .loop _ _ _ n tm _ _ _ d=>Lk p n tm/\p d
 | .deferred _=>True
 | .view ws _=>∀x∈ws,EV.Tg p x.2/\x.2.all EV.one=true
theorem Dz.ok.mono(j:∀i,p i->q i)(h:o.ok p):o.ok q:=by
 cases o with
 | cells l t=>exact⟨EV.Tg.mono j l h.1,h.2⟩
 | vec l t s=>exact⟨EV.Tg.mono j l h.1,h.2⟩
 | map es=>exact fun e he=>⟨EV.ok.mono j _ (h e he).1,EV.ok.mono j _ (h e he).2⟩
 | chan c buf=>exact EV.Tg.mono j buf h
 | loop st u fn n tm ps asg body d=>exact⟨Lk.mono h.1 j,j d h.2⟩
 | deferred b=>trivial
 | view ws _=>exact fun x m=>⟨EV.Tg.mono j x.2 (h x m).1,(h x m).2⟩
def Sf(f:Loc)(i:Nat):Dz->Obj->Prop
 | .cells l e,r=>r=.cells (Bn f l).toArray e (0,0)
 | .vec l e s,r=>∃more:List Value,r=.cells (Bn f l++more).toArray e (0,0)/\more.length=f.sp i*s
 | .map es,r=>∃m clock,r=.map m clock/\m.toList.map (fun e=>(e.key,e.val))=es.map (fun e=>(Cj f e.1,Cj f e.2))
 | .chan cap buf,r=>∃s c,r=.chan cap (Bn f buf).toArray false s c false
 | .loop st p fn n tm ps asg body d,r=>r=.loop ⟨st,p,fn,Bg f n tm,ps.toArray,asg,body,f.b d⟩
 | .deferred op,r=>r=.deferred (if op=true then some []else none)
 | .view ws r0,r=>r=r0/\∃arr e fr,r=.cells arr e fr/\∀x∈ws,∀(j:Nat) v,x.2[j]? = some v->arr[x.1+j]? = some (Cj f v)
theorem Sf.congr(m:Loc.agree p f g)(hi:p i)(u:o.ok p){r:Obj}(h:Sf f i o r):Sf g i o r:=by
 cases o with
 | cells l t=>simp only[Sf]at h⊢;rw[h,Gb m l u.1]
 | vec l t s=>simp only[Sf]at h⊢;obtain⟨more,h1,h2⟩:=h;exact⟨more,by rw[h1,Gb m l u.1],by rw[h2,(m i hi).2]⟩
 | map es=>
  obtain⟨y,clock,h1,h2⟩:=h;refine⟨y,clock,h1,?_⟩;rw[h2];apply cY;intro e he;rw[Ad6 m _ (u e he).1,Ad6 m _ (u e he).2]
 | chan c buf=>obtain⟨s,B,h1⟩:=h;exact⟨s,B,by rw[h1,Gb m buf u]⟩
 | loop st C fn n tm ps asg body d=>simp only[Sf]at h⊢;rw[h,K5 m u.1,(m d u.2).1]
 | deferred b=>exact h
 | view ws r0=>
  obtain⟨h0,arr,e,fr,h1,h2⟩:=h;exact⟨h0,arr,e,fr,h1,fun x A j v hj=>by rw[<-Ad6 m v ((H5 p x.2).1 (u x A).1 v (dK hj))];exact h2 x A j v hj⟩
structure Tj(p:Nat->Prop)(h:Ab):Prop where
 lt:∀i,p i->i<h.next
 get:∀i o,h.get i=some o->p i/\o.ok p
structure Te(f:Loc)(h:Ab)(w:World):Prop where
 obj:∀i o,h.get i=some o->∃r,w.heap[f.b i]? = some r/\Sf f i o r
 inj:∀i j o o',h.get i=some o->h.get j=some o'->f.b i=f.b j->i=j
theorem Te.sub{w:World}(u:Te f h w)(hs:∀i o,h'.get i=some o->h.get i=some o):Te f h' w where
 obj i o d:=u.obj i o (hs i o d)
 inj i j o o' d m e:=u.inj i j o o' (hs i o d) (hs j o' m) e
theorem Te.lt{w:World}(d:Te f h w)(e:h.get i=some o):f.b i<w.heap.size:=by
 obtain⟨r,h1,_⟩:=d.obj i o e;exact(bX.1 h1).1
def grow(p:Nat->Prop)(h h':Ab)(i:Nat):Prop:=p i\/(h.next<=i/\i<h'.next)
theorem J8(p:Nat->Prop)(h h':Ab)(e:h'.next=h.next):grow p h h'=p:=by
 funext i;exact propext ⟨fun x=>x.elim id (fun⟨a,b⟩=>absurd b (by omega)),.inl⟩
theorem Ad7(p:Nat->Prop)(a:h.next<=h1.next)(b:h1.next<=h2.next):grow (grow p h h1) h1 h2=grow p h h2:=by
 funext i;apply propext;constructor
 ·rintro((x|x)|x)
  ·exact .inl x
  ·exact .inr (by omega)
  ·exact .inr (by omega)
 ·rintro(x|x)
  ·exact .inl (.inl x)
  ·by_cases c:i<h1.next
   ·exact .inl (.inr ⟨x.1,c⟩)
   ·exact .inr (by omega)
structure Wf(p:Nat->Prop)(h h':Ab):Prop where
 next:h.next<=h'.next
 mw:h'.mw<=h.mw
 same:∀i,i<h'.mw->i<h.next->h'.get i=h.get i
 live:∀i o,h'.get i=some o->(∃o',h.get i=some o')\/h.next<=i
 hok:Tj (grow p h h') h'
structure Move(p:Nat->Prop)(f:Loc)(h:Ab)(w:World)(f':Loc)(h':Ab)(w':World):Prop where
 agree:Loc.agree p f f'
 rep:Te f' h' w'
 kept:∀b,b<w.heap.size->(∀i o,h.get i=some o->f.b i≠b)->w'.heap[b]? = w.heap[b]?
 size:w.heap.size<=w'.heap.size
 tape:w'.tape=w.tape
 os:w'.os=w.os
 output:w'.output=w.output
 own:∀i o,h'.get i=some o->w.heap.size<=f'.b i\/∃j o',h.get j=some o'/\f'.b i=f.b j
theorem Wf.refl(d:Tj p h):Wf p h h where
 next:=aC _
 mw:=aC _
 same _ _ _:=rfl
 live i o e:=.inl ⟨o,e⟩
 hok:=by rw[J8 p h h rfl];exact d
theorem Wf.trans(a:Wf p h h1)(b:Wf (grow p h h1) h1 h2):Wf p h h2 where
 next:=bN a.next b.next
 mw:=bN b.mw a.mw
 same i x y:=by rw[b.same i x (by have:=a.next;omega),a.same i (by have:=b.mw;omega) y]
 live i o e:=by
  rcases b.live i o e with⟨o',d⟩|hi
  ·exact a.live i o' d
  ·exact .inr (by have:=a.next;omega)
 hok:=by rw[<-Ad7 p a.next b.next];exact b.hok
theorem Move.refl{w:World}(d:Te f h w):Move p f h w f h w where
 agree:=Loc.Ald p f
 rep:=d
 kept _ _ _:=rfl
 size:=aC _
 tape:=rfl
 os:=rfl
 output:=rfl
 own i o e:=.inr ⟨i,o,e,rfl⟩
theorem Move.trans{f1 f2:Loc}{w w1 w2:World}(a:Move p f h w f1 h1 w1)
 (b:Move (grow p h h1) f1 h1 w1 f2 h2 w2):Move p f h w f2 h2 w2 where
 agree:=a.agree.trans (b.agree.mono fun i hi=>.inl hi)
 rep:=b.rep
 kept x A B:=by
  rw[b.kept x (aL A a.size) ?_,a.kept x A B];intro i o u e;rcases a.own i o u with hi|⟨j,o',d,hj⟩
  ·omega
  ·exact B j o' d (hj▸e)
 size:=bN a.size b.size
 tape:=b.tape.trans a.tape
 os:=b.os.trans a.os
 output:=b.output.trans a.output
 own i o u:=by
  rcases b.own i o u with hi|⟨j,o',d,hj⟩
  ·exact .inl (bN a.size hi)
  ·rcases a.own j o' d with hi|⟨k,y,m,C⟩
   ·exact .inl (hj▸hi)
   ·exact .inr ⟨k,y,m,hj.trans C⟩
theorem Wf.put(d:Tj p h)(hi:h.get i=some o)(m:o'.ok p):Wf p h (h.put i o') where
 next:=aC _
 mw:=by rw[Ab.Aog];omega
 same j x _:=by rw[Ab.Aog]at x;rw[Ab.get_put,aK (by omega)]
 live j q hj:=by
  rw[Ab.get_put]at hj;split at hj
  ·rename_i e;subst e;exact .inl ⟨o,hi⟩
  ·exact .inl ⟨q,hj⟩
 hok:=by
  rw[J8 p h (h.put i o') rfl];refine⟨d.lt,fun j q hj=>?_⟩;rw[Ab.get_put]at hj;split at hj
  ·rename_i e;subst e;cases hj;exact⟨(d.get i o hi).1,m⟩
  ·exact d.get j q hj
theorem Move.put{w:World}(d:Te f h w)(hi:h.get i=some o)
 {r:Obj} (h1:w'.heap[f.b i]? = some r) (h2:Sf f i o' r) (A:∀b,b≠f.b i->w'.heap[b]? = w.heap[b]?) (h4:w'.heap.size=w.heap.size)
 (B:w'.tape=w.tape) (C:w'.os=w.os) (D:w'.output=w.output):Move p f h w f (h.put i o') w' where
 agree:=Loc.Ald p f
 rep:=by
  refine⟨fun j q hj=>?_,fun j k q q' hj m e=>?_⟩
  ·rw[Ab.get_put]at hj
   split at hj
   ·rename_i e;subst e;cases hj;exact⟨r,h1,h2⟩
   ·rename_i e
    obtain⟨E,a,b⟩:=d.obj j q hj;refine⟨E,?_,b⟩;rw[A _ ?_]
    ·exact a
    ·intro e';exact e (d.inj j i q o hj hi e').symm
  ·have u:∃q,h.get j=some q:=by
    rw[Ab.get_put]at hj;split at hj
    ·rename_i e;exact⟨o,e▸hi⟩
    ·exact⟨q,hj⟩
   have y:∃q,h.get k=some q:=by
    rw[Ab.get_put]at m;split at m
    ·rename_i e;exact⟨o,e▸hi⟩
    ·exact⟨q',m⟩
   obtain⟨a,F⟩:=u;obtain⟨b,hb⟩:=y;exact d.inj j k a b F hb e
 kept b _ G:=A b (fun e=>G i o hi e.symm)
 size:=by omega
 tape:=B
 os:=C
 output:=D
 own j q hj:=by
  rw[Ab.get_put]at hj;split at hj
  ·rename_i e;subst e;exact .inr ⟨i,o,hi,rfl⟩
  ·exact .inr ⟨j,q,hj,rfl⟩
def Loc.set(f:Loc)(i b sp:Nat):Loc:=⟨fun j=>if j=i then b else f.b j,fun j=>if j=i then sp else f.sp j⟩
theorem Loc.Wy(f:Loc)(i b sp:Nat):(f.set i b sp).b i=b:=aN rfl
theorem Loc.Aov(f:Loc)(i b sp:Nat):(f.set i b sp).sp i=sp:=aN rfl
theorem Loc.Tz(f:Loc){j:Nat}(b sp:Nat)(h:j≠i):(f.set i b sp).b j=f.b j/\(f.set i b sp).sp j=f.sp j:=⟨aK h,aK h⟩
theorem Loc.Mn(f:Loc)(b sp:Nat)(h:¬p i):Loc.agree p f (f.set i b sp):=fun j hj=>
 have e:j≠i:=fun e=>h (e▸hj)
 ⟨(f.Tz b sp e).1.symm,(f.Tz b sp e).2.symm⟩
theorem Tj.fresh(d:Tj p h):¬p h.next:=fun x=>absurd (d.lt _ x) (by omega)
theorem Tj.Aff(d:Tj p h)(hi:h.get i=some o):i≠h.next:=fun e=>d.fresh (e▸(d.get i o hi).1)
theorem Wf.new(d:Tj p h)(m:o.ok (grow p h (h.new o))):Wf p h (h.new o) where
 next:=by rw[Ab.Cv];omega
 mw:=aC _
 same j x y:=by rw[Ab.K6,aK (by omega)]
 live j q hj:=by
  rw[Ab.K6]at hj;split at hj
  ·rename_i e;exact .inr (by omega)
  ·exact .inl ⟨q,hj⟩
 hok:=by
  refine⟨fun j hj=>?_,fun j q hj=>?_⟩
  ·rcases hj with hj|hj
   ·have:=d.lt j hj;rw[Ab.Cv];omega
   ·exact hj.2
  ·rw[Ab.K6]at hj
   split at hj
   ·rename_i e;cases hj;exact⟨.inr (by rw[Ab.Cv];omega),m⟩
   ·exact⟨.inl (d.get j q hj).1,Dz.ok.mono (fun i hi=>.inl hi) (d.get j q hj).2⟩
theorem Move.new{w:World}(d:Tj p h)(u:Te f h w)(sp:Nat)
 {r:Obj} (h1:w'.heap=w.heap.push r) (h2:Sf (f.set h.next w.heap.size sp) h.next o r)
 (y:w'.tape=w.tape) (A:w'.os=w.os) (B:w'.output=w.output):Move p f h w (f.set h.next w.heap.size sp) (h.new o) w' where
 agree:=f.Mn _ _ d.fresh
 rep:=by
  refine⟨fun j q hj=>?_,fun j k q q' hj m e=>?_⟩
  ·rw[Ab.K6]at hj
   split at hj
   ·rename_i e;subst e;cases hj;exact⟨r,by rw[Loc.Wy,h1];simp,h2⟩
   ·obtain⟨C,a,b⟩:=u.obj j q hj
    have E:=u.lt hj;obtain⟨D,hok⟩:=d.get j q hj;refine⟨C,?_,b.congr (f.Mn _ _ d.fresh) D hok⟩;rw[(f.Tz _ _ (d.Aff hj)).1,h1,Array.getElem?_push,aK (by omega)];exact a
  ·rw[Ab.K6]at hj m
   split at hj
   ·rename_i e1
    split at m
    ·rename_i e2;omega
    ·subst e1
     rw[Loc.Wy,(f.Tz _ _ (d.Aff m)).1]at e;have:=u.lt m;omega
   ·split at m
    ·rename_i e2
     subst e2;rw[Loc.Wy,(f.Tz _ _ (d.Aff hj)).1]at e;have:=u.lt hj;omega
    ·rw[(f.Tz _ _ (d.Aff hj)).1,(f.Tz _ _ (d.Aff m)).1]at e
     exact u.inj j k q q' hj m e
 kept b hb _:=by rw[h1,Array.getElem?_push,aK (by omega)]
 size:=by rw[h1];simp
 tape:=y
 os:=A
 output:=B
 own j q hj:=by
  rw[Ab.K6]at hj;split at hj
  ·rename_i e;subst e;rw[Loc.Wy];exact .inl (aC _)
  ·exact .inr ⟨j,q,hj,(f.Tz _ _ (d.Aff hj)).1⟩
theorem Tj.del(d:Tj p h)(i:Nat):Tj p (h.del i):=
 ⟨d.lt,fun j q hj=>by rw[Ab.Aab]at hj;split at hj;cases hj;exact d.get j q hj⟩
theorem Wf.del(d:Tj p h)(i:Nat):Wf p h (h.del i) where
 next:=aC _
 mw:=by rw[Ab.Azi];omega
 same j x _:=by rw[Ab.Azi]at x;rw[Ab.Aab,aK (by omega)]
 live j q hj:=by
  rw[Ab.Aab]at hj;split at hj
  ·cases hj
  ·exact .inl ⟨q,hj⟩
 hok:=by rw[J8 p h (h.del i) rfl];exact d.del i
theorem Akj:∀j o,(h.del i).get j=some o->h.get j=some o:=by
 intro j o hj;rw[Ab.Aab]at hj;split at hj
 ·cases hj
 ·exact hj
theorem Wf.Azs(d:Tj p h)(i:Nat)(j:o.ok (grow p h (h.new o))):Wf p h ((h.del i).new o):=by
 have a:=Wf.del d i;have e:grow p h (h.del i)=p:=J8 p h (h.del i) rfl;have b:Wf (grow p h (h.del i)) (h.del i) ((h.del i).new o):=by
  rw[e];exact Wf.new (d.del i) j
 exact a.trans b
theorem Move.Azs{w:World}(u:Tj p h)(d:Te f h w)(hi:h.get i=some o)(sp:Nat)
 {r:Obj} (h1:w'.heap[f.b i]? = some r) (h2:Sf (f.set h.next (f.b i) sp) h.next o' r) (y:∀b,b≠f.b i->w'.heap[b]? = w.heap[b]?) (h4:w'.heap.size=w.heap.size)
 (B:w'.tape=w.tape) (C:w'.os=w.os) (D:w'.output=w.output):Move p f h w (f.set h.next (f.b i) sp) ((h.del i).new o') w' where
 agree:=f.Mn _ _ u.fresh
 rep:=by
  have key:∀j q,((h.del i).new o').get j=some q->(j=h.next/\q=o')\/(j≠i/\j≠h.next/\h.get j=some q):=by
   intro j q hj;rw[Ab.K6]at hj;split at hj
   ·rename_i e;cases hj;exact .inl ⟨e.symm,rfl⟩
   ·rename_i e
    rw[Ab.Aab]at hj;split at hj
    ·cases hj
    ·rename_i e';exact .inr ⟨fun x=>e' x.symm,fun x=>e x.symm,hj⟩
  refine⟨fun j q hj=>?_,fun j k q q' hj A e=>?_⟩
  ·rcases key j q hj with⟨rfl,rfl⟩|⟨c1,c2,c3⟩
   ·exact⟨r,by rw[Loc.Wy];exact h1,h2⟩
   ·obtain⟨E,a,b⟩:=d.obj j q c3
    obtain⟨F,hok⟩:=u.get j q c3;refine⟨E,?_,b.congr (f.Mn _ _ u.fresh) F hok⟩;rw[(f.Tz _ _ c2).1,y _ (fun e=>c1 (d.inj j i q o c3 hi e))];exact a
  ·rcases key j q hj with⟨rfl,rfl⟩|⟨c1,c2,c3⟩
   ·rcases key k q' A with⟨rfl,rfl⟩|⟨d1,d2,d3⟩
    ·rfl
    ·rw[Loc.Wy,(f.Tz _ _ d2).1]at e
     exact absurd (d.inj i k o q' hi d3 e).symm d1
   ·rcases key k q' A with⟨rfl,rfl⟩|⟨d1,d2,d3⟩
    ·rw[Loc.Wy,(f.Tz _ _ c2).1]at e
     exact absurd (d.inj j i q o c3 hi e) c1
    ·rw[(f.Tz _ _ c2).1,(f.Tz _ _ d2).1]at e
     exact d.inj j k q q' c3 d3 e
 kept b _ G:=y b (fun e=>G i o hi e.symm)
 size:=by omega
 tape:=B
 os:=C
 output:=D
 own j q hj:=by
  rw[Ab.K6]at hj;split at hj
  ·rename_i e;rw[show j=h.next from e.symm,Loc.Wy];exact .inr ⟨i,o,hi,rfl⟩
  ·have m:=Akj j q hj
   exact .inr ⟨j,q,m,(f.Tz _ _ (u.Aff m)).1⟩
theorem Move.Bor{w:World}(d:Tj p h)(m:Te f h w)(i:Nat)(sp:Nat)
 {r:Obj} (h1:w'.heap=w.heap.push r) (h2:Sf (f.set h.next w.heap.size sp) h.next o r)
 (u:w'.tape=w.tape) (y:w'.os=w.os) (A:w'.output=w.output):Move p f h w (f.set h.next w.heap.size sp) ((h.del i).new o) w':=by
 have a:=Move.new (d.del i) (m.sub Akj) (o:=o) sp h1 h2 u y A;exact⟨a.agree,a.rep,fun b hb B=>a.kept b hb (fun j q hj=>B j q (Akj j q hj)),a.size,a.tape,a.os,a.output,
  fun j q hj=>(a.own j q hj).imp id (fun⟨k,q',C,e⟩=>⟨k,q',Akj k q' C,e⟩)⟩
def An6(P:Program)(s:Sem Next)(p:Nat->Prop)(f:Loc)(h:Ab)(w:World)(v:EV)(h':Ab):Prop:=
 ∃f' w' N,s.run P w=.ok N w'/\(N=.value (Cj f' v)\/(N=.skip/\v=.tuple []))/\Move p f h w f' h' w'/\Wf p h h'/\v.ok (grow p h h')
theorem Sk{l:List EV}(d:EV.Tg p l):EV.Tg (grow p h h') l:=EV.Tg.mono (fun _ hi=>.inl hi) l d
theorem A70{l:List EV}(d:EV.Tg p l)(off n:Nat):EV.Tg p ((l.drop off).take n):=
 (H5 p _).2 fun v e=>(H5 p _).1 d v (aM (bO e))
theorem Zo{a b:List EV}(d:EV.Tg p a)(hb:EV.Tg p b):EV.Tg p (a++b):=
 (H5 p _).2 fun v e=>(bL.1 e).elim ((H5 p _).1 d v) ((H5 p _).1 hb v)
theorem A7x {l:List EV}(d:l.all EV.one=true)(off n:Nat):((l.drop off).take n).all EV.one=true:=by
 rw[dL]at d⊢;exact fun v e=>d v (aM (bO e))
theorem A8o {a b:List EV}(d:a.all EV.one=true)(hb:b.all EV.one=true):(a++b).all EV.one=true:=by
 rw[List.all_append,d,hb];rfl
theorem Azj{l x:List EV}(h:F6 l off vs=some x)(d:EV.Tg p l)(e:EV.Tg p vs):EV.Tg p x:=
 (H5 p _).2 fun v j=>(Asg h j).elim ((H5 p _).1 d v) ((H5 p _).1 e v)
theorem Aze {l x:List EV}(h:F6 l off vs=some x)(d:l.all EV.one=true)(e:vs.all EV.one=true):x.all EV.one=true:=by
 rw[dL]at *;exact fun v j=>(Asg h j).elim (d v) (e v)
theorem setRow_other(w:World)(g:Nat)(cs:Array Value)(b:Nat)(hb:b≠g):(w.setRow g cs).heap[b]? = w.heap[b]?:=by
 simp only[World.setRow,Array.getElem?_modify];rw[aK (cN hb)]
theorem setRow_size(w:World)(g:Nat)(cs:Array Value):(w.setRow g cs).heap.size=w.heap.size:=by simp[World.setRow]
section
variable{w:World}
theorem A92{o:Nat}{l:List EV}(e:Alr ws off=some (o,l)):(o,l)∈ws/\o<=off:=by
 induction ws with
 | nil=>cases e
 | cons x r d=>
  obtain⟨o',l'⟩:=x;unfold Alr at e;cases h1:Nat.ble o' off with
  | false=>rw[h1]at e;exact⟨aT _ (d e).1,(d e).2⟩
  | true=>
   rw[h1,Al]at e;cases h2:Nat.ble (Nat.succ (Nat.sub off o')) (len l')with
   | false=>rw[h2]at e;exact⟨aT _ (d e).1,(d e).2⟩
   | true=>rw[h2]at e;cases e;exact⟨aV ..,bB h1⟩
theorem Akt(B:Tj p h)(C:Te f h w){l:List EV}(d:Jg h i off n=some l):
 (loadCells ⟨f.b i,off,none⟩ n).run P w=.ok (Bn f l).toArray w/\EV.Tg p l/\l.all EV.one=true/\l.length=n /\
  ∀j v,l[j]? = some v->w.cell? ⟨f.b i,off+j,none⟩=some (Cj f v):=by
 have key:∀(L:List EV) (arr:Array Value) (e:TypeId) (fr:Nat × Nat) (o:Nat),w.heap[f.b i]? = some (.cells arr e fr)->o<=off->(∀(j:Nat) v,L[j]? = some v->arr[o+j]? = some (Cj f v))->EV.Tg p L->L.all EV.one=true ->
  takeN (Yu L (off-o)) n=some l->(loadCells ⟨f.b i,off,none⟩ n).run P w=.ok (Bn f l).toArray w/\EV.Tg p l/\l.all EV.one=true/\l.length=n /\
  ∀j v,l[j]? = some v->w.cell? ⟨f.b i,off+j,none⟩=some (Cj f v):=by
  intro L arr e fr o h1 K h2 y h4 D;obtain⟨E,A⟩:=Ae1 D;rw[Ry]at E A;have hlen:l.length=n:=by rw[A,bJ];omega
  have G:∀j v,l[j]? = some v->w.cell? ⟨f.b i,off+j,none⟩=some (Cj f v):=by
   intro j v hj;rw[A,dU]at hj;split at hj
   ·rw[cX]at hj
    simp only[World.cell?,h1];have:=h2 _ _ hj;rw[show o+(off-o+j)=off+j by omega]at this;simpa using this
   ·cases hj
  refine⟨?_,A▸A70 y (off-o) n,A▸A7x h4 (off-o) n,hlen,G⟩;have H:(Bn f l).length=n:=by rw[Cu,hlen]
  rw[<-H];apply run_loadCells_list;intro j v hj;rw[Ae4]at hj;cases F:l[j]? with
  | none=>rw[F]at hj;cases hj
  | some u=>
   rw[F]at hj;cases hj;rw[Uq];exact G j u F
 unfold Jg at d;split at d
 ·rename_i L e m
  obtain⟨r,h1,h2⟩:=C.obj i _ m;obtain⟨_,y,h4⟩:=B.get i _ m;simp only[Sf]at h2;subst h2;exact key L _ e (0,0) 0 h1 (cU _) (fun j v hj=>by simp[Ae4,hj]) y h4 d
 ·rename_i L e s m
  obtain⟨r,h1,more,h2,_⟩:=C.obj i _ m;obtain⟨_,y,h4⟩:=B.get i _ m;subst h2;refine key L _ e (0,0) 0 h1 (cU _) (fun j v hj=>?_) y h4 d;rw[bC];have:j<(Bn f L).length:=by rw[Cu];exact(bA.1 hj).1
  simp only[bQ];rw[bh this,Ae4,hj];rfl
 ·rename_i ws r0 m
  split at d
  ·rename_i o L hw
   obtain⟨hm,D⟩:=A92 hw;obtain⟨r,h1,_,arr,e,fr,h2,E⟩:=C.obj i _ m;obtain⟨_,J⟩:=B.get i _ m;obtain⟨y,h4⟩:=J _ hm;subst h2;exact key L _ e fr o h1 D (E _ hm) y h4 d
  ·cases d
 ·cases d
theorem Av2(A:Tj p h)(B:Te f h w)(j:L9 h i off vs=some h')(E:EV.Tg p vs)(h1:vs.all EV.one=true):
 ∃w',(storeCells ⟨f.b i,off,none⟩ (Bn f vs)).run P w=.ok () w'/\Move p f h w f h' w'/\Wf p h h':=by
 have u:∀v∈Bn f vs,v.oneCell'=true:=Ya f vs (by simpa using h1);unfold L9 at j;split at j
 ·rename_i L e m
  obtain⟨r,y,C⟩:=B.obj i _ m;obtain⟨_,a3,a4⟩:=A.get i _ m;simp only[Sf]at C;subst C;split at j
  ·rename_i D hs
   cases j;obtain⟨b1,b2⟩:=Xi hs;have d:=run_storeCells_at (P:=P) (f.b i) off e (Bn f vs) 0 (Bn f L).toArray w y (by simp only[Cu,cV];omega) u;refine⟨_,d,?_,Wf.put A m ⟨Azj hs a3 E,Aze hs a4 h1⟩⟩;refine Move.put B m (r:=.cells (Bn f D).toArray e (0,0)) ?_ rfl (fun b hb=>setRow_other _ _ _ _ hb) (setRow_size _ _ _) rfl rfl rfl;rw[setRow_heap w (f.b i) _ _ e (0,0) y,b2,Anh];simp
  ·cases j
 ·rename_i L e s m
  obtain⟨r,y,more,C,a5⟩:=B.obj i _ m;obtain⟨_,a3,a4⟩:=A.get i _ m;subst C;split at j
  ·rename_i D hs
   cases j;obtain⟨b1,b2⟩:=Xi hs;have d:=run_storeCells_at (P:=P) (f.b i) off e (Bn f vs) 0 (Bn f L++more).toArray w y (by simp only[Cu,cV,aF];omega) u;refine⟨_,d,?_,Wf.put A m ⟨Azj hs a3 E,Aze hs a4 h1⟩⟩;refine Move.put B m (r:=.cells (Bn f D++more).toArray e (0,0)) ?_ ⟨more,rfl,a5⟩ (fun b hb=>setRow_other _ _ _ _ hb) (setRow_size _ _ _) rfl rfl rfl;rw[setRow_heap w (f.b i) _ _ e (0,0) y,b2,Anh];simp only[dO,dC];rw[dG (by rw[Cu];omega),eL (by simp only[Cu];omega)];simp
  ·cases j
 ·cases j
variable (hT:O6 P T)
include hT
theorem Bki(m:Reads f tm ρ)(y:Tj p h)(A:Te f h w)
 {o:Oper} (B:o.op=.load t a) (d:Dw T tm (.load t a) h=some (v,h')) :
 h'=h/\v.ok p/\(execOp ρ o).run P w=.ok (.value (Cj f v)) w:=by
 simp only[Dw]at d;split at d
 ·rename_i i off C
  split at d
  ·rename_i e
   split at d
   ·rename_i n G
    split at d
    ·rename_i l j
     cases d;obtain⟨h1,h2,D,h4,E⟩:=Akt (P:=P) y A j;refine⟨rfl,⟨h2,D⟩,?_⟩;simp only[execOp,B,Instr.loadAt,Bj m C,Cj,Instr.sureAddr,loadVar,Sem.run_bind,aS,aI,Apl hT w e,G4 hT w G,h1,bG]
    ·cases d
   ·cases d
  ·rename_i e
   split at d
   ·rename_i u j
    cases d;obtain⟨h1,h2,D,h4,E⟩:=Akt (P:=P) y A j;refine⟨rfl,h2.1,?_⟩;have F:=E 0 v rfl;simp only[execOp,B,Instr.loadAt,Bj m C,Cj,Instr.sureAddr,loadVar,Sem.run_bind,aS,aI,Apl hT w e,run_load,aU,aY];simp only[dC]at F;rw[F];rfl
   ·cases d
  ·cases d
 ·cases d
theorem Bes(j:Reads f tm ρ)(C:Lk p n tm)(D:Tj p h)(E:Te f h w)
 {o:Oper} (F:o.op=.store t a x) (d:Dw T tm (.store t a x) h=some (v,h')) :
 An6 P (execOp ρ o) p f h w v h':=by
 simp only[Dw]at d;split at d
 ·rename_i i off u m G y A
  obtain⟨h1,h2⟩:=Aq d;obtain⟨B,h4⟩:=Aq h2;split at h4
  ·rename_i H hw
   cases h4;rw[Uf]at B;have e:=aJ B;obtain⟨c1,c2⟩:=Uk (E6 C y) h1;obtain⟨w',J,K,L⟩:=Av2 (P:=P) D E hw c1 (by simpa using c2);refine⟨f,w',.skip,?_,.inr ⟨rfl,rfl⟩,K,L,trivial⟩;simp only[execOp,F,Instr.storeAt,Bj j G,Bj j y,Instr.sureAddr,storeVar,Sem.run_bind,aS,aI,G4 hT w A];simp only[Cj,aS,aI,S9,Sem.run_bind,G4 hT w A];simp[e,J,Cu]
  ·cases h4
 ·cases d
omit hT in
theorem Alh(d:Tj p h)(m:Te f h w)(e:TypeId){l:List EV}(j:EV.Tg p l)(h1:l.all EV.one=true):
 ∃f' w',(newRow e (Bn f l).toArray).run P w=.ok ⟨f'.b h.next,0,none⟩ w'/\Move p f h w f' (h.new (.cells l e)) w'/\Wf p h (h.new (.cells l e))/\grow p h (h.new (.cells l e)) h.next:=by
 refine⟨f.set h.next w.heap.size 0,{ w with heap:=w.heap.push (.cells (Bn f l).toArray e) },?_,?_,Wf.new d ⟨Sk j,h1⟩,.inr ⟨aC _,by rw[Ab.Cv];omega⟩⟩
 ·rw[Loc.Wy];rfl
 ·refine Move.new d m 0 rfl ?_ rfl rfl rfl
  simp only[Sf];rw[Gb (f.Mn _ _ d.fresh) l j]
theorem Bcv(j:Tj p h)(m:Te f h w)
 {o:Oper} (u:o.op=.alloc t) (d:Dw T tm (.alloc t) h=some (v,h')) :
 An6 P (execOp ρ o) p f h w v h':=by
 simp only[Dw]at d;split at d
 ·rename_i z y
  cases d;obtain⟨x,A,e,B,_,_,C,_⟩:=Aa2 hT f w y;obtain⟨c1,c2⟩:=Uk (C p) A;rw[<-e]at c1 c2;obtain⟨f',w',D,E,F,G⟩:=Alh (P:=P) j m t c1 (by simpa using c2);refine⟨f',w',_,?_,.inl rfl,E,F,G⟩;simp only[execOp,u,Instr.alloc,Sem.run_bind,B,aI,newVar,S9,<-e,D,aS,Cj]
 ·cases d
omit hT in
theorem Blj(e:Reads f tm ρ)(j:Lk p n tm)(m:Tj p h)(y:Te f h w)
 {o:Oper} (A:o.op=.box t x) (d:Dw T tm (.box t x) h=some (v,h')) :
 An6 P (execOp ρ o) p f h w v h':=by
 simp only[Dw]at d;split at d
 ·rename_i u hu
  obtain⟨h1,h2⟩:=Aq d;cases h2;obtain⟨c1,c2⟩:=Uk (E6 j hu) h1;obtain⟨f',w',B,C,D,E⟩:=Alh (P:=P) m y t c1 (by simpa using c2);refine⟨f',w',_,?_,.inl rfl,C,D,E⟩;simp only[execOp,A,Instr.box,Bj e hu,Sem.run_bind,aI,newVar,S9,B,aS,Cj]
 ·cases d
omit hT in
theorem A6p(f:Loc)(z:List EV)(m:Nat)(j:m*z.length≠0):
 (Array.range (m*z.length)).map (fun i=>(Bn f z).toArray[i%(Bn f z).toArray.size]!)=(Bn f (rep z m)).toArray:=by
 apply eR;intro i;simp only[Array.getElem?_map,bQ,Ae4,cV,Cu];by_cases hi:i<m*z.length
 ·rw[Bbc z m i hi]
  have d:i%z.length<z.length:=Nat.mod_lt _ (by rcases dS z.length with e|e;(simp[e]at j);exact e);simp[hi,Ae4,d,aH d]
 ·have:(rep z m)[i]? = none:=cA (by rw[Akw];omega)
  simp[this];omega
theorem Az5 {n:Nat}(E:Reads f tm ρ)(G:Tj p h)(H:Te f h w)
 {o:Oper} {y:Operand} (J:o.op=.makeSlice t x y) (d:Dw T tm (.makeSlice t x y) h=some (v,h')) :
 An6 P (execOp ρ o) p f h w v h':=by
 simp only[Dw]at d;split at d
 ·rename_i e k a k' b hu K L
  split at d
  ·rename_i z M
   obtain⟨h1,h2⟩:=Aq d;obtain⟨B,h4⟩:=Aq h2;cases h4;simp only[cu]at h1 B;obtain⟨u,O,F,Q,_,_,S,i,i1,i2,i3⟩:=Aa2 hT f w M;obtain⟨c1,c2⟩:=Uk (S p) O;rw[<-F]at c1 c2;have d1:EV.Tg p (rep z b):=(H5 p _).2 fun v C=>(H5 p _).1 c1 v (Asy C)
   have d2:(rep z b).all EV.one=true:=by rw[dL];exact fun v C=>c2 v (Asy C)
   obtain⟨f',w',D,U,V,W⟩:=Alh (P:=P) G H e d1 d2;refine⟨f',w',_,?_,.inl rfl,U,V,W⟩;have X:IntKind.i64.wrap (Int.ofNat a)=a:=Aij .i64 rfl _ 9223372036854775808 rfl rfl (by simp only[aW];omega) (by simp only[aW];omega);have wb:IntKind.i64.wrap (Int.ofNat b)=b:=Aij .i64 rfl _ 9223372036854775808 rfl rfl (by simp only[aW];omega) (by simp only[aW];omega);have A:¬((2:Int)^48<(i.bytes:Int)*b):=by
    have:i.bytes*b<=1048576*65536:=fP i3 B;have e:((i.bytes*b:Nat):Int)=(i.bytes:Int)*b:=by simp
    omega
   have m:¬(roomBytes<b*i.bytes):=by
    have:b*i.bytes<=65536*1048576:=fP B i3;unfold roomBytes;omega
   simp only[execOp,J,Instr.makeSlice,Bj E K,Bj E L,Cj,Sem.run_bind,Dy hT w hu,aI,asInt,aS];have Y:(decide ((b:Int)<0)||decide ((i.bytes:Int)*b>2^48)||decide ((a:Int)<0)||decide ((a:Int)>b))=false:=by
    simp only[Bool.or_eq_false_iff,cS];exact⟨⟨⟨by omega,A⟩,by omega⟩,by omega⟩
   simp only[typeInfo,asIntOf,Sem.run_bind,fF,i1,aI,aS,X,wb];rw[Y];simp only[aU,aY,askRoom,bK,Sem.run_bind,gt_iff_lt,m,aS,aI,sizeOf,typeInfo,fF,i1,i2];by_cases j:b*z.length=0
   ·have Z:rep z b = []:=bW.1 (by rw[Akw];exact j)
    rw[Z]at D;have e0:∀g:Nat->Value,Array.map g (Array.range 0)=(Bn f []).toArray:=fun g=>by simp[Bn]
    simp only[j,bG,Sem.run_bind,aS,aI];rw[e0,D];simp
   ·rw[aK j]
    simp only[Sem.run_bind,Q,aS,aI,S9,<-F];rw[A6p f z b j,D];simp
  ·cases d
 ·cases d
end
end Go.Ev
