import GoSem.Step
import Derived.Control
import Derived.Calls
import Derived.Laws.CopyRow
import Derived.Great.FillDense
set_option linter.all false
namespace Go.Ev
def aA:=@decide_false
def aB:=@decide_true
def aC.{u}:=@List.getElem?_eq_getElem.{u}
def aD:=@not_true_eq_false
def aE:=@Nat.le_refl
def aF.{u}:=@if_neg.{u}
def aG.{u}:=@if_pos.{u}
def aH.{u}:=@List.length_append.{u}
def aI:=@Result.andThen_ok
def aJ:=@Nat.eq_of_beq_eq_true
def aK:=@Nat.lt_of_lt_of_le
def aL:=@Nat.lt_succ_self
def aM:=@decide_eq_true
def aN:=@not_false_eq_true
def aO.{u}:=@List.mem_singleton.{u}
def aP:=@decide_eq_false
def aQ:=@decide_eq_true_eq
def aR:=@Bool.and_eq_true
def aS:=@Nat.ble_eq_true_of_le
def aT.{u}:=@List.mem_cons_of_mem.{u}
def aU.{u}:=@List.mem_of_mem_drop.{u}
def aV:=@Sem.run_pure
def aW.{u}:=@List.getElem?_eq_some_iff.{u}
def aX.{u}:=@List.mem_cons_self.{u}
def aY:=@Int.eq_ofNat_of_zero_le
def aZ:=@Int.toNat_natCast
def ak:=@Bool.false_eq_true
def av.{u}:=@List.getElem_mem.{u}
def bA:=@Bool.false_and
def bB:=@Int.ofNat_eq_natCast
def bD.{u}:=@if_false.{u}
def bF:=@Bool.true_and
def bG.{u,v}:=@List.getElem?_map.{u,v}
def bH.{u}:=@List.length_cons.{u}
def bI:=@Nat.le_of_ble_eq_true
def bJ:=@Nat.zero_add
def bK.{u}:=@List.length_set.{u}
def bL.{u}:=@List.getElem?_cons_zero.{u}
def bM.{u}:=@if_true.{u}
def bN:=@Nat.le_trans
def bO.{u}:=@List.mem_append.{u}
def bP.{u}:=@List.eq_of_mem_replicate.{u}
def bQ.{u}:=@List.length_replicate.{u}
def bR.{u}:=@List.take_of_length_le.{u}
def bS:=@Nat.lt_irrefl
def bT:=@Int.mul_le_mul_of_nonneg_left
def bU.{u}:=@List.mem_cons.{u}
def bV.{u}:=@List.getElem?_append_right.{u}
def bW.{u}:=@List.length_drop.{u}
def bX.{u,v}:=@List.length_map.{u,v}
def bY.{u}:=@List.mem_of_getElem?.{u}
def bZ:=@Nat.mul_one
def bc.{u,v}:=@List.mem_map.{u,v}
def bh.{u}:=@List.getElem?_append_left.{u}
def bm.{u}:=@List.getElem?_cons_succ.{u}
def br:=@Nat.not_lt_zero
def b9.{u}:=@List.mem_of_mem_take.{u}
def cA.{u}:=@List.getElem?_eq_none.{u}
def cB.{u}:=@List.nodup_cons.{u}
def cC.{u}:=@List.flatten_cons.{u}
def cD.{u}:=@List.length_take.{u}
def cF:=@step_lone_go
def cI.{u}:=@List.getElem?_toArray.{u}
def cJ.{u}:=@Array.getElem?_toList.{u}
def cK.{u}:=@List.mem_iff_getElem?.{u}
def cL:=@Nat.lt_succ_iff_lt_or_eq
def cM:=@List.getElem?_range
def cN.{u}:=@List.take_length.{u}
def cO:=@Nat.beq_refl
def cP.{u}:=@Array.getElem?_eq_some_iff.{u}
def cQ:=@Nat.zero_le
def cR.{u}:=@List.length_eq_zero_iff.{u}
def cS:=@Bool.and_false
def cU.{u}:=@Option.some.injEq.{u}
def cV.{u}:=@Ne.symm.{u}
def cW.{u}:=@List.append_assoc.{u}
def cX.{u,v}:=@List.map_append.{u,v}
def cY:=@decide_eq_false_iff_not
def cZ:=@Nat.lt_or_ge
def cb:=@Int.le_refl
def cj.{u,v}:=@List.map_congr_left.{u,v}
def cm.{u}:=@List.mem_or_eq_of_mem_set.{u}
def cq.{u}:=@List.nodup_nil.{u}
def cr.{u}:=@Array.getElem?_eq_getElem.{u}
def cu:=@Bool.not_false
def dA:=@List.range_succ
def dB.{u}:=@List.eq_nil_of_length_eq_zero.{u}
def dC.{u}:=@List.drop_zero.{u}
def dD.{u}:=@List.getElem?_set.{u}
def dE.{u}:=@List.drop_eq_getElem_cons.{u}
def dF:=@Int.negSucc_eq
def dG:=@List.mem_range
def dH.{u}:=@Array.mem_toList_iff.{u}
def dI:=@Nat.eq_zero_or_pos
def dJ:=@Nat.ble_eq
def dK.{u}:=@List.append_nil.{u}
def dL:=@Nat.add_zero
def dM.{u}:=@List.all_eq_true.{u}
def dN:=@of_decide_eq_true
def dO.{u}:=@List.getElem?_drop.{u}
def dP:=@Int.mul_nonneg
def dQ.{u,v}:=@List.map_cons.{u,v}
def dR:=@Bool.not_true
def dS.{u}:=@List.nil_append.{u}
def dT:=@Bool.or_eq_true
def dU.{u}:=@List.mem_filter.{u}
def dV:=@Nat.zero_testBit
def dW.{u}:=@List.take_succ_eq_append_getElem.{u}
def dX.{u}:=@List.drop_of_length_le.{u}
def dY.{u}:=@List.ext_getElem?.{u}
def dZ.{u}:=@List.flatten_append.{u}
def dc.{u}:=@List.size_toArray.{u}
def dh.{u}:=@List.drop_drop.{u}
def eA.{u,v}:=@Option.map_some.{u,v}
def eC:=@Nat.xor_lt_two_pow
def eD:=@decide_eq_decide
def eH.{u}:=@Array.toArray_toList.{u}
def eI.{u}:=@List.replicate_succ.{u}
def eJ.{u}:=@Array.getD_eq_getD_getElem?.{u}
def eK:=@Bool.eq_iff_iff
def eO:=@Nat.min_eq_left
def eP.{u}:=@List.filter_cons.{u}
def eQ.{u}:=@Array.ext'.{u}
def eR:=@Nat.pow_succ
def eT.{u}:=@List.filter_append.{u}
def eU.{u}:=@List.length_filter_le.{u}
def eV.{u}:=@List.set_append_right.{u}
def eW.{u}:=@List.getElem?_take.{u}
def eX:=@List.length_range
def eh.{u}:=@List.take_add_one.{u}
def fC:=@Int.mul_le_mul_of_nonneg_right
def fD.{u}:=@List.take_append_of_le_length.{u}
def fF.{u}:=@List.take_left.{u}
def fG:=@Nat.div_div_eq_div_mul
def fH:=@Nat.le_of_succ_le_succ
def fI.{u,v}:=@List.map_replicate.{u,v}
def fJ:=@decide_eq_true_iff
def fK:=@Bool.true_eq_false
def fL:=@Nat.succ_mul
def fM.{u}:=@List.length_nil.{u}
def fN:=@Classical.em
def fO:=@Int.fdiv_eq_ediv_of_nonneg
def fP:=@Bool.or_eq_false_iff
def fQ:=@Nat.div_lt_of_lt_mul
def fR:=@Nat.pow_le_pow_right
def fS:=@Nat.shiftRight_eq_div_pow
def fT:=@List.range'_succ
def fU:=@Nat.mod_eq_of_lt
def fV:=@Int.toNat_of_nonneg
def fW.{u}:=@List.take_succ_cons.{u}
def fZ:=@Nat.add_mul
def fm:=@run_program
def gA:=@Nat.zero_mul
def gC:=@Nat.mul_comm
def gE.{u}:=@Array.ext_getElem?.{u}
def gF.{u}:=@Option.some.inj.{u}
def gG:=@Nat.add_sub_cancel
def gH.{u}:=@List.drop_left.{u}
def gI:=@Nat.mul_le_mul
def gJ:=@Int.lt_or_le
def gK:=@Nat.sub_self
def gN:=@false_and
def gO:=@true_and
variable {b:Bool}{a x:Operand}{i n off dflt:Nat}{p q:Nat->Prop}{ρ:Operand->Value}{k k':IntKind}{op:BinOp}{t:TypeId}{α:Type}{P:Program}
noncomputable section
inductive Tr (α:Type) where
 | nil
 | node (l:Tr α) (v:Option α) (r:Tr α)
noncomputable def Bf {α:Type}(b:Bool)(x y:α):α:=@Bool.rec (fun _=>α) y x b
noncomputable def Tr.get {α:Type}(t:Tr α):Nat->Option α:=
 @Tr.rec α (fun _=>Nat->Option α) (fun _=>none)
  (fun _ v _ d e i=>@Bool.rec (fun _=>Option α) (@Bool.rec (fun _=>Option α) (e (Nat.pred (Nat.div i 2))) (d (Nat.div i 2)) (Nat.beq (Nat.land i 1) 1)) v (Nat.beq i 0)) t
noncomputable def Tr.lf {α:Type}(x:Option α)(r:Tr α)(t:Tr α):Tr α:=@Tr.rec α (fun _=>Tr α) .nil (fun a b c _ _=>.node (.node a b c) x r) t
noncomputable def Tr.rt {α:Type}(l:Tr α)(x:Option α)(t:Tr α):Tr α:=@Tr.rec α (fun _=>Tr α) .nil (fun a b c _ _=>.node l x (.node a b c)) t
noncomputable def Tr.set {α:Type}(n:Nat):Tr α->Nat->Option α->Tr α:=
 @Nat.rec (fun _=>Tr α->Nat->Option α->Tr α) (fun t _ _=>t)
  (fun _ d t i v=>@Tr.rec α (fun _=>Tr α)
   (@Bool.rec (fun _=>Tr α) (@Bool.rec (fun _=>Tr α) (Tr.rt .nil none (d .nil (Nat.pred (Nat.div i 2)) v)) (Tr.lf none .nil (d .nil (Nat.div i 2) v)) (Nat.beq (Nat.land i 1) 1)) (.node .nil v .nil) (Nat.beq i 0))
   (fun l x r _ _=>@Bool.rec (fun _=>Tr α) (@Bool.rec (fun _=>Tr α) (Tr.rt l x (d r (Nat.pred (Nat.div i 2)) v)) (Tr.lf x r (d l (Nat.div i 2) v)) (Nat.beq (Nat.land i 1) 1)) (.node l v r) (Nat.beq i 0)) t) n
noncomputable def Tr.put {α:Type}(t:Tr α)(i:Nat)(v:Option α):Tr α:=Tr.set (Nat.succ (Nat.log2 (Nat.succ i))) t i v
inductive EV where
 | int (k:IntKind) (n:Int)
 | bool (b:Bool)
 | str (s:ByteArray)
 | ptr (i off:Nat)
 | E3
 | slice (i off len room:Nat) (op:Bool)
 | tail (i off poff:Nat)
 | Ao
 | odd (a:Addr)
 | map (i:Nat)
 | Apt
 | chan (i:Nat)
 | Ai4
 | func (f:Nat) (first captured:List EV)
 | yld (l:Nat)
 | Amp
 | Af8
 | agg (l:List EV)
 | tuple (l:List EV)
 deriving Inhabited
def EV.cells:EV->List EV
 | .agg l=>l
 | v=>[v]
def EV.plain:EV->Bool
 | .tuple _=>false
 | _=>true
inductive Ec where
 | cells (l:List EV) (elem:TypeId)
 | vec (l:List EV) (elem:TypeId) (size:Nat)
 | map (es:List (EV × EV))
 | chan (cap:Nat) (buf:List EV)
 | loop (state:LoopState) (pending:Option Code) (fn:FuncId) (n:Nat) (tmps:Tr EV) (params:List Tmp) (assign body:Code) (defers:Nat)
 | deferred (open_:Bool)
 | view (ws:List (Nat × List EV)) (r:Obj)
structure Ab where
 t:Tr Ec
 next:Nat
 mw:Nat
def Ab.get:Ab->Nat->Option Ec
 | ⟨t,_,_⟩,i=>t.get i
def Ab.put:Ab->Nat->Ec->Ab
 | ⟨t,n,m⟩,i,o=>⟨t.put i (some o),n,Bf (Nat.ble i m) i m⟩
def Ab.del:Ab->Nat->Ab
 | ⟨t,n,m⟩,i=>⟨t.put i none,n,Bf (Nat.ble i m) i m⟩
def Ab.new:Ab->Ec->Ab
 | ⟨t,n,m⟩,o=>⟨t.put n (some o),Nat.succ n,m⟩
structure Aob where
 fn:Nat
 n:Nat
 tmps:Tr EV
 todo:List Item
 defers:List Nat
 ret:Bool
 Dx:Option Nat
structure Jg where
 fr:Aob
 h:Ab
structure Kh where
 fn:Nat->Option Func
 Za:Nat->Option TypeDesc
 size:Nat->Option Nat
 zero:Nat->Option (List EV)
 agg:Nat->Option Bool
 eqs:Nat->Option (List Nat)
 key:Nat->Bool
abbrev Ah:=Nat->List EV->Ab->Option (EV × Ab)
def Bmb:Value->Option EV
 | .int k n=>some (.int k n)
 | .bool b=>some (.bool b)
 | .string s=>some (.str s)
 | .pointer none=>some .E3
 | .slice none 0 0=>some .Ao
 | .map none=>some .Apt
 | .chan none=>some .Ai4
 | .nilFunc=>some .Amp
 | .nilIface=>some .Af8
 | _=>none
def Blp:List Value->Option (List EV)
 | []=>some []
 | v::r=>match Bmb v with
  | some x=>match Blp r with
   | some y=>some (x::y)
   | none=>none
  | none=>none
def ofV:Value->Option EV
 | .agg cs=>match Blp cs.toList with|some l=>some (.agg l)|none=>none
 | .tuple cs=>match cs.toList with | []=>some (.tuple [])|_=>none
 | v=>Bmb v
abbrev Ax:=Tr EV
def tmp(tm:Ax)(t:Nat):EV:=match tm.get t with|some v=>v|none=>.tuple []
def Cm(tm:Ax):Operand->Option EV
 | .tmp t=>some (match tm.get t with|some v=>v|none=>.tuple [])
 | .const v=>ofV v
 | .global _=>none
 | .func f=>some (.func f [] [])
def O1(tm:Ax):List Operand->Option (List EV)
 | []=>some []
 | x::r=>match Cm tm x with
  | some a=>match O1 tm r with
   | some b=>some (a::b)
   | none=>none
  | none=>none
def Tj(n:Nat)(tm:Ax)(d:Option Tmp)(v:EV):Ax:=
 match d with
 | none=>tm
 | some d=>Bf (Nat.ble (Nat.succ d) n) (tm.put d (some v)) tm
def len(l:List EV):Nat:=match l with | []=>0|_::r=>Nat.succ (len r)
def Ady:List EV->Nat->List EV
 | [],_=>[]
 | a::r,n=>Bf (Nat.beq n 0) (a::r) (Ady r (Nat.pred n))
def takeN:List EV->Nat->Option (List EV)
 | [],n=>Bf (Nat.beq n 0) (some []) none
 | a::r,n=>Bf (Nat.beq n 0) (some []) (match takeN r (Nat.pred n)with|some x=>some (a::x)|none=>none)
def Ld:List EV->List EV->Option (List EV)
 | l,[]=>some l
 | a::r,v::vs=>match Ld r vs with|some x=>some (v::x)|none=>none
 | [],_::_=>none
def Gw:List EV->Nat->List EV->Option (List EV)
 | [],off,vs=>Bf (Nat.beq off 0) (Ld [] vs) none
 | a::r,off,vs=>Bf (Nat.beq off 0) (Ld (a::r) vs) (match Gw r (Nat.pred off) vs with|some x=>some (a::x)|none=>none)
def Ara(ws:List (Nat × List EV))(off:Nat):Option (Nat × List EV):=
 match ws with
 | []=>none
 | (o,l)::r=>Bf (Bf (Nat.ble o off) (Nat.ble (Nat.succ (Nat.sub off o)) (len l)) false) (some (o,l)) (Ara r off)
def K0(h:Ab)(i off n:Nat):Option (List EV):=
 match h.get i with
 | some (.cells l _)=>takeN (Ady l off) n
 | some (.vec l _ _)=>takeN (Ady l off) n
 | some (.view ws _)=>match Ara ws off with|some (o,l)=>takeN (Ady l (Nat.sub off o)) n|none=>none
 | _=>none
def Oq(h:Ab)(i off:Nat)(vs:List EV):Option Ab:=
 match h.get i with
 | some (.cells l t)=>match Gw l off vs with|some l'=>some (h.put i (.cells l' t))|none=>none
 | some (.vec l t s)=>match Gw l off vs with|some l'=>some (h.put i (.vec l' t s))|none=>none
 | _=>none
def lid:IntKind->Nat
 | .u8=>256 | .u16=>65536 | .u32=>4294967296 | .u64=>18446744073709551616 | .i8=>128 | .i16=>32768 | .i32=>2147483648 | .i64=>9223372036854775808
def floor:IntKind->Nat
 | .i8=>128 | .i16=>32768 | .i32=>2147483648 | .i64=>9223372036854775808|_=>0
def Dz(k:IntKind)(n:Int):Int:=
 match n with
 | .ofNat m=>Bf (Nat.ble (Nat.succ m) (lid k)) (.ofNat m) (k.wrap (.ofNat m))
 | .negSucc m=>Bf (Nat.ble (Nat.succ m) (floor k)) (.negSucc m) (k.wrap (.negSucc m))
def T4:IntKind->Nat
 | .u8=>0 | .u16=>1 | .u32=>2 | .u64=>3 | .i8=>4 | .i16=>5 | .i32=>6 | .i64=>7
def ltB:Int->Int->Bool
 | .ofNat a,.ofNat b=>Nat.ble (Nat.succ a) b
 | .ofNat _,.negSucc _=>false
 | .negSucc _,.ofNat _=>true
 | .negSucc a,.negSucc b=>Nat.ble (Nat.succ b) a
def eqB:Int->Int->Bool
 | .ofNat a,.ofNat b=>Nat.beq a b
 | .negSucc a,.negSucc b=>Nat.beq a b
 | _,_=>false
def Bmn:List UInt8->List UInt8->Bool
 | [],[]=>true
 | a::r,b::s=>Bf (Nat.beq a.toNat b.toNat) (Bmn r s) false
 | _,_=>false
def Ao6:EV->EV->Option Bool
 | .int k a,.int k' b=>Bf (Nat.beq (T4 k) (T4 k')) (some (eqB a b)) none
 | .str a,.str b=>some (Bmn a.data.toList b.data.toList)
 | .bool a,.bool b=>some (Bf a b (Bf b false true))
 | _,_=>none
def F1:List EV->List EV->Option Bool
 | [],[]=>some true
 | a::r,b::s=>match Ao6 a b with
  | some true=>F1 r s
  | some false=>match F1 r s with|some _=>some false|none=>none
  | none=>none
 | _,_=>none
def shaped:List Nat->List EV->Bool
 | [],[]=>true
 | b::s,.int _ _::l=>Bf (Nat.beq b 0) (shaped s l) false
 | b::s,.bool _::l=>Bf (Nat.beq b 1) (shaped s l) false
 | b::s,.str _::l=>Bf (Nat.beq b 2) (shaped s l) false
 | _,_=>false
def Axy(T:Kh)(t:TypeId):EV->EV->Option Bool
 | .agg a,.agg b=>match T.eqs t with|some sh=>Bf (shaped sh a) (F1 a b) none|none=>none
 | .bool a,.bool b=>match T.Za t with
  | some .bool=>some (Bf a b (Bf b false true))
  | _=>none
 | .E3,.E3=>match T.Za t with|some (.pointer _)=>some true|_=>none
 | .E3,.ptr _ _=>match T.Za t with|some (.pointer _)=>some false|_=>none
 | .ptr _ _,.E3=>match T.Za t with|some (.pointer _)=>some false|_=>none
 | .ptr i o,.ptr j p=>match T.Za t with|some (.pointer e)=>(match T.size e with|some _=>Bf (Nat.beq i j) (Bf (Nat.beq o p) (some true) none) none|none=>none)|_=>none
 | .Ao,.Ao=>match T.Za t with|some (.slice _)=>some true|_=>none
 | .slice ..,.Ao=>match T.Za t with|some (.slice _)=>some false|_=>none
 | .tail ..,.Ao=>match T.Za t with|some (.slice _)=>some false|_=>none
 | _,_=>none
def Bj0(op:BinOp)(k:IntKind)(a b:Int):Option EV:=
 match op with
 | .add=>some (.int k (Dz k (Int.add a b)))
 | .sub=>some (.int k (Dz k (Int.sub a b)))
 | .mul=>some (.int k (Dz k (Int.mul a b)))
 | .quo=>Bf (eqB b 0) none (some (.int k (Dz k (a.tdiv b))))
 | .rem=>Bf (eqB b 0) none (some (.int k (a.tmod b)))
 | .and=>match a,b with | .ofNat a,.ofNat b=>some (.int k (Dz k (.ofNat (Nat.land a b))))|_,_=>none
 | .or=>match a,b with | .ofNat a,.ofNat b=>some (.int k (Dz k (.ofNat (Nat.lor a b))))|_,_=>none
 | .xor=>match a,b with | .ofNat a,.ofNat b=>some (.int k (Dz k (.ofNat (Nat.xor a b))))|_,_=>none
 | .lss=>some (.bool (ltB a b))
 | .leq=>some (.bool (Bf (ltB b a) false true))
 | .gtr=>some (.bool (ltB b a))
 | .geq=>some (.bool (Bf (ltB a b) false true))
 | .eql=>some (.bool (eqB a b))
 | .neq=>some (.bool (Bf (eqB a b) false true))
 | _=>none
def A95(op:BinOp)(k:IntKind)(a:Int)(b:Nat):Option EV:=
 match op with
 | .shl=>some (.int k (Dz k (Int.mul a (.ofNat (Nat.pow 2 (Bf (Nat.ble b k.bits) b k.bits))))))
 | .shr=>match a with
  | .ofNat a=>some (.int k (.ofNat (Nat.shiftRight a (Bf (Nat.ble b k.bits) b k.bits))))
  | .negSucc _=>some (.int k (a.fdiv (.ofNat (Nat.pow 2 (Bf (Nat.ble b k.bits) b k.bits)))))
 | _=>none
def A3d:BinOp->Bool
 | .shl=>true
 | .shr=>true
 | _=>false
def bin(T:Kh)(op:BinOp)(t:TypeId)(x y:EV):Option EV:=
 match x,y with
 | .int k a,.int k' b=>Bf (A3d op) (match b with | .ofNat b=>A95 op k a b | .negSucc _=>none)
  (Bf (Nat.beq (T4 k) (T4 k')) (Bj0 op k a b) none)
 | x,y=>match op with
  | .eql=>match Axy T t x y with|some b=>some (.bool b)|none=>none
  | .neq=>match Axy T t x y with|some b=>some (.bool (Bf b false true))|none=>none
  | _=>none
def fill(place:Nat->Option (Nat × Nat))(cells:List EV):List (Nat × EV)->Option (List EV)
 | []=>some cells
 | (i,v)::rest=>
  match place i with
  | none=>none
  | some (off,size)=>Bf (v.plain) (Bf (Nat.beq (len v.cells) size) (match Gw cells off v.cells with
   | some c=>fill place c rest
   | none=>none) none) none
def Ad2(tm:Ax):List (Nat × Operand)->Option (List (Nat × EV))
 | []=>some []
 | (i,x)::r=>match Cm tm x with
  | some a=>match Ad2 tm r with
   | some b=>some ((i,a)::b)
   | none=>none
  | none=>none
def rep(l:List EV):Nat->List EV
 | 0=>[]
 | n+1=>l++rep l n
def bound(x:Option EV)(hi dflt:Nat):Option Nat:=
 match x with
 | none=>some dflt
 | some (.int _ (.ofNat n))=>Bf (Nat.ble n hi) (some n) none
 | _=>none
def slc(x:EV)(size:Nat)(lo hi d:Option EV):Option EV:=
 match x with
 | .slice i off len room op=>
  match d with
  | none=>
   match bound hi room len with
   | none=>none
   | some h=>match bound lo h 0 with
    | none=>none
    | some l=>
     Bf op
      (Bf (Nat.beq l 0) (some (.slice i off h room true))
       (Bf (Nat.ble (Nat.succ l) room) (some (.slice i (Nat.add off (Nat.mul l size)) (Nat.sub h l) (Nat.sub room l) true))
        (Bf (Nat.beq l room) (Bf (Nat.beq h l) (some (.tail i (Nat.add off (Nat.mul l size)) off)) none) none)))
      (Bf (Nat.ble l room) (some (.slice i (Bf (Nat.beq room l) off (Nat.add off (Nat.mul l size))) (Nat.sub h l) (Nat.sub room l) false)) none)
  | some _=>
   match bound d room 0,hi with
   | some m,some _=>match bound hi m 0 with
    | none=>none
    | some h=>match bound lo h 0 with
     | none=>none
     | some l=>some (.slice i (Bf (Nat.beq m l) off (Nat.add off (Nat.mul l size))) (Nat.sub h l) (Nat.sub m l) false)
   | _,_=>none
 | .Ao=>
  match d with
  | none=>
   match bound hi 0 0 with
   | none=>none
   | some h=>match bound lo h 0 with
    | none=>none
    | some _=>some .Ao
  | some _=>none
 | _=>none
def Afl(tm:Ax):Option Operand->Option (Option EV)
 | none=>some none
 | some x=>match Cm tm x with
  | some v=>some (some v)
  | none=>none
def lenOf:EV->Option Nat
 | .Ao=>some 0
 | .slice _ _ n _ _=>some n
 | .tail ..=>some 0
 | .odd _=>some 0
 | _=>none
def cellsOf(h:Ab)(size n:Nat):EV->Option (List EV)
 | .Ao=>Bf (Nat.beq n 0) (some []) none
 | .slice i off _ _ _=>Bf (Nat.beq n 0) (some []) (K0 h i off (Nat.mul n size))
 | .tail ..=>Bf (Nat.beq n 0) (some []) none
 | _=>none
def append(T:Kh)(st:TypeId)(s x:EV)(h:Ab):Option (EV × Ab):=
 match T.Za st with
 | some (.slice e)=>match T.size e,T.zero e with
  | some size,some _=>match lenOf x with
   | some n=>Bf (Nat.beq n 0)
    (match s with
     | .slice _ _ d room _=>Bf (Nat.ble d room) (some (s,h)) none
     | .Ao=>some (s,h)
     | _=>none)
    (Bf (Nat.ble n 65536) (match cellsOf h size n x with
    | some new=>
     (match s with
     | .Ao=>some (.slice h.next 0 n n true,h.new (.vec new e size))
     | .slice i off d room op=>Bf (Nat.ble d 1048576) (match cellsOf h size d s with
      | some By=>
       Bf op
        (Bf (Nat.beq off 0) (Bf (Nat.beq room d) (match h.get i with
         | some (.vec l e' s')=>Bf (Nat.beq (len l) (Nat.mul d size)) (Bf (Nat.beq s' size) (Bf (Nat.beq e' e)
          (some (.slice h.next 0 (Nat.add d n) (Nat.add d n) true,(h.del i).new (.vec (By++new) e size))) none) none) none
         | _=>none) none) none)
        (Bf (Nat.ble (Nat.add d n) room) none (some (.slice h.next 0 (Nat.add d n) (Nat.add d n) true,h.new (.vec (By++new) e size))))
      | none=>none) none
     | _=>none)
    | none=>none) none)
   | none=>none
  | _,_=>none
 | _=>none
def Ayw:EV->EV->Option Bool
 | .agg a,.agg b=>F1 a b
 | .int k a,.int k' b=>Bf (Nat.beq (T4 k) (T4 k')) (some (eqB a b)) none
 | _,_=>none
def Q1(T:Kh)(t:TypeId):EV->Bool
 | .agg a=>Bf (T.key t) (match T.eqs t with
  | some sh=>Bf (shaped sh a) (match F1 a a with|some _=>true|none=>false) false
  | none=>false) false
 | .int k _=>match T.Za t with
  | some (.int k')=>Nat.beq (T4 k) (T4 k')
  | _=>false
 | _=>false
def J4(k:EV):List (EV × EV)->Nat->Option (Option (Nat × EV))
 | [],_=>some none
 | (a,b)::r,i=>match Ayw k a with
  | some true=>some (some (i,b))
  | some false=>J4 k r (Nat.succ i)
  | none=>none
def Agv(d:Bool)(k:IntKind)(a:Int):List EV->Option EV
 | []=>some (.int k a)
 | .int _ b::r=>Agv d k (Bf (Bf d (ltB a b) (ltB b a)) b a) r
 | _=>none
def Bup(l:List UInt8):Nat:=match l with | []=>0|_::r=>Nat.succ (Bup r)
def builtin(T:Kh)(b:Builtin)(y:Array TypeId)(args:List EV)(h:Ab):Option (EV × Ab):=
 match b,args with
 | .append,[s,x]=>match y.toList with | [t,u]=>(match T.Za u with|some (.slice _)=>append T t s x h|_=>none)|_=>none
 | .len,[x]=>match y.toList with
  | [t]=>match T.Za t,x with
   | some (.array n _),_=>some (.int .i64 (.ofNat n),h)
   | some (.slice _),x=>match lenOf x with|some n=>some (.int .i64 (.ofNat n),h)|none=>none
   | some .string,.str s=>some (.int .i64 (.ofNat (Bup s.data.toList)),h)
   | some (.chan ..),.chan i=>match h.get i with|some (.chan _ buf)=>some (.int .i64 (.ofNat (len buf)),h)|_=>none
   | _,_=>none
  | _=>none
 | .copy,[d,s]=>match y.toList with
  | [t,u]=>match T.Za t,T.Za u with
   | some (.slice e),some (.slice _)=>match T.size e,lenOf d,lenOf s with
    | some size,some dn,some A=>
     let n:=Bf (Nat.ble A dn) A dn
     Bf (Nat.beq n 0) none (match cellsOf h size n s with
     | some cs=>(match d with
      | .slice i off _ _ _=>match Oq h i off cs with|some h'=>some (.int .i64 (.ofNat n),h')|none=>none
      | _=>none)
     | none=>none)
    | _,_,_=>none
   | _,_=>none
  | _=>none
 | .delete,[m,k]=>match y.toList with
  | t::_=>match T.Za t,m with
   | some (.map B _),.map i=>Bf (Q1 T B k) (match h.get i with
    | some (.map es)=>match J4 k es 0 with
     | some (some (j,_))=>some (.tuple [],h.put i (.map (es.eraseIdx j)))
     | some none=>some (.tuple [],h.put i (.map es))
     | none=>none
    | _=>none) none
   | _,_=>none
  | _=>none
 | .min,.int k a::l=>match Agv false k a l with|some v=>some (v,h)|none=>none
 | .max,.int k a::l=>match Agv true k a l with|some v=>some (v,h)|none=>none
 | _,_=>none
def part(T:Kh)(t:TypeId)(cs:List EV)(off:Nat):Option EV:=
 match T.agg t with
 | some true=>(match T.size t with
  | some n=>match takeN (Ady cs off) n with|some l=>some (.agg l)|none=>none
  | none=>none)
 | some false=>(match Ady cs off with|v::_=>some v | []=>none)
 | none=>none
def A8o(l:List Field)(i:Nat):Option Field:=
 match l with
 | []=>none
 | a::r=>Bf (Nat.beq i 0) (some a) (A8o r (Nat.pred i))
def zeroOf(T:Kh)(t:TypeId):Option EV:=
 match T.zero t with
 | some z=>match T.agg t with
  | some true=>some (.agg z)
  | some false=>(match z with | [v]=>some v|_=>none)
  | none=>none
 | none=>none
def placesOf(T:Kh):List Field->Option (List (Nat × Nat))
 | []=>some []
 | f::r=>match T.size f.type with
  | some n=>match placesOf T r with
   | some l=>some ((f.offset,n)::l)
   | none=>none
  | none=>none
def A6k(l:List (Nat × Nat))(i:Nat):Option (Nat × Nat):=
 match l with
 | []=>none
 | a::r=>Bf (Nat.beq i 0) (some a) (A6k r (Nat.pred i))
def Bkm(l:List UInt8)(i:Nat):Option UInt8:=
 match l with
 | []=>none
 | a::r=>Bf (Nat.beq i 0) (some a) (Bkm r (Nat.pred i))
def Fz(T:Kh)(tm:Ax)(op:Op):Option EV:=
 match op with
 | .move x=>Cm tm x
 | .assign x=>Cm tm x
 | .pick c a b=>match Cm tm c with
  | some (.bool true)=>Cm tm a
  | some (.bool false)=>Cm tm b
  | _=>none
 | .binOp op t x y _=>match Cm tm x with
  | some a=>match Cm tm y with
   | some b=>bin T op t a b
   | none=>none
  | none=>none
 | .unOp .not _ x=>match Cm tm x with
  | some (.bool b)=>some (.bool (Bf b false true))
  | _=>none
 | .unOp .neg _ x=>match Cm tm x with
  | some (.int k n)=>some (.int k (Dz k (Int.sub 0 n)))
  | _=>none
 | .nilCheck x=>match Cm tm x with
  | some (.ptr i o)=>some (.ptr i o)
  | _=>none
 | .fieldAddr s x f=>match Cm tm x with
  | some (.ptr i off)=>match T.Za s with
   | some (.struct fields)=>match A8o fields.toList f with
    | some fd=>match T.size fd.type with
     | some n=>Bf (Nat.beq n 0) none (some (.ptr i (Nat.add off fd.offset)))
     | none=>none
    | none=>none
   | _=>none
  | _=>none
 | .indexAddr t x ix=>match Cm tm ix with
  | some (.int _ (.ofNat n))=>match T.Za t,Cm tm x with
   | some (.array len e),some (.ptr i off)=>match T.size e with
    | some s=>Bf (Nat.ble (Nat.succ n) len) (some (.ptr i (Nat.add off (Nat.mul n s)))) none
    | none=>none
   | some (.slice e),some (.slice i off len _ _)=>match T.size e with
    | some s=>Bf (Nat.ble (Nat.succ n) len) (some (.ptr i (Nat.add off (Nat.mul n s)))) none
    | none=>none
   | _,_=>none
  | _=>none
 | .index t x ix=>match Cm tm ix with
  | some (.int _ (.ofNat n))=>match T.Za t,Cm tm x with
   | some (.array len e),some (.agg cs)=>match T.size e with
    | some s=>Bf (Nat.ble (Nat.succ n) len) (part T e cs (Nat.mul n s)) none
    | none=>none
   | some .string,some (.str s)=>match Bkm s.data.toList n with
    | some b=>some (.int .u8 (.ofNat b.toNat))
    | none=>none
   | _,_=>none
  | _=>none
 | .field t x f=>match T.Za t,Cm tm x with
  | some (.struct fields),some (.agg cs)=>match A8o fields.toList f with
   | some fd=>part T fd.type cs fd.offset
   | none=>none
  | _,_=>none
 | .convert src dst x=>match T.Za src,T.Za dst,Cm tm x with
  | some _,some (.int k),some (.int _ n)=>some (.int k (Dz k n))
  | _,_,_=>none
 | .extract x ix=>match Cm tm x with
  | some (.tuple l)=>match Ady l ix with|v::_=>some v | []=>none
  | _=>none
 | .slice t x lo hi d=>
  match Afl tm lo,Afl tm hi,Afl tm d with
  | some lo,some hi,some d=>match T.Za t,Cm tm x with
   | some (.array n e),some (.ptr i off)=>match T.size e with
    | some s=>slc (.slice i off n n false) s lo hi d
    | none=>none
   | some (.slice e),some v=>match T.size e with
    | some s=>slc v s lo hi d
    | none=>none
   | _,_=>none
  | _,_,_=>none
 | .build t ps=>match T.zero t,Ad2 tm ps.toList,T.Za t with
  | some z,some l,some (.struct fields)=>match placesOf T fields.toList with
   | some ps=>match fill (A6k ps) z l with
    | some c=>some (.agg c)
    | none=>none
   | none=>none
  | some z,some l,some (.array _ e)=>match T.size e with
   | some s=>match fill (fun i=>some (Nat.mul i s,s)) z l with
    | some c=>some (.agg c)
    | none=>none
   | none=>none
  | _,_,_=>none
 | .makeFunc (.func f) first captured=>match O1 tm first.toList,O1 tm captured.toList with
  | some a,some b=>some (.func f a b)
  | _,_=>none
 | .sliceToArrayPointer t x=>match T.Za t,Cm tm x with
  | some (.array n _),some (.slice i off len _ _)=>Bf (Nat.ble n len) (some (.ptr i off)) none
  | _,_=>none
 | _=>none
def isV:Op->Bool
 | .move _=>true | .assign _=>true | .pick ..=>true | .binOp ..=>true | .unOp ..=>true | .nilCheck _=>true | .fieldAddr ..=>true | .indexAddr ..=>true | .index ..=>true
 | .field ..=>true | .convert ..=>true | .extract ..=>true | .slice ..=>true | .build ..=>true | .makeFunc ..=>true | .sliceToArrayPointer ..=>true
 | _=>false
def D7(T:Kh)(tm:Ax)(op:Op)(h:Ab):Option (EV × Ab):=
 match op with
 | .load t a=>match Cm tm a with
  | some (.ptr i off)=>match T.agg t with
   | some true=>(match T.size t with
    | some n=>match K0 h i off n with|some l=>some (.agg l,h)|none=>none
    | none=>none)
   | some false=>(match K0 h i off 1 with|some [v]=>some (v,h)|_=>none)
   | none=>none
  | _=>none
 | .store t a x=>match Cm tm a,Cm tm x,T.size t with
  | some (.ptr i off),some v,some n=>Bf (v.plain) (Bf (Nat.beq (len v.cells) n)
   (match Oq h i off v.cells with|some h'=>some (.tuple [],h')|none=>none) none) none
  | _,_,_=>none
 | .alloc t=>match T.zero t with
  | some z=>some (.ptr h.next 0,h.new (.cells z t))
  | none=>none
 | .box t x=>match Cm tm x with
  | some v=>Bf v.plain (some (.ptr h.next 0,h.new (.cells v.cells t))) none
  | none=>none
 | .call { callee:=.builtin b,args,argTypes }=>match O1 tm args.toList with
  | some as=>builtin T b argTypes as h
  | none=>none
 | .buildSlice t n ps=>match T.Za t,Ad2 tm ps.toList with
  | some (.slice e),some l=>match T.size e,T.zero e with
   | some s,some z=>Bf (Nat.ble (Nat.mul n s) 65536) (match fill (fun i=>some (Nat.mul i s,s)) (rep z n) l with
    | some c=>some (.slice h.next 0 n n false,h.new (.cells c e))
    | none=>none) none
   | _,_=>none
  | _,_=>none
 | .makeSlice t l c=>match T.Za t,Cm tm l,Cm tm c with
  | some (.slice e),some (.int _ (.ofNat n)),some (.int _ (.ofNat m))=>match T.zero e with
   | some z=>Bf (Nat.ble n m) (Bf (Nat.ble m 65536) (some (.slice h.next 0 n m false,h.new (.cells (rep z m) e))) none) none
   | none=>none
  | _,_,_=>none
 | .makeMap _ none=>some (.map h.next,h.new (.map []))
 | .makeChan t s=>match T.Za t,Cm tm s with
  | some (.chan _ e),some (.int _ (.ofNat n))=>match T.size e with
   | some _=>Bf (Nat.ble n 65536) (some (.chan h.next,h.new (.chan n []))) none
   | none=>none
  | _,_=>none
 | .lookup t x k ok=>match T.Za t,Cm tm x,Cm tm k with
  | some (.map y e),some (.map i),some d=>Bf (Q1 T y d) (match h.get i with
   | some (.map es)=>match J4 d es 0 with
    | some (some (_,v))=>some (Bf ok (.tuple [v,.bool true]) v,h)
    | some none=>match zeroOf T e with
     | some u=>some (Bf ok (.tuple [u,.bool false]) u,h)
     | none=>none
    | none=>none
   | _=>none) none
  | _,_,_=>none
 | .mapUpdate t m k x=>match T.Za t,Cm tm m,Cm tm k,Cm tm x with
  | some (.map y _),some (.map i),some d,some v=>Bf (Q1 T y d) (match h.get i with
   | some (.map es)=>match J4 d es 0 with
    | some (some (j,_))=>some (.tuple [],h.put i (.map (es.set j (d,v))))
    | some none=>some (.tuple [],h.put i (.map (es++[(d,v)])))
    | none=>none
   | _=>none) none
  | _,_,_,_=>none
 | .select cs false=>match cs.toList with
  | [c]=>match Cm tm c.chan,c.send with
   | some (.chan i),some x=>match h.get i,Cm tm x with
    | some (.chan cap buf),some v=>match zeroOf T c.elem with
     | some _=>Bf (Nat.ble (Nat.succ (len buf)) cap) (some (.tuple [.int .i64 0,.bool false],h.put i (.chan cap (buf++[v]))))
      (some (.tuple [.int .i64 (-1),.bool false],h))
     | none=>none
    | _,_=>none
   | some (.chan i),none=>match h.get i,zeroOf T c.elem with
    | some (.chan cap buf),some u=>
     match buf with
     | v::r=>some (.tuple [.int .i64 0,.bool true,v],h.put i (.chan cap r))
     | []=>some (.tuple [.int .i64 (-1),.bool false,u],h)
    | _,_=>none
   | _,_=>none
  | _=>none
 | _=>none
def setArgs:List EV->Nat->Tr EV->Tr EV
 | [],_,t=>t
 | v::r,i,t=>setArgs r (Nat.succ i) (t.put i (some v))
def Yx:List Tmp->List EV->Nat->Tr EV->Option (Tr EV)
 | [],[],_,t=>some t
 | p::r,v::s,n,t=>Yx r s n (Bf (Nat.ble (Nat.succ p) n) (t.put p (some v)) t)
 | _,_,_,_=>none
def enter(T:Kh)(f:Nat)(args:List EV):Option Aob:=
 match T.fn f with
 | some { ntmps:=n,body:=some c,.. }=>Bf (Nat.ble (len args) n) (some ⟨f,n,setArgs args 0 .nil,[.code c],[],false,none⟩) none
 | _=>none
def A25(l:List Oper)(i:Nat):Option Oper:=
 match l with
 | []=>none
 | a::r=>Bf (Nat.beq i 0) (some a) (A25 r (Nat.pred i))
def yielded(ops:List Oper)(tm:Ax)(j:Nat):Option Bool:=
 match A25 ops j with
 | some o=>match o.dst with
  | some d=>match tm.get d with
   | some (.bool b)=>some b
   | _=>none
  | none=>none
 | none=>none
def wanted(ops:List Oper)(tm:Ax)(g:Option (Nat × Bool)):Bool:=
 match g with
 | none=>true
 | some (j,want)=>match yielded ops tm j with|some b=>Bf b want (Bf want false true)|none=>false
def aop(T:Kh)(call round:Ah)(tm:Ax)(op:Op)(h:Ab):Option (EV × Ab):=
 Bf (isV op) (match Fz T tm op with|some v=>some (v,h)|none=>none)
  (match op with
  | .call { callee:=.value f,args,.. }=>match Cm tm f,O1 tm args.toList with
   | some (.func g first captured),some as=>call g (first++(as++captured)) h
   | some (.yld l),some as=>round l as h
   | _,_=>none
  | op=>D7 T tm op h)
def Avx(T:Kh)(call round:Ah)(n:Nat)(ops:List Oper):List Oper->Ax->Ab->Option (Ax × Ab)
 | [],tm,h=>some (tm,h)
 | ⟨dst,op,_,_,_,g⟩::r,tm,h=>Bf (wanted ops tm g)
  (match aop T call round tm op h with
   | some (v,h')=>Avx T call round n ops r (Tj n tm dst v) h'
   | none=>none)
  (Avx T call round n ops r (Tj n tm dst (.tuple [])) h)
inductive Cls where
 | val|load|new|pur|sto|big
def Ay6:Op->Bool
 | .call { callee:=.builtin .len,.. }=>true
 | .call { callee:=.builtin .min,.. }=>true
 | .call { callee:=.builtin .max,.. }=>true
 | _=>false
def cls:Op->Cls
 | .load ..=>.load
 | .store ..=>.sto
 | .alloc _=>.new | .box ..=>.new | .buildSlice ..=>.new | .makeSlice ..=>.new | .makeMap ..=>.new | .makeChan ..=>.new
 | op=>Bf (isV op) .val (Bf (Ay6 op) .pur .big)
def Af0(e:Edge):Bool:=
 match e.ground with
 | .textOnly _=>false
 | .gcOnly _=>false
 | _=>true
def Apo(bs:Tr Nat):List Edge->Nat->Nat
 | [],x=>x
 | e::r,x=>Apo bs r (Bf (Af0 e) (Nat.lor x (Nat.lor (Nat.shiftLeft 1 e.on) (match bs.get e.on with|some y=>y|none=>0))) x)
def Qw:List Oper->Nat->Tr Nat->Tr Nat
 | [],_,bs=>bs
 | o::r,i,bs=>Qw r (Nat.succ i) (bs.put i (some (Apo bs o.after.toList 0)))
def Ais:List Operand->Nat->Nat
 | [],x=>x
 | .tmp t::r,x=>Ais r (Nat.lor x (Nat.shiftLeft 1 t))
 | _::r,x=>Ais r x
def Al9(o:Oper):Nat:=match o.dst with|some d=>Nat.shiftLeft 1 d|none=>0
def Aeh(ops:List Oper)(o:Oper):Nat:=
 Nat.lor (Ais o.op.operands.toList 0) (match o.guard with|some (j,_)=>(match A25 ops j with|some g=>Al9 g|none=>0)|none=>0)
def A94(j d l e l' b:Nat):Bool:=
 Bf (Nat.beq (Nat.land b (Nat.shiftLeft 1 j)) 0) (Nat.beq (Nat.lor (Nat.land d (Nat.lor e l')) (Nat.land l e)) 0) true
def Aym(e l' b:Nat):List (Nat × Nat)->Nat->Bool
 | [],_=>true
 | (d,l)::r,j=>Bf (A94 j d l e l' b) (Aym e l' b r (Nat.succ j)) false
def Aqz(ops:List Oper)(bs:Tr Nat):List Oper->Nat->List (Nat × Nat)->Bool
 | [],_,_=>true
 | o::r,i,ms=>match bs.get i with
  | some b=>Bf (Aym (Al9 o) (Aeh ops o) b ms 0) (Aqz ops bs r (Nat.succ i) (ms++[(Al9 o,Aeh ops o)])) false
  | none=>false
def within(x b:Nat):Bool:=Nat.beq (Nat.land x b) x
def Acj(b q:Nat):List (Nat × Nat)->Bool
 | []=>true
 | (m,w)::r=>Bf (Bf (within m b) true (Nat.ble (Nat.succ q) w)) (Acj b q r) false
def Ac9(b w:Nat):List (Nat × Nat)->Bool
 | []=>true
 | (m,q)::r=>Bf (Bf (within m b) true (Nat.ble (Nat.succ q) w)) (Ac9 b w r) false
def loose(b:Nat):List (Nat × Nat)->List Nat
 | []=>[]
 | (m,q)::r=>Bf (within m b) (loose b r) (q::loose b r)
def Ahc(t:Tr Ec):List Nat->Tr Ec
 | []=>t
 | q::r=>(Ahc t r).put q none
def Agx(t d:Tr Ec):List Nat->Tr Ec
 | []=>d
 | q::r=>(Agx t d r).put q (t.get q)
structure DSt where
 tm:Ax
 h:Ab
 bg:Nat
 nw:List (Nat × Nat)
 C8:List (Nat × Nat)
 lou:List (Nat × Nat)
 st:List (Nat × Nat)
def Gb(b q:Nat):List (Nat × Nat)->Bool
 | []=>true
 | (m,r)::l=>Bf (Bf (within m b) true (Bf (Nat.beq q r) false true)) (Gb b q l) false
def A1z(b:Nat):List (Nat × Nat)->Bool
 | []=>true
 | (m,_)::l=>Bf (within m b) (A1z b l) false
def A5f(q:Nat):List Nat->Bool
 | []=>true
 | r::l=>Bf (Nat.beq q r) false (A5f q l)
def Abc(T:Kh)(call round:Ah)(n:Nat)(ops:List Oper)(bs:Tr Nat)(base:Nat)(o:Oper)(i:Nat)(s:DSt):Option DSt:=
 match o,s with
 | ⟨dst,op,_,_,_,g⟩,⟨tm,h,bg,nw,C8,lou,st⟩=>Bf (wanted ops tm g)
  (match bs.get i with
  | none=>none
  | some b=>match cls op with
   | .val=>match Fz T tm op with
    | some v=>some ⟨Tj n tm dst v,h,bg,nw,C8,lou,st⟩
    | none=>none
   | .load=>match op with
    | .load t x=>match Cm tm x with
     | some (.ptr q _)=>
      Bf (Bf (Gb b q st) (Bf (Nat.ble (Nat.succ q) base) (Acj b q lou) (Bf (within bg b) (match loose b nw with | []=>true|_=>false) false)) false) (match D7 T tm (.load t x) h with
      | some (v,_)=>some ⟨Tj n tm dst v,h,bg,nw,(Nat.shiftLeft 1 i,q)::C8,lou,st⟩
      | none=>none) none
     | _=>none
    | _=>none
   | .new=>match D7 T tm op h with
    | some (v,h')=>some ⟨Tj n tm dst v,h',bg,(Nat.shiftLeft 1 i,h.next)::nw,C8,lou,st⟩
    | none=>none
   | .sto=>match op with
    | .store t a x=>match Cm tm a with
     | some (.ptr q _)=>
      Bf (Bf (within bg b) (Bf (Gb b q st) (Bf (Gb b q C8) (A5f q (loose b nw)) false) false) false) (match D7 T tm (.store t a x) h with
      | some (v,h')=>some ⟨Tj n tm dst v,h',bg,nw,C8,lou,(Nat.shiftLeft 1 i,q)::st⟩
      | none=>none) none
     | _=>none
    | _=>none
   | .pur=>match D7 T tm op ⟨.nil,h.next,h.next⟩with
    | some (v,_)=>some ⟨Tj n tm dst v,h,bg,nw,C8,lou,st⟩
    | none=>none
   | .big=>Bf (Bf (within bg b) (A1z b st) false) (match h with
    | ⟨t,nx,mw⟩=>match aop T call round tm op ⟨Ahc t (loose b nw),nx,nx⟩with
     | some (v,⟨j,e,d⟩)=>
      Bf (Nat.ble nx d)
       (some ⟨Tj n tm dst v,⟨Agx t j (loose b nw),e,mw⟩,Nat.lor bg (Nat.shiftLeft 1 i),nw,C8,lou,st⟩)
       (Bf (Ac9 b d C8)
        (some ⟨Tj n tm dst v,⟨Agx t j (loose b nw),e,Bf (Nat.ble mw d) mw d⟩,Nat.lor bg (Nat.shiftLeft 1 i),nw,C8,(Nat.shiftLeft 1 i,d)::lou,st⟩)
        none)
     | none=>none) none)
  (some ⟨Tj n tm dst (.tuple []),h,bg,nw,C8,lou,st⟩)
def Xh(T:Kh)(call round:Ah)(n:Nat)(ops:List Oper)(bs:Tr Nat)(base:Nat):List Oper->Nat->DSt->Option DSt
 | [],_,s=>some s
 | o::r,i,s=>match Abc T call round n ops bs base o i s with
  | some s'=>Xh T call round n ops bs base r (Nat.succ i) s'
  | none=>none
def Bh9(i:Nat):List Edge->Bool
 | []=>true
 | e::r=>Bf (Bf (Af0 e) (Nat.ble (Nat.succ e.on) i) true) (Bh9 i r) false
def Atn:List Oper->Nat->Bool
 | [],_=>true
 | o::r,i=>Bf (Bh9 i o.after.toList) (Atn r (Nat.succ i)) false
def Awn(T:Kh)(call round:Ah)(n:Nat)(ops:List Oper)(tm:Ax)(h:Ab):Option (Ax × Ab):=
 Bf (Atn ops 0) (Bf (Aqz ops (Qw ops 0 .nil) ops 0 []) (match Xh T call round n ops (Qw ops 0 .nil) h.next ops 0 ⟨tm,h,0,[],[],[],[]⟩with
  | some ⟨d,h',_,_,_,_,_⟩=>some (d,h')
  | none=>none) none) none
def O9(T:Kh)(tm:Ax)(h:Ab):List ResultVar->Option (List EV)
 | []=>some []
 | .tmp t::r=>match O9 T tm h r with|some l=>some (tmp tm t::l)|none=>none
 | .cell a t::r=>match tmp tm a,O9 T tm h r,T.size t with
  | .ptr i off,some l,some n=>match K0 h i off n with
   | some cs=>match T.agg t with
    | some true=>some (.agg cs::l)
    | some false=>(match cs with | [v]=>some (v::l)|_=>none)
    | none=>none
   | none=>none
  | _,_,_=>none
inductive AR where
 | go (s:Jg)
 | done (v:EV) (h:Ab)
 | fail
def leave(fn n:Nat)(tm:Ax)(todo:List Item)(defers:List Nat)(Dx:Option Nat)(h:Ab)(jump:Option Code):AR:=
 match Dx with
 | none=>match jump with
  | none=>.go ⟨⟨fn,n,tm,todo,defers,true,Dx⟩,h⟩
  | some .ret=>.go ⟨⟨fn,n,tm,todo,defers,true,Dx⟩,h⟩
  | some _=>.fail
 | some l=>match h.get l with
  | some (.loop _ _ f n tm ps asg body d)=>
   match jump with
   | none=>.done (.bool true) (h.put l (.loop .ready none f n tm ps asg body d))
   | some c=>.done (.bool false) (h.put l (.loop .done (some c) f n tm ps asg body d))
  | _=>.fail
def behind(fn n:Nat)(tm:Ax)(defers:List Nat)(Dx:Option Nat)(l:Nat)(k:List Item)(r:Option (EV × Ab)):AR:=
 match r with
 | none=>.fail
 | some (_,h)=>match h.get l with
  | some (.loop st p f j e ps asg body d)=>match st with
   | .busy=>.fail
   | _=>.go ⟨⟨fn,n,tm,(match p with|some c=>.code c::k|none=>k),defers,false,Dx⟩,h.put l (.loop .exhausted p f j e ps asg body d)⟩
  | _=>.fail
def Cw(T:Kh)(call round:Ah):Jg->AR
 | ⟨⟨fn,n,tm,todo,defers,true,Dx⟩,h⟩=>match defers with
  | d::ds=>match h.get d with
   | some (.deferred true)=>.go ⟨⟨fn,n,tm,todo,ds,true,Dx⟩,h.put d (.deferred false)⟩
   | _=>.fail
  | []=>match T.fn fn with
   | some f=>match O9 T tm h f.results.toList with
    | some [v]=>.done v h
    | some l=>.done (.tuple l) h
    | none=>.fail
   | none=>.fail
 | ⟨⟨fn,n,tm,todo,defers,false,Dx⟩,h⟩=>
  match todo with
  | []=>leave fn n tm todo defers Dx h none
  | .code c::k=>match c with
   | .region _ ops false=>match Avx T call round n ops.toList ops.toList tm h with
    | some (e,h')=>.go ⟨⟨fn,n,e,k,defers,false,Dx⟩,h'⟩
    | none=>.fail
   | .region _ ops true=>match Awn T call round n ops.toList tm h with
    | some (e,h')=>.go ⟨⟨fn,n,e,k,defers,false,Dx⟩,h'⟩
    | none=>.fail
   | .seq a b=>.go ⟨⟨fn,n,tm,.code a :: .code b::k,defers,false,Dx⟩,h⟩
   | .skip=>.go ⟨⟨fn,n,tm,k,defers,false,Dx⟩,h⟩
   | .cond c a b=>match Cm tm c with
    | some (.bool true)=>.go ⟨⟨fn,n,tm,.code a::k,defers,false,Dx⟩,h⟩
    | some (.bool false)=>.go ⟨⟨fn,n,tm,.code b::k,defers,false,Dx⟩,h⟩
    | _=>.fail
   | .block id c=>.go ⟨⟨fn,n,tm,.code c :: .inBlock id::k,defers,false,Dx⟩,h⟩
   | .loop c=>.go ⟨⟨fn,n,tm,.code c :: .inLoop c::k,defers,false,Dx⟩,h⟩
   | .label _=>.go ⟨⟨fn,n,tm,k,defers,false,Dx⟩,h⟩
   | .exit id=>match exitTo id k with
    | some k'=>.go ⟨⟨fn,n,tm,k',defers,false,Dx⟩,h⟩
    | none=>leave fn n tm todo defers Dx h (some (.exit id))
   | .ret=>leave fn n tm todo defers Dx h (some .ret)
   | .rangeFunc f params asg body=>
    match Cm tm f with
    | some (.func g first captured)=>
     match Dx with
     | none=>
      behind fn n tm (h.next::defers) Dx (Nat.succ h.next) k (call g (first++(.yld (Nat.succ h.next)::captured)) ((h.new (.deferred true)).new (.loop .ready none fn n tm params.toList asg body h.next)))
     | some l0=>match h.get l0 with
      | some (.loop _ _ _ _ _ _ _ _ d)=>
       behind fn n tm defers Dx h.next k (call g (first++(.yld h.next::captured)) (h.new (.loop .ready none fn n tm params.toList asg body d)))
      | _=>.fail
    | _=>.fail
   | _=>.fail
  | .inBlock _::k=>.go ⟨⟨fn,n,tm,k,defers,false,Dx⟩,h⟩
  | .inLoop c::k=>.go ⟨⟨fn,n,tm,.code c :: .inLoop c::k,defers,false,Dx⟩,h⟩
  | .beginRound::k=>match Dx with
   | some l=>match h.get l with
    | some (.loop .ready p f j e ps asg body d)=>.go ⟨⟨fn,n,tm,k,defers,false,Dx⟩,h.put l (.loop .busy p f j e ps asg body d)⟩
    | _=>.fail
   | none=>.fail
  | _=>.fail
def Aqg(l:Nat)(args:List EV)(h:Ab):Option Aob:=
 match h.get l with
 | some (.loop _ _ f n tm ps asg body _)=>match Yx ps args n tm with
  | some d=>some ⟨f,n,d,[.code asg,.beginRound,.code body],[],false,some l⟩
  | none=>none
 | _=>none
end
variable {h h' h1 h2:Ab}{v:EV}{tm:Ax}{vs:List EV}{hi lo:Option EV}{o o':Ec}{ws:List (Nat × List EV)}{T:Kh}
section
section Bf
@[simp] theorem Ak(x y:α):Bf true x y=x:=rfl
@[simp] theorem Bo(x y:α):Bf false x y=y:=rfl
theorem Bt(b:Bool)(x y:α):Bf b x y=if b=true then x else y:=by cases b<;>rfl
theorem Aq{x:Option α}{r:α}(h:Bf b x none=some r):b=true/\x=some r:=by cases b<;>simp_all [Bt]
theorem Yq{x:Option α}{r:α}(h:Bf b none x=some r):b=false/\x=some r:=by cases b<;>simp_all [Bt]
end Bf
theorem Af3 {a b:Nat}(h:a<=b):Nat.ble a b=true:=aS h
theorem Ai8 {a b:Nat}(h:¬a<=b):Nat.ble a b=false:=Bool.eq_false_iff.2 fun e=>h (bI e)
theorem beq_false {a b:Nat}(h:a≠b):Nat.beq a b=false:=Bool.eq_false_iff.2 fun e=>h (aJ e)
section tree
theorem Tr.get_nil(i:Nat):(Tr.nil:Tr α).get i=none:=rfl
theorem Tr.Acl(l r:Tr α)(v:Option α)(i:Nat):(Tr.node l v r).get i=if i=0 then v else if i%2=1 then l.get (i/2)else r.get (i/2-1):=by
 have e:(Tr.node l v r).get i=Bf (Nat.beq i 0) v (Bf (Nat.beq (Nat.land i 1) 1) (l.get (Nat.div i 2)) (r.get (Nat.pred (Nat.div i 2)))):=rfl;have e2:Nat.land i 1=i%2:=Nat.and_one_is_mod i;rw[e,Bt,Bt,e2];simp only[Nat.beq_eq];rfl
theorem Tr.set_nil(n i:Nat)(v:Option α):Tr.set (n+1) (.nil:Tr α) i v =
 Bf (Nat.beq i 0) (.node .nil v .nil) (Bf (Nat.beq (Nat.land i 1) 1) (Tr.lf none .nil (Tr.set n .nil (Nat.div i 2) v)) (Tr.rt .nil none (Tr.set n .nil (Nat.pred (Nat.div i 2)) v))):=rfl
theorem Tr.As0(n i:Nat)(l r:Tr α)(x v:Option α):Tr.set (n+1) (.node l x r) i v =
 Bf (Nat.beq i 0) (.node l v r) (Bf (Nat.beq (Nat.land i 1) 1) (Tr.lf x r (Tr.set n l (Nat.div i 2) v)) (Tr.rt l x (Tr.set n r (Nat.pred (Nat.div i 2)) v))):=rfl
theorem Tr.Bix(x:Option α)(r a c:Tr α)(b:Option α):Tr.lf x r (.node a b c)=.node (.node a b c) x r:=rfl
theorem Tr.Bjw(x:Option α)(l a c:Tr α)(b:Option α):Tr.rt l x (.node a b c)=.node l x (.node a b c):=rfl
theorem Tr.Xs:∀(n:Nat) (t:Tr α) (i:Nat) (v:Option α),i+1<2^n->∃a b c,Tr.set n t i v=.node a b c
 | 0,_,i,_,h=>by simp at h
 | n+1,t,i,v,h=>by
  have e2:Nat.land i 1=i%2:=Nat.and_one_is_mod i;rw[eR]at h;by_cases h0:i=0
  ·subst h0
   cases t with
   | nil=>exact⟨_,_,_,rfl⟩
   | node l x r=>exact⟨_,_,_,rfl⟩
  ·have b0:Nat.beq i 0=false:=by cases hb:Nat.beq i 0 with|false=>rfl|true=>exact absurd (aJ hb) h0
   by_cases h1:i%2=1
   ·have b1:Nat.beq (i%2) 1=true:=by rw[h1];rfl
    cases t with
    | nil=>
     obtain⟨a,b,c,e⟩:=Tr.Xs n (.nil:Tr α) (i/2) v (by omega);exact⟨_,_,_,by rw[Tr.set_nil,b0,Bo,e2,b1,Ak];exact congrArg (Tr.lf none .nil) e⟩
    | node l x r=>
     obtain⟨a,b,c,e⟩:=Tr.Xs n l (i/2) v (by omega);exact⟨_,_,_,by rw[Tr.As0,b0,Bo,e2,b1,Ak];exact congrArg (Tr.lf x r) e⟩
   ·have b1:Nat.beq (i%2) 1=false:=by cases hb:Nat.beq (i%2) 1 with|false=>rfl|true=>exact absurd (aJ hb) h1
    cases t with
    | nil=>
     obtain⟨a,b,c,e⟩:=Tr.Xs n (.nil:Tr α) (i/2-1) v (by omega);exact⟨_,_,_,by rw[Tr.set_nil,b0,Bo,e2,b1,Bo];exact congrArg (Tr.rt .nil none) e⟩
    | node l x r=>
     obtain⟨a,b,c,e⟩:=Tr.Xs n r (i/2-1) v (by omega);exact⟨_,_,_,by rw[Tr.As0,b0,Bo,e2,b1,Bo];exact congrArg (Tr.rt l x) e⟩
theorem Tr.Azx:∀(n:Nat) (t:Tr α) (i:Nat) (v:Option α) (j:Nat),i+1<2^n->(Tr.set n t i v).get j=if i=j then v else t.get j
 | 0,_,i,_,_,h=>by simp at h
 | n+1,t,i,v,j,h=>by
  have e2:Nat.land i 1=i%2:=Nat.and_one_is_mod i;rw[eR]at h;by_cases h0:i=0
  ·subst h0
   cases t with
   | nil=>
    rw[Tr.set_nil,show Nat.beq 0 0=true from rfl,Ak,Tr.Acl];by_cases hj:j=0
    ·simp[hj]
    ·rw[aF hj,aF (cV hj)];simp only[Tr.get_nil,ite_self]
   | node l x r=>
    rw[Tr.As0,show Nat.beq 0 0=true from rfl,Ak,Tr.Acl,Tr.Acl];by_cases hj:j=0
    ·simp[hj]
    ·rw[aF hj,aF (cV hj),aF hj]
  ·have b0:Nat.beq i 0=false:=by cases hb:Nat.beq i 0 with|false=>rfl|true=>exact absurd (aJ hb) h0
   by_cases h1:i%2=1
   ·have b1:Nat.beq (i%2) 1=true:=by rw[h1];rfl
    have hs:i/2+1<2^n:=by omega
    cases t with
    | nil=>
     obtain⟨a,b,c,e⟩:=Tr.Xs n (.nil:Tr α) (i/2) v hs;have m:=Tr.Azx n (.nil:Tr α) (i/2) v (j/2) hs;rw[e]at m;have e':Tr.set n (.nil:Tr α) (Nat.div i 2) v=.node a b c:=e;rw[Tr.set_nil,b0,Bo,e2,b1,Ak,e',Tr.Bix,Tr.Acl];by_cases hj:j=0
     ·subst hj;simp[h0,Tr.get_nil]
     ·rw[aF hj]
      by_cases d:j%2=1
      ·rw[aG d,m]
       by_cases he:i=j
       ·subst he;simp
       ·rw[aF he,aF (by omega)];rfl
      ·rw[aF d,aF (by rintro rfl;exact d h1)];rfl
    | node l x r=>
     obtain⟨a,b,c,e⟩:=Tr.Xs n l (i/2) v hs;have m:=Tr.Azx n l (i/2) v (j/2) hs;rw[e]at m;have e':Tr.set n l (Nat.div i 2) v=.node a b c:=e;rw[Tr.As0,b0,Bo,e2,b1,Ak,e',Tr.Bix,Tr.Acl,Tr.Acl l r x j];by_cases hj:j=0
     ·subst hj;simp[h0]
     ·rw[aF hj,aF hj]
      by_cases d:j%2=1
      ·rw[aG d,aG d,m]
       by_cases he:i=j
       ·subst he;simp
       ·rw[aF he,aF (by omega)]
      ·rw[aF d,aF d,aF (by rintro rfl;exact d h1)]
   ·have b1:Nat.beq (i%2) 1=false:=by cases hb:Nat.beq (i%2) 1 with|false=>rfl|true=>exact absurd (aJ hb) h1
    have hs:i/2-1+1<2^n:=by omega
    cases t with
    | nil=>
     obtain⟨a,b,c,e⟩:=Tr.Xs n (.nil:Tr α) (i/2-1) v hs;have m:=Tr.Azx n (.nil:Tr α) (i/2-1) v (j/2-1) hs;rw[e]at m;have e':Tr.set n (.nil:Tr α) (Nat.pred (Nat.div i 2)) v=.node a b c:=e;rw[Tr.set_nil,b0,Bo,e2,b1,Bo,e',Tr.Bjw,Tr.Acl];by_cases hj:j=0
     ·subst hj;simp[h0,Tr.get_nil]
     ·rw[aF hj]
      by_cases d:j%2=1
      ·rw[aG d,aF (by rintro rfl;exact h1 d)];rfl
      ·rw[aF d,m]
       by_cases he:i=j
       ·subst he;simp
       ·rw[aF he,aF (by omega)];rfl
    | node l x r=>
     obtain⟨a,b,c,e⟩:=Tr.Xs n r (i/2-1) v hs;have m:=Tr.Azx n r (i/2-1) v (j/2-1) hs;rw[e]at m;have e':Tr.set n r (Nat.pred (Nat.div i 2)) v=.node a b c:=e;rw[Tr.As0,b0,Bo,e2,b1,Bo,e',Tr.Bjw,Tr.Acl,Tr.Acl l r x j];by_cases hj:j=0
     ·subst hj;simp[h0]
     ·rw[aF hj,aF hj]
      by_cases d:j%2=1
      ·rw[aG d,aG d,aF (by rintro rfl;exact h1 d)]
      ·rw[aF d,aF d,m]
       by_cases he:i=j
       ·subst he;simp
       ·rw[aF he,aF (by omega)]
theorem Tr.get_put(t:Tr α)(i:Nat)(v:Option α)(j:Nat):(t.put i v).get j=if i=j then v else t.get j:=
 Tr.Azx _ t i v j Nat.lt_log2_self
theorem Tr.Af(t:Tr α)(i:Nat)(v:Option α):(t.put i v).get i=v:=by rw[Tr.get_put,aG rfl]
theorem Tr.Ag(t:Tr α){j:Nat}(v:Option α)(h:i≠j):(t.put i v).get j=t.get j:=by rw[Tr.get_put,aF h]
end tree
structure Loc where
 b:Nat->Nat
 sp:Nat->Nat
mutual
def Cr(f:Loc):EV->Value
 | .int k n=>.int k n
 | .bool b=>.bool b
 | .str s=>.string s
 | .ptr i off=>.pointer (some ⟨f.b i,off,none⟩)
 | .E3=>.pointer none
 | .slice i off len room op=>.slice (some ⟨f.b i,off,none⟩) len (if op=true then room+f.sp i else room)
 | .tail i off poff=>.slice (some ⟨f.b i,if f.sp i=0 then poff else off,none⟩) 0 (f.sp i)
 | .Ao=>.slice none 0 0
 | .odd a=>.slice (some a) 0 0
 | .map i=>.map (some (f.b i))
 | .Apt=>.map none
 | .chan i=>.chan (some (f.b i))
 | .Ai4=>.chan none
 | .func g a c=>.func (.func g) (Bx f a).toArray (Bx f c).toArray
 | .yld l=>.func (.yield (f.b l)) #[] #[]
 | .Amp=>.nilFunc
 | .Af8=>.nilIface
 | .agg l=>.agg (Bx f l).toArray
 | .tuple l=>.tuple (Bx f l).toArray
def Bx(f:Loc):List EV->List Value
 | []=>[]
 | v::r=>Cr f v::Bx f r
end
theorem Um(f:Loc):∀l:List EV,Bx f l=l.map (Cr f)
 | []=>rfl
 | v::r=>by rw[Bx,Um f r];rfl
theorem Dh(f:Loc)(l:List EV):(Bx f l).length=l.length:=by rw[Um,bX]
theorem X1(f:Loc)(a b:List EV):Bx f (a++b)=Bx f a++Bx f b:=by simp only[Um,cX]
def EV.one:EV->Bool
 | .agg _=>false
 | .tuple _=>false
 | _=>true
theorem Bcm(f:Loc)(v:EV)(h:v.one=true):(Cr f v).oneCell'=true:=by
 cases v<;>first|rfl|(simp[EV.one]at h)
theorem Az4(f:Loc)(l:List EV)(h:∀v∈l,v.one=true):∀x∈Bx f l,x.oneCell'=true:=by
 intro x d;rw[Um,bc]at d;obtain⟨v,e,rfl⟩:=d;exact Bcm f v (h v e)
mutual
def EV.ok(p:Nat->Prop):EV->Prop
 | .ptr i _=>p i
 | .slice i _ _ _ _=>p i
 | .tail i _ _=>p i
 | .map i=>p i
 | .chan i=>p i
 | .yld l=>p l
 | .func _ a c=>EV.Wz p a/\EV.Wz p c
 | .agg l=>EV.Wz p l/\l.all EV.one=true
 | .tuple l=>EV.Wz p l
 | _=>True
def EV.Wz(p:Nat->Prop):List EV->Prop
 | []=>True
 | v::r=>EV.ok p v/\EV.Wz p r
end
theorem Km(p:Nat->Prop):∀l:List EV,EV.Wz p l↔∀v∈l,v.ok p
 | []=>by simp[EV.Wz]
 | v::r=>by rw[EV.Wz,Km p r];simp
def Loc.Gf(p:Nat->Prop)(f g:Loc):Prop:=∀i,p i->f.b i=g.b i/\f.sp i=g.sp i
theorem Loc.Aqh(p:Nat->Prop)(f:Loc):Loc.Gf p f f:=fun _ _=>⟨rfl,rfl⟩
theorem Loc.Gf.trans{f g h:Loc}(a:Loc.Gf p f g)(b:Loc.Gf p g h):Loc.Gf p f h:=fun i hi=>⟨(a i hi).1.trans (b i hi).1,(a i hi).2.trans (b i hi).2⟩
theorem Loc.Gf.mono{f g:Loc}(a:Loc.Gf p f g)(h:∀i,q i->p i):Loc.Gf q f g:=fun i hi=>a i (h i hi)
mutual
theorem Ajb{f g:Loc}(d:Loc.Gf p f g):∀v:EV,v.ok p->Cr f v=Cr g v
 | .int _ _,_=>rfl
 | .bool _,_=>rfl
 | .str _,_=>rfl
 | .ptr i off,h=>by simp only[Cr];rw[(d i h).1]
 | .E3,_=>rfl
 | .slice i off len room op,h=>by simp only[Cr];rw[(d i h).1,(d i h).2]
 | .tail i off poff,h=>by simp only[Cr];rw[(d i h).1,(d i h).2]
 | .Ao,_=>rfl
 | .odd _,_=>rfl
 | .map i,h=>by simp only[Cr];rw[(d i h).1]
 | .Apt,_=>rfl
 | .chan i,h=>by simp only[Cr];rw[(d i h).1]
 | .Ai4,_=>rfl
 | .func a b c,h=>by simp only[Cr];rw[Ir d b h.1,Ir d c h.2]
 | .yld l,h=>by simp only[Cr];rw[(d l h).1]
 | .Amp,_=>rfl
 | .Af8,_=>rfl
 | .agg l,h=>by simp only[Cr];rw[Ir d l h.1]
 | .tuple l,h=>by simp only[Cr];rw[Ir d l h]
theorem Ir{f g:Loc}(d:Loc.Gf p f g):∀l:List EV,EV.Wz p l->Bx f l=Bx g l
 | [],_=>rfl
 | v::r,h=>by simp only[Bx];rw[Ajb d v h.1,Ir d r h.2]
end
mutual
theorem EV.ok.mono(d:∀i,p i->q i):∀v:EV,v.ok p->v.ok q
 | .int _ _,_=>trivial
 | .bool _,_=>trivial
 | .str _,_=>trivial
 | .ptr i _,h=>d i h
 | .E3,_=>trivial
 | .slice i _ _ _ _,h=>d i h
 | .tail i _ _,h=>d i h
 | .Ao,_=>trivial
 | .odd _,_=>trivial
 | .map i,h=>d i h
 | .Apt,_=>trivial
 | .chan i,h=>d i h
 | .Ai4,_=>trivial
 | .func _ b c,h=>⟨EV.Wz.mono d b h.1,EV.Wz.mono d c h.2⟩
 | .yld l,h=>d l h
 | .Amp,_=>trivial
 | .Af8,_=>trivial
 | .agg l,h=>⟨EV.Wz.mono d l h.1,h.2⟩
 | .tuple l,h=>EV.Wz.mono d l h
theorem EV.Wz.mono(d:∀i,p i->q i):∀l:List EV,EV.Wz p l->EV.Wz q l
 | [],_=>trivial
 | v::r,h=>⟨EV.ok.mono d v h.1,EV.Wz.mono d r h.2⟩
end
theorem Z7(h:v.ok p)(hp:v.plain=true):EV.Wz p v.cells/\∀x∈v.cells,x.one=true:=by
 cases v with
 | tuple l=>simp[EV.plain]at hp
 | agg l=>obtain⟨h1,h2⟩:=h;exact⟨h1,by simpa [EV.cells]using h2⟩
 | _=>exact⟨⟨h,trivial⟩,by simp[EV.cells,EV.one]⟩
theorem Yw(f:Loc)(v:EV):(Cr f v).cells=(Bx f v.cells).toArray:=by
 cases v<;>rfl
theorem Bep(f:Loc){v:Value}{x:EV}(h:Bmb v=some x):Cr f x=v:=by
 unfold Bmb at h;split at h<;>first|(cases h;rfl)|(cases h)
theorem Bh1(p:Nat->Prop){v:Value}{x:EV}(h:Bmb v=some x):x.ok p/\x.one=true:=by
 unfold Bmb at h;split at h<;>first|(cases h;exact⟨trivial,rfl⟩)|(cases h)
theorem A71(f:Loc):∀{l:List Value} {xs:List EV},Blp l=some xs->Bx f xs=l
 | [],_,h=>by cases h;rfl
 | v::r,_,h=>by
  unfold Blp at h;split at h
  ·rename_i x d
   split at h
   ·rename_i y e
    cases h;rw[Bx,Bep f d,A71 f e]
   ·cases h
  ·cases h
theorem Biv(p:Nat->Prop):∀{l:List Value} {xs:List EV},Blp l=some xs->EV.Wz p xs/\xs.all EV.one=true
 | [],_,h=>by cases h;exact⟨trivial,rfl⟩
 | v::r,_,h=>by
  unfold Blp at h;split at h
  ·rename_i x d
   split at h
   ·rename_i y e
    cases h;have h1:=Bh1 p d;have h2:=Biv p e;exact⟨⟨h1.1,h2.1⟩,by simp[h1.2];simpa using h2.2⟩
   ·cases h
  ·cases h
theorem Bi7(f:Loc){v:Value}{x:EV}(h:ofV v=some x):Cr f x=v:=by
 unfold ofV at h;split at h
 ·rename_i cs
  split at h
  ·rename_i l d
   cases h;rw[Cr,A71 f d]
  ·cases h
 ·rename_i cs
  split at h
  ·rename_i d
   cases h;rw[Cr,Bx];congr 1;apply eQ;simpa using d.symm
  ·cases h
 ·exact Bep f h
theorem Be5(p:Nat->Prop){v:Value}{x:EV}(h:ofV v=some x):x.ok p:=by
 unfold ofV at h;split at h
 ·split at h
  ·rename_i l d
   cases h;exact Biv p d
  ·cases h
 ·split at h
  ·cases h;trivial
  ·cases h
 ·exact(Bh1 p h).1
noncomputable def Bi(f:Loc)(n:Nat)(tm:Ax):Array Value:=((List.range n).map fun t=>Cr f (tmp tm t)).toArray
structure N2(p:Nat->Prop)(n:Nat)(tm:Ax):Prop where
 ok:∀t v,tm.get t=some v->v.ok p
 out:∀t,n<=t->tm.get t=none
theorem N2.tmp(h:N2 p n tm)(t:Nat):(tmp tm t).ok p:=by
 unfold Go.Ev.tmp;split
 ·rename_i v d;exact h.ok t v d
 ·trivial
theorem N2.mono(h:N2 p n tm)(d:∀i,p i->q i):N2 q n tm:=⟨fun t v e=>EV.ok.mono d v (h.ok t v e),h.out⟩
theorem Bcs(f:Loc)(n:Nat)(tm:Ax):(Bi f n tm).size=n:=by simp[Bi]
theorem Akc(f:Loc)(n:Nat)(tm:Ax)(t:Nat):(Bi f n tm)[t]? = if t<n then some (Cr f (tmp tm t))else none:=by
 unfold Bi;simp only[cI,bG];by_cases h:t<n
 ·simp[h]
 ·simp[h,cA (l:=List.range n) (i:=t) (by simp;omega)]
theorem Afw(f:Loc)(h:N2 p n tm)(t:Nat):(Bi f n tm).getD t undef=Cr f (tmp tm t):=by
 rw[eJ,Akc];by_cases d:t<n
 ·simp[d]
 ·have:tmp tm t=.tuple []:=by unfold tmp;rw[h.out t (by omega)]
  simp[d,this,Cr,Bx,undef]
theorem Bjx(n:Nat)(tm:Ax)(d:Nat)(v:EV)(t:Nat):tmp (Tj n tm (some d) v) t=if d=t/\d<n then v else tmp tm t:=by
 unfold Tj;by_cases hd:d<n
 ·simp only[show Nat.ble (Nat.succ d) n=true from Af3 hd,Ak]
  unfold tmp;rw[Tr.get_put];by_cases e:d=t
  ·simp[e,e▸hd]
  ·simp[e]
 ·simp only[show Nat.ble (Nat.succ d) n=false from Ai8 hd,Bo]
  rw[aF (by omega)]
theorem A4h(f:Loc)(n:Nat)(tm:Ax)(d:Nat)(v:EV):(Bi f n tm).setIfInBounds d (Cr f v)=Bi f n (Tj n tm (some d) v):=by
 apply gE;intro t;rw[Akc,Array.getElem?_setIfInBounds,Bcs,Akc,Bjx];by_cases hd:d=t
 ·subst hd
  by_cases e:d<n<;>simp[e]
 ·simp[hd]
theorem N2.put(h:N2 p n tm)(d:Option Tmp)(y:v.ok p):N2 p n (Tj n tm d v):=by
 cases d with
 | none=>exact h
 | some d=>
  unfold Tj;by_cases hd:d<n
  ·simp only[show Nat.ble (Nat.succ d) n=true from Af3 hd,Ak]
   refine⟨fun t x j=>?_,fun t u=>?_⟩
   ·rw[Tr.get_put]at j
    split at j
    ·cases j;exact y
    ·exact h.ok t x j
   ·have m:(d:Nat)≠t:=fun e=>by have h1:(d:Nat)<n:=hd;have h2:n<=t:=u;rw[<-e]at h2;exact absurd h1 (Nat.not_lt.2 h2)
    rw[Tr.Ag _ _ m];exact h.out t u
  ·simp only[show Nat.ble (Nat.succ d) n=false from Ai8 hd,Bo]
   exact h
theorem Nt{f g:Loc}(d:Loc.Gf p f g)(h:N2 p n tm):Bi f n tm=Bi g n tm:=by
 unfold Bi;congr 1;apply cj;intro t _;exact Ajb d _ (h.tmp t)
structure Reads(f:Loc)(tm:Ax)(ρ:Operand->Value):Prop where
 tmp:∀t,ρ (.tmp t)=Cr f (tmp tm t)
 const:∀v,ρ (.const v)=v
 func:∀g,ρ (.func g)=.func (.func g) #[] #[]
theorem Bl {f:Loc}(d:Reads f tm ρ)(h:Cm tm x=some v):ρ x=Cr f v:=by
 cases x with
 | tmp t=>rw[d.tmp];simp only[Cm]at h;cases h;rfl
 | const c=>rw[d.const];exact(Bi7 f h).symm
 | global g=>cases h
 | func g=>rw[d.func];cases h;rfl
theorem Fu(d:N2 p n tm)(h:Cm tm x=some v):v.ok p:=by
 cases x with
 | tmp t=>simp only[Cm]at h;cases h;exact d.tmp t
 | const c=>exact Be5 p h
 | global g=>cases h
 | func g=>cases h;exact⟨trivial,trivial⟩
theorem Aet {f:Loc}(d:Reads f tm ρ):∀{xs:List Operand} {l:List EV},O1 tm xs=some l->xs.map ρ=Bx f l
 | [],_,h=>by cases h;rfl
 | x::r,_,h=>by
  unfold O1 at h;split at h
  ·rename_i a e
   split at h
   ·rename_i b hb
    cases h;rw[dQ,Bl d e,Aet d hb,Bx]
   ·cases h
  ·cases h
theorem Apk(d:N2 p n tm):∀{xs:List Operand} {l:List EV},O1 tm xs=some l->EV.Wz p l
 | [],_,h=>by cases h;trivial
 | x::r,_,h=>by
  unfold O1 at h;split at h
  ·rename_i a e
   split at h
   ·rename_i b hb
    cases h;exact⟨Fu d e,Apk d hb⟩
   ·cases h
  ·cases h
theorem Ap0 {f:Loc}(d:Reads f tm ρ):∀{xs:List (Nat × Operand)} {l:List (Nat × EV)},Ad2 tm xs=some l->xs.map (fun(i,x)=>(i,ρ x))=l.map (fun(i,v)=>(i,Cr f v))
 | [],_,h=>by cases h;rfl
 | (i,x)::r,_,h=>by
  unfold Ad2 at h;split at h
  ·rename_i a e
   split at h
   ·rename_i b hb
    cases h;rw[dQ,dQ,Ap0 d hb];show(i,ρ x)::_=(i,Cr f a)::_;rw[Bl d e]
   ·cases h
  ·cases h
theorem Azk(e:N2 p n tm):∀{xs:List (Nat × Operand)} {l:List (Nat × EV)},Ad2 tm xs=some l->∀q∈l,q.2.ok p
 | [],_,h=>by cases h;simp
 | (i,x)::r,_,h=>by
  unfold Ad2 at h;split at h
  ·rename_i a j
   split at h
   ·rename_i b hb
    cases h;intro q d;rcases bU.1 d with rfl|d
    ·exact Fu e j
    ·exact Azk e hb q d
   ·cases h
  ·cases h
end
variable {f g:Loc}
section
theorem Zr:∀l:List EV,len l=l.length
 | []=>rfl
 | _::r=>by rw[len,Zr r];rfl
theorem Yi:∀(l:List EV) (n:Nat),Ady l n=l.drop n
 | [],n=>by simp[Ady]
 | a::r,0=>rfl
 | a::r,n+1=>by
  have:Ady (a::r) (n+1)=Ady r n:=rfl;rw[this,Yi r n];rfl
theorem Aj7:∀{l:List EV} {n:Nat} {x:List EV},takeN l n=some x->n<=l.length/\x=l.take n
 | [],0,x,h=>by cases h;exact⟨aE _,rfl⟩
 | [],n+1,x,h=>by cases h
 | a::r,0,x,h=>by cases h;exact⟨cQ _,rfl⟩
 | a::r,n+1,x,h=>by
  have e:takeN (a::r) (n+1)=match takeN r n with|some x=>some (a::x)|none=>none:=rfl
  rw[e]at h;split at h
  ·rename_i y d
   cases h;obtain⟨h1,rfl⟩:=Aj7 d;exact⟨by simp;omega,rfl⟩
  ·cases h
theorem Aqq:∀{l vs x:List EV},Ld l vs=some x->vs.length<=l.length/\x=vs++l.drop vs.length
 | l,[],x,h=>by
  have:Ld l []=some l:=by cases l<;>rfl
  rw[this]at h;cases h;exact⟨cQ _,rfl⟩
 | [],v::vs,x,h=>by cases h
 | a::r,v::vs,x,h=>by
  have e:Ld (a::r) (v::vs)=match Ld r vs with|some x=>some (v::x)|none=>none:=rfl
  rw[e]at h;split at h
  ·rename_i y d
   cases h;obtain⟨h1,rfl⟩:=Aqq d;exact⟨by simp;omega,rfl⟩
  ·cases h
theorem Adl:∀{l:List EV} {off:Nat} {vs x:List EV},Gw l off vs=some x->off+vs.length<=l.length/\x=l.take off++vs++l.drop (off+vs.length)
 | [],0,vs,x,h=>by
  have e:Gw [] 0 vs=Ld [] vs:=rfl;rw[e]at h;obtain⟨h1,rfl⟩:=Aqq h;exact⟨by omega,by simp⟩
 | [],off+1,vs,x,h=>by cases h
 | a::r,0,vs,x,h=>by
  have e:Gw (a::r) 0 vs=Ld (a::r) vs:=rfl;rw[e]at h;obtain⟨h1,rfl⟩:=Aqq h;exact⟨by omega,by simp⟩
 | a::r,off+1,vs,x,h=>by
  have e:Gw (a::r) (off+1) vs=match Gw r off vs with|some x=>some (a::x)|none=>none:=rfl
  rw[e]at h;split at h
  ·rename_i y d
   cases h;obtain⟨h1,rfl⟩:=Adl d;refine⟨by simp;omega,?_⟩;rw[show off+1+vs.length=(off+vs.length)+1 from by omega];simp
  ·cases h
theorem Ayd {l:List EV}{x:List EV}(h:Gw l off vs=some x)(d:v∈x):v∈l\/v∈vs:=by
 obtain⟨h1,rfl⟩:=Adl h;simp only[bO]at d;rcases d with(d|d)|d
 ·exact .inl (b9 d)
 ·exact .inr d
 ·exact .inl (aU d)
theorem Bav:∀(l:List Field) (i:Nat),A8o l i=l[i]?
 | [],i=>by simp[A8o]
 | a::r,0=>rfl
 | a::r,i+1=>by
  have:A8o (a::r) (i+1)=A8o r i:=rfl;rw[this,Bav r i];simp
theorem A3h:∀(l:List Oper) (i:Nat),A25 l i=l[i]?
 | [],i=>by simp[A25]
 | a::r,0=>rfl
 | a::r,i+1=>by
  have:A25 (a::r) (i+1)=A25 r i:=rfl;rw[this,A3h r i];simp
theorem Aql(l:List EV):∀n,(rep l n).length=n*l.length
 | 0=>by simp[rep]
 | n+1=>by rw[rep,aH,Aql l n,fZ];omega
theorem Az9 {l:List EV}:∀{n:Nat},v∈rep l n->v∈l
 | 0,h=>by simp[rep]at h
 | n+1,h=>by
  rw[rep,bO]at h;rcases h with h|h
  ·exact h
  ·exact Az9 h
theorem Bjs(l:List EV):∀(n i:Nat),i<n*l.length->(rep l n)[i]? = l[i%l.length]?
 | 0,i,h=>by simp at h
 | n+1,i,h=>by
  rw[rep];by_cases hi:i<l.length
  ·rw[bh hi,fU hi]
  ·rw[bV (by omega),Bjs l n (i-l.length) (by rw[fZ]at h;omega)]
   rw[<-Nat.mod_eq_sub_mod (by omega)]
theorem Aur(h:Nat.beq (T4 k) (T4 k')=true):k=k':=by
 cases k<;>cases k'<;>first|rfl|(cases h)
theorem A82(k:IntKind)(hs:k.signed=false)(n:Int)(h0:0<=n)(h1:n<2^k.bits):k.wrap n=n:=by
 unfold IntKind.wrap;simp only[hs,bA,ak,bD];exact Int.emod_eq_of_lt h0 h1
theorem Ans(k:IntKind)(hs:k.signed=true)(n M:Int)(j:(2:Int)^k.bits=2*M)(d:(2:Int)^(k.bits-1)=M)(h0 : -M<=n)(h1:n<M):k.wrap n=n:=by
 unfold IntKind.wrap;simp only[hs,bF,aQ,j,d,ge_iff_le];by_cases m:0<=n
 ·rw[Int.emod_eq_of_lt m (by omega),aF (by omega)]
 ·have e:n%(2*M)=n+2*M:=by
   rw[<-Int.add_emod_right];exact Int.emod_eq_of_lt (by omega) (by omega)
  rw[e,aG (by omega)];omega
theorem Oc(k:IntKind)(n:Int):Dz k n=k.wrap n:=by
 cases n with
 | ofNat m=>
  show Bf (Nat.ble (Nat.succ m) (lid k)) (Int.ofNat m) (k.wrap (Int.ofNat m))=_;rw[Bt];split
  ·rename_i h
   have h:=bI h;symm;cases k<;>simp only[lid]at h
   case u8=>exact A82 _ rfl _ (by simp) (by simp only[IntKind.bits,bB];omega)
   case u16=>exact A82 _ rfl _ (by simp) (by simp only[IntKind.bits,bB];omega)
   case u32=>exact A82 _ rfl _ (by simp) (by simp only[IntKind.bits,bB];omega)
   case u64=>exact A82 _ rfl _ (by simp) (by simp only[IntKind.bits,bB];omega)
   case i8=>exact Ans _ rfl _ 128 rfl rfl (by simp only[bB];omega) (by simp only[bB];omega)
   case i16=>exact Ans _ rfl _ 32768 rfl rfl (by simp only[bB];omega) (by simp only[bB];omega)
   case i32=>exact Ans _ rfl _ 2147483648 rfl rfl (by simp only[bB];omega) (by simp only[bB];omega)
   case i64=>exact Ans _ rfl _ 9223372036854775808 rfl rfl (by simp only[bB];omega) (by simp only[bB];omega)
  ·rfl
 | negSucc m=>
  show Bf (Nat.ble (Nat.succ m) (floor k)) (Int.negSucc m) (k.wrap (Int.negSucc m))=_;rw[Bt];split
  ·rename_i h
   have h:=bI h;symm;cases k<;>simp only[floor]at h
   case i8=>exact Ans _ rfl _ 128 rfl rfl (by rw[dF];omega) (by rw[dF];omega)
   case i16=>exact Ans _ rfl _ 32768 rfl rfl (by rw[dF];omega) (by rw[dF];omega)
   case i32=>exact Ans _ rfl _ 2147483648 rfl rfl (by rw[dF];omega) (by rw[dF];omega)
   case i64=>exact Ans _ rfl _ 9223372036854775808 rfl rfl (by rw[dF];omega) (by rw[dF];omega)
   all_goals exact absurd h (by omega)
  ·rfl
theorem A0m(a b:Int):ltB a b=decide (a<b):=by
 cases a<;>cases b<;>simp only[ltB]<;>(first
  | (rw[eK];simp only[dJ,aQ];simp only[bB,dF];omega)
  | (simp only[bB,dF];symm;first|(rw[cY];omega)|(rw[aQ];omega)))
theorem An6(a b:Int):eqB a b=decide (a=b):=by
 cases a<;>cases b<;>simp only[eqB]<;>(first
  | (rw[eK];simp only[Nat.beq_eq,aQ];simp only[bB,dF];omega)
  | (simp only[bB,dF];symm;rw[cY];omega))
theorem A42(k:IntKind)(x:Nat):k.wrap ((x%2^k.bits:Nat):Int)=k.wrap (x:Int):=by
 unfold IntKind.wrap;have:((x%2^k.bits:Nat):Int)%(2^k.bits:Int)=(x:Int)%(2^k.bits:Int):=by
  rw[Int.natCast_emod];simp
 simp only[this]
theorem Bp0(k:IntKind)(a b:Nat):k.wrap (((BitVec.ofInt k.bits (Int.ofNat a)&&& BitVec.ofInt k.bits (Int.ofNat b)).toNat:Nat):Int)=k.wrap (Int.ofNat (Nat.land a b)):=by
 have:(BitVec.ofInt k.bits (Int.ofNat a)&&& BitVec.ofInt k.bits (Int.ofNat b)).toNat=(a&&& b)%2^k.bits:=by
  simp only[bB,BitVec.ofInt_natCast,BitVec.toNat_and,BitVec.toNat_ofNat];rw[Nat.and_mod_two_pow]
 rw[this,A42];rfl
theorem Brz(k:IntKind)(a b:Nat):k.wrap (((BitVec.ofInt k.bits (Int.ofNat a)||| BitVec.ofInt k.bits (Int.ofNat b)).toNat:Nat):Int)=k.wrap (Int.ofNat (Nat.lor a b)):=by
 have:(BitVec.ofInt k.bits (Int.ofNat a)||| BitVec.ofInt k.bits (Int.ofNat b)).toNat=(a||| b)%2^k.bits:=by
  simp only[bB,BitVec.ofInt_natCast,BitVec.toNat_or,BitVec.toNat_ofNat];rw[Nat.or_mod_two_pow]
 rw[this,A42];rfl
theorem Bn5(k:IntKind)(a b:Nat):k.wrap (((BitVec.ofInt k.bits (Int.ofNat a) ^^^ BitVec.ofInt k.bits (Int.ofNat b)).toNat:Nat):Int)=k.wrap (Int.ofNat (Nat.xor a b)):=by
 have:(BitVec.ofInt k.bits (Int.ofNat a) ^^^ BitVec.ofInt k.bits (Int.ofNat b)).toNat=(a ^^^ b)%2^k.bits:=by
  simp only[bB,BitVec.ofInt_natCast,BitVec.toNat_xor,BitVec.toNat_ofNat];rw[Nat.xor_mod_two_pow]
 rw[this,A42];rfl
section
variable(f:Loc)(w:World)
theorem Bpq{a b:Int}(t:TypeId)(hs:A3d op=false)(h:Bj0 op k a b=some v):
 (binOp op t (.int k a) (.int k b)).run P w=.ok (Cr f v) w:=by
 cases op<;>simp only[Bj0]at h
 case add=>cases h;simp[binOp,Op.intArith,Cr,Oc];try rfl
 case sub=>cases h;simp[binOp,Op.intArith,Cr,Oc];try rfl
 case mul=>cases h;simp[binOp,Op.intArith,Cr,Oc];try rfl
 case quo=>
  obtain⟨h1,h2⟩:=Yq h;cases h2;rw[An6,cY]at h1;simp[binOp,Op.intDiv,Cr,Oc,h1]
 case rem=>
  obtain⟨h1,h2⟩:=Yq h;cases h2;rw[An6,cY]at h1;simp[binOp,Op.intDiv,Cr,h1]
 case and=>
  split at h
  ·cases h;simp only[binOp,ne_eq,aD,bD,Op.intBits,aV,Bp0,Cr,Oc]
  ·cases h
 case or=>
  split at h
  ·cases h;simp only[binOp,ne_eq,aD,bD,Op.intBits,aV,Brz,Cr,Oc]
  ·cases h
 case xor=>
  split at h
  ·cases h;simp only[binOp,ne_eq,aD,bD,Op.intBits,aV,Bn5,Cr,Oc]
  ·cases h
 case lss=>cases h;simp only[binOp,ne_eq,aD,bD,Op.intCmp,aV,Cr,A0m]
 case gtr=>cases h;simp only[binOp,ne_eq,aD,bD,Op.intCmp,aV,Cr,A0m,gt_iff_lt]
 case eql=>
  cases h;simp only[binOp,ne_eq,aD,bD,Op.intCmp,aV,Cr,An6];congr 2
 case neq=>
  cases h;simp only[binOp,ne_eq,aD,bD,Op.intCmp,aV,Cr,An6,Bt];congr 2;by_cases e:a=b<;>simp[e]
 case leq=>
  cases h;simp only[binOp,ne_eq,aD,bD,Op.intCmp,aV,Cr,A0m,Bt];congr 2;by_cases e:b<a
  ·simp[e]
  ·simp[e,Int.not_lt.1 e]
 case geq=>
  cases h;simp only[binOp,ne_eq,aD,bD,Op.intCmp,aV,Cr,A0m,Bt];congr 2;by_cases e:a<b
  ·simp[e]
  ·simp[e,Int.not_lt.1 e]
 all_goals first|(cases h;done)|(simp[A3d]at hs;done)
theorem Bk4{a:Int}{b:Nat}(t:TypeId)(h:A95 op k a b=some v):
 (binOp op t (.int k a) (.int k' (.ofNat b))).run P w=.ok (Cr f v) w:=by
 have hm:Bf (Nat.ble b k.bits) b k.bits=min b k.bits:=by
  rw[Bt];simp only[dJ];split<;>omega
 have hb:¬(Int.ofNat b<0):=by simp
 cases op<;>simp only[A95]at h
 case shl=>
  cases h;simp only[binOp,Op.shift,hb,bD,aV,Cr,Oc,hm];congr 3
 case shr=>
  split at h
  ·cases h
   simp only[binOp,Op.shift,hb,bD,aV,Cr,hm];congr 2;simp only[bB,aZ];have e:Nat.shiftRight=fun(a b:Nat)=>a >>> b:=rfl
   simp only[e];rw[fS,fO _ (by exact_mod_cast cQ _)];simp
  ·cases h
   simp only[binOp,Op.shift,hb,bD,aV,Cr,hm];congr 2
 all_goals (cases h;done)
end
end
section
def A0s:TypeDesc->Bool
 | .struct _=>true
 | .array _ _=>true
 | _=>false
structure Uf(P:Program)(T:Kh):Prop where
 mixed:P.follows .mixedOrders=true
 fn:∀g fn,T.fn g=some fn->P.funcs[g]? = some fn/\(fn.name == "runtime.NumGoroutine")=false
 Za:∀t d,T.Za t=some d->P.underlying t=some d
 size:∀t n,T.size t=some n->∃i,P.info? t=some i/\i.size=n/\i.bytes<=1048576
 zero:∀t z,T.zero t=some z->∃i v x,P.info? t=some i/\i.zero=some v/\ofV v=some x/\x.plain=true/\z=x.cells/\i.size=z.length/\i.bytes<=1048576 /\
  (T.agg t=some true->x=.agg z)/\(T.agg t=some false->z = [x])
 agg:∀t b,T.agg t=some b->∃d,P.underlying t=some d/\A0s d=b
 eqs:∀t sh,T.eqs t=some sh->P.eqGuardType P.depth t=false/\∀(f:Loc) (w:World) (a b:List EV) (r:Bool),F1 a b=some r->shaped sh a=true ->
  (Op.equal t (.agg (Bx f a).toArray) (.agg (Bx f b).toArray)).run P w=.ok r w
 key:∀t,T.key t=true->(∃d,P.underlying t=some d/\A0s d=true)/\∀(f:Loc) (w:World) (e:Bool) (a:List EV) (sh:List Nat),T.eqs t=some sh->shaped sh a=true ->
  (Instr.checkKey e 10000 t (.agg (Bx f a).toArray)).run P w=.ok () w
section
variable(hT:Uf P T)(w:World)
include hT
theorem Ea{d:TypeDesc}(h:T.Za t=some d):(underlying t).run P w=.ok d w:=by
 simp[underlying,hT.Za t d h]
theorem H4(h:T.size t=some n):(sizeOf t).run P w=.ok n w:=by
 obtain⟨i,h1,h2,_⟩:=hT.size t n h;simp[sizeOf,typeInfo,h1,h2]
theorem Au9(h:T.agg t=some b):(isAgg t).run P w=.ok b w:=by
 obtain⟨d,h1,h2⟩:=hT.agg t b h;subst h2;cases d<;>simp[isAgg,underlying,h1,A0s]
theorem Bea(f:Loc){cs:List EV}(h:part T t cs off=some v):(Go.part t (Bx f cs).toArray off).run P w=.ok (Cr f v) w:=by
 unfold part at h;split at h
 ·rename_i e
  split at h
  ·rename_i n m
   split at h
   ·rename_i l d
    cases h;obtain⟨h1,rfl⟩:=Aj7 d;rw[Yi]at h1⊢;simp only[Go.part,Sem.run_bind,Au9 hT w e,aI,bM,H4 hT w m,aV,Cr];congr 2;apply eQ;simp[Um,List.extract_eq_take_drop]
   ·cases h
  ·cases h
 ·rename_i e
  split at h
  ·rename_i x r d
   cases h;rw[Yi]at d;have:(Bx f cs).toArray[off]? = some (Cr f v):=by
    have h1:cs[off]? = some v:=by
     have:=dO (xs:=cs) (i:=off) (j:=0);rw[d]at this;simpa using this.symm
    simp[Um,h1]
   simp only[Go.part,Sem.run_bind,Au9 hT w e,aI,ak,bD,this,aV]
  ·cases h
 ·cases h
end
theorem Aac(b o n:Nat):(⟨b,o,none⟩:Addr).add n=⟨b,o+n,none⟩:=by
 unfold Addr.add;split
 ·rename_i h;subst h;rfl
 ·rfl
theorem Bhf(cells vs:List Value)(off:Nat)(h:off+vs.length<=cells.length):
 vs.toArray.zipIdx.foldl (fun cs (x:Value × Nat)=>cs.setIfInBounds (off+x.2) x.1) cells.toArray=(cells.take off++vs++cells.drop (off+vs.length)).toArray:=by
 obtain⟨h1,h2⟩:=Great.foldl_set off vs 0 cells.toArray;have e:vs.toArray.zipIdx.foldl (fun cs (x:Value × Nat)=>cs.setIfInBounds (off+x.2) x.1) cells.toArray=(vs.zipIdx 0).foldl (fun cs (x:Value × Nat)=>cs.setIfInBounds (off+x.2) x.1) cells.toArray:=by
  simp
 rw[e];apply gE;intro k;rw[h2 k];simp only[dL,dc,cI];by_cases c1:k<off
 ·rw[aF (by omega),cW,bh (by simp;omega),List.getElem?_take_of_lt c1]
 ·by_cases c2:k<off+vs.length
  ·rw[aG (by omega),bh (by simp;omega),bV (by simp;omega)]
   congr 1;simp;omega
  ·rw[aF (by omega),bV (by simp;omega),dO]
   congr 1;simp;omega
theorem Aty(f:Loc)(l vs:List EV)(off:Nat):Bx f (l.take off++vs++l.drop (off+vs.length))=(Bx f l).take off++Bx f vs++(Bx f l).drop (off+(Bx f vs).length):=by
 simp[Um,List.map_take,List.map_drop]
theorem Azt(f:Loc)(place:Nat->Option (Nat × Nat))(d:Nat->Option (Nat × Nat))(hp:∀i q,place i=some q->d i=some q):
 ∀{cells:List EV} {l:List (Nat × EV)} {c:List EV},fill place cells l=some c->Instr.fill d (Bx f cells).toArray (l.map fun(i,v)=>(i,Cr f v))=some (Bx f c).toArray
 | cells,[],c,h=>by cases h;rfl
 | cells,(i,v)::r,c,h=>by
  unfold fill at h;split at h
  ·cases h
  ·rename_i off size u
   obtain⟨_,h⟩:=Aq h;obtain⟨h1,h2⟩:=Aq h;split at h2
   ·rename_i x y
    rw[Zr]at h1;have m:v.cells.length=size:=aJ h1;obtain⟨B,h4⟩:=Adl y;simp only[dQ,Instr.fill,hp i _ u];have A:(Cr f v).cells=(Bx f v.cells).toArray:=Yw f v;rw[A];simp only[dc,Dh];rw[aF (by simp[m];omega)];have e:=Bhf (Bx f cells) (Bx f v.cells) off (by simp only[Dh];omega);have e2:(fun(cs:Array Value) (x:Value × Nat)=>match x with|(c,j)=>cs.setIfInBounds (off+j) c)=fun cs x=>cs.setIfInBounds (off+x.2) x.1:=rfl
    rw[e2,e,<-Aty,<-h4];exact Azt f place d hp h2
   ·cases h2
theorem Atg(place:Nat->Option (Nat × Nat)){q:EV->Prop}:∀{cells:List EV} {l:List (Nat × EV)} {c:List EV},fill place cells l=some c->(∀v∈cells,q v)->(∀x∈l,∀v∈x.2.cells,q v)->∀v∈c,q v
 | cells,[],c,h,d,_=>by cases h;exact d
 | cells,(i,v)::r,c,h,d,e=>by
  unfold fill at h;split at h
  ·cases h
  ·obtain⟨_,h⟩:=Aq h
   obtain⟨h1,h2⟩:=Aq h;split at h2
   ·rename_i x j
    refine Atg place h2 (fun u hu=>?_) (fun y m=>e y (by simp[m]));rcases Ayd j hu with hu|hu
    ·exact d u hu
    ·exact e (i,v) (by simp) u hu
   ·cases h2
theorem Ap8(place:Nat->Option (Nat × Nat)):∀{cells:List EV} {l:List (Nat × EV)} {c:List EV},fill place cells l=some c->∀q∈l,q.2.plain=true
 | cells,[],c,h=>by simp
 | cells,(i,v)::r,c,h=>by
  unfold fill at h;split at h
  ·cases h
  ·obtain⟨h0,h⟩:=Aq h
   obtain⟨h1,h2⟩:=Aq h;split at h2
   ·intro q d
    rcases bU.1 d with rfl|d
    ·exact h0
    ·exact Ap8 place h2 q d
   ·cases h2
theorem Avg:∀(a b:List UInt8),Bmn a b=decide (a=b)
 | [],[]=>rfl
 | a::r,b::s=>by
  simp only[Bmn];rw[Bt,Avg r s];by_cases h:a=b
  ·subst h
   rw[aG (by simp)];simp
  ·rw[aF]
   ·simp[h]
   ·intro e;exact h (UInt8.toNat_inj.1 (aJ e))
 | [],_::_=>rfl
 | _::_,[]=>rfl
theorem A3c(a b:ByteArray):Bmn a.data.toList b.data.toList=(a == b):=by
 obtain⟨⟨x⟩⟩:=a;obtain⟨⟨y⟩⟩:=b;show Bmn x y=((⟨x⟩:Array UInt8) == ⟨y⟩);rw[Avg];simp only[List.beq_toArray];by_cases h:x=y
 ·subst h;simp
 ·have:(x == y)=false:=by simpa using h
  rw[this];simp[h]
theorem Bj6 {a b:ByteArray}(h:(a == b)=true):a=b:=by
 rw[<-A3c,Avg]at h;have:=dN h;cases a;cases b;simp only[ByteArray.mk.injEq];apply eQ;exact this
section
variable(hT:Uf P T)(f:Loc)(w:World)
theorem Lg(op:BinOp)(t:TypeId)(x y:Operand)(a b:Value)(h1:∀c d,¬(a=.agg c/\b=.agg d))(h2:¬(a=.nilIface/\b=.nilIface)):(eqGuard op t x y a b).run P w=.ok () w:=by
 unfold eqGuard;cases op<;>simp<;>(split<;>first|rfl|(rename_i e1 e2;exact absurd ⟨rfl,rfl⟩ h2)|(rename_i c d;exact absurd ⟨rfl,rfl⟩ (h1 c d))|simp_all)
theorem Bdp(op:BinOp)(t:TypeId)(x y:Operand)(c d:Array Value)(h:P.eqGuardType P.depth t=false):(eqGuard op t x y (.agg c) (.agg d)).run P w=.ok () w:=by
 unfold eqGuard;cases op<;>simp[h]
theorem A7i(d:Nat)(t:TypeId)(a b:Bool)(hu:P.underlying t=some .bool):(Op.equalIn (d+1) t (.bool a) (.bool b)).run P w=.ok (a == b) w:=by
 simp[Op.equalIn,underlying,hu]
theorem Bqq(d:Nat)(t:TypeId)(a b:ByteArray)(hu:P.underlying t=some .string):(Op.equalIn (d+1) t (.string a) (.string b)).run P w=.ok (a == b) w:=by
 simp[Op.equalIn,underlying,hu]
theorem Bcp(d:Nat)(t:TypeId)(e:TypeId)(b:Option Addr)(hu:P.underlying t=some (.pointer e)):(Op.equalIn (d+1) t (.pointer none) (.pointer b)).run P w=.ok b.isNone w:=by
 simp[Op.equalIn,underlying,hu]
theorem Bqw(d:Nat)(t:TypeId)(e:TypeId)(b:Addr)(hu:P.underlying t=some (.pointer e)):(Op.equalIn (d+1) t (.pointer (some b)) (.pointer none)).run P w=.ok false w:=by
 simp[Op.equalIn,underlying,hu]
theorem Bj9(d:Nat)(t:TypeId)(e:TypeId)(n:Nat)(b:Addr)(hu:P.underlying t=some (.pointer e))(hs:(sizeOf e).run P w=.ok n w):(Op.equalIn (d+1) t (.pointer (some b)) (.pointer (some b))).run P w=.ok true w:=by
 simp only[Op.equalIn,underlying,hu,Sem.run_bind,hs];simp only[Sem.run_bind,hs,aI,samePointer,sameAddr];simp[hu,hs,aI]
theorem Blo(d:Nat)(t:TypeId)(e:TypeId)(b:Option Addr)(n m:Nat)(hu:P.underlying t=some (.slice e)):(Op.equalIn (d+1) t (.slice none 0 0) (.slice b n m)).run P w=.ok b.isNone w:=by
 simp[Op.equalIn,underlying,hu]
theorem A5k(d:Nat)(t:TypeId)(e:TypeId)(b:Addr)(n m:Nat)(hu:P.underlying t=some (.slice e)):(Op.equalIn (d+1) t (.slice (some b) n m) (.slice none 0 0)).run P w=.ok false w:=by
 simp[Op.equalIn,underlying,hu]
include hT
theorem Bc8{a b:EV}{r:Bool}(h:Axy T t a b=some r):(Op.equal t (Cr f a) (Cr f b)).run P w=.ok r w /\
 (∀op x y,(eqGuard op t x y (Cr f a) (Cr f b)).run P w=.ok () w) /\
 binOp .eql t (Cr f a) (Cr f b)=(do pure (.bool (←Op.equal t (Cr f a) (Cr f b))))/\binOp .neq t (Cr f a) (Cr f b)=(do pure (.bool (!(←Op.equal t (Cr f a) (Cr f b))))):=by
 unfold Axy at h;split at h
 ·rename_i l l'
  split at h
  ·rename_i sh j
   obtain⟨m,h4⟩:=Aq h;obtain⟨e1,e2⟩:=hT.eqs t sh j;exact⟨e2 f w l l' r h4 m,fun op x y=>Bdp w op t x y _ _ e1,rfl,rfl⟩
  ·cases h
 ·rename_i p q
  split at h
  ·rename_i hu
   cases h;refine⟨?_,fun op x y=>Lg w op t x y _ _ (by intro c d e;cases e.1) (by intro e;cases e.1),rfl,rfl⟩;refine(A7i w 9999 t p q (hT.Za _ _ hu)).trans ?_;cases p<;>cases q<;>rfl
  ·cases h
 ·split at h
  ·rename_i hu
   cases h;exact⟨Bcp w 9999 t _ none (hT.Za _ _ hu),fun op x y=>Lg w op t x y _ _ (by intro c d e;cases e.1) (by intro e;cases e.1),rfl,rfl⟩
  ·cases h
 ·split at h
  ·rename_i hu
   cases h;exact⟨Bcp w 9999 t _ (some _) (hT.Za _ _ hu),fun op x y=>Lg w op t x y _ _ (by intro c d e;cases e.1) (by intro e;cases e.1),rfl,rfl⟩
  ·cases h
 ·split at h
  ·rename_i hu
   cases h;exact⟨Bqw w 9999 t _ _ (hT.Za _ _ hu),fun op x y=>Lg w op t x y _ _ (by intro c d e;cases e.1) (by intro e;cases e.1),rfl,rfl⟩
  ·cases h
 ·split at h
  ·rename_i hu
   split at h
   ·rename_i n u
    obtain⟨h1,h2⟩:=Aq h;obtain⟨m,h4⟩:=Aq h2;cases h4;rw[aJ h1,aJ m];exact⟨Bj9 w 9999 t _ n _ (hT.Za _ _ hu) (H4 hT w u),fun op x y=>Lg w op t x y _ _ (by intro c d e;cases e.1) (by intro e;cases e.1),rfl,rfl⟩
   ·cases h
  ·cases h
 ·split at h
  ·rename_i hu
   cases h;exact⟨Blo w 9999 t _ none 0 0 (hT.Za _ _ hu),fun op x y=>Lg w op t x y _ _ (by intro c d e;cases e.1) (by intro e;cases e.1),rfl,rfl⟩
  ·cases h
 ·split at h
  ·rename_i hu
   cases h;exact⟨A5k w 9999 t _ _ _ _ (hT.Za _ _ hu),fun op x y=>Lg w op t x y _ _ (by intro c d e;cases e.1) (by intro e;cases e.1),rfl,rfl⟩
  ·cases h
 ·split at h
  ·rename_i hu
   cases h;exact⟨A5k w 9999 t _ _ _ _ (hT.Za _ _ hu),fun op x y=>Lg w op t x y _ _ (by intro c d e;cases e.1) (by intro e;cases e.1),rfl,rfl⟩
  ·cases h
 ·cases h
end
end
section
section
variable(hT:Uf P T)(f:Loc)(w:World)
include hT
theorem Brh{a b:EV}(h:bin T op t a b=some v)(x y:Operand):
 (eqGuard op t x y (Cr f a) (Cr f b)).run P w=.ok () w/\(binOp op t (Cr f a) (Cr f b)).run P w=.ok (Cr f v) w:=by
 unfold bin at h;split at h
 ·rename_i k a k' b
  refine⟨Lg w op t x y _ _ (by intro c d e;cases e.1) (by intro e;cases e.1),?_⟩;rw[Bt]at h;split at h
  ·split at h
   ·exact Bk4 f w t h
   ·cases h
  ·rename_i hs
   obtain⟨h1,h2⟩:=Aq h;obtain rfl:=Aur h1;exact Bpq f w t (by simpa using hs) h2
 ·rename_i u
  split at h
  ·split at h
   ·rename_i r j
    cases h;obtain⟨h1,h2,m,_⟩:=Bc8 hT f w j;refine⟨h2 _ x y,?_⟩;rw[m];simp[h1,Cr]
   ·cases h
  ·split at h
   ·rename_i r j
    cases h;obtain⟨h1,h2,_,m⟩:=Bc8 hT f w j;refine⟨h2 _ x y,?_⟩;rw[m];simp[h1,Cr,Bt]
   ·cases h
  ·cases h
theorem Aoo {x:Option EV}{hi:Nat}(h:bound x hi dflt=some n)(code:BoundsCode):
 (∀u,x=some u->(Instr.sliceBound (Cr f u) hi code).run P w=.ok n w)/\(x=none->n=dflt):=by
 cases x with
 | none=>cases h;exact⟨fun u hu=>(by cases hu),fun _=>rfl⟩
 | some u=>
  refine⟨fun e hu=>?_,fun hu=>(by cases hu)⟩;cases hu;unfold bound at h;split at h
  ·rename_i d;cases d
  ·rename_i k m d
   cases d;obtain⟨h1,h2⟩:=Aq h;cases h2;simp only[dJ]at h1;simp only[Instr.sliceBound,Cr,asIntOf,Sem.run_bind,aV,aI];rw[aG (by simp;omega)];simp
  ·cases h
theorem Axc{len cap h l:Nat}(d:Bool)(h1:bound hi cap len=some h)(h2:bound lo h 0=some l):
 (Instr.sliceBounds d len cap (lo.map (Cr f)) (hi.map (Cr f)) none).run P w=.ok (l,h,cap) w:=by
 obtain⟨e,m⟩:=Aoo hT f w h1 (if d=true then .sliceAcap else .sliceAlen);obtain⟨b1,b2⟩:=Aoo hT f w h2 .sliceB;unfold Instr.sliceBounds;cases hi with
 | none=>
  obtain rfl:=m rfl;cases lo with
  | none=>obtain rfl:=b2 rfl;simp
  | some u=>simp[b1 u rfl]
 | some j=>
  cases lo with
  | none=>obtain rfl:=b2 rfl;simp[e j rfl]
  | some u=>simp[e j rfl,b1 u rfl]
theorem Bde {j:Option EV}{len cap room m h l:Nat}(e:Bool){y d:EV}(hm:j=some y)(C:hi=some d)(G:room<=cap)(h0:bound j room 0=some m)(h1:bound hi m 0=some h)(h2:bound lo h 0=some l):
 (Instr.sliceBounds e len cap (lo.map (Cr f)) (hi.map (Cr f)) (j.map (Cr f))).run P w=.ok (l,h,m) w:=by
 have A:bound j cap 0=some m:=by
  subst hm;unfold bound at h0⊢;split at h0
  ·rename_i D;cases D
  ·obtain⟨E,F⟩:=Aq h0
   cases F;simp only[dJ]at E;rw[Bt,aG (by simp only[dJ];omega)]
  ·cases h0
 obtain⟨c1,_⟩:=Aoo hT f w A (if e=true then .slice3Acap else .slice3Alen);obtain⟨B,_⟩:=Aoo hT f w h1 .slice3B;obtain⟨b1,b2⟩:=Aoo hT f w h2 .slice3C;subst hm C;unfold Instr.sliceBounds;cases lo with
 | none=>obtain rfl:=b2 rfl;simp[c1 y rfl,B d rfl]
 | some u=>simp[c1 y rfl,B d rfl,b1 u rfl]
omit hT in
theorem Bb8 {x:Option EV}{hi:Nat}(hd:dflt<=hi)(h:bound x hi dflt=some n):n<=hi:=by
 unfold bound at h;split at h
 ·cases h;exact hd
 ·obtain⟨h1,h2⟩:=Aq h
  cases h2;simpa only[dJ]using h1
 ·cases h
theorem Bjh {len room:Nat}{op:Bool}{size:Nat}{F:Option EV}(h:slc (.slice i off len room op) size lo hi F=some v)(d:Bool):
 ∃l j m,(Instr.sliceBounds d len (if op=true then room+f.sp i else room) (lo.map (Cr f)) (hi.map (Cr f)) (F.map (Cr f))).run P w=.ok (l,j,m) w /\
  Cr f v=.slice (some (if m=l then(⟨f.b i,off,none⟩:Addr)else(⟨f.b i,off,none⟩:Addr).add (l*size))) (j-l) (m-l):=by
 unfold slc at h;simp only[Nat.add_eq,Nat.mul_eq,Nat.sub_eq]at h;split at h
 ·split at h
  ·cases h
  ·rename_i j h1
   split at h
   ·cases h
   ·rename_i l h2
    rw[Bt]at h;split at h
    ·rename_i u
     subst u;have B:bound hi (room+f.sp i) len=some j:=by
      unfold bound at h1⊢;split at h1
      ·exact h1
      ·obtain⟨H,J⟩:=Aq h1
       cases J;simp only[dJ]at H;rw[Bt,aG (by simp only[dJ];omega)]
      ·cases h1
     have hb:=Axc hT f w d B h2;refine⟨l,j,room+f.sp i,by simpa using hb,?_⟩;rw[Bt]at h;split at h
     ·rename_i h0
      have C:=aJ h0;subst C;cases h;simp only[Cr,bM,gA,Nat.sub_zero];congr 2;rw[Aac];simp
     ·rw[Bt]at h
      split at h
      ·rename_i h0
       cases h;simp only[dJ]at h0;rw[aF (by omega),Aac];simp only[Cr,bM];congr 1;omega
      ·obtain⟨G,h4⟩:=Aq h
       have D:=aJ G;subst D;obtain⟨K,L⟩:=Aq h4;cases L;have E:=aJ K;subst E;simp only[Cr,gK,Aac];congr 1
       ·by_cases y:f.sp i=0
        ·rw[aG y,aG (by omega)]
        ·rw[aF y,aF (by omega)]
       ·omega
    ·rename_i u
     obtain⟨G,h4⟩:=Aq h;cases h4;have A:op=false:=by simpa using u
     subst A;have hb:=Axc hT f w d h1 h2;refine⟨l,j,room,by simpa using hb,?_⟩;simp only[Cr,ak,bD];rw[Bt];congr 2;by_cases e:room=l
     ·rw[aG (by rw[e];exact cO l),aG e]
     ·rw[aF (by simpa using e),aF e,Aac]
 ·rename_i M
  cases hm:bound (some M) room 0 with
  | none=>rw[hm]at h;cases h
  | some m=>
   rw[hm]at h;cases hi with
   | none=>cases h
   | some O=>
    simp only at h;split at h
    ·cases h
    ·rename_i j h1
     split at h
     ·cases h
     ·rename_i l h2
      cases h;have hb:=Bde hT f w (len:=len) d rfl rfl (cap:=if op=true then room+f.sp i else room) (room:=room) (by split<;>omega) hm h1 h2;refine⟨l,j,m,hb,?_⟩;simp only[Cr,ak,bD];rw[Bt];congr 2;by_cases e:m=l
      ·rw[aG (by rw[e];exact cO l),aG e]
      ·rw[aF (by simpa using e),aF e,Aac]
end
end
section
theorem Bik:∀(l:List (Nat × Nat)) (i:Nat),A6k l i=l[i]?
 | [],i=>by simp[A6k]
 | a::r,0=>rfl
 | a::r,i+1=>by
  have:A6k (a::r) (i+1)=A6k r i:=rfl;rw[this,Bik r i];simp
theorem Bi0:∀(l:List UInt8) (i:Nat),Bkm l i=l[i]?
 | [],i=>by simp[Bkm]
 | a::r,0=>rfl
 | a::r,i+1=>by
  have:Bkm (a::r) (i+1)=Bkm r i:=rfl;rw[this,Bi0 r i];simp
theorem Aki(f:Loc)(l:List EV)(i:Nat):(Bx f l)[i]? = (l[i]?).map (Cr f):=by rw[Um,bG]
theorem Aa1(d:Reads f tm ρ){x:Option Operand}{v:Option EV}(h:Afl tm x=some v):x.map ρ=v.map (Cr f):=by
 cases x with
 | none=>simp only[Afl]at h;cases h;rfl
 | some x=>
  simp only[Afl]at h;split at h
  ·rename_i a e
   cases h;simp[Bl d e]
  ·cases h
section
variable(hT:Uf P T)(f:Loc)(w:World)
include hT
theorem A5m:∀{l:List Field} {ps:List (Nat × Nat)},placesOf T l=some ps ->
 (l.mapM (m:=Sem) fun fd=>do pure (fd.offset,<-sizeOf fd.type)).run P w=.ok ps w
 | [],ps,h=>by cases h;rfl
 | fd::r,ps,h=>by
  unfold placesOf at h;split at h
  ·rename_i n d
   split at h
   ·rename_i q e
    cases h;rw[List.mapM_cons];have j:=A5m e;simp only[Sem.run_bind,H4 hT w d,aI,aV,j]
   ·cases h
  ·cases h
theorem Af2{z:List EV}(h:T.zero t=some z):∃x:EV,x.plain=true/\z=x.cells/\(zeroValue t).run P w=.ok (Cr f x) w /\
 (T.agg t=some true->x=.agg z)/\(T.agg t=some false->z = [x])/\(∀p,x.ok p)/\∃i,P.info? t=some i/\i.size=z.length/\i.bytes<=1048576:=by
 obtain⟨i,v,x,h1,h2,d,h4,e,j,m,u,y⟩:=hT.zero t z h;refine⟨x,h4,e,?_,u,y,fun p=>Be5 p d,i,h1,j,m⟩;rw[Bi7 f d];simp[zeroValue,typeInfo,h1,h2]
theorem Bmt(A:Reads f tm ρ){o:Oper}(h:Fz T tm o.op=some v):
 (execOp ρ o).run P w=.ok (.value (Cr f v)) w:=by
 obtain⟨dst,op,type,after,pos,guard⟩:=o;simp only at h;cases op with
 | move x=>simp only[Fz]at h;simp[execOp,Bl A h]
 | assign x=>simp only[Fz]at h;simp[execOp,Bl A h]
 | pick c a b=>
  simp only[Fz]at h;split at h
  ·rename_i G;simp[execOp,Bl A G,Bl A h,Cr,asBool]
  ·rename_i G;simp[execOp,Bl A G,Bl A h,Cr,asBool]
  ·cases h
 | binOp op t x y c=>
  simp only[Fz]at h;split at h
  ·rename_i a U
   split at h
   ·rename_i b hb
    obtain⟨h1,h2⟩:=Brh hT f w h x y;simp[execOp,Bl A U,Bl A hb,h1,h2]
   ·cases h
  ·cases h
 | unOp op t x=>
  cases op with
  | not=>
   simp only[Fz]at h;split at h
   ·rename_i b B
    cases h;cases b<;>simp[execOp,Bl A B,Cr,Op.unary]
   ·cases h
  | neg=>
   simp only[Fz]at h;split at h
   ·rename_i k n B
    cases h;simp only[execOp,Bl A B,Cr,Op.unary,Op.intArith,Oc,Sem.run_bind,aV,aI];rfl
   ·cases h
  | _=>simp[Fz]at h
 | nilCheck x=>
  simp only[Fz]at h;split at h
  ·rename_i i off B
   cases h;simp[execOp,Bl A B,Cr]
  ·cases h
 | fieldAddr s x V=>
  simp only[Fz]at h;split at h
  ·rename_i i off B
   split at h
   ·rename_i fields hu
    split at h
    ·rename_i fd Q
     split at h
     ·rename_i n hn
      obtain⟨h1,h2⟩:=Yq h;cases h2;rw[Bav]at Q;have H:fields[V]? = some fd:=by simpa using Q
      have S:n≠0:=by intro e;subst e;cases h1
      simp[execOp,Instr.fieldAt,Bl A B,Ea hT w hu,H,Cr,Instr.sureAddr,fieldPlace,H4 hT w hn,S,Aac]
     ·cases h
    ·cases h
   ·cases h
  ·cases h
 | indexAddr t x ix=>
  simp only[Fz]at h;split at h
  ·rename_i k n C
   split at h
   ·rename_i len e i off hu B
    split at h
    ·rename_i s hs
     obtain⟨h1,h2⟩:=Aq h;cases h2;simp only[dJ]at h1;have F:(n:Int)<len:=by omega
     simp[execOp,Instr.indexAt,Bl A C,Bl A B,Cr,asIntOf,Ea hT w hu,Instr.sureAddr,H4 hT w hs,Aac];exact fun hle=>absurd hle (by omega)
    ·cases h
   ·rename_i e i off len r op hu B
    split at h
    ·rename_i s hs
     obtain⟨h1,h2⟩:=Aq h;cases h2;simp only[dJ]at h1;have F:(n:Int)<len:=by omega
     simp[execOp,Instr.indexAt,Bl A C,Bl A B,Cr,asIntOf,Ea hT w hu,H4 hT w hs,Aac];exact fun hle=>absurd hle (by omega)
    ·cases h
   ·cases h
  ·cases h
 | index t x ix=>
  simp only[Fz]at h;split at h
  ·rename_i k n C
   split at h
   ·rename_i len e cs hu B
    split at h
    ·rename_i s hs
     obtain⟨h1,h2⟩:=Aq h;simp only[dJ]at h1;have F:(n:Int)<len:=by omega
     have hp:=Bea hT w f h2;simp only[Nat.mul_eq]at hp;simp[execOp,Instr.index,Bl A C,Bl A B,Cr,asIntOf,Ea hT w hu,H4 hT w hs,hp];exact fun hle=>absurd hle (by omega)
    ·cases h
   ·rename_i s hu B
    split at h
    ·rename_i b hb
     cases h;rw[Bi0]at hb;have W:s[n]? = some b:=by
      have e:s.data[n]? = some b:=by simpa using hb
      rw[<-e];rfl
     simp[execOp,Instr.index,Bl A C,Bl A B,Cr,asIntOf,Ea hT w hu,W]
    ·cases h
   ·cases h
  ·cases h
 | field t x V=>
  simp only[Fz]at h;split at h
  ·rename_i fields cs hu B
   split at h
   ·rename_i fd Q
    rw[Bav]at Q;have H:fields[V]? = some fd:=by simpa using Q
    have hp:=Bea hT w f h;simp[execOp,Instr.field,Bl A B,Cr,Ea hT w hu,H,asAgg,hp]
   ·cases h
  ·cases h
 | convert src d x=>
  simp only[Fz]at h;split at h
  ·rename_i ud k k' n hs hd B
   cases h;simp only[execOp,Go.convert,Bl A B,Cr,Sem.run_bind,Ea hT w hs,Ea hT w hd,aI,Conv.intToInt,aV,Oc]
  ·cases h
 | extract x ix=>
  simp only[Fz]at h;split at h
  ·rename_i l B
   split at h
   ·rename_i u r M
    cases h;rw[Yi]at M;have h1:l[ix]? = some v:=by
     have:=dO (xs:=l) (i:=ix) (j:=0);rw[M]at this;simpa using this.symm
    simp[execOp,Instr.extract,Bl A B,Cr,Aki,h1]
   ·cases h
  ·cases h
 | slice t x lo hi mx=>
  simp only[Fz]at h;split at h
  ·rename_i ad ae X J K D
   split at h
   ·rename_i n e i off hu B
    split at h
    ·rename_i s hs
     obtain⟨l,Y,m,h1,h2⟩:=Bjh hT f w h false;simp only[ak,bD]at h1;simp[execOp,Instr.sliceAt,Ea hT w hu,Bl A B,Aa1 A J,Aa1 A K,Aa1 A D,Cr,Instr.sureAddr,h1,H4 hT w hs,h2]
    ·cases h
   ·rename_i e x' hu B
    split at h
    ·rename_i s hs
     cases x' with
     | slice i off len room op=>
      obtain⟨l,Y,m,h1,h2⟩:=Bjh hT f w h true;simp[execOp,Instr.sliceAt,Instr.slice,Ea hT w hu,Bl A B,Aa1 A J,Aa1 A K,Aa1 A D,Cr,h1,H4 hT w hs,h2];split<;>rfl
     | Ao=>
      unfold slc at h;cases X with
      | some _=>cases h
      | none=>
       simp only at h;split at h
       ·cases h
       ·rename_i Y h1
        split at h
        ·cases h
        ·rename_i l h2
         cases h;have e1:Y=0:=Nat.le_zero.1 (Bb8 (aE _) h1);subst e1;have e2:l=0:=Nat.le_zero.1 (Bb8 (aE _) h2);subst e2;have hb:=Axc hT f w true h1 h2;have hm:mx=none:=by
          cases mx with
          | none=>rfl
          | some o=>simp only[Afl]at D;split at D<;>cases D
         subst hm;simp[execOp,Instr.sliceAt,Instr.slice,Ea hT w hu,Bl A B,Aa1 A J,Aa1 A K,Cr,hb,H4 hT w hs]
     | _=>simp[slc]at h
    ·cases h
   ·cases h
  ·cases h
 | build t ps=>
  simp only[Fz]at h;split at h
  ·rename_i z l fields S M hu
   split at h
   ·rename_i pl Z
    split at h
    ·rename_i c G
     cases h;obtain⟨x,_,e1,e2,_⟩:=Af2 hT f w S;have hp:(fields.mapM (m:=Sem) fun fd=>do pure (fd.offset,<-sizeOf fd.type)).run P w=.ok pl.toArray w:=by
      have e:fields=fields.toList.toArray:=by simp
      rw[e,List.mapM_toArray];have O:=A5m hT w Z;simp only[map_eq_pure_bind,Sem.run_bind,O,aI,aV]
     have E:=Azt f (A6k pl) (fun i=>pl.toArray[i]?) (fun i q O=>by rw[Bik]at O;simpa using O) G;have L:(ps.map fun(i,x)=>(i,ρ x)).toList=l.map fun(i,v)=>(i,Cr f v):=by
      rw[Array.toList_map,Ap0 A M]
     rw[e1]at E;simp only[execOp,Instr.build,Sem.run_bind,e2,aI,Ea hT w hu,hp,Yw,L,E,aV,Cr]
    ·cases h
   ·cases h
  ·rename_i z l n e S M hu
   split at h
   ·rename_i s hs
    split at h
    ·rename_i c G
     cases h;obtain⟨x,_,e1,e2,_⟩:=Af2 hT f w S;have E:=Azt f (fun i=>some (Nat.mul i s,s)) (fun i=>some (i*s,s)) (fun i q O=>O) G;have L:(ps.map fun(i,x)=>(i,ρ x)).toList=l.map fun(i,v)=>(i,Cr f v):=by
      rw[Array.toList_map,Ap0 A M]
     rw[e1]at E;simp only[execOp,Instr.build,Sem.run_bind,e2,aI,Ea hT w hu,H4 hT w hs,Yw,L,E,aV,Cr]
    ·cases h
   ·cases h
  ·cases h
 | makeFunc fn first captured=>
  cases fn with
  | func g=>
   simp only[Fz]at h;split at h
   ·rename_i a b U hb
    cases h;have h1:first.map ρ=(Bx f a).toArray:=by apply eQ;simp[Aet A U]
    have h2:captured.map ρ=(Bx f b).toArray:=by apply eQ;simp[Aet A hb]
    simp[execOp,Instr.makeFunc,Cr,h1,h2]
   ·cases h
  | _=>simp[Fz]at h
 | sliceToArrayPointer t x=>
  simp only[Fz]at h;split at h
  ·rename_i n e i off len room op hu B
   obtain⟨h1,h2⟩:=Aq h;cases h2;simp only[dJ]at h1;have F:¬len<n:=by omega
   simp[execOp,Instr.arrayAt,Ea hT w hu,Bl A B,Cr,F]
  ·cases h
 | _=>simp[Fz]at h
end
end
theorem Ab.get_put(h:Ab)(i:Nat)(o:Ec)(j:Nat):(h.put i o).get j=if i=j then some o else h.get j:=by
 obtain⟨t,n,m⟩:=h;exact Tr.get_put t i (some o) j
theorem Ab.Ae0(h:Ab)(i j:Nat):(h.del i).get j=if i=j then none else h.get j:=by
 obtain⟨t,n,m⟩:=h;exact Tr.get_put t i none j
theorem Ab.Nq(h:Ab)(o:Ec)(j:Nat):(h.new o).get j=if h.next=j then some o else h.get j:=by
 obtain⟨t,n,m⟩:=h;exact Tr.get_put t n (some o) j
theorem Ab.Si(h:Ab)(i:Nat)(o:Ec):(h.put i o).next=h.next:=rfl
theorem Ab.A5i(h:Ab)(i:Nat):(h.del i).next=h.next:=rfl
theorem Ab.D8(h:Ab)(o:Ec):(h.new o).next=h.next+1:=rfl
theorem Ab.Atl(h:Ab)(i:Nat)(o:Ec):(h.put i o).mw=min i h.mw:=by
 obtain⟨t,n,m⟩:=h;show Bf (Nat.ble i m) i m=min i m;rw[Bt];by_cases hi:i<=m
 ·rw[aG (Af3 hi)];omega
 ·rw[aF (by rw[Ai8 hi];simp)];omega
theorem Ab.A45(h:Ab)(i:Nat):(h.del i).mw=min i h.mw:=Ab.Atl h i (.deferred true)
theorem Ab.Bu7(h:Ab)(o:Ec):(h.new o).mw=h.mw:=rfl
def Ec.ok(p:Nat->Prop):Ec->Prop
 | .cells l _=>EV.Wz p l/\l.all EV.one=true
 | .vec l _ _=>EV.Wz p l/\l.all EV.one=true
 | .map es=>∀e∈es,e.1.ok p/\e.2.ok p
 | .chan _ buf=>EV.Wz p buf
 | .loop _ _ _ n tm _ _ _ d=>N2 p n tm/\p d
 | .deferred _=>True
 | .view ws _=>∀x∈ws,EV.Wz p x.2/\x.2.all EV.one=true
theorem Ec.ok.mono(j:∀i,p i->q i)(h:o.ok p):o.ok q:=by
 cases o with
 | cells l t=>exact⟨EV.Wz.mono j l h.1,h.2⟩
 | vec l t s=>exact⟨EV.Wz.mono j l h.1,h.2⟩
 | map es=>exact fun e he=>⟨EV.ok.mono j _ (h e he).1,EV.ok.mono j _ (h e he).2⟩
 | chan c buf=>exact EV.Wz.mono j buf h
 | loop st u fn n tm ps asg body d=>exact⟨N2.mono h.1 j,j d h.2⟩
 | deferred b=>trivial
 | view ws _=>exact fun x m=>⟨EV.Wz.mono j x.2 (h x m).1,(h x m).2⟩
def Aaq(f:Loc)(i:Nat):Ec->Obj->Prop
 | .cells l e,r=>r=.cells (Bx f l).toArray e (0,0)
 | .vec l e s,r=>∃more:List Value,r=.cells (Bx f l++more).toArray e (0,0)/\more.length=f.sp i*s
 | .map es,r=>∃m clock,r=.map m clock/\m.toList.map (fun e=>(e.key,e.val))=es.map (fun e=>(Cr f e.1,Cr f e.2))
 | .chan cap buf,r=>∃s c,r=.chan cap (Bx f buf).toArray false s c false
 | .loop st p fn n tm ps asg body d,r=>r=.loop ⟨st,p,fn,Bi f n tm,ps.toArray,asg,body,f.b d⟩
 | .deferred op,r=>r=.deferred (if op=true then some []else none)
 | .view ws r0,r=>r=r0/\∃arr e fr,r=.cells arr e fr/\∀x∈ws,∀(j:Nat) v,x.2[j]? = some v->arr[x.1+j]? = some (Cr f v)
theorem Aaq.congr(m:Loc.Gf p f g)(hi:p i)(u:o.ok p){r:Obj}(h:Aaq f i o r):Aaq g i o r:=by
 cases o with
 | cells l t=>simp only[Aaq]at h⊢;rw[h,Ir m l u.1]
 | vec l t s=>simp only[Aaq]at h⊢;obtain⟨more,h1,h2⟩:=h;exact⟨more,by rw[h1,Ir m l u.1],by rw[h2,(m i hi).2]⟩
 | map es=>
  obtain⟨y,clock,h1,h2⟩:=h;refine⟨y,clock,h1,?_⟩;rw[h2];apply cj;intro e he;rw[Ajb m _ (u e he).1,Ajb m _ (u e he).2]
 | chan c buf=>obtain⟨s,B,h1⟩:=h;exact⟨s,B,by rw[h1,Ir m buf u]⟩
 | loop st C fn n tm ps asg body d=>simp only[Aaq]at h⊢;rw[h,Nt m u.1,(m d u.2).1]
 | deferred b=>exact h
 | view ws r0=>
  obtain⟨h0,arr,e,fr,h1,h2⟩:=h;exact⟨h0,arr,e,fr,h1,fun x A j v hj=>by rw[<-Ajb m v ((Km p x.2).1 (u x A).1 v (bY hj))];exact h2 x A j v hj⟩
structure Y9(p:Nat->Prop)(h:Ab):Prop where
 lt:∀i,p i->i<h.next
 get:∀i o,h.get i=some o->p i/\o.ok p
structure Y5(f:Loc)(h:Ab)(w:World):Prop where
 obj:∀i o,h.get i=some o->∃r,w.heap[f.b i]? = some r/\Aaq f i o r
 inj:∀i j o o',h.get i=some o->h.get j=some o'->f.b i=f.b j->i=j
theorem Y5.sub{w:World}(u:Y5 f h w)(hs:∀i o,h'.get i=some o->h.get i=some o):Y5 f h' w where
 obj i o d:=u.obj i o (hs i o d)
 inj i j o o' d m e:=u.inj i j o o' (hs i o d) (hs j o' m) e
theorem Y5.lt{w:World}(d:Y5 f h w)(e:h.get i=some o):f.b i<w.heap.size:=by
 obtain⟨r,h1,_⟩:=d.obj i o e;exact(cP.1 h1).1
def grow(p:Nat->Prop)(h h':Ab)(i:Nat):Prop:=p i\/(h.next<=i/\i<h'.next)
theorem L9(p:Nat->Prop)(h h':Ab)(e:h'.next=h.next):grow p h h'=p:=by
 funext i;exact propext ⟨fun x=>x.elim id (fun⟨a,b⟩=>absurd b (by omega)),.inl⟩
theorem Aja(p:Nat->Prop)(a:h.next<=h1.next)(b:h1.next<=h2.next):grow (grow p h h1) h1 h2=grow p h h2:=by
 funext i;apply propext;constructor
 ·rintro((x|x)|x)
  ·exact .inl x
  ·exact .inr (by omega)
  ·exact .inr (by omega)
 ·rintro(x|x)
  ·exact .inl (.inl x)
  ·by_cases c:i<h1.next
   ·exact .inl (.inr ⟨x.1,c⟩)
   ·exact .inr (by omega)
structure Wf(p:Nat->Prop)(h h':Ab):Prop where
 next:h.next<=h'.next
 mw:h'.mw<=h.mw
 same:∀i,i<h'.mw->i<h.next->h'.get i=h.get i
 live:∀i o,h'.get i=some o->(∃o',h.get i=some o')\/h.next<=i
 hok:Y9 (grow p h h') h'
structure Move(p:Nat->Prop)(f:Loc)(h:Ab)(w:World)(f':Loc)(h':Ab)(w':World):Prop where
 Gf:Loc.Gf p f f'
 rep:Y5 f' h' w'
 kept:∀b,b<w.heap.size->(∀i o,h.get i=some o->f.b i≠b)->w'.heap[b]? = w.heap[b]?
 size:w.heap.size<=w'.heap.size
 tape:w'.tape=w.tape
 os:w'.os=w.os
 output:w'.output=w.output
 own:∀i o,h'.get i=some o->w.heap.size<=f'.b i\/∃j o',h.get j=some o'/\f'.b i=f.b j
theorem Wf.refl(d:Y9 p h):Wf p h h where
 next:=aE _
 mw:=aE _
 same _ _ _:=rfl
 live i o e:=.inl ⟨o,e⟩
 hok:=by rw[L9 p h h rfl];exact d
theorem Wf.trans(a:Wf p h h1)(b:Wf (grow p h h1) h1 h2):Wf p h h2 where
 next:=bN a.next b.next
 mw:=bN b.mw a.mw
 same i x y:=by rw[b.same i x (by have:=a.next;omega),a.same i (by have:=b.mw;omega) y]
 live i o e:=by
  rcases b.live i o e with⟨o',d⟩|hi
  ·exact a.live i o' d
  ·exact .inr (by have:=a.next;omega)
 hok:=by rw[<-Aja p a.next b.next];exact b.hok
theorem Move.refl{w:World}(d:Y5 f h w):Move p f h w f h w where
 Gf:=Loc.Aqh p f
 rep:=d
 kept _ _ _:=rfl
 size:=aE _
 tape:=rfl
 os:=rfl
 output:=rfl
 own i o e:=.inr ⟨i,o,e,rfl⟩
theorem Move.trans{f1 f2:Loc}{w w1 w2:World}(a:Move p f h w f1 h1 w1)
 (b:Move (grow p h h1) f1 h1 w1 f2 h2 w2):Move p f h w f2 h2 w2 where
 Gf:=a.Gf.trans (b.Gf.mono fun i hi=>.inl hi)
 rep:=b.rep
 kept x A B:=by
  rw[b.kept x (aK A a.size) ?_,a.kept x A B];intro i o u e;rcases a.own i o u with hi|⟨j,o',d,hj⟩
  ·omega
  ·exact B j o' d (hj▸e)
 size:=bN a.size b.size
 tape:=b.tape.trans a.tape
 os:=b.os.trans a.os
 output:=b.output.trans a.output
 own i o u:=by
  rcases b.own i o u with hi|⟨j,o',d,hj⟩
  ·exact .inl (bN a.size hi)
  ·rcases a.own j o' d with hi|⟨k,y,m,C⟩
   ·exact .inl (hj▸hi)
   ·exact .inr ⟨k,y,m,hj.trans C⟩
theorem Wf.put(d:Y9 p h)(hi:h.get i=some o)(m:o'.ok p):Wf p h (h.put i o') where
 next:=aE _
 mw:=by rw[Ab.Atl];omega
 same j x _:=by rw[Ab.Atl]at x;rw[Ab.get_put,aF (by omega)]
 live j q hj:=by
  rw[Ab.get_put]at hj;split at hj
  ·rename_i e;subst e;exact .inl ⟨o,hi⟩
  ·exact .inl ⟨q,hj⟩
 hok:=by
  rw[L9 p h (h.put i o') rfl];refine⟨d.lt,fun j q hj=>?_⟩;rw[Ab.get_put]at hj;split at hj
  ·rename_i e;subst e;cases hj;exact⟨(d.get i o hi).1,m⟩
  ·exact d.get j q hj
theorem Move.put{w w':World}(d:Y5 f h w)(hi:h.get i=some o)
 {r:Obj} (h1:w'.heap[f.b i]? = some r) (h2:Aaq f i o' r) (A:∀b,b≠f.b i->w'.heap[b]? = w.heap[b]?) (h4:w'.heap.size=w.heap.size)
 (B:w'.tape=w.tape) (C:w'.os=w.os) (D:w'.output=w.output):Move p f h w f (h.put i o') w' where
 Gf:=Loc.Aqh p f
 rep:=by
  refine⟨fun j q hj=>?_,fun j k q q' hj m e=>?_⟩
  ·rw[Ab.get_put]at hj
   split at hj
   ·rename_i e;subst e;cases hj;exact⟨r,h1,h2⟩
   ·rename_i e
    obtain⟨E,a,b⟩:=d.obj j q hj;refine⟨E,?_,b⟩;rw[A _ ?_]
    ·exact a
    ·intro e';exact e (d.inj j i q o hj hi e').symm
  ·have u:∃q,h.get j=some q:=by
    rw[Ab.get_put]at hj;split at hj
    ·rename_i e;exact⟨o,e▸hi⟩
    ·exact⟨q,hj⟩
   have y:∃q,h.get k=some q:=by
    rw[Ab.get_put]at m;split at m
    ·rename_i e;exact⟨o,e▸hi⟩
    ·exact⟨q',m⟩
   obtain⟨a,F⟩:=u;obtain⟨b,hb⟩:=y;exact d.inj j k a b F hb e
 kept b _ G:=A b (fun e=>G i o hi e.symm)
 size:=by omega
 tape:=B
 os:=C
 output:=D
 own j q hj:=by
  rw[Ab.get_put]at hj;split at hj
  ·rename_i e;subst e;exact .inr ⟨i,o,hi,rfl⟩
  ·exact .inr ⟨j,q,hj,rfl⟩
def Loc.set(f:Loc)(i b sp:Nat):Loc:=⟨fun j=>if j=i then b else f.b j,fun j=>if j=i then sp else f.sp j⟩
theorem Loc.Agf(f:Loc)(i b sp:Nat):(f.set i b sp).b i=b:=aG rfl
theorem Loc.A96(f:Loc)(i b sp:Nat):(f.set i b sp).sp i=sp:=aG rfl
theorem Loc.Zf(f:Loc){j:Nat}(b sp:Nat)(h:j≠i):(f.set i b sp).b j=f.b j/\(f.set i b sp).sp j=f.sp j:=⟨aF h,aF h⟩
theorem Loc.U4(f:Loc)(b sp:Nat)(h:¬p i):Loc.Gf p f (f.set i b sp):=fun j hj=>
 have e:j≠i:=fun e=>h (e▸hj)
 ⟨(f.Zf b sp e).1.symm,(f.Zf b sp e).2.symm⟩
theorem Y9.fresh(d:Y9 p h):¬p h.next:=fun x=>absurd (d.lt _ x) (by omega)
theorem Y9.Ak9(d:Y9 p h)(hi:h.get i=some o):i≠h.next:=fun e=>d.fresh (e▸(d.get i o hi).1)
theorem Wf.new(d:Y9 p h)(m:o.ok (grow p h (h.new o))):Wf p h (h.new o) where
 next:=by rw[Ab.D8];omega
 mw:=aE _
 same j x y:=by rw[Ab.Nq,aF (by omega)]
 live j q hj:=by
  rw[Ab.Nq]at hj;split at hj
  ·rename_i e;exact .inr (by omega)
  ·exact .inl ⟨q,hj⟩
 hok:=by
  refine⟨fun j hj=>?_,fun j q hj=>?_⟩
  ·rcases hj with hj|hj
   ·have:=d.lt j hj;rw[Ab.D8];omega
   ·exact hj.2
  ·rw[Ab.Nq]at hj
   split at hj
   ·rename_i e;cases hj;exact⟨.inr (by rw[Ab.D8];omega),m⟩
   ·exact⟨.inl (d.get j q hj).1,Ec.ok.mono (fun i hi=>.inl hi) (d.get j q hj).2⟩
theorem Move.new{w w':World}(d:Y9 p h)(u:Y5 f h w)(sp:Nat)
 {r:Obj} (h1:w'.heap=w.heap.push r) (h2:Aaq (f.set h.next w.heap.size sp) h.next o r)
 (y:w'.tape=w.tape) (A:w'.os=w.os) (B:w'.output=w.output):Move p f h w (f.set h.next w.heap.size sp) (h.new o) w' where
 Gf:=f.U4 _ _ d.fresh
 rep:=by
  refine⟨fun j q hj=>?_,fun j k q q' hj m e=>?_⟩
  ·rw[Ab.Nq]at hj
   split at hj
   ·rename_i e;subst e;cases hj;exact⟨r,by rw[Loc.Agf,h1];simp,h2⟩
   ·obtain⟨C,a,b⟩:=u.obj j q hj
    have D:=u.lt hj;obtain⟨hp,hok⟩:=d.get j q hj;refine⟨C,?_,b.congr (f.U4 _ _ d.fresh) hp hok⟩;rw[(f.Zf _ _ (d.Ak9 hj)).1,h1,Array.getElem?_push,aF (by omega)];exact a
  ·rw[Ab.Nq]at hj m
   split at hj
   ·rename_i e1
    split at m
    ·rename_i e2;omega
    ·subst e1
     rw[Loc.Agf,(f.Zf _ _ (d.Ak9 m)).1]at e;have:=u.lt m;omega
   ·split at m
    ·rename_i e2
     subst e2;rw[Loc.Agf,(f.Zf _ _ (d.Ak9 hj)).1]at e;have:=u.lt hj;omega
    ·rw[(f.Zf _ _ (d.Ak9 hj)).1,(f.Zf _ _ (d.Ak9 m)).1]at e
     exact u.inj j k q q' hj m e
 kept b hb _:=by rw[h1,Array.getElem?_push,aF (by omega)]
 size:=by rw[h1];simp
 tape:=y
 os:=A
 output:=B
 own j q hj:=by
  rw[Ab.Nq]at hj;split at hj
  ·rename_i e;subst e;rw[Loc.Agf];exact .inl (aE _)
  ·exact .inr ⟨j,q,hj,(f.Zf _ _ (d.Ak9 hj)).1⟩
theorem Y9.del(d:Y9 p h)(i:Nat):Y9 p (h.del i):=
 ⟨d.lt,fun j q hj=>by rw[Ab.Ae0]at hj;split at hj;cases hj;exact d.get j q hj⟩
theorem Wf.del(d:Y9 p h)(i:Nat):Wf p h (h.del i) where
 next:=aE _
 mw:=by rw[Ab.A45];omega
 same j x _:=by rw[Ab.A45]at x;rw[Ab.Ae0,aF (by omega)]
 live j q hj:=by
  rw[Ab.Ae0]at hj;split at hj
  ·cases hj
  ·exact .inl ⟨q,hj⟩
 hok:=by rw[L9 p h (h.del i) rfl];exact d.del i
theorem A3e:∀j o,(h.del i).get j=some o->h.get j=some o:=by
 intro j o hj;rw[Ab.Ae0]at hj;split at hj
 ·cases hj
 ·exact hj
theorem Wf.Bh8(d:Y9 p h)(i:Nat)(j:o.ok (grow p h (h.new o))):Wf p h ((h.del i).new o):=by
 have a:=Wf.del d i;have e:grow p h (h.del i)=p:=L9 p h (h.del i) rfl;have b:Wf (grow p h (h.del i)) (h.del i) ((h.del i).new o):=by
  rw[e];exact Wf.new (d.del i) j
 exact a.trans b
theorem Move.Bh8{w w':World}(u:Y9 p h)(d:Y5 f h w)(hi:h.get i=some o)(sp:Nat)
 {r:Obj} (h1:w'.heap[f.b i]? = some r) (h2:Aaq (f.set h.next (f.b i) sp) h.next o' r) (y:∀b,b≠f.b i->w'.heap[b]? = w.heap[b]?) (h4:w'.heap.size=w.heap.size)
 (B:w'.tape=w.tape) (C:w'.os=w.os) (D:w'.output=w.output):Move p f h w (f.set h.next (f.b i) sp) ((h.del i).new o') w' where
 Gf:=f.U4 _ _ u.fresh
 rep:=by
  have key:∀j q,((h.del i).new o').get j=some q->(j=h.next/\q=o')\/(j≠i/\j≠h.next/\h.get j=some q):=by
   intro j q hj;rw[Ab.Nq]at hj;split at hj
   ·rename_i e;cases hj;exact .inl ⟨e.symm,rfl⟩
   ·rename_i e
    rw[Ab.Ae0]at hj;split at hj
    ·cases hj
    ·rename_i e';exact .inr ⟨fun x=>e' x.symm,fun x=>e x.symm,hj⟩
  refine⟨fun j q hj=>?_,fun j k q q' hj A e=>?_⟩
  ·rcases key j q hj with⟨rfl,rfl⟩|⟨c1,c2,c3⟩
   ·exact⟨r,by rw[Loc.Agf];exact h1,h2⟩
   ·obtain⟨E,a,b⟩:=d.obj j q c3
    obtain⟨hp,hok⟩:=u.get j q c3;refine⟨E,?_,b.congr (f.U4 _ _ u.fresh) hp hok⟩;rw[(f.Zf _ _ c2).1,y _ (fun e=>c1 (d.inj j i q o c3 hi e))];exact a
  ·rcases key j q hj with⟨rfl,rfl⟩|⟨c1,c2,c3⟩
   ·rcases key k q' A with⟨rfl,rfl⟩|⟨d1,d2,d3⟩
    ·rfl
    ·rw[Loc.Agf,(f.Zf _ _ d2).1]at e
     exact absurd (d.inj i k o q' hi d3 e).symm d1
   ·rcases key k q' A with⟨rfl,rfl⟩|⟨d1,d2,d3⟩
    ·rw[Loc.Agf,(f.Zf _ _ c2).1]at e
     exact absurd (d.inj j i q o c3 hi e) c1
    ·rw[(f.Zf _ _ c2).1,(f.Zf _ _ d2).1]at e
     exact d.inj j k q q' c3 d3 e
 kept b _ F:=y b (fun e=>F i o hi e.symm)
 size:=by omega
 tape:=B
 os:=C
 output:=D
 own j q hj:=by
  rw[Ab.Nq]at hj;split at hj
  ·rename_i e;rw[show j=h.next from e.symm,Loc.Agf];exact .inr ⟨i,o,hi,rfl⟩
  ·have m:=A3e j q hj
   exact .inr ⟨j,q,m,(f.Zf _ _ (u.Ak9 m)).1⟩
def As2(P:Program)(s:Sem Next)(p:Nat->Prop)(f:Loc)(h:Ab)(w:World)(v:EV)(h':Ab):Prop:=
 ∃f' w' N,s.run P w=.ok N w'/\(N=.value (Cr f' v)\/(N=.skip/\v=.tuple []))/\Move p f h w f' h' w'/\Wf p h h'/\v.ok (grow p h h')
theorem Afy{l:List EV}(d:EV.Wz p l):EV.Wz (grow p h h') l:=EV.Wz.mono (fun _ hi=>.inl hi) l d
theorem Bdf{l:List EV}(d:EV.Wz p l)(off n:Nat):EV.Wz p ((l.drop off).take n):=
 (Km p _).2 fun v e=>(Km p _).1 d v (aU (b9 e))
theorem Aep{a b:List EV}(d:EV.Wz p a)(hb:EV.Wz p b):EV.Wz p (a++b):=
 (Km p _).2 fun v e=>(bO.1 e).elim ((Km p _).1 d v) ((Km p _).1 hb v)
theorem Bd4 {l:List EV}(d:l.all EV.one=true)(off n:Nat):((l.drop off).take n).all EV.one=true:=by
 rw[dM]at d⊢;exact fun v e=>d v (aU (b9 e))
theorem Bhe {a b:List EV}(d:a.all EV.one=true)(hb:b.all EV.one=true):(a++b).all EV.one=true:=by
 rw[List.all_append,d,hb];rfl
theorem A37{l x:List EV}(h:Gw l off vs=some x)(d:EV.Wz p l)(e:EV.Wz p vs):EV.Wz p x:=
 (Km p _).2 fun v j=>(Ayd h j).elim ((Km p _).1 d v) ((Km p _).1 e v)
theorem A5r {l x:List EV}(h:Gw l off vs=some x)(d:l.all EV.one=true)(e:vs.all EV.one=true):x.all EV.one=true:=by
 rw[dM]at *;exact fun v j=>(Ayd h j).elim (d v) (e v)
theorem setRow_other(w:World)(g:Nat)(cs:Array Value)(b:Nat)(hb:b≠g):(w.setRow g cs).heap[b]? = w.heap[b]?:=by
 simp only[World.setRow,Array.getElem?_modify];rw[aF (cV hb)]
theorem setRow_size(w:World)(g:Nat)(cs:Array Value):(w.setRow g cs).heap.size=w.heap.size:=by simp[World.setRow]
section
variable{w:World}
theorem Bfa{o:Nat}{l:List EV}(e:Ara ws off=some (o,l)):(o,l)∈ws/\o<=off:=by
 induction ws with
 | nil=>cases e
 | cons x r d=>
  obtain⟨o',l'⟩:=x;unfold Ara at e;cases h1:Nat.ble o' off with
  | false=>rw[h1]at e;exact⟨aT _ (d e).1,(d e).2⟩
  | true=>
   rw[h1,Ak]at e;cases h2:Nat.ble (Nat.succ (Nat.sub off o')) (len l')with
   | false=>rw[h2]at e;exact⟨aT _ (d e).1,(d e).2⟩
   | true=>rw[h2]at e;cases e;exact⟨aX ..,bI h1⟩
theorem Apw(B:Y9 p h)(C:Y5 f h w){l:List EV}(d:K0 h i off n=some l):
 (loadCells ⟨f.b i,off,none⟩ n).run P w=.ok (Bx f l).toArray w/\EV.Wz p l/\l.all EV.one=true/\l.length=n /\
  ∀j v,l[j]? = some v->w.cell? ⟨f.b i,off+j,none⟩=some (Cr f v):=by
 have key:∀(L:List EV) (arr:Array Value) (e:TypeId) (fr:Nat × Nat) (o:Nat),w.heap[f.b i]? = some (.cells arr e fr)->o<=off->(∀(j:Nat) v,L[j]? = some v->arr[o+j]? = some (Cr f v))->EV.Wz p L->L.all EV.one=true ->
  takeN (Ady L (off-o)) n=some l->(loadCells ⟨f.b i,off,none⟩ n).run P w=.ok (Bx f l).toArray w/\EV.Wz p l/\l.all EV.one=true/\l.length=n /\
  ∀j v,l[j]? = some v->w.cell? ⟨f.b i,off+j,none⟩=some (Cr f v):=by
  intro L arr e fr o h1 K h2 y h4 D;obtain⟨E,A⟩:=Aj7 D;rw[Yi]at E A;have hlen:l.length=n:=by rw[A,cD];omega
  have G:∀j v,l[j]? = some v->w.cell? ⟨f.b i,off+j,none⟩=some (Cr f v):=by
   intro j v hj;rw[A,eW]at hj;split at hj
   ·rw[dO]at hj
    simp only[World.cell?,h1];have:=h2 _ _ hj;rw[show o+(off-o+j)=off+j by omega]at this;simpa using this
   ·cases hj
  refine⟨?_,A▸Bdf y (off-o) n,A▸Bd4 h4 (off-o) n,hlen,G⟩;have H:(Bx f l).length=n:=by rw[Dh,hlen]
  rw[<-H];apply run_loadCells_list;intro j v hj;rw[Aki]at hj;cases F:l[j]? with
  | none=>rw[F]at hj;cases hj
  | some u=>
   rw[F]at hj;cases hj;rw[Aac];exact G j u F
 unfold K0 at d;split at d
 ·rename_i L e m
  obtain⟨r,h1,h2⟩:=C.obj i _ m;obtain⟨_,y,h4⟩:=B.get i _ m;simp only[Aaq]at h2;subst h2;exact key L _ e (0,0) 0 h1 (cQ _) (fun j v hj=>by simp[Aki,hj]) y h4 d
 ·rename_i L e s m
  obtain⟨r,h1,more,h2,_⟩:=C.obj i _ m;obtain⟨_,y,h4⟩:=B.get i _ m;subst h2;refine key L _ e (0,0) 0 h1 (cQ _) (fun j v hj=>?_) y h4 d;rw[bJ];have:j<(Bx f L).length:=by rw[Dh];exact(aW.1 hj).1
  simp only[cI];rw[bh this,Aki,hj];rfl
 ·rename_i ws r0 m
  split at d
  ·rename_i o L hw
   obtain⟨hm,D⟩:=Bfa hw;obtain⟨r,h1,_,arr,e,fr,h2,E⟩:=C.obj i _ m;obtain⟨_,J⟩:=B.get i _ m;obtain⟨y,h4⟩:=J _ hm;subst h2;exact key L _ e fr o h1 D (E _ hm) y h4 d
  ·cases d
 ·cases d
theorem A1w(A:Y9 p h)(B:Y5 f h w)(j:Oq h i off vs=some h')(E:EV.Wz p vs)(h1:vs.all EV.one=true):
 ∃w',(storeCells ⟨f.b i,off,none⟩ (Bx f vs)).run P w=.ok () w'/\Move p f h w f h' w'/\Wf p h h':=by
 have u:∀v∈Bx f vs,v.oneCell'=true:=Az4 f vs (by simpa using h1);unfold Oq at j;split at j
 ·rename_i L e m
  obtain⟨r,y,C⟩:=B.obj i _ m;obtain⟨_,D,a4⟩:=A.get i _ m;simp only[Aaq]at C;subst C;split at j
  ·rename_i L' hs
   cases j;obtain⟨b1,b2⟩:=Adl hs;have d:=run_storeCells_at (P:=P) (f.b i) off e (Bx f vs) 0 (Bx f L).toArray w y (by simp only[Dh,dc];omega) u;refine⟨_,d,?_,Wf.put A m ⟨A37 hs D E,A5r hs a4 h1⟩⟩;refine Move.put B m (r:=.cells (Bx f L').toArray e (0,0)) ?_ rfl (fun b hb=>setRow_other _ _ _ _ hb) (setRow_size _ _ _) rfl rfl rfl;rw[setRow_heap w (f.b i) _ _ e (0,0) y,b2,Aty];simp
  ·cases j
 ·rename_i L e s m
  obtain⟨r,y,more,C,a5⟩:=B.obj i _ m;obtain⟨_,D,a4⟩:=A.get i _ m;subst C;split at j
  ·rename_i L' hs
   cases j;obtain⟨b1,b2⟩:=Adl hs;have d:=run_storeCells_at (P:=P) (f.b i) off e (Bx f vs) 0 (Bx f L++more).toArray w y (by simp only[Dh,dc,aH];omega) u;refine⟨_,d,?_,Wf.put A m ⟨A37 hs D E,A5r hs a4 h1⟩⟩;refine Move.put B m (r:=.cells (Bx f L'++more).toArray e (0,0)) ?_ ⟨more,rfl,a5⟩ (fun b hb=>setRow_other _ _ _ _ hb) (setRow_size _ _ _) rfl rfl rfl;rw[setRow_heap w (f.b i) _ _ e (0,0) y,b2,Aty];simp only[List.toList_toArray,dL];rw[fD (by rw[Dh];omega),List.drop_append_of_le_length (by simp only[Dh];omega)];simp
  ·cases j
 ·cases j
variable (hT:Uf P T)
include hT
theorem Boy(m:Reads f tm ρ)(y:Y9 p h)(A:Y5 f h w)
 {o:Oper} (B:o.op=.load t a) (d:D7 T tm (.load t a) h=some (v,h')) :
 h'=h/\v.ok p/\(execOp ρ o).run P w=.ok (.value (Cr f v)) w:=by
 simp only[D7]at d;split at d
 ·rename_i i off C
  split at d
  ·rename_i e
   split at d
   ·rename_i n G
    split at d
    ·rename_i l j
     cases d;obtain⟨h1,h2,D,h4,E⟩:=Apw (P:=P) y A j;refine⟨rfl,⟨h2,D⟩,?_⟩;simp only[execOp,B,Instr.loadAt,Bl m C,Cr,Instr.sureAddr,loadVar,Sem.run_bind,aV,aI,Au9 hT w e,H4 hT w G,h1,bM]
    ·cases d
   ·cases d
  ·rename_i e
   split at d
   ·rename_i u j
    cases d;obtain⟨h1,h2,D,h4,E⟩:=Apw (P:=P) y A j;refine⟨rfl,h2.1,?_⟩;have F:=E 0 v rfl;simp only[execOp,B,Instr.loadAt,Bl m C,Cr,Instr.sureAddr,loadVar,Sem.run_bind,aV,aI,Au9 hT w e,run_load,ak,bD];simp only[dL]at F;rw[F];rfl
   ·cases d
  ·cases d
 ·cases d
theorem Bli(j:Reads f tm ρ)(C:N2 p n tm)(D:Y9 p h)(E:Y5 f h w)
 {o:Oper} (F:o.op=.store t a x) (d:D7 T tm (.store t a x) h=some (v,h')) :
 As2 P (execOp ρ o) p f h w v h':=by
 simp only[D7]at d;split at d
 ·rename_i i off u m G y A
  obtain⟨h1,h2⟩:=Aq d;obtain⟨B,h4⟩:=Aq h2;split at h4
  ·rename_i H hw
   cases h4;rw[Zr]at B;have e:=aJ B;obtain⟨c1,c2⟩:=Z7 (Fu C y) h1;obtain⟨w',J,K,L⟩:=A1w (P:=P) D E hw c1 (by simpa using c2);refine⟨f,w',.skip,?_,.inr ⟨rfl,rfl⟩,K,L,trivial⟩;simp only[execOp,F,Instr.storeAt,Bl j G,Bl j y,Instr.sureAddr,storeVar,Sem.run_bind,aV,aI,H4 hT w A];simp only[Cr,aV,aI,Yw,Sem.run_bind,H4 hT w A];simp[e,J,Dh]
  ·cases h4
 ·cases d
omit hT in
theorem Ap9(d:Y9 p h)(m:Y5 f h w)(e:TypeId){l:List EV}(j:EV.Wz p l)(h1:l.all EV.one=true):
 ∃f' w',(newRow e (Bx f l).toArray).run P w=.ok ⟨f'.b h.next,0,none⟩ w'/\Move p f h w f' (h.new (.cells l e)) w'/\Wf p h (h.new (.cells l e))/\grow p h (h.new (.cells l e)) h.next:=by
 refine⟨f.set h.next w.heap.size 0,{ w with heap:=w.heap.push (.cells (Bx f l).toArray e) },?_,?_,Wf.new d ⟨Afy j,h1⟩,.inr ⟨aE _,by rw[Ab.D8];omega⟩⟩
 ·rw[Loc.Agf];rfl
 ·refine Move.new d m 0 rfl ?_ rfl rfl rfl
  simp only[Aaq];rw[Ir (f.U4 _ _ d.fresh) l j]
theorem Bld(j:Y9 p h)(m:Y5 f h w)
 {o:Oper} (u:o.op=.alloc t) (d:D7 T tm (.alloc t) h=some (v,h')) :
 As2 P (execOp ρ o) p f h w v h':=by
 simp only[D7]at d;split at d
 ·rename_i z y
  cases d;obtain⟨x,A,e,B,_,_,C,_⟩:=Af2 hT f w y;obtain⟨c1,c2⟩:=Z7 (C p) A;rw[<-e]at c1 c2;obtain⟨f',w',D,E,F,G⟩:=Ap9 (P:=P) j m t c1 (by simpa using c2);refine⟨f',w',_,?_,.inl rfl,E,F,G⟩;simp only[execOp,u,Instr.alloc,Sem.run_bind,B,aI,newVar,Yw,<-e,D,aV,Cr]
 ·cases d
omit hT in
theorem Bqz(e:Reads f tm ρ)(j:N2 p n tm)(m:Y9 p h)(y:Y5 f h w)
 {o:Oper} (A:o.op=.box t x) (d:D7 T tm (.box t x) h=some (v,h')) :
 As2 P (execOp ρ o) p f h w v h':=by
 simp only[D7]at d;split at d
 ·rename_i u hu
  obtain⟨h1,h2⟩:=Aq d;cases h2;obtain⟨c1,c2⟩:=Z7 (Fu j hu) h1;obtain⟨f',w',B,C,D,E⟩:=Ap9 (P:=P) m y t c1 (by simpa using c2);refine⟨f',w',_,?_,.inl rfl,C,D,E⟩;simp only[execOp,A,Instr.box,Bl e hu,Sem.run_bind,aI,newVar,Yw,B,aV,Cr]
 ·cases d
omit hT in
theorem Bc4(f:Loc)(z:List EV)(m:Nat)(j:m*z.length≠0):
 (Array.range (m*z.length)).map (fun i=>(Bx f z).toArray[i%(Bx f z).toArray.size]!)=(Bx f (rep z m)).toArray:=by
 apply gE;intro i;simp only[Array.getElem?_map,cI,Aki,dc,Dh];by_cases hi:i<m*z.length
 ·rw[Bjs z m i hi]
  have d:i%z.length<z.length:=Nat.mod_lt _ (by rcases dI z.length with e|e;(simp[e]at j);exact e);simp[hi,Aki,d,aC d]
 ·have:(rep z m)[i]? = none:=cA (by rw[Aql];omega)
  simp[this];omega
theorem A6d {n:Nat}(E:Reads f tm ρ)(G:Y9 p h)(H:Y5 f h w)
 {o:Oper} {y:Operand} (J:o.op=.makeSlice t x y) (d:D7 T tm (.makeSlice t x y) h=some (v,h')) :
 As2 P (execOp ρ o) p f h w v h':=by
 simp only[D7]at d;split at d
 ·rename_i e k a k' b hu K L
  split at d
  ·rename_i z M
   obtain⟨h1,h2⟩:=Aq d;obtain⟨B,h4⟩:=Aq h2;cases h4;simp only[dJ]at h1 B;obtain⟨u,O,F,Q,_,_,S,i,i1,i2,i3⟩:=Af2 hT f w M;obtain⟨c1,c2⟩:=Z7 (S p) O;rw[<-F]at c1 c2;have d1:EV.Wz p (rep z b):=(Km p _).2 fun v C=>(Km p _).1 c1 v (Az9 C)
   have d2:(rep z b).all EV.one=true:=by rw[dM];exact fun v C=>c2 v (Az9 C)
   obtain⟨f',w',D,U,V,W⟩:=Ap9 (P:=P) G H e d1 d2;refine⟨f',w',_,?_,.inl rfl,U,V,W⟩;have X:IntKind.i64.wrap (Int.ofNat a)=a:=Ans .i64 rfl _ 9223372036854775808 rfl rfl (by simp only[bB];omega) (by simp only[bB];omega);have wb:IntKind.i64.wrap (Int.ofNat b)=b:=Ans .i64 rfl _ 9223372036854775808 rfl rfl (by simp only[bB];omega) (by simp only[bB];omega);have A:¬((2:Int)^48<(i.bytes:Int)*b):=by
    have:i.bytes*b<=1048576*65536:=gI i3 B;have e:((i.bytes*b:Nat):Int)=(i.bytes:Int)*b:=by simp
    omega
   have m:¬(roomBytes<b*i.bytes):=by
    have:b*i.bytes<=65536*1048576:=gI B i3;unfold roomBytes;omega
   simp only[execOp,J,Instr.makeSlice,Bl E K,Bl E L,Cr,Sem.run_bind,Ea hT w hu,aI,asInt,aV];have Y:(decide ((b:Int)<0)||decide ((i.bytes:Int)*b>2^48)||decide ((a:Int)<0)||decide ((a:Int)>b))=false:=by
    simp only[fP,cY];exact⟨⟨⟨by omega,A⟩,by omega⟩,by omega⟩
   simp only[typeInfo,asIntOf,Sem.run_bind,fm,i1,aI,aV,X,wb];rw[Y];simp only[ak,bD,askRoom,aZ,Sem.run_bind,gt_iff_lt,m,aV,aI,sizeOf,typeInfo,fm,i1,i2];by_cases j:b*z.length=0
   ·have er:rep z b = []:=cR.1 (by rw[Aql];exact j)
    rw[er]at D;have e0:∀g:Nat->Value,Array.map g (Array.range 0)=(Bx f []).toArray:=fun g=>by simp[Bx]
    simp only[j,bM,Sem.run_bind,aV,aI];rw[e0,D];simp
   ·rw[aF j]
    simp only[Sem.run_bind,Q,aV,aI,Yw,<-F];rw[Bc4 f z b j,D];simp
  ·cases d
 ·cases d
end
end Go.Ev
