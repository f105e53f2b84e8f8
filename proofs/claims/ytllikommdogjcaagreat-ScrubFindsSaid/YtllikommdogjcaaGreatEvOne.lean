import GoSem.Step
import Derived.Control
import Derived.Calls
import Derived.Laws.CopyRow
import Derived.Great.FillDense
import Derived.Conc.LoneSelect
import Derived.Conc.LoneSelectN
set_option linter.all false
namespace Go.Ev
noncomputable section
theorem a_{p:Prop}(h:p:=by omega):p:=h
theorem c_{p:Prop}(h:p:=by decide):p:=h
theorem d_(d:Nat)(h:0<d:=by omega):∃k,d=k+1:=⟨d-1,by omega⟩
def aA:=@decide_false
def aB:=@not_true_eq_false
def aC:=@decide_true
def aD.{u}:=@List.getElem?_eq_getElem.{u}
def aE:=@Nat.le_refl
def aF.{u}:=@List.length_append.{u}
def aG.{u}:=@if_neg.{u}
def aH.{u}:=@List.mem_of_mem_drop.{u}
def aI.{u}:=@if_pos.{u}
def aJ:=@Result.andThen_ok
def aK:=@Nat.eq_of_beq_eq_true
def aL:=@decide_eq_false
def aM:=@Nat.lt_of_lt_of_le
def aN:=@Nat.lt_succ_self
def aO:=@decide_eq_true
def aP.{u}:=@List.mem_singleton.{u}
def aQ:=@not_false_eq_true
def aR:=@Nat.ble_eq_true_of_le
def aS:=@decide_eq_true_eq
def aT.{u}:=@List.mem_cons_of_mem.{u}
def aU:=@Sem.run_pure
def aV:=@Bool.and_eq_true
def aW.{u}:=@List.mem_cons_self.{u}
def aX:=@Bool.false_eq_true
def aY.{u}:=@List.getElem?_eq_some_iff.{u}
def aZ:=@Int.ofNat_eq_natCast
def ak.{u}:=@if_false.{u}
def av:=@Int.eq_ofNat_of_zero_le
def bA.{u}:=@List.length_drop.{u}
def bB:=@Bool.false_and
def bD:=@Int.toNat_natCast
def bF:=@Bool.true_and
def bG:=@Nat.le_of_ble_eq_true
def bH.{u,v}:=@List.getElem?_map.{u,v}
def bI.{u}:=@List.getElem_mem.{u}
def bJ.{u}:=@List.length_cons.{u}
def bK.{u}:=@if_true.{u}
def bL.{u}:=@List.getElem?_cons_zero.{u}
def bM.{u}:=@List.length_set.{u}
def bN.{u}:=@List.mem_append.{u}
def bO.{u}:=@List.eq_of_mem_replicate.{u}
def bP:=@Nat.zero_add
def bQ:=@Nat.le_trans
def bR.{u}:=@List.length_replicate.{u}
def bS.{u}:=@List.take_of_length_le.{u}
def bT:=@Nat.lt_irrefl
def bU:=@Int.mul_le_mul_of_nonneg_left
def bV.{u}:=@List.mem_of_mem_take.{u}
def bW.{u}:=@List.length_take.{u}
def bX.{u}:=@List.mem_cons.{u}
def bY.{u}:=@List.take_length.{u}
def bZ.{u}:=@List.append_assoc.{u}
def bc:=@Nat.mul_one
def bh.{u}:=@List.mem_of_getElem?.{u}
def bk.{u,v}:=@List.length_map.{u,v}
def bm.{u}:=@List.getElem?_cons_succ.{u}
def br.{u}:=@List.take_succ_eq_append_getElem.{u}
def b9:=@Nat.lt_succ_iff_lt_or_eq
def cC:=@Nat.not_lt_zero
def cD.{u}:=@List.getElem?_eq_none.{u}
def cF.{u}:=@List.nodup_cons.{u}
def cI.{u}:=@List.getElem?_toArray.{u}
def cJ:=@step_lone_go
def cK.{u}:=@List.flatten_cons.{u}
def cL:=@Nat.beq_refl
def cM.{u,v}:=@List.map_append.{u,v}
def cN:=@Int.le_refl
def cO.{u}:=@List.length_eq_zero_iff.{u}
def cP.{u}:=@Array.getElem?_toList.{u}
def cQ.{u}:=@Option.some.injEq.{u}
def cR.{u}:=@Ne.symm.{u}
def cS:=@Nat.zero_le
def cU.{u}:=@List.nil_append.{u}
def cV.{u}:=@List.drop_drop.{u}
def cW.{u}:=@List.getElem?_set.{u}
def cX:=@List.getElem?_range
def cY.{u,v}:=@List.map_congr_left.{u,v}
def cZ.{u}:=@List.mem_or_eq_of_mem_set.{u}
def cb.{u}:=@List.getElem?_append_left.{u}
def cj.{u}:=@Array.getElem?_eq_getElem.{u}
def cm:=@List.mem_range
def cp.{u}:=@List.getElem?_append_right.{u}
def cq:=@decide_eq_false_iff_not
def cr:=@List.range_succ
def dE.{u}:=@List.drop_zero.{u}
def dF.{u}:=@List.ext_getElem?.{u}
def dG:=@of_decide_eq_true
def dH.{u}:=@List.drop_eq_getElem_cons.{u}
def dI:=@Bool.not_false
def dJ:=@Int.negSucc_eq
def dK.{u,v}:=@List.mem_map.{u,v}
def dL.{u}:=@Array.mem_toList_iff.{u}
def dM.{u}:=@List.getElem?_drop.{u}
def dN:=@Nat.xor_lt_two_pow
def dO:=@Nat.ble_eq
def dP.{u}:=@List.append_nil.{u}
def dQ:=@Nat.lt_or_ge
def dR.{u}:=@List.nodup_nil.{u}
def dS.{u}:=@List.all_eq_true.{u}
def dT.{u,v}:=@List.map_cons.{u,v}
def dU:=@Nat.add_zero
def dV:=@Bool.and_false
def dW.{u}:=@List.flatten_append.{u}
def dX:=@Int.mul_nonneg
def dY:=@Bool.or_eq_true
def dZ:=@Nat.zero_testBit
def dc.{u}:=@List.drop_of_length_le.{u}
def dh.{u}:=@List.size_toArray.{u}
def eA:=@Classical.byContradiction
def eC.{u}:=@List.set_append_right.{u}
def eD.{u,v}:=@Option.map_some.{u,v}
def eH.{u}:=@List.mem_iff_getElem?.{u}
def eI:=@Nat.eq_zero_or_pos
def eJ:=@decide_eq_decide
def eK.{u}:=@Array.toArray_toList.{u}
def eO:=@Classical.em
def eQ.{u}:=@List.replicate_succ.{u}
def eR:=@Bool.eq_iff_iff
def eU:=@Nat.min_eq_left
def eV.{u}:=@Array.getElem?_eq_some_iff.{u}
def eh.{u}:=@List.filter_cons.{u}
def fC.{u}:=@Array.ext'.{u}
def fD:=@Nat.mod_eq_of_lt
def fF:=@Nat.pow_succ
def fG:=@Bool.not_true
def fH.{u}:=@List.filter_append.{u}
def fI.{u}:=@List.length_filter_le.{u}
def fJ:=@Nat.shiftRight_eq_div_pow
def fK.{u}:=@List.mem_filter.{u}
def fL:=@Int.mul_le_mul_of_nonneg_right
def fM.{u}:=@List.take_append_of_le_length.{u}
def fN.{u}:=@List.take_left.{u}
def fO:=@Nat.div_div_eq_div_mul
def fP.{u,v}:=@List.map_replicate.{u,v}
def fQ:=@decide_eq_true_iff
def fR.{u}:=@List.getElem?_take.{u}
def fS.{u}:=@List.length_nil.{u}
def fU:=@Nat.sub_self
def fV:=@Int.emod_nonneg
def fW:=@List.length_range
def fZ.{u}:=@List.take_add_one.{u}
def fm:=@Int.emod_eq_of_lt
def gA:=@Int.fdiv_eq_ediv_of_nonneg
def gE:=@Nat.pow_le_pow_right
def gF:=@List.range'_succ
def gG:=@Int.toNat_of_nonneg
def gH:=@Nat.add_mul
def gI:=@run_program
def gJ.{u}:=@List.take_succ_cons.{u}
def gK.{u}:=@Array.ext_getElem?.{u}
def gN.{u}:=@Option.some.inj.{u}
def gO:=@Int.emod_lt_of_pos
def gP:=@Bool.true_eq_false
def gQ:=@Nat.add_sub_cancel
def gR:=@Nat.mod_lt
def gS.{u}:=@List.drop_left.{u}
def gU:=@Nat.mul_le_mul
def gW:=@Nat.succ_mul
def gX:=@Nat.zero_mul
def gh:=@Int.lt_or_le
def gk:=@Nat.sub_zero
def hH:=@false_and
def hJ:=@true_and
variable {x:Operand}{i m n cap off kn:Nat}{p q:Nat->Prop}{ρ:Operand->Value}{k':IntKind}{op:BinOp}{e t ty:TypeId}{o:Oper}{w':World}{ps:Array (Nat × Operand)}{gT:List MapEntry}{P:Program}{base:Option Addr}{ts:Array TypeId}{ops:Array Oper}{tmps:Array Value}{α:Type}
noncomputable section
inductive Tr (α:Type) where
 | nil
 | node (l:Tr α) (v:Option α) (r:Tr α)
def Bc {α:Type}(b:Bool)(x y:α):α:=@Bool.rec (fun _=>α) y x b
def Tr.get {α:Type}(t:Tr α):Nat->Option α:=
 @Tr.rec α (fun _=>Nat->Option α) (fun _=>none)
  (fun _ v _ d j i=>@Bool.rec (fun _=>Option α) (@Bool.rec (fun _=>Option α) (j (Nat.pred (Nat.div i 2))) (d (Nat.div i 2)) (Nat.beq (Nat.land i 1) 1)) v (Nat.beq i 0)) t
def Tr.lf {α:Type}(x:Option α)(r:Tr α)(t:Tr α):Tr α:=@Tr.rec α (fun _=>Tr α) .nil (fun a b c _ _=>.node (.node a b c) x r) t
def Tr.rt {α:Type}(l:Tr α)(x:Option α)(t:Tr α):Tr α:=@Tr.rec α (fun _=>Tr α) .nil (fun a b c _ _=>.node l x (.node a b c)) t
def Tr.set {α:Type}(n:Nat):Tr α->Nat->Option α->Tr α:=
 @Nat.rec (fun _=>Tr α->Nat->Option α->Tr α) (fun t _ _=>t)
  (fun _ d t i v=>@Tr.rec α (fun _=>Tr α)
   (@Bool.rec (fun _=>Tr α) (@Bool.rec (fun _=>Tr α) (Tr.rt .nil none (d .nil (Nat.pred (Nat.div i 2)) v)) (Tr.lf none .nil (d .nil (Nat.div i 2) v)) (Nat.beq (Nat.land i 1) 1)) (.node .nil v .nil) (Nat.beq i 0))
   (fun l x r _ _=>@Bool.rec (fun _=>Tr α) (@Bool.rec (fun _=>Tr α) (Tr.rt l x (d r (Nat.pred (Nat.div i 2)) v)) (Tr.lf x r (d l (Nat.div i 2) v)) (Nat.beq (Nat.land i 1) 1)) (.node l v r) (Nat.beq i 0)) t) n
def Tr.put {α:Type}(t:Tr α)(i:Nat)(v:Option α):Tr α:=Tr.set (Nat.succ (Nat.log2 (Nat.succ i))) t i v
inductive EV where
 | int (k:IntKind) (n:Int)
 | bool (b:Bool)
 | str (s:ByteArray)
 | ptr (i off:Nat)
 | Cl
 | slice (i off len room:Nat) (op:Bool)
 | tail (i off poff:Nat)
 | Aq
 | odd (a:Addr)
 | map (i:Nat)
 | Am2
 | chan (i:Nat)
 | Afh
 | func (f:Nat) (first captured:List EV)
 | Vz (l:Nat)
 | Aid
 | Acv
 | agg (l:List EV)
 | tuple (l:List EV)
 deriving Inhabited
def EV.cells:EV->List EV
 | .agg l=>l
 | v=>[v]
def EV.plain:EV->Bool
 | .tuple _=>false
 | _=>true
inductive D5 where
 | cells (l:List EV) (elem:TypeId)
 | vec (l:List EV) (elem:TypeId) (size:Nat)
 | map (es:List (EV × EV))
 | chan (cap:Nat) (buf:List EV)
 | loop (state:LoopState) (pending:Option Code) (fn:FuncId) (n:Nat) (tmps:Tr EV) (params:List Tmp) (assign body:Code) (defers:Nat)
 | deferred (open_:Bool)
 | view (ws:List (Nat × List EV)) (r:Obj)
structure Ab where
 t:Tr D5
 next:Nat
 mw:Nat
def Ab.get:Ab->Nat->Option D5
 | ⟨t,_,_⟩,i=>t.get i
def Ab.put:Ab->Nat->D5->Ab
 | ⟨t,n,m⟩,i,o=>⟨t.put i (some o),n,Bc (Nat.ble i m) i m⟩
def Ab.del:Ab->Nat->Ab
 | ⟨t,n,m⟩,i=>⟨t.put i none,n,Bc (Nat.ble i m) i m⟩
def Ab.new:Ab->D5->Ab
 | ⟨t,n,m⟩,o=>⟨t.put n (some o),Nat.succ n,m⟩
structure Aj3 where
 fn:Nat
 n:Nat
 tmps:Tr EV
 todo:List Item
 defers:List Nat
 ret:Bool
 Dy:Option Nat
structure H3 where
 fr:Aj3
 h:Ab
structure Ir where
 fn:Nat->Option Func
 T8:Nat->Option TypeDesc
 size:Nat->Option Nat
 zero:Nat->Option (List EV)
 agg:Nat->Option Bool
 eqs:Nat->Option (List Nat)
 key:Nat->Bool
abbrev Ah:=Nat->List EV->Ab->Option (EV × Ab)
def qI:Value->Option EV
 | .int k n=>some (.int k n)
 | .bool b=>some (.bool b)
 | .string s=>some (.str s)
 | .pointer none=>some .Cl
 | .slice none 0 0=>some .Aq
 | .map none=>some .Am2
 | .chan none=>some .Afh
 | .nilFunc=>some .Aid
 | .nilIface=>some .Acv
 | _=>none
def qJ:List Value->Option (List EV)
 | []=>some []
 | v::r=>match qI v with
  | some x=>match qJ r with
   | some y=>some (x::y)
   | none=>none
  | none=>none
def ofV:Value->Option EV
 | .agg cs=>match qJ cs.toList with|some l=>some (.agg l)|none=>none
 | .tuple cs=>match cs.toList with | []=>some (.tuple [])|_=>none
 | v=>qI v
abbrev Bb:=Tr EV
def tmp(tm:Bb)(t:Nat):EV:=match tm.get t with|some v=>v|none=>.tuple []
def Cj(tm:Bb):Operand->Option EV
 | .tmp t=>some (match tm.get t with|some v=>v|none=>.tuple [])
 | .const v=>ofV v
 | .global _=>none
 | .func f=>some (.func f [] [])
def Nc(tm:Bb):List Operand->Option (List EV)
 | []=>some []
 | x::r=>match Cj tm x with
  | some a=>match Nc tm r with
   | some b=>some (a::b)
   | none=>none
  | none=>none
def Qm(n:Nat)(tm:Bb)(d:Option Tmp)(v:EV):Bb:=
 match d with
 | none=>tm
 | some d=>Bc (Nat.ble (Nat.succ d) n) (tm.put d (some v)) tm
def len(l:List EV):Nat:=match l with | []=>0|_::r=>Nat.succ (len r)
def Zm:List EV->Nat->List EV
 | [],_=>[]
 | a::r,n=>Bc (Nat.beq n 0) (a::r) (Zm r (Nat.pred n))
def takeN:List EV->Nat->Option (List EV)
 | [],n=>Bc (Nat.beq n 0) (some []) none
 | a::r,n=>Bc (Nat.beq n 0) (some []) (match takeN r (Nat.pred n)with|some x=>some (a::x)|none=>none)
def J3:List EV->List EV->Option (List EV)
 | l,[]=>some l
 | a::r,v::vs=>match J3 r vs with|some x=>some (v::x)|none=>none
 | [],_::_=>none
def Gc:List EV->Nat->List EV->Option (List EV)
 | [],off,vs=>Bc (Nat.beq off 0) (J3 [] vs) none
 | a::r,off,vs=>Bc (Nat.beq off 0) (J3 (a::r) vs) (match Gc r (Nat.pred off) vs with|some x=>some (a::x)|none=>none)
def mW(ws:List (Nat × List EV))(off:Nat):Option (Nat × List EV):=
 match ws with
 | []=>none
 | (o,l)::r=>Bc (Bc (Nat.ble o off) (Nat.ble (Nat.succ (Nat.sub off o)) (len l)) false) (some (o,l)) (mW r off)
def Jo(h:Ab)(i off n:Nat):Option (List EV):=
 match h.get i with
 | some (.cells l _)=>takeN (Zm l off) n
 | some (.vec l _ _)=>takeN (Zm l off) n
 | some (.view ws _)=>match mW ws off with|some (o,l)=>takeN (Zm l (Nat.sub off o)) n|none=>none
 | _=>none
def My(h:Ab)(i off:Nat)(vs:List EV):Option Ab:=
 match h.get i with
 | some (.cells l t)=>match Gc l off vs with|some l'=>some (h.put i (.cells l' t))|none=>none
 | some (.vec l t s)=>match Gc l off vs with|some l'=>some (h.put i (.vec l' t s))|none=>none
 | _=>none
def vh:IntKind->Nat
 | .u8=>256 | .u16=>65536 | .u32=>4294967296 | .u64=>18446744073709551616 | .i8=>128 | .i16=>32768 | .i32=>2147483648 | .i64=>9223372036854775808
def floor:IntKind->Nat
 | .i8=>128 | .i16=>32768 | .i32=>2147483648 | .i64=>9223372036854775808|_=>0
def Dl(k:IntKind)(n:Int):Int:=
 match n with
 | .ofNat m=>Bc (Nat.ble (Nat.succ m) (vh k)) (.ofNat m) (k.wrap (.ofNat m))
 | .negSucc m=>Bc (Nat.ble (Nat.succ m) (floor k)) (.negSucc m) (k.wrap (.negSucc m))
def Pq:IntKind->Nat
 | .u8=>0 | .u16=>1 | .u32=>2 | .u64=>3 | .i8=>4 | .i16=>5 | .i32=>6 | .i64=>7
def kI:Int->Int->Bool
 | .ofNat a,.ofNat b=>Nat.ble (Nat.succ a) b
 | .ofNat _,.negSucc _=>false
 | .negSucc _,.ofNat _=>true
 | .negSucc a,.negSucc b=>Nat.ble (Nat.succ b) a
def iV:Int->Int->Bool
 | .ofNat a,.ofNat b=>Nat.beq a b
 | .negSucc a,.negSucc b=>Nat.beq a b
 | _,_=>false
def qK:List UInt8->List UInt8->Bool
 | [],[]=>true
 | a::r,b::s=>Bc (Nat.beq a.toNat b.toNat) (qK r s) false
 | _,_=>false
def jX:EV->EV->Option Bool
 | .int k a,.int k' b=>Bc (Nat.beq (Pq k) (Pq k')) (some (iV a b)) none
 | .str a,.str b=>some (qK a.data.toList b.data.toList)
 | .bool a,.bool b=>some (Bc a b (Bc b false true))
 | _,_=>none
def Fa:List EV->List EV->Option Bool
 | [],[]=>some true
 | a::r,b::s=>match jX a b with
  | some true=>Fa r s
  | some false=>match Fa r s with|some _=>some false|none=>none
  | none=>none
 | _,_=>none
def shaped:List Nat->List EV->Bool
 | [],[]=>true
 | b::s,.int _ _::l=>Bc (Nat.beq b 0) (shaped s l) false
 | b::s,.bool _::l=>Bc (Nat.beq b 1) (shaped s l) false
 | b::s,.str _::l=>Bc (Nat.beq b 2) (shaped s l) false
 | _,_=>false
def jN(T:Ir)(t:TypeId):EV->EV->Option Bool
 | .agg a,.agg b=>match T.eqs t with|some sh=>Bc (shaped sh a) (Fa a b) none|none=>none
 | .bool a,.bool b=>match T.T8 t with
  | some .bool=>some (Bc a b (Bc b false true))
  | _=>none
 | .Cl,.Cl=>match T.T8 t with|some (.pointer _)=>some true|_=>none
 | .Cl,.ptr _ _=>match T.T8 t with|some (.pointer _)=>some false|_=>none
 | .ptr _ _,.Cl=>match T.T8 t with|some (.pointer _)=>some false|_=>none
 | .ptr i o,.ptr j p=>match T.T8 t with|some (.pointer e)=>(match T.size e with|some _=>Bc (Nat.beq i j) (Bc (Nat.beq o p) (some true) none) none|none=>none)|_=>none
 | .Aq,.Aq=>match T.T8 t with|some (.slice _)=>some true|_=>none
 | .slice ..,.Aq=>match T.T8 t with|some (.slice _)=>some false|_=>none
 | .tail ..,.Aq=>match T.T8 t with|some (.slice _)=>some false|_=>none
 | _,_=>none
def qE(op:BinOp)(k:IntKind)(a b:Int):Option EV:=
 match op with
 | .add=>some (.int k (Dl k (Int.add a b)))
 | .sub=>some (.int k (Dl k (Int.sub a b)))
 | .mul=>some (.int k (Dl k (Int.mul a b)))
 | .quo=>Bc (iV b 0) none (some (.int k (Dl k (a.tdiv b))))
 | .rem=>Bc (iV b 0) none (some (.int k (a.tmod b)))
 | .and=>match a,b with | .ofNat a,.ofNat b=>some (.int k (Dl k (.ofNat (Nat.land a b))))|_,_=>none
 | .or=>match a,b with | .ofNat a,.ofNat b=>some (.int k (Dl k (.ofNat (Nat.lor a b))))|_,_=>none
 | .xor=>match a,b with | .ofNat a,.ofNat b=>some (.int k (Dl k (.ofNat (Nat.xor a b))))|_,_=>none
 | .lss=>some (.bool (kI a b))
 | .leq=>some (.bool (Bc (kI b a) false true))
 | .gtr=>some (.bool (kI b a))
 | .geq=>some (.bool (Bc (kI a b) false true))
 | .eql=>some (.bool (iV a b))
 | .neq=>some (.bool (Bc (iV a b) false true))
 | _=>none
def vi(op:BinOp)(k:IntKind)(a:Int)(b:Nat):Option EV:=
 match op with
 | .shl=>some (.int k (Dl k (Int.mul a (.ofNat (Nat.pow 2 (Bc (Nat.ble b k.bits) b k.bits))))))
 | .shr=>match a with
  | .ofNat a=>some (.int k (.ofNat (Nat.shiftRight a (Bc (Nat.ble b k.bits) b k.bits))))
  | .negSucc _=>some (.int k (a.fdiv (.ofNat (Nat.pow 2 (Bc (Nat.ble b k.bits) b k.bits)))))
 | _=>none
def u9:BinOp->Bool
 | .shl=>true
 | .shr=>true
 | _=>false
def bin(T:Ir)(op:BinOp)(t:TypeId)(x y:EV):Option EV:=
 match x,y with
 | .int k a,.int k' b=>Bc (u9 op) (match b with | .ofNat b=>vi op k a b | .negSucc _=>none)
  (Bc (Nat.beq (Pq k) (Pq k')) (qE op k a b) none)
 | x,y=>match op with
  | .eql=>match jN T t x y with|some b=>some (.bool b)|none=>none
  | .neq=>match jN T t x y with|some b=>some (.bool (Bc b false true))|none=>none
  | _=>none
def fill(place:Nat->Option (Nat × Nat))(cells:List EV):List (Nat × EV)->Option (List EV)
 | []=>some cells
 | (i,v)::rest=>
  match place i with
  | none=>none
  | some (off,size)=>Bc (v.plain) (Bc (Nat.beq (len v.cells) size) (match Gc cells off v.cells with
   | some c=>fill place c rest
   | none=>none) none) none
def Z8(tm:Bb):List (Nat × Operand)->Option (List (Nat × EV))
 | []=>some []
 | (i,x)::r=>match Cj tm x with
  | some a=>match Z8 tm r with
   | some b=>some ((i,a)::b)
   | none=>none
  | none=>none
def rep(l:List EV):Nat->List EV
 | 0=>[]
 | n+1=>l++rep l n
def bound(x:Option EV)(hi kn:Nat):Option Nat:=
 match x with
 | none=>some kn
 | some (.int _ (.ofNat n))=>Bc (Nat.ble n hi) (some n) none
 | _=>none
def je(x:EV)(size:Nat)(lo hi mx:Option EV):Option EV:=
 match x with
 | .slice i off len room op=>
  match mx with
  | none=>
   match bound hi room len with
   | none=>none
   | some h=>match bound lo h 0 with
    | none=>none
    | some l=>
     Bc op
      (Bc (Nat.beq l 0) (some (.slice i off h room true))
       (Bc (Nat.ble (Nat.succ l) room) (some (.slice i (Nat.add off (Nat.mul l size)) (Nat.sub h l) (Nat.sub room l) true))
        (Bc (Nat.beq l room) (Bc (Nat.beq h l) (some (.tail i (Nat.add off (Nat.mul l size)) off)) none) none)))
      (Bc (Nat.ble l room) (some (.slice i (Bc (Nat.beq room l) off (Nat.add off (Nat.mul l size))) (Nat.sub h l) (Nat.sub room l) false)) none)
  | some _=>
   match bound mx room 0,hi with
   | some m,some _=>match bound hi m 0 with
    | none=>none
    | some h=>match bound lo h 0 with
     | none=>none
     | some l=>some (.slice i (Bc (Nat.beq m l) off (Nat.add off (Nat.mul l size))) (Nat.sub h l) (Nat.sub m l) false)
   | _,_=>none
 | .Aq=>
  match mx with
  | none=>
   match bound hi 0 0 with
   | none=>none
   | some h=>match bound lo h 0 with
    | none=>none
    | some _=>some .Aq
  | some _=>none
 | _=>none
def jw(tm:Bb):Option Operand->Option (Option EV)
 | none=>some none
 | some x=>match Cj tm x with
  | some v=>some (some v)
  | none=>none
def lenOf:EV->Option Nat
 | .Aq=>some 0
 | .slice _ _ n _ _=>some n
 | .tail ..=>some 0
 | .odd _=>some 0
 | _=>none
def cellsOf(h:Ab)(size n:Nat):EV->Option (List EV)
 | .Aq=>Bc (Nat.beq n 0) (some []) none
 | .slice i off _ _ _=>Bc (Nat.beq n 0) (some []) (Jo h i off (Nat.mul n size))
 | .tail ..=>Bc (Nat.beq n 0) (some []) none
 | _=>none
def append(T:Ir)(st:TypeId)(s x:EV)(h:Ab):Option (EV × Ab):=
 match T.T8 st with
 | some (.slice e)=>match T.size e,T.zero e with
  | some size,some _=>match lenOf x with
   | some n=>Bc (Nat.beq n 0)
    (match s with
     | .slice _ _ d room _=>Bc (Nat.ble d room) (some (s,h)) none
     | .Aq=>some (s,h)
     | _=>none)
    (Bc (Nat.ble n 65536) (match cellsOf h size n x with
    | some new=>
     (match s with
     | .Aq=>some (.slice h.next 0 n n true,h.new (.vec new e size))
     | .slice i off d room op=>Bc (Nat.ble d 1048576) (match cellsOf h size d s with
      | some Bt=>
       Bc op
        (Bc (Nat.beq off 0) (Bc (Nat.beq room d) (match h.get i with
         | some (.vec l e' s')=>Bc (Nat.beq (len l) (Nat.mul d size)) (Bc (Nat.beq s' size) (Bc (Nat.beq e' e)
          (some (.slice h.next 0 (Nat.add d n) (Nat.add d n) true,(h.del i).new (.vec (Bt++new) e size))) none) none) none
         | _=>none) none) none)
        (Bc (Nat.ble (Nat.add d n) room) none (some (.slice h.next 0 (Nat.add d n) (Nat.add d n) true,h.new (.vec (Bt++new) e size))))
      | none=>none) none
     | _=>none)
    | none=>none) none)
   | none=>none
  | _,_=>none
 | _=>none
def nh:EV->EV->Option Bool
 | .agg a,.agg b=>Fa a b
 | .int k a,.int k' b=>Bc (Nat.beq (Pq k) (Pq k')) (some (iV a b)) none
 | _,_=>none
def O2(T:Ir)(t:TypeId):EV->Bool
 | .agg a=>Bc (T.key t) (match T.eqs t with
  | some sh=>Bc (shaped sh a) (match Fa a a with|some _=>true|none=>false) false
  | none=>false) false
 | .int k _=>match T.T8 t with
  | some (.int k')=>Nat.beq (Pq k) (Pq k')
  | _=>false
 | _=>false
def Io(k:EV):List (EV × EV)->Nat->Option (Option (Nat × EV))
 | [],_=>some none
 | (a,b)::r,i=>match nh k a with
  | some true=>some (some (i,b))
  | some false=>Io k r (Nat.succ i)
  | none=>none
def iH(mx:Bool)(k:IntKind)(a:Int):List EV->Option EV
 | []=>some (.int k a)
 | .int _ b::r=>iH mx k (Bc (Bc mx (kI a b) (kI b a)) b a) r
 | _=>none
def yF(l:List UInt8):Nat:=match l with | []=>0|_::r=>Nat.succ (yF r)
def builtin(T:Ir)(b:Builtin)(ts:Array TypeId)(args:List EV)(h:Ab):Option (EV × Ab):=
 match b,args with
 | .append,[s,x]=>match ts.toList with | [t,u]=>(match T.T8 u with|some (.slice _)=>append T t s x h|_=>none)|_=>none
 | .len,[x]=>match ts.toList with
  | [t]=>match T.T8 t,x with
   | some (.array n _),_=>some (.int .i64 (.ofNat n),h)
   | some (.slice _),x=>match lenOf x with|some n=>some (.int .i64 (.ofNat n),h)|none=>none
   | some .string,.str s=>some (.int .i64 (.ofNat (yF s.data.toList)),h)
   | some (.chan ..),.chan i=>match h.get i with|some (.chan _ buf)=>some (.int .i64 (.ofNat (len buf)),h)|_=>none
   | _,_=>none
  | _=>none
 | .copy,[d,s]=>match ts.toList with
  | [t,u]=>match T.T8 t,T.T8 u with
   | some (.slice e),some (.slice _)=>match T.size e,lenOf d,lenOf s with
    | some size,some dn,some y=>
     let n:=Bc (Nat.ble y dn) y dn
     Bc (Nat.beq n 0) none (match cellsOf h size n s with
     | some cs=>(match d with
      | .slice i off _ _ _=>match My h i off cs with|some h'=>some (.int .i64 (.ofNat n),h')|none=>none
      | _=>none)
     | none=>none)
    | _,_,_=>none
   | _,_=>none
  | _=>none
 | .delete,[m,k]=>match ts.toList with
  | t::_=>match T.T8 t,m with
   | some (.map A _),.map i=>Bc (O2 T A k) (match h.get i with
    | some (.map es)=>match Io k es 0 with
     | some (some (j,_))=>some (.tuple [],h.put i (.map (es.eraseIdx j)))
     | some none=>some (.tuple [],h.put i (.map es))
     | none=>none
    | _=>none) none
   | _,_=>none
  | _=>none
 | .min,.int k a::l=>match iH false k a l with|some v=>some (v,h)|none=>none
 | .max,.int k a::l=>match iH true k a l with|some v=>some (v,h)|none=>none
 | _,_=>none
def part(T:Ir)(t:TypeId)(cs:List EV)(off:Nat):Option EV:=
 match T.agg t with
 | some true=>(match T.size t with
  | some n=>match takeN (Zm cs off) n with|some l=>some (.agg l)|none=>none
  | none=>none)
 | some false=>(match Zm cs off with|v::_=>some v | []=>none)
 | none=>none
def mY(l:List Field)(i:Nat):Option Field:=
 match l with
 | []=>none
 | a::r=>Bc (Nat.beq i 0) (some a) (mY r (Nat.pred i))
def zeroOf(T:Ir)(t:TypeId):Option EV:=
 match T.zero t with
 | some z=>match T.agg t with
  | some true=>some (.agg z)
  | some false=>(match z with | [v]=>some v|_=>none)
  | none=>none
 | none=>none
def placesOf(T:Ir):List Field->Option (List (Nat × Nat))
 | []=>some []
 | f::r=>match T.size f.type with
  | some n=>match placesOf T r with
   | some l=>some ((f.offset,n)::l)
   | none=>none
  | none=>none
def lW(l:List (Nat × Nat))(i:Nat):Option (Nat × Nat):=
 match l with
 | []=>none
 | a::r=>Bc (Nat.beq i 0) (some a) (lW r (Nat.pred i))
def qL(l:List UInt8)(i:Nat):Option UInt8:=
 match l with
 | []=>none
 | a::r=>Bc (Nat.beq i 0) (some a) (qL r (Nat.pred i))
def Fh(T:Ir)(tm:Bb)(op:Op):Option EV:=
 match op with
 | .move x=>Cj tm x
 | .assign x=>Cj tm x
 | .pick c a b=>match Cj tm c with
  | some (.bool true)=>Cj tm a
  | some (.bool false)=>Cj tm b
  | _=>none
 | .binOp op t x y _=>match Cj tm x with
  | some a=>match Cj tm y with
   | some b=>bin T op t a b
   | none=>none
  | none=>none
 | .unOp .not _ x=>match Cj tm x with
  | some (.bool b)=>some (.bool (Bc b false true))
  | _=>none
 | .unOp .neg _ x=>match Cj tm x with
  | some (.int k n)=>some (.int k (Dl k (Int.sub 0 n)))
  | _=>none
 | .nilCheck x=>match Cj tm x with
  | some (.ptr i o)=>some (.ptr i o)
  | _=>none
 | .fieldAddr s x f=>match Cj tm x with
  | some (.ptr i off)=>match T.T8 s with
   | some (.struct fields)=>match mY fields.toList f with
    | some fd=>match T.size fd.type with
     | some n=>Bc (Nat.beq n 0) none (some (.ptr i (Nat.add off fd.offset)))
     | none=>none
    | none=>none
   | _=>none
  | _=>none
 | .indexAddr t x ix=>match Cj tm ix with
  | some (.int _ (.ofNat n))=>match T.T8 t,Cj tm x with
   | some (.array len e),some (.ptr i off)=>match T.size e with
    | some s=>Bc (Nat.ble (Nat.succ n) len) (some (.ptr i (Nat.add off (Nat.mul n s)))) none
    | none=>none
   | some (.slice e),some (.slice i off len _ _)=>match T.size e with
    | some s=>Bc (Nat.ble (Nat.succ n) len) (some (.ptr i (Nat.add off (Nat.mul n s)))) none
    | none=>none
   | _,_=>none
  | _=>none
 | .index t x ix=>match Cj tm ix with
  | some (.int _ (.ofNat n))=>match T.T8 t,Cj tm x with
   | some (.array len e),some (.agg cs)=>match T.size e with
    | some s=>Bc (Nat.ble (Nat.succ n) len) (part T e cs (Nat.mul n s)) none
    | none=>none
   | some .string,some (.str s)=>match qL s.data.toList n with
    | some b=>some (.int .u8 (.ofNat b.toNat))
    | none=>none
   | _,_=>none
  | _=>none
 | .field t x f=>match T.T8 t,Cj tm x with
  | some (.struct fields),some (.agg cs)=>match mY fields.toList f with
   | some fd=>part T fd.type cs fd.offset
   | none=>none
  | _,_=>none
 | .convert src dst x=>match T.T8 src,T.T8 dst,Cj tm x with
  | some _,some (.int k),some (.int _ n)=>some (.int k (Dl k n))
  | _,_,_=>none
 | .extract x ix=>match Cj tm x with
  | some (.tuple l)=>match Zm l ix with|v::_=>some v | []=>none
  | _=>none
 | .slice t x lo hi mx=>
  match jw tm lo,jw tm hi,jw tm mx with
  | some lo,some hi,some mx=>match T.T8 t,Cj tm x with
   | some (.array n e),some (.ptr i off)=>match T.size e with
    | some s=>je (.slice i off n n false) s lo hi mx
    | none=>none
   | some (.slice e),some v=>match T.size e with
    | some s=>je v s lo hi mx
    | none=>none
   | _,_=>none
  | _,_,_=>none
 | .build t ps=>match T.zero t,Z8 tm ps.toList,T.T8 t with
  | some z,some l,some (.struct fields)=>match placesOf T fields.toList with
   | some ps=>match fill (lW ps) z l with
    | some c=>some (.agg c)
    | none=>none
   | none=>none
  | some z,some l,some (.array _ e)=>match T.size e with
   | some s=>match fill (fun i=>some (Nat.mul i s,s)) z l with
    | some c=>some (.agg c)
    | none=>none
   | none=>none
  | _,_,_=>none
 | .makeFunc (.func f) first captured=>match Nc tm first.toList,Nc tm captured.toList with
  | some a,some b=>some (.func f a b)
  | _,_=>none
 | .sliceToArrayPointer t x=>match T.T8 t,Cj tm x with
  | some (.array n _),some (.slice i off len _ _)=>Bc (Nat.ble n len) (some (.ptr i off)) none
  | _,_=>none
 | _=>none
def oC:Op->Bool
 | .move _=>true | .assign _=>true | .pick ..=>true | .binOp ..=>true | .unOp ..=>true | .nilCheck _=>true | .fieldAddr ..=>true | .indexAddr ..=>true | .index ..=>true
 | .field ..=>true | .convert ..=>true | .extract ..=>true | .slice ..=>true | .build ..=>true | .makeFunc ..=>true | .sliceToArrayPointer ..=>true
 | _=>false
def D3(T:Ir)(tm:Bb)(op:Op)(h:Ab):Option (EV × Ab):=
 match op with
 | .load t a=>match Cj tm a with
  | some (.ptr i off)=>match T.agg t with
   | some true=>(match T.size t with
    | some n=>match Jo h i off n with|some l=>some (.agg l,h)|none=>none
    | none=>none)
   | some false=>(match Jo h i off 1 with|some [v]=>some (v,h)|_=>none)
   | none=>none
  | _=>none
 | .store t a x=>match Cj tm a,Cj tm x,T.size t with
  | some (.ptr i off),some v,some n=>Bc (v.plain) (Bc (Nat.beq (len v.cells) n)
   (match My h i off v.cells with|some h'=>some (.tuple [],h')|none=>none) none) none
  | _,_,_=>none
 | .alloc t=>match T.zero t with
  | some z=>some (.ptr h.next 0,h.new (.cells z t))
  | none=>none
 | .box t x=>match Cj tm x with
  | some v=>Bc v.plain (some (.ptr h.next 0,h.new (.cells v.cells t))) none
  | none=>none
 | .call { callee:=.builtin b,args,argTypes }=>match Nc tm args.toList with
  | some as=>builtin T b argTypes as h
  | none=>none
 | .buildSlice t n ps=>match T.T8 t,Z8 tm ps.toList with
  | some (.slice e),some l=>match T.size e,T.zero e with
   | some s,some z=>Bc (Nat.ble (Nat.mul n s) 65536) (match fill (fun i=>some (Nat.mul i s,s)) (rep z n) l with
    | some c=>some (.slice h.next 0 n n false,h.new (.cells c e))
    | none=>none) none
   | _,_=>none
  | _,_=>none
 | .makeSlice t l c=>match T.T8 t,Cj tm l,Cj tm c with
  | some (.slice e),some (.int _ (.ofNat n)),some (.int _ (.ofNat m))=>match T.zero e with
   | some z=>Bc (Nat.ble n m) (Bc (Nat.ble m 65536) (some (.slice h.next 0 n m false,h.new (.cells (rep z m) e))) none) none
   | none=>none
  | _,_,_=>none
 | .makeMap _ none=>some (.map h.next,h.new (.map []))
 | .makeChan t s=>match T.T8 t,Cj tm s with
  | some (.chan _ e),some (.int _ (.ofNat n))=>match T.size e with
   | some _=>Bc (Nat.ble n 65536) (some (.chan h.next,h.new (.chan n []))) none
   | none=>none
  | _,_=>none
 | .lookup t x k ok=>match T.T8 t,Cj tm x,Cj tm k with
  | some (.map u e),some (.map i),some d=>Bc (O2 T u d) (match h.get i with
   | some (.map es)=>match Io d es 0 with
    | some (some (_,v))=>some (Bc ok (.tuple [v,.bool true]) v,h)
    | some none=>match zeroOf T e with
     | some zv=>some (Bc ok (.tuple [zv,.bool false]) zv,h)
     | none=>none
    | none=>none
   | _=>none) none
  | _,_,_=>none
 | .mapUpdate t m k x=>match T.T8 t,Cj tm m,Cj tm k,Cj tm x with
  | some (.map u _),some (.map i),some d,some v=>Bc (O2 T u d) (match h.get i with
   | some (.map es)=>match Io d es 0 with
    | some (some (j,_))=>some (.tuple [],h.put i (.map (es.set j (d,v))))
    | some none=>some (.tuple [],h.put i (.map (es++[(d,v)])))
    | none=>none
   | _=>none) none
  | _,_,_,_=>none
 | .select cs false=>match cs.toList with
  | [c]=>match Cj tm c.chan,c.send with
   | some (.chan i),some x=>match h.get i,Cj tm x with
    | some (.chan cap buf),some v=>match zeroOf T c.elem with
     | some _=>Bc (Nat.ble (Nat.succ (len buf)) cap) (some (.tuple [.int .i64 0,.bool false],h.put i (.chan cap (buf++[v]))))
      (some (.tuple [.int .i64 (-1),.bool false],h))
     | none=>none
    | _,_=>none
   | some (.chan i),none=>match h.get i,zeroOf T c.elem with
    | some (.chan cap buf),some zv=>
     match buf with
     | v::r=>some (.tuple [.int .i64 0,.bool true,v],h.put i (.chan cap r))
     | []=>some (.tuple [.int .i64 (-1),.bool false,zv],h)
    | _,_=>none
   | _,_=>none
  | _=>none
 | _=>none
def setArgs:List EV->Nat->Tr EV->Tr EV
 | [],_,t=>t
 | v::r,i,t=>setArgs r (Nat.succ i) (t.put i (some v))
def Ww:List Tmp->List EV->Nat->Tr EV->Option (Tr EV)
 | [],[],_,t=>some t
 | p::r,v::s,n,t=>Ww r s n (Bc (Nat.ble (Nat.succ p) n) (t.put p (some v)) t)
 | _,_,_,_=>none
def enter(T:Ir)(f:Nat)(args:List EV):Option Aj3:=
 match T.fn f with
 | some { ntmps:=n,body:=some c,.. }=>Bc (Nat.ble (len args) n) (some ⟨f,n,setArgs args 0 .nil,[.code c],[],false,none⟩) none
 | _=>none
def kK(l:List Oper)(i:Nat):Option Oper:=
 match l with
 | []=>none
 | a::r=>Bc (Nat.beq i 0) (some a) (kK r (Nat.pred i))
def yielded(ops:List Oper)(tm:Bb)(j:Nat):Option Bool:=
 match kK ops j with
 | some o=>match o.dst with
  | some d=>match tm.get d with
   | some (.bool b)=>some b
   | _=>none
  | none=>none
 | none=>none
def wanted(ops:List Oper)(tm:Bb)(g:Option (Nat × Bool)):Bool:=
 match g with
 | none=>true
 | some (j,want)=>match yielded ops tm j with|some b=>Bc b want (Bc want false true)|none=>false
def aop(T:Ir)(call round:Ah)(tm:Bb)(op:Op)(h:Ab):Option (EV × Ab):=
 Bc (oC op) (match Fh T tm op with|some v=>some (v,h)|none=>none)
  (match op with
  | .call { callee:=.value f,args,.. }=>match Cj tm f,Nc tm args.toList with
   | some (.func g first captured),some as=>call g (first++(as++captured)) h
   | some (.Vz l),some as=>round l as h
   | _,_=>none
  | op=>D3 T tm op h)
def jJ(T:Ir)(call round:Ah)(n:Nat)(ops:List Oper):List Oper->Bb->Ab->Option (Bb × Ab)
 | [],tm,h=>some (tm,h)
 | ⟨dst,op,_,_,_,g⟩::r,tm,h=>Bc (wanted ops tm g)
  (match aop T call round tm op h with
   | some (v,h')=>jJ T call round n ops r (Qm n tm dst v) h'
   | none=>none)
  (jJ T call round n ops r (Qm n tm dst (.tuple [])) h)
inductive l_ where
 | val|load|new|pur|sto|big
def m':Op->Bool
 | .call { callee:=.builtin .len,.. }=>true
 | .call { callee:=.builtin .min,.. }=>true
 | .call { callee:=.builtin .max,.. }=>true
 | _=>false
def cls:Op->l_
 | .load ..=>.load
 | .store ..=>.sto
 | .alloc _=>.new | .box ..=>.new | .buildSlice ..=>.new | .makeSlice ..=>.new | .makeMap ..=>.new | .makeChan ..=>.new
 | op=>Bc (oC op) .val (Bc (m' op) .pur .big)
def oD(e:Edge):Bool:=
 match e.ground with
 | .textOnly _=>false
 | .gcOnly _=>false
 | _=>true
def qM(bs:Tr Nat):List Edge->Nat->Nat
 | [],x=>x
 | e::r,x=>qM bs r (Bc (oD e) (Nat.lor x (Nat.lor (Nat.shiftLeft 1 e.on) (match bs.get e.on with|some y=>y|none=>0))) x)
def Oy:List Oper->Nat->Tr Nat->Tr Nat
 | [],_,bs=>bs
 | o::r,i,bs=>Oy r (Nat.succ i) (bs.put i (some (qM bs o.after.toList 0)))
def nj:List Operand->Nat->Nat
 | [],x=>x
 | .tmp t::r,x=>nj r (Nat.lor x (Nat.shiftLeft 1 t))
 | _::r,x=>nj r x
def oF(o:Oper):Nat:=match o.dst with|some d=>Nat.shiftLeft 1 d|none=>0
def pH(ops:List Oper)(o:Oper):Nat:=
 Nat.lor (nj o.op.operands.toList 0) (match o.guard with|some (j,_)=>(match kK ops j with|some g=>oF g|none=>0)|none=>0)
def vj(j d l u l' b:Nat):Bool:=
 Bc (Nat.beq (Nat.land b (Nat.shiftLeft 1 j)) 0) (Nat.beq (Nat.lor (Nat.land d (Nat.lor u l')) (Nat.land l u)) 0) true
def sU(u l' b:Nat):List (Nat × Nat)->Nat->Bool
 | [],_=>true
 | (d,l)::r,j=>Bc (vj j d l u l' b) (sU u l' b r (Nat.succ j)) false
def mX(ops:List Oper)(bs:Tr Nat):List Oper->Nat->List (Nat × Nat)->Bool
 | [],_,_=>true
 | o::r,i,ms=>match bs.get i with
  | some b=>Bc (sU (oF o) (pH ops o) b ms 0) (mX ops bs r (Nat.succ i) (ms++[(oF o,pH ops o)])) false
  | none=>false
def within(x b:Nat):Bool:=Nat.beq (Nat.land x b) x
def Yo(b q:Nat):List (Nat × Nat)->Bool
 | []=>true
 | (m,w)::r=>Bc (Bc (within m b) true (Nat.ble (Nat.succ q) w)) (Yo b q r) false
def Tg(b w:Nat):List (Nat × Nat)->Bool
 | []=>true
 | (m,q)::r=>Bc (Bc (within m b) true (Nat.ble (Nat.succ q) w)) (Tg b w r) false
def loose(b:Nat):List (Nat × Nat)->List Nat
 | []=>[]
 | (m,q)::r=>Bc (within m b) (loose b r) (q::loose b r)
def kJ(t:Tr D5):List Nat->Tr D5
 | []=>t
 | q::r=>(kJ t r).put q none
def kA(t d:Tr D5):List Nat->Tr D5
 | []=>d
 | q::r=>(kA t d r).put q (t.get q)
structure jk where
 tm:Bb
 h:Ab
 bg:Nat
 nw:List (Nat × Nat)
 Cy:List (Nat × Nat)
 lou:List (Nat × Nat)
 st:List (Nat × Nat)
def Fx(b q:Nat):List (Nat × Nat)->Bool
 | []=>true
 | (m,r)::l=>Bc (Bc (within m b) true (Bc (Nat.beq q r) false true)) (Fx b q l) false
def Azc(b:Nat):List (Nat × Nat)->Bool
 | []=>true
 | (m,_)::l=>Bc (within m b) (Azc b l) false
def A1c(q:Nat):List Nat->Bool
 | []=>true
 | r::l=>Bc (Nat.beq q r) false (A1c q l)
def Xa(T:Ir)(call round:Ah)(n:Nat)(ops:List Oper)(bs:Tr Nat)(base:Nat)(o:Oper)(i:Nat)(s:jk):Option jk:=
 match o,s with
 | ⟨dst,op,_,_,_,g⟩,⟨tm,h,bg,nw,Cy,lou,st⟩=>Bc (wanted ops tm g)
  (match bs.get i with
  | none=>none
  | some b=>match cls op with
   | .val=>match Fh T tm op with
    | some v=>some ⟨Qm n tm dst v,h,bg,nw,Cy,lou,st⟩
    | none=>none
   | .load=>match op with
    | .load t x=>match Cj tm x with
     | some (.ptr q _)=>
      Bc (Bc (Fx b q st) (Bc (Nat.ble (Nat.succ q) base) (Yo b q lou) (Bc (within bg b) (match loose b nw with | []=>true|_=>false) false)) false) (match D3 T tm (.load t x) h with
      | some (v,_)=>some ⟨Qm n tm dst v,h,bg,nw,(Nat.shiftLeft 1 i,q)::Cy,lou,st⟩
      | none=>none) none
     | _=>none
    | _=>none
   | .new=>match D3 T tm op h with
    | some (v,h')=>some ⟨Qm n tm dst v,h',bg,(Nat.shiftLeft 1 i,h.next)::nw,Cy,lou,st⟩
    | none=>none
   | .sto=>match op with
    | .store t a x=>match Cj tm a with
     | some (.ptr q _)=>
      Bc (Bc (within bg b) (Bc (Fx b q st) (Bc (Fx b q Cy) (A1c q (loose b nw)) false) false) false) (match D3 T tm (.store t a x) h with
      | some (v,h')=>some ⟨Qm n tm dst v,h',bg,nw,Cy,lou,(Nat.shiftLeft 1 i,q)::st⟩
      | none=>none) none
     | _=>none
    | _=>none
   | .pur=>match D3 T tm op ⟨.nil,h.next,h.next⟩with
    | some (v,_)=>some ⟨Qm n tm dst v,h,bg,nw,Cy,lou,st⟩
    | none=>none
   | .big=>Bc (Bc (within bg b) (Azc b st) false) (match h with
    | ⟨t,nx,mw⟩=>match aop T call round tm op ⟨kJ t (loose b nw),nx,nx⟩with
     | some (v,⟨u,j,d⟩)=>
      Bc (Nat.ble nx d)
       (some ⟨Qm n tm dst v,⟨kA t u (loose b nw),j,mw⟩,Nat.lor bg (Nat.shiftLeft 1 i),nw,Cy,lou,st⟩)
       (Bc (Tg b d Cy)
        (some ⟨Qm n tm dst v,⟨kA t u (loose b nw),j,Bc (Nat.ble mw d) mw d⟩,Nat.lor bg (Nat.shiftLeft 1 i),nw,Cy,(Nat.shiftLeft 1 i,d)::lou,st⟩)
        none)
     | none=>none) none)
  (some ⟨Qm n tm dst (.tuple []),h,bg,nw,Cy,lou,st⟩)
def Tj(T:Ir)(call round:Ah)(n:Nat)(ops:List Oper)(bs:Tr Nat)(base:Nat):List Oper->Nat->jk->Option jk
 | [],_,s=>some s
 | o::r,i,s=>match Xa T call round n ops bs base o i s with
  | some s'=>Tj T call round n ops bs base r (Nat.succ i) s'
  | none=>none
def vk(i:Nat):List Edge->Bool
 | []=>true
 | e::r=>Bc (Bc (oD e) (Nat.ble (Nat.succ e.on) i) true) (vk i r) false
def ov:List Oper->Nat->Bool
 | [],_=>true
 | o::r,i=>Bc (vk i o.after.toList) (ov r (Nat.succ i)) false
def lY(T:Ir)(call round:Ah)(n:Nat)(ops:List Oper)(tm:Bb)(h:Ab):Option (Bb × Ab):=
 Bc (ov ops 0) (Bc (mX ops (Oy ops 0 .nil) ops 0 []) (match Tj T call round n ops (Oy ops 0 .nil) h.next ops 0 ⟨tm,h,0,[],[],[],[]⟩with
  | some ⟨d,h',_,_,_,_,_⟩=>some (d,h')
  | none=>none) none) none
def Ni(T:Ir)(tm:Bb)(h:Ab):List ResultVar->Option (List EV)
 | []=>some []
 | .tmp t::r=>match Ni T tm h r with|some l=>some (tmp tm t::l)|none=>none
 | .cell a t::r=>match tmp tm a,Ni T tm h r,T.size t with
  | .ptr i off,some l,some n=>match Jo h i off n with
   | some cs=>match T.agg t with
    | some true=>some (.agg cs::l)
    | some false=>(match cs with | [v]=>some (v::l)|_=>none)
    | none=>none
   | none=>none
  | _,_,_=>none
inductive AR where
 | go (s:H3)
 | done (v:EV) (h:Ab)
 | fail
def leave(fn n:Nat)(tm:Bb)(todo:List Item)(defers:List Nat)(Dy:Option Nat)(h:Ab)(jump:Option Code):AR:=
 match Dy with
 | none=>match jump with
  | none=>.go ⟨⟨fn,n,tm,todo,defers,true,Dy⟩,h⟩
  | some .ret=>.go ⟨⟨fn,n,tm,todo,defers,true,Dy⟩,h⟩
  | some _=>.fail
 | some l=>match h.get l with
  | some (.loop _ _ f n tm ps d' body d)=>
   match jump with
   | none=>.done (.bool true) (h.put l (.loop .ready none f n tm ps d' body d))
   | some c=>.done (.bool false) (h.put l (.loop .done (some c) f n tm ps d' body d))
  | _=>.fail
def behind(fn n:Nat)(tm:Bb)(defers:List Nat)(Dy:Option Nat)(l:Nat)(k:List Item)(r:Option (EV × Ab)):AR:=
 match r with
 | none=>.fail
 | some (_,h)=>match h.get l with
  | some (.loop st p f u j ps d' body d)=>match st with
   | .busy=>.fail
   | _=>.go ⟨⟨fn,n,tm,(match p with|some c=>.code c::k|none=>k),defers,false,Dy⟩,h.put l (.loop .exhausted p f u j ps d' body d)⟩
  | _=>.fail
def Cr(T:Ir)(call round:Ah):H3->AR
 | ⟨⟨fn,n,tm,todo,defers,true,Dy⟩,h⟩=>match defers with
  | d::ds=>match h.get d with
   | some (.deferred true)=>.go ⟨⟨fn,n,tm,todo,ds,true,Dy⟩,h.put d (.deferred false)⟩
   | _=>.fail
  | []=>match T.fn fn with
   | some f=>match Ni T tm h f.results.toList with
    | some [v]=>.done v h
    | some l=>.done (.tuple l) h
    | none=>.fail
   | none=>.fail
 | ⟨⟨fn,n,tm,todo,defers,false,Dy⟩,h⟩=>
  match todo with
  | []=>leave fn n tm todo defers Dy h none
  | .code c::k=>match c with
   | .region _ ops false=>match jJ T call round n ops.toList ops.toList tm h with
    | some (j,h')=>.go ⟨⟨fn,n,j,k,defers,false,Dy⟩,h'⟩
    | none=>.fail
   | .region _ ops true=>match lY T call round n ops.toList tm h with
    | some (j,h')=>.go ⟨⟨fn,n,j,k,defers,false,Dy⟩,h'⟩
    | none=>.fail
   | .seq a b=>.go ⟨⟨fn,n,tm,.code a :: .code b::k,defers,false,Dy⟩,h⟩
   | .skip=>.go ⟨⟨fn,n,tm,k,defers,false,Dy⟩,h⟩
   | .cond c a b=>match Cj tm c with
    | some (.bool true)=>.go ⟨⟨fn,n,tm,.code a::k,defers,false,Dy⟩,h⟩
    | some (.bool false)=>.go ⟨⟨fn,n,tm,.code b::k,defers,false,Dy⟩,h⟩
    | _=>.fail
   | .block id c=>.go ⟨⟨fn,n,tm,.code c :: .inBlock id::k,defers,false,Dy⟩,h⟩
   | .loop c=>.go ⟨⟨fn,n,tm,.code c :: .inLoop c::k,defers,false,Dy⟩,h⟩
   | .label _=>.go ⟨⟨fn,n,tm,k,defers,false,Dy⟩,h⟩
   | .exit id=>match exitTo id k with
    | some k'=>.go ⟨⟨fn,n,tm,k',defers,false,Dy⟩,h⟩
    | none=>leave fn n tm todo defers Dy h (some (.exit id))
   | .ret=>leave fn n tm todo defers Dy h (some .ret)
   | .rangeFunc f params d' body=>
    match Cj tm f with
    | some (.func g first captured)=>
     match Dy with
     | none=>
      behind fn n tm (h.next::defers) Dy (Nat.succ h.next) k (call g (first++(.Vz (Nat.succ h.next)::captured)) ((h.new (.deferred true)).new (.loop .ready none fn n tm params.toList d' body h.next)))
     | some l0=>match h.get l0 with
      | some (.loop _ _ _ _ _ _ _ _ d)=>
       behind fn n tm defers Dy h.next k (call g (first++(.Vz h.next::captured)) (h.new (.loop .ready none fn n tm params.toList d' body d)))
      | _=>.fail
    | _=>.fail
   | _=>.fail
  | .inBlock _::k=>.go ⟨⟨fn,n,tm,k,defers,false,Dy⟩,h⟩
  | .inLoop c::k=>.go ⟨⟨fn,n,tm,.code c :: .inLoop c::k,defers,false,Dy⟩,h⟩
  | .beginRound::k=>match Dy with
   | some l=>match h.get l with
    | some (.loop .ready p f u j ps d' body d)=>.go ⟨⟨fn,n,tm,k,defers,false,Dy⟩,h.put l (.loop .busy p f u j ps d' body d)⟩
    | _=>.fail
   | none=>.fail
  | _=>.fail
def ve(l:Nat)(args:List EV)(h:Ab):Option Aj3:=
 match h.get l with
 | some (.loop _ _ f n tm ps d' body _)=>match Ww ps args n tm with
  | some d=>some ⟨f,n,d,[.code d',.beginRound,.code body],[],false,some l⟩
  | none=>none
 | _=>none
end
variable {a vs buf args:List EV}{h h' h1 h2:Ab}{v zv:EV}{tm:Bb}{hi lo mx:Option EV}{o':D5}{ws:List (Nat × List EV)}{T:Ir}{round:Ah}
section
section Bc
@[simp] theorem Al(x y:α):Bc true x y=x:=rfl
@[simp] theorem Bk(x y:α):Bc false x y=y:=rfl
theorem Br(b:Bool)(x y:α):Bc b x y=if b=true then x else y:=by cases b<;>rfl
theorem Ap {b:Bool}{x:Option α}{r:α}(h:Bc b x none=some r):b=true/\x=some r:=by cases b<;>simp_all [Br]
theorem T5 {b:Bool}{x:Option α}{r:α}(h:Bc b none x=some r):b=false/\x=some r:=by cases b<;>simp_all [Br]
end Bc
theorem oG {a b:Nat}(h:a<=b):Nat.ble a b=true:=aR h
theorem qN {a b:Nat}(h:¬a<=b):Nat.ble a b=false:=Bool.eq_false_iff.2 fun e=>h (bG e)
theorem beq_false {a b:Nat}(h:a≠b):Nat.beq a b=false:=Bool.eq_false_iff.2 fun e=>h (aK e)
section tree
theorem Tr.get_nil(i:Nat):(Tr.nil:Tr α).get i=none:=rfl
theorem Tr.Xy(l r:Tr α)(v:Option α)(i:Nat):(Tr.node l v r).get i=if i=0 then v else if i%2=1 then l.get (i/2)else r.get (i/2-1):=by
 have e:(Tr.node l v r).get i=Bc (Nat.beq i 0) v (Bc (Nat.beq (Nat.land i 1) 1) (l.get (Nat.div i 2)) (r.get (Nat.pred (Nat.div i 2)))):=rfl;have e2:Nat.land i 1=i%2:=Nat.and_one_is_mod i;rw[e,Br,Br,e2];simp only[Nat.beq_eq];rfl
theorem Tr.set_nil(n i:Nat)(v:Option α):Tr.set (n+1) (.nil:Tr α) i v =
 Bc (Nat.beq i 0) (.node .nil v .nil) (Bc (Nat.beq (Nat.land i 1) 1) (Tr.lf none .nil (Tr.set n .nil (Nat.div i 2) v)) (Tr.rt .nil none (Tr.set n .nil (Nat.pred (Nat.div i 2)) v))):=rfl
theorem Tr.sV(n i:Nat)(l r:Tr α)(x v:Option α):Tr.set (n+1) (.node l x r) i v =
 Bc (Nat.beq i 0) (.node l v r) (Bc (Nat.beq (Nat.land i 1) 1) (Tr.lf x r (Tr.set n l (Nat.div i 2) v)) (Tr.rt l x (Tr.set n r (Nat.pred (Nat.div i 2)) v))):=rfl
theorem Tr.P_(x:Option α)(r a c:Tr α)(b:Option α):Tr.lf x r (.node a b c)=.node (.node a b c) x r:=rfl
theorem Tr.QA(x:Option α)(l a c:Tr α)(b:Option α):Tr.rt l x (.node a b c)=.node l x (.node a b c):=rfl
theorem Tr.Tb:∀(n:Nat) (t:Tr α) (i:Nat) (v:Option α),i+1<2^n->∃a b c,Tr.set n t i v=.node a b c
 | 0,_,i,_,h=>by simp at h
 | n+1,t,i,v,h=>by
  have e2:Nat.land i 1=i%2:=Nat.and_one_is_mod i;rw[fF]at h;by_cases h0:i=0
  ·subst h0
   cases t with
   | nil=>exact⟨_,_,_,rfl⟩
   | node l x r=>exact⟨_,_,_,rfl⟩
  ·have b0:Nat.beq i 0=false:=by cases hb:Nat.beq i 0 with|false=>rfl|true=>exact absurd (aK hb) h0
   by_cases h1:i%2=1
   ·have b1:Nat.beq (i%2) 1=true:=by rw[h1];rfl
    cases t with
    | nil=>
     obtain⟨a,b,c,e⟩:=Tr.Tb n (.nil:Tr α) (i/2) v a_;exact⟨_,_,_,by rw[Tr.set_nil,b0,Bk,e2,b1,Al];exact congrArg (Tr.lf none .nil) e⟩
    | node l x r=>
     obtain⟨a,b,c,e⟩:=Tr.Tb n l (i/2) v a_;exact⟨_,_,_,by rw[Tr.sV,b0,Bk,e2,b1,Al];exact congrArg (Tr.lf x r) e⟩
   ·have b1:Nat.beq (i%2) 1=false:=by cases hb:Nat.beq (i%2) 1 with|false=>rfl|true=>exact absurd (aK hb) h1
    cases t with
    | nil=>
     obtain⟨a,b,c,e⟩:=Tr.Tb n (.nil:Tr α) (i/2-1) v a_;exact⟨_,_,_,by rw[Tr.set_nil,b0,Bk,e2,b1,Bk];exact congrArg (Tr.rt .nil none) e⟩
    | node l x r=>
     obtain⟨a,b,c,e⟩:=Tr.Tb n r (i/2-1) v a_;exact⟨_,_,_,by rw[Tr.sV,b0,Bk,e2,b1,Bk];exact congrArg (Tr.rt l x) e⟩
theorem Tr.sW:∀(n:Nat) (t:Tr α) (i:Nat) (v:Option α) (j:Nat),i+1<2^n->(Tr.set n t i v).get j=if i=j then v else t.get j
 | 0,_,i,_,_,h=>by simp at h
 | n+1,t,i,v,j,h=>by
  have e2:Nat.land i 1=i%2:=Nat.and_one_is_mod i;rw[fF]at h;by_cases h0:i=0
  ·subst h0
   cases t with
   | nil=>
    rw[Tr.set_nil,show Nat.beq 0 0=true from rfl,Al,Tr.Xy];by_cases hj:j=0
    ·simp[hj]
    ·rw[aG hj,aG (cR hj)];simp only[Tr.get_nil,ite_self]
   | node l x r=>
    rw[Tr.sV,show Nat.beq 0 0=true from rfl,Al,Tr.Xy,Tr.Xy];by_cases hj:j=0
    ·simp[hj]
    ·rw[aG hj,aG (cR hj),aG hj]
  ·have b0:Nat.beq i 0=false:=by cases hb:Nat.beq i 0 with|false=>rfl|true=>exact absurd (aK hb) h0
   by_cases h1:i%2=1
   ·have b1:Nat.beq (i%2) 1=true:=by rw[h1];rfl
    have hs:i/2+1<2^n:=a_
    cases t with
    | nil=>
     obtain⟨a,b,c,e⟩:=Tr.Tb n (.nil:Tr α) (i/2) v hs;have u:=Tr.sW n (.nil:Tr α) (i/2) v (j/2) hs;rw[e]at u;have e':Tr.set n (.nil:Tr α) (Nat.div i 2) v=.node a b c:=e;rw[Tr.set_nil,b0,Bk,e2,b1,Al,e',Tr.P_,Tr.Xy];by_cases hj:j=0
     ·subst hj;simp[h0,Tr.get_nil]
     ·rw[aG hj]
      by_cases d:j%2=1
      ·rw[aI d,u]
       by_cases he:i=j
       ·subst he;simp
       ·rw[aG he,aG a_];rfl
      ·rw[aG d,aG (by rintro rfl;exact d h1)];rfl
    | node l x r=>
     obtain⟨a,b,c,e⟩:=Tr.Tb n l (i/2) v hs;have u:=Tr.sW n l (i/2) v (j/2) hs;rw[e]at u;have e':Tr.set n l (Nat.div i 2) v=.node a b c:=e;rw[Tr.sV,b0,Bk,e2,b1,Al,e',Tr.P_,Tr.Xy,Tr.Xy l r x j];by_cases hj:j=0
     ·subst hj;simp[h0]
     ·rw[aG hj,aG hj]
      by_cases d:j%2=1
      ·rw[aI d,aI d,u]
       by_cases he:i=j
       ·subst he;simp
       ·rw[aG he,aG a_]
      ·rw[aG d,aG d,aG (by rintro rfl;exact d h1)]
   ·have b1:Nat.beq (i%2) 1=false:=by cases hb:Nat.beq (i%2) 1 with|false=>rfl|true=>exact absurd (aK hb) h1
    have hs:i/2-1+1<2^n:=a_
    cases t with
    | nil=>
     obtain⟨a,b,c,e⟩:=Tr.Tb n (.nil:Tr α) (i/2-1) v hs;have u:=Tr.sW n (.nil:Tr α) (i/2-1) v (j/2-1) hs;rw[e]at u;have e':Tr.set n (.nil:Tr α) (Nat.pred (Nat.div i 2)) v=.node a b c:=e;rw[Tr.set_nil,b0,Bk,e2,b1,Bk,e',Tr.QA,Tr.Xy];by_cases hj:j=0
     ·subst hj;simp[h0,Tr.get_nil]
     ·rw[aG hj]
      by_cases d:j%2=1
      ·rw[aI d,aG (by rintro rfl;exact h1 d)];rfl
      ·rw[aG d,u]
       by_cases he:i=j
       ·subst he;simp
       ·rw[aG he,aG a_];rfl
    | node l x r=>
     obtain⟨a,b,c,e⟩:=Tr.Tb n r (i/2-1) v hs;have u:=Tr.sW n r (i/2-1) v (j/2-1) hs;rw[e]at u;have e':Tr.set n r (Nat.pred (Nat.div i 2)) v=.node a b c:=e;rw[Tr.sV,b0,Bk,e2,b1,Bk,e',Tr.QA,Tr.Xy,Tr.Xy l r x j];by_cases hj:j=0
     ·subst hj;simp[h0]
     ·rw[aG hj,aG hj]
      by_cases d:j%2=1
      ·rw[aI d,aI d,aG (by rintro rfl;exact h1 d)]
      ·rw[aG d,aG d,u]
       by_cases he:i=j
       ·subst he;simp
       ·rw[aG he,aG a_]
theorem Tr.get_put(t:Tr α)(i:Nat)(v:Option α)(j:Nat):(t.put i v).get j=if i=j then v else t.get j:=
 Tr.sW _ t i v j Nat.lt_log2_self
theorem Tr.Ae(t:Tr α)(i:Nat)(v:Option α):(t.put i v).get i=v:=by rw[Tr.get_put,aI rfl]
theorem Tr.Af(t:Tr α){j:Nat}(v:Option α)(h:i≠j):(t.put i v).get j=t.get j:=by rw[Tr.get_put,aG h]
end tree
structure Loc where
 b:Nat->Nat
 sp:Nat->Nat
mutual
def Ct(f:Loc):EV->Value
 | .int k n=>.int k n
 | .bool b=>.bool b
 | .str s=>.string s
 | .ptr i off=>.pointer (some ⟨f.b i,off,none⟩)
 | .Cl=>.pointer none
 | .slice i off len room op=>.slice (some ⟨f.b i,off,none⟩) len (if op=true then room+f.sp i else room)
 | .tail i off poff=>.slice (some ⟨f.b i,if f.sp i=0 then poff else off,none⟩) 0 (f.sp i)
 | .Aq=>.slice none 0 0
 | .odd a=>.slice (some a) 0 0
 | .map i=>.map (some (f.b i))
 | .Am2=>.map none
 | .chan i=>.chan (some (f.b i))
 | .Afh=>.chan none
 | .func g a c=>.func (.func g) (Bw f a).toArray (Bw f c).toArray
 | .Vz l=>.func (.yield (f.b l)) #[] #[]
 | .Aid=>.nilFunc
 | .Acv=>.nilIface
 | .agg l=>.agg (Bw f l).toArray
 | .tuple l=>.tuple (Bw f l).toArray
def Bw(f:Loc):List EV->List Value
 | []=>[]
 | v::r=>Ct f v::Bw f r
end
theorem Q3(f:Loc):∀l:List EV,Bw f l=l.map (Ct f)
 | []=>rfl
 | v::r=>by rw[Bw,Q3 f r];rfl
theorem Dh(f:Loc)(l:List EV):(Bw f l).length=l.length:=by rw[Q3,bk]
theorem Sv(f:Loc)(a b:List EV):Bw f (a++b)=Bw f a++Bw f b:=by simp only[Q3,cM]
def EV.one:EV->Bool
 | .agg _=>false
 | .tuple _=>false
 | _=>true
theorem A79(f:Loc)(v:EV)(h:v.one=true):(Ct f v).oneCell'=true:=by
 cases v<;>first|rfl|(simp[EV.one]at h)
theorem QB(f:Loc)(l:List EV)(h:∀v∈l,v.one=true):∀x∈Bw f l,x.oneCell'=true:=by
 intro x d;rw[Q3,dK]at d;obtain⟨v,j,rfl⟩:=d;exact A79 f v (h v j)
mutual
def EV.ok(p:Nat->Prop):EV->Prop
 | .ptr i _=>p i
 | .slice i _ _ _ _=>p i
 | .tail i _ _=>p i
 | .map i=>p i
 | .chan i=>p i
 | .Vz l=>p l
 | .func _ a c=>EV.Ud p a/\EV.Ud p c
 | .agg l=>EV.Ud p l/\l.all EV.one=true
 | .tuple l=>EV.Ud p l
 | _=>True
def EV.Ud(p:Nat->Prop):List EV->Prop
 | []=>True
 | v::r=>EV.ok p v/\EV.Ud p r
end
theorem I9(p:Nat->Prop):∀l:List EV,EV.Ud p l↔∀v∈l,v.ok p
 | []=>by simp[EV.Ud]
 | v::r=>by rw[EV.Ud,I9 p r];simp
def Loc.F0(p:Nat->Prop)(f g:Loc):Prop:=∀i,p i->f.b i=g.b i/\f.sp i=g.sp i
theorem Loc.vl(p:Nat->Prop)(f:Loc):Loc.F0 p f f:=fun _ _=>⟨rfl,rfl⟩
theorem Loc.F0.trans{f g h:Loc}(a:Loc.F0 p f g)(b:Loc.F0 p g h):Loc.F0 p f h:=fun i hi=>⟨(a i hi).1.trans (b i hi).1,(a i hi).2.trans (b i hi).2⟩
theorem Loc.F0.mono{f g:Loc}(a:Loc.F0 p f g)(h:∀i,q i->p i):Loc.F0 q f g:=fun i hi=>a i (h i hi)
mutual
theorem qO{f g:Loc}(d:Loc.F0 p f g):∀v:EV,v.ok p->Ct f v=Ct g v
 | .int _ _,_=>rfl
 | .bool _,_=>rfl
 | .str _,_=>rfl
 | .ptr i off,h=>by simp only[Ct];rw[(d i h).1]
 | .Cl,_=>rfl
 | .slice i off len room op,h=>by simp only[Ct];rw[(d i h).1,(d i h).2]
 | .tail i off poff,h=>by simp only[Ct];rw[(d i h).1,(d i h).2]
 | .Aq,_=>rfl
 | .odd _,_=>rfl
 | .map i,h=>by simp only[Ct];rw[(d i h).1]
 | .Am2,_=>rfl
 | .chan i,h=>by simp only[Ct];rw[(d i h).1]
 | .Afh,_=>rfl
 | .func a b c,h=>by simp only[Ct];rw[Hj d b h.1,Hj d c h.2]
 | .Vz l,h=>by simp only[Ct];rw[(d l h).1]
 | .Aid,_=>rfl
 | .Acv,_=>rfl
 | .agg l,h=>by simp only[Ct];rw[Hj d l h.1]
 | .tuple l,h=>by simp only[Ct];rw[Hj d l h]
theorem Hj{f g:Loc}(d:Loc.F0 p f g):∀l:List EV,EV.Ud p l->Bw f l=Bw g l
 | [],_=>rfl
 | v::r,h=>by simp only[Bw];rw[qO d v h.1,Hj d r h.2]
end
mutual
theorem EV.ok.mono(d:∀i,p i->q i):∀v:EV,v.ok p->v.ok q
 | .int _ _,_=>trivial
 | .bool _,_=>trivial
 | .str _,_=>trivial
 | .ptr i _,h=>d i h
 | .Cl,_=>trivial
 | .slice i _ _ _ _,h=>d i h
 | .tail i _ _,h=>d i h
 | .Aq,_=>trivial
 | .odd _,_=>trivial
 | .map i,h=>d i h
 | .Am2,_=>trivial
 | .chan i,h=>d i h
 | .Afh,_=>trivial
 | .func _ b c,h=>⟨EV.Ud.mono d b h.1,EV.Ud.mono d c h.2⟩
 | .Vz l,h=>d l h
 | .Aid,_=>trivial
 | .Acv,_=>trivial
 | .agg l,h=>⟨EV.Ud.mono d l h.1,h.2⟩
 | .tuple l,h=>EV.Ud.mono d l h
theorem EV.Ud.mono(d:∀i,p i->q i):∀l:List EV,EV.Ud p l->EV.Ud q l
 | [],_=>trivial
 | v::r,h=>⟨EV.ok.mono d v h.1,EV.Ud.mono d r h.2⟩
end
theorem Vh(h:v.ok p)(hp:v.plain=true):EV.Ud p v.cells/\∀x∈v.cells,x.one=true:=by
 cases v with
 | tuple l=>simp[EV.plain]at hp
 | agg l=>obtain⟨h1,h2⟩:=h;exact⟨h1,by simpa [EV.cells]using h2⟩
 | _=>exact⟨⟨h,trivial⟩,by simp[EV.cells,EV.one]⟩
theorem Tv(f:Loc)(v:EV):(Ct f v).cells=(Bw f v.cells).toArray:=by
 cases v<;>rfl
theorem QC(f:Loc){v:Value}{x:EV}(h:qI v=some x):Ct f x=v:=by
 unfold qI at h;split at h<;>first|(cases h;rfl)|(cases h)
theorem QD(p:Nat->Prop){v:Value}{x:EV}(h:qI v=some x):x.ok p/\x.one=true:=by
 unfold qI at h;split at h<;>first|(cases h;exact⟨trivial,rfl⟩)|(cases h)
theorem QE(f:Loc):∀{l:List Value} {xs:List EV},qJ l=some xs->Bw f xs=l
 | [],_,h=>by cases h;rfl
 | v::r,_,h=>by
  unfold qJ at h;split at h
  next x d=>
   split at h
   next y j=>
    cases h;rw[Bw,QC f d,QE f j]
   ·cases h
  ·cases h
theorem QF(p:Nat->Prop):∀{l:List Value} {xs:List EV},qJ l=some xs->EV.Ud p xs/\xs.all EV.one=true
 | [],_,h=>by cases h;exact⟨trivial,rfl⟩
 | v::r,_,h=>by
  unfold qJ at h;split at h
  next x d=>
   split at h
   next y j=>
    cases h;have h1:=QD p d;have h2:=QF p j;exact⟨⟨h1.1,h2.1⟩,by simp[h1.2];simpa using h2.2⟩
   ·cases h
  ·cases h
theorem QG(f:Loc){v:Value}{x:EV}(h:ofV v=some x):Ct f x=v:=by
 unfold ofV at h;split at h
 next cs=>
  split at h
  next l d=>
   cases h;rw[Ct,QE f d]
  ·cases h
 next cs=>
  split at h
  next d=>
   cases h;rw[Ct,Bw];congr 1;apply fC;simpa using d.symm
  ·cases h
 ·exact QC f h
theorem yG(p:Nat->Prop){v:Value}{x:EV}(h:ofV v=some x):x.ok p:=by
 unfold ofV at h;split at h
 ·split at h
  next l d=>
   cases h;exact QF p d
  ·cases h
 ·split at h
  ·cases h;trivial
  ·cases h
 ·exact(QD p h).1
def Bj(f:Loc)(n:Nat)(tm:Bb):Array Value:=((List.range n).map fun t=>Ct f (tmp tm t)).toArray
structure L9(p:Nat->Prop)(n:Nat)(tm:Bb):Prop where
 ok:∀t v,tm.get t=some v->v.ok p
 out:∀t,n<=t->tm.get t=none
theorem L9.tmp(h:L9 p n tm)(t:Nat):(tmp tm t).ok p:=by
 unfold Go.Ev.tmp;split
 next v d=>exact h.ok t v d
 ·trivial
theorem L9.mono(h:L9 p n tm)(d:∀i,p i->q i):L9 q n tm:=⟨fun t v j=>EV.ok.mono d v (h.ok t v j),h.out⟩
theorem Bbp(f:Loc)(n:Nat)(tm:Bb):(Bj f n tm).size=n:=by simp[Bj]
theorem sX(f:Loc)(n:Nat)(tm:Bb)(t:Nat):(Bj f n tm)[t]? = if t<n then some (Ct f (tmp tm t))else none:=by
 unfold Bj;simp only[cI,bH];by_cases h:t<n
 ·simp[h]
 ·simp[h,cD (l:=List.range n) (i:=t) (by simp;omega)]
theorem sY(f:Loc)(h:L9 p n tm)(t:Nat):(Bj f n tm).getD t undef=Ct f (tmp tm t):=by
 rw[Array.getD_eq_getD_getElem?,sX];by_cases d:t<n
 ·simp[d]
 ·have:tmp tm t=.tuple []:=by unfold tmp;rw[h.out t a_]
  simp[d,this,Ct,Bw,undef]
theorem QH(n:Nat)(tm:Bb)(d:Nat)(v:EV)(t:Nat):tmp (Qm n tm (some d) v) t=if d=t/\d<n then v else tmp tm t:=by
 unfold Qm;by_cases hd:d<n
 ·simp only[show Nat.ble (Nat.succ d) n=true from oG hd,Al]
  unfold tmp;rw[Tr.get_put];by_cases j:d=t
  ·simp[j,j▸hd]
  ·simp[j]
 ·simp only[show Nat.ble (Nat.succ d) n=false from qN hd,Bk]
  rw[aG a_]
theorem QI(f:Loc)(n:Nat)(tm:Bb)(d:Nat)(v:EV):(Bj f n tm).setIfInBounds d (Ct f v)=Bj f n (Qm n tm (some d) v):=by
 apply gK;intro t;rw[sX,Array.getElem?_setIfInBounds,Bbp,sX,QH];by_cases hd:d=t
 ·subst hd
  by_cases j:d<n<;>simp[j]
 ·simp[hd]
theorem L9.put(h:L9 p n tm)(d:Option Tmp)(A:v.ok p):L9 p n (Qm n tm d v):=by
 cases d with
 | none=>exact h
 | some d=>
  unfold Qm;by_cases hd:d<n
  ·simp only[show Nat.ble (Nat.succ d) n=true from oG hd,Al]
   refine⟨fun t x j=>?_,fun t y=>?_⟩
   ·rw[Tr.get_put]at j
    split at j
    ·cases j;exact A
    ·exact h.ok t x j
   ·have u:(d:Nat)≠t:=fun e=>by have h1:(d:Nat)<n:=hd;have h2:n<=t:=y;rw[<-e]at h2;exact absurd h1 (Nat.not_lt.2 h2)
    rw[Tr.Af _ _ u];exact h.out t y
  ·simp only[show Nat.ble (Nat.succ d) n=false from qN hd,Bk]
   exact h
theorem Lw{f g:Loc}(d:Loc.F0 p f g)(h:L9 p n tm):Bj f n tm=Bj g n tm:=by
 unfold Bj;congr 1;apply cY;intro t _;exact qO d _ (h.tmp t)
structure Reads(f:Loc)(tm:Bb)(ρ:Operand->Value):Prop where
 tmp:∀t,ρ (.tmp t)=Ct f (tmp tm t)
 const:∀v,ρ (.const v)=v
 func:∀g,ρ (.func g)=.func (.func g) #[] #[]
theorem Bl {f:Loc}(d:Reads f tm ρ)(h:Cj tm x=some v):ρ x=Ct f v:=by
 cases x with
 | tmp t=>rw[d.tmp];simp only[Cj]at h;cases h;rfl
 | const c=>rw[d.const];exact(QG f h).symm
 | global g=>cases h
 | func g=>rw[d.func];cases h;rfl
theorem Fg(d:L9 p n tm)(h:Cj tm x=some v):v.ok p:=by
 cases x with
 | tmp t=>simp only[Cj]at h;cases h;exact d.tmp t
 | const c=>exact yG p h
 | global g=>cases h
 | func g=>cases h;exact⟨trivial,trivial⟩
theorem qP {f:Loc}(d:Reads f tm ρ):∀{xs:List Operand} {l:List EV},Nc tm xs=some l->xs.map ρ=Bw f l
 | [],_,h=>by cases h;rfl
 | x::r,_,h=>by
  unfold Nc at h;split at h
  next a j=>
   split at h
   next b hb=>
    cases h;rw[dT,Bl d j,qP d hb,Bw]
   ·cases h
  ·cases h
theorem qQ(d:L9 p n tm):∀{xs:List Operand} {l:List EV},Nc tm xs=some l->EV.Ud p l
 | [],_,h=>by cases h;trivial
 | x::r,_,h=>by
  unfold Nc at h;split at h
  next a j=>
   split at h
   next b hb=>
    cases h;exact⟨Fg d j,qQ d hb⟩
   ·cases h
  ·cases h
theorem vm {f:Loc}(d:Reads f tm ρ):∀{xs:List (Nat × Operand)} {l:List (Nat × EV)},Z8 tm xs=some l->xs.map (fun(i,x)=>(i,ρ x))=l.map (fun(i,v)=>(i,Ct f v))
 | [],_,h=>by cases h;rfl
 | (i,x)::r,_,h=>by
  unfold Z8 at h;split at h
  next a j=>
   split at h
   next b hb=>
    cases h;rw[dT,dT,vm d hb];show(i,ρ x)::_=(i,Ct f a)::_;rw[Bl d j]
   ·cases h
  ·cases h
theorem vn(j:L9 p n tm):∀{xs:List (Nat × Operand)} {l:List (Nat × EV)},Z8 tm xs=some l->∀q∈l,q.2.ok p
 | [],_,h=>by cases h;simp
 | (i,x)::r,_,h=>by
  unfold Z8 at h;split at h
  next a u=>
   split at h
   next b hb=>
    cases h;intro q d;rcases bX.1 d with rfl|d
    ·exact Fg j u
    ·exact vn j hb q d
   ·cases h
  ·cases h
end
variable {f g:Loc}
section
theorem Wg:∀l:List EV,len l=l.length
 | []=>rfl
 | _::r=>by rw[len,Wg r];rfl
theorem Td:∀(l:List EV) (n:Nat),Zm l n=l.drop n
 | [],n=>by simp[Zm]
 | a::r,0=>rfl
 | a::r,n+1=>by
  have:Zm (a::r) (n+1)=Zm r n:=rfl;rw[this,Td r n];rfl
theorem sZ:∀{l:List EV} {n:Nat} {x:List EV},takeN l n=some x->n<=l.length/\x=l.take n
 | [],0,x,h=>by cases h;exact⟨aE _,rfl⟩
 | [],n+1,x,h=>by cases h
 | a::r,0,x,h=>by cases h;exact⟨cS _,rfl⟩
 | a::r,n+1,x,h=>by
  have e:takeN (a::r) (n+1)=match takeN r n with|some x=>some (a::x)|none=>none:=rfl
  rw[e]at h;split at h
  next y d=>
   cases h;obtain⟨h1,rfl⟩:=sZ d;exact⟨by simp;omega,rfl⟩
  ·cases h
theorem yH:∀{l vs x:List EV},J3 l vs=some x->vs.length<=l.length/\x=vs++l.drop vs.length
 | l,[],x,h=>by
  have:J3 l []=some l:=by cases l<;>rfl
  rw[this]at h;cases h;exact⟨cS _,rfl⟩
 | [],v::vs,x,h=>by cases h
 | a::r,v::vs,x,h=>by
  have e:J3 (a::r) (v::vs)=match J3 r vs with|some x=>some (v::x)|none=>none:=rfl
  rw[e]at h;split at h
  next y d=>
   cases h;obtain⟨h1,rfl⟩:=yH d;exact⟨by simp;omega,rfl⟩
  ·cases h
theorem Yt:∀{l:List EV} {off:Nat} {vs x:List EV},Gc l off vs=some x->off+vs.length<=l.length/\x=l.take off++vs++l.drop (off+vs.length)
 | [],0,vs,x,h=>by
  have e:Gc [] 0 vs=J3 [] vs:=rfl;rw[e]at h;obtain⟨h1,rfl⟩:=yH h;exact⟨a_,by simp⟩
 | [],off+1,vs,x,h=>by cases h
 | a::r,0,vs,x,h=>by
  have e:Gc (a::r) 0 vs=J3 (a::r) vs:=rfl;rw[e]at h;obtain⟨h1,rfl⟩:=yH h;exact⟨a_,by simp⟩
 | a::r,off+1,vs,x,h=>by
  have e:Gc (a::r) (off+1) vs=match Gc r off vs with|some x=>some (a::x)|none=>none:=rfl
  rw[e]at h;split at h
  next y d=>
   cases h;obtain⟨h1,rfl⟩:=Yt d;refine⟨by simp;omega,?_⟩;rw[show off+1+vs.length=(off+vs.length)+1 from a_];simp
  ·cases h
theorem yI {l:List EV}{x:List EV}(h:Gc l off vs=some x)(d:v∈x):v∈l\/v∈vs:=by
 obtain⟨h1,rfl⟩:=Yt h;simp only[bN]at d;rcases d with(d|d)|d
 ·exact .inl (bV d)
 ·exact .inr d
 ·exact .inl (aH d)
theorem yJ:∀(l:List Field) (i:Nat),mY l i=l[i]?
 | [],i=>by simp[mY]
 | a::r,0=>rfl
 | a::r,i+1=>by
  have:mY (a::r) (i+1)=mY r i:=rfl;rw[this,yJ r i];simp
theorem vo:∀(l:List Oper) (i:Nat),kK l i=l[i]?
 | [],i=>by simp[kK]
 | a::r,0=>rfl
 | a::r,i+1=>by
  have:kK (a::r) (i+1)=kK r i:=rfl;rw[this,vo r i];simp
theorem vp(l:List EV):∀n,(rep l n).length=n*l.length
 | 0=>by simp[rep]
 | n+1=>by rw[rep,aF,vp l n,gH];omega
theorem s_ {l:List EV}:∀{n:Nat},v∈rep l n->v∈l
 | 0,h=>by simp[rep]at h
 | n+1,h=>by
  rw[rep,bN]at h;rcases h with h|h
  ·exact h
  ·exact s_ h
theorem QJ(l:List EV):∀(n i:Nat),i<n*l.length->(rep l n)[i]? = l[i%l.length]?
 | 0,i,h=>by simp at h
 | n+1,i,h=>by
  rw[rep];by_cases hi:i<l.length
  ·rw[cb hi,fD hi]
  ·rw[cp a_,QJ l n (i-l.length) (by rw[gH]at h;omega)]
   rw[<-Nat.mod_eq_sub_mod a_]
theorem tc {k:IntKind}(h:Nat.beq (Pq k) (Pq k')=true):k=k':=by
 cases k<;>cases k'<;>first|rfl|(cases h)
theorem vq(k:IntKind)(hs:k.signed=false)(n:Int)(h0:0<=n)(h1:n<2^k.bits):k.wrap n=n:=by
 unfold IntKind.wrap;simp only[hs,bB,aX,ak];exact fm h0 h1
theorem ma(k:IntKind)(hs:k.signed=true)(n M:Int)(j:(2:Int)^k.bits=2*M)(d:(2:Int)^(k.bits-1)=M)(h0 : -M<=n)(h1:n<M):k.wrap n=n:=by
 unfold IntKind.wrap;simp only[hs,bF,aS,j,d,ge_iff_le];by_cases u:0<=n
 ·rw[fm u a_,aG a_]
 ·have e:n%(2*M)=n+2*M:=by
   rw[<-Int.add_emod_right];exact fm a_ a_
  rw[e,aI a_];omega
theorem Nw(k:IntKind)(n:Int):Dl k n=k.wrap n:=by
 cases n with
 | ofNat m=>
  show Bc (Nat.ble (Nat.succ m) (vh k)) (Int.ofNat m) (k.wrap (Int.ofNat m))=_;rw[Br];split
  next h=>
   have h:=bG h;symm;cases k<;>simp only[vh]at h
   case u8=>exact vq _ rfl _ (by simp) (by simp only[IntKind.bits,aZ];omega)
   case u16=>exact vq _ rfl _ (by simp) (by simp only[IntKind.bits,aZ];omega)
   case u32=>exact vq _ rfl _ (by simp) (by simp only[IntKind.bits,aZ];omega)
   case u64=>exact vq _ rfl _ (by simp) (by simp only[IntKind.bits,aZ];omega)
   case i8=>exact ma _ rfl _ 128 rfl rfl (by simp only[aZ];omega) (by simp only[aZ];omega)
   case i16=>exact ma _ rfl _ 32768 rfl rfl (by simp only[aZ];omega) (by simp only[aZ];omega)
   case i32=>exact ma _ rfl _ 2147483648 rfl rfl (by simp only[aZ];omega) (by simp only[aZ];omega)
   case i64=>exact ma _ rfl _ 9223372036854775808 rfl rfl (by simp only[aZ];omega) (by simp only[aZ];omega)
  ·rfl
 | negSucc m=>
  show Bc (Nat.ble (Nat.succ m) (floor k)) (Int.negSucc m) (k.wrap (Int.negSucc m))=_;rw[Br];split
  next h=>
   have h:=bG h;symm;cases k<;>simp only[floor]at h
   case i8=>exact ma _ rfl _ 128 rfl rfl (by rw[dJ];omega) (by rw[dJ];omega)
   case i16=>exact ma _ rfl _ 32768 rfl rfl (by rw[dJ];omega) (by rw[dJ];omega)
   case i32=>exact ma _ rfl _ 2147483648 rfl rfl (by rw[dJ];omega) (by rw[dJ];omega)
   case i64=>exact ma _ rfl _ 9223372036854775808 rfl rfl (by rw[dJ];omega) (by rw[dJ];omega)
   all_goals exact absurd h a_
  ·rfl
theorem qS(a b:Int):kI a b=decide (a<b):=by
 cases a<;>cases b<;>simp only[kI]<;>(first
  | (rw[eR];simp only[dO,aS];simp only[aZ,dJ];omega)
  | (simp only[aZ,dJ];symm;first|(rw[cq];omega)|(rw[aS];omega)))
theorem mc(a b:Int):iV a b=decide (a=b):=by
 cases a<;>cases b<;>simp only[iV]<;>(first
  | (rw[eR];simp only[Nat.beq_eq,aS];simp only[aZ,dJ];omega)
  | (simp only[aZ,dJ];symm;rw[cq];omega))
theorem yK(k:IntKind)(x:Nat):k.wrap ((x%2^k.bits:Nat):Int)=k.wrap (x:Int):=by
 unfold IntKind.wrap;have:((x%2^k.bits:Nat):Int)%(2^k.bits:Int)=(x:Int)%(2^k.bits:Int):=by
  rw[Int.natCast_emod];simp
 simp only[this]
theorem Bkn(k:IntKind)(a b:Nat):k.wrap (((BitVec.ofInt k.bits (Int.ofNat a)&&& BitVec.ofInt k.bits (Int.ofNat b)).toNat:Nat):Int)=k.wrap (Int.ofNat (Nat.land a b)):=by
 have:(BitVec.ofInt k.bits (Int.ofNat a)&&& BitVec.ofInt k.bits (Int.ofNat b)).toNat=(a&&& b)%2^k.bits:=by
  simp only[aZ,BitVec.ofInt_natCast,BitVec.toNat_and,BitVec.toNat_ofNat];rw[Nat.and_mod_two_pow]
 rw[this,yK];rfl
theorem Bp4(k:IntKind)(a b:Nat):k.wrap (((BitVec.ofInt k.bits (Int.ofNat a)||| BitVec.ofInt k.bits (Int.ofNat b)).toNat:Nat):Int)=k.wrap (Int.ofNat (Nat.lor a b)):=by
 have:(BitVec.ofInt k.bits (Int.ofNat a)||| BitVec.ofInt k.bits (Int.ofNat b)).toNat=(a||| b)%2^k.bits:=by
  simp only[aZ,BitVec.ofInt_natCast,BitVec.toNat_or,BitVec.toNat_ofNat];rw[Nat.or_mod_two_pow]
 rw[this,yK];rfl
theorem Bm9(k:IntKind)(a b:Nat):k.wrap (((BitVec.ofInt k.bits (Int.ofNat a) ^^^ BitVec.ofInt k.bits (Int.ofNat b)).toNat:Nat):Int)=k.wrap (Int.ofNat (Nat.xor a b)):=by
 have:(BitVec.ofInt k.bits (Int.ofNat a) ^^^ BitVec.ofInt k.bits (Int.ofNat b)).toNat=(a ^^^ b)%2^k.bits:=by
  simp only[aZ,BitVec.ofInt_natCast,BitVec.toNat_xor,BitVec.toNat_ofNat];rw[Nat.xor_mod_two_pow]
 rw[this,yK];rfl
section
variable(f:Loc)(w:World)
theorem Blf{k:IntKind}{a b:Int}(t:TypeId)(hs:u9 op=false)(h:qE op k a b=some v):
 (binOp op t (.int k a) (.int k b)).run P w=.ok (Ct f v) w:=by
 cases op<;>simp only[qE]at h
 case add=>cases h;simp[binOp,Op.intArith,Ct,Nw];try rfl
 case sub=>cases h;simp[binOp,Op.intArith,Ct,Nw];try rfl
 case mul=>cases h;simp[binOp,Op.intArith,Ct,Nw];try rfl
 case quo=>
  obtain⟨h1,h2⟩:=T5 h;cases h2;rw[mc,cq]at h1;simp[binOp,Op.intDiv,Ct,Nw,h1]
 case rem=>
  obtain⟨h1,h2⟩:=T5 h;cases h2;rw[mc,cq]at h1;simp[binOp,Op.intDiv,Ct,h1]
 case and=>
  split at h
  ·cases h;simp only[binOp,ne_eq,aB,ak,Op.intBits,aU,Bkn,Ct,Nw]
  ·cases h
 case or=>
  split at h
  ·cases h;simp only[binOp,ne_eq,aB,ak,Op.intBits,aU,Bp4,Ct,Nw]
  ·cases h
 case xor=>
  split at h
  ·cases h;simp only[binOp,ne_eq,aB,ak,Op.intBits,aU,Bm9,Ct,Nw]
  ·cases h
 case lss=>cases h;simp only[binOp,ne_eq,aB,ak,Op.intCmp,aU,Ct,qS]
 case gtr=>cases h;simp only[binOp,ne_eq,aB,ak,Op.intCmp,aU,Ct,qS,gt_iff_lt]
 case eql=>
  cases h;simp only[binOp,ne_eq,aB,ak,Op.intCmp,aU,Ct,mc];congr 2
 case neq=>
  cases h;simp only[binOp,ne_eq,aB,ak,Op.intCmp,aU,Ct,mc,Br];congr 2;by_cases e:a=b<;>simp[e]
 case leq=>
  cases h;simp only[binOp,ne_eq,aB,ak,Op.intCmp,aU,Ct,qS,Br];congr 2;by_cases e:b<a
  ·simp[e]
  ·simp[e,Int.not_lt.1 e]
 case geq=>
  cases h;simp only[binOp,ne_eq,aB,ak,Op.intCmp,aU,Ct,qS,Br];congr 2;by_cases e:a<b
  ·simp[e]
  ·simp[e,Int.not_lt.1 e]
 all_goals first|(cases h;done)|(simp[u9]at hs;done)
theorem Biv{k:IntKind}{a:Int}{b:Nat}(t:TypeId)(h:vi op k a b=some v):
 (binOp op t (.int k a) (.int k' (.ofNat b))).run P w=.ok (Ct f v) w:=by
 have hm:Bc (Nat.ble b k.bits) b k.bits=min b k.bits:=by
  rw[Br];simp only[dO];split<;>omega
 have hb:¬(Int.ofNat b<0):=by simp
 cases op<;>simp only[vi]at h
 case shl=>
  cases h;simp only[binOp,Op.shift,hb,ak,aU,Ct,Nw,hm];congr 3
 case shr=>
  split at h
  ·cases h
   simp only[binOp,Op.shift,hb,ak,aU,Ct,hm];congr 2;simp only[aZ,bD];have e:Nat.shiftRight=fun(a b:Nat)=>a >>> b:=rfl
   simp only[e];rw[fJ,gA _ (by exact_mod_cast cS _)];simp
  ·cases h
   simp only[binOp,Op.shift,hb,ak,aU,Ct,hm];congr 2
 all_goals (cases h;done)
end
end
section
def Ax1:TypeDesc->Bool
 | .struct _=>true
 | .array _ _=>true
 | _=>false
structure Qu(P:Program)(T:Ir):Prop where
 mixed:P.follows .mixedOrders=true
 fn:∀g fn,T.fn g=some fn->P.funcs[g]? = some fn/\(fn.name == "runtime.NumGoroutine")=false
 T8:∀t d,T.T8 t=some d->P.underlying t=some d
 size:∀t n,T.size t=some n->∃i,P.info? t=some i/\i.size=n/\i.bytes<=1048576
 zero:∀t z,T.zero t=some z->∃i v x,P.info? t=some i/\i.zero=some v/\ofV v=some x/\x.plain=true/\z=x.cells/\i.size=z.length/\i.bytes<=1048576 /\
  (T.agg t=some true->x=.agg z)/\(T.agg t=some false->z = [x])
 agg:∀t b,T.agg t=some b->∃d,P.underlying t=some d/\Ax1 d=b
 eqs:∀t sh,T.eqs t=some sh->P.eqGuardType P.depth t=false/\∀(f:Loc) (w:World) (a b:List EV) (r:Bool),Fa a b=some r->shaped sh a=true ->
  (Op.equal t (.agg (Bw f a).toArray) (.agg (Bw f b).toArray)).run P w=.ok r w
 key:∀t,T.key t=true->(∃d,P.underlying t=some d/\Ax1 d=true)/\∀(f:Loc) (w:World) (e:Bool) (a:List EV) (sh:List Nat),T.eqs t=some sh->shaped sh a=true ->
  (Instr.checkKey e 10000 t (.agg (Bw f a).toArray)).run P w=.ok () w
section
variable(hT:Qu P T)(w:World)
include hT
theorem D7{d:TypeDesc}(h:T.T8 t=some d):(underlying t).run P w=.ok d w:=by
 simp[underlying,hT.T8 t d h]
theorem G7(h:T.size t=some n):(sizeOf t).run P w=.ok n w:=by
 obtain⟨i,h1,h2,_⟩:=hT.size t n h;simp[sizeOf,typeInfo,h1,h2]
theorem qU{b:Bool}(h:T.agg t=some b):(isAgg t).run P w=.ok b w:=by
 obtain⟨d,h1,h2⟩:=hT.agg t b h;subst h2;cases d<;>simp[isAgg,underlying,h1,Ax1]
theorem QK(f:Loc){cs:List EV}(h:part T t cs off=some v):(Go.part t (Bw f cs).toArray off).run P w=.ok (Ct f v) w:=by
 unfold part at h;split at h
 next hg=>
  split at h
  next n u=>
   split at h
   next l d=>
    cases h;obtain⟨h1,rfl⟩:=sZ d;rw[Td]at h1⊢;simp only[Go.part,Sem.run_bind,qU hT w hg,aJ,bK,G7 hT w u,aU,Ct];congr 2;apply fC;simp[Q3,List.extract_eq_take_drop]
   ·cases h
  ·cases h
 next hg=>
  split at h
  next x r d=>
   cases h;rw[Td]at d;have:(Bw f cs).toArray[off]? = some (Ct f v):=by
    have h1:cs[off]? = some v:=by
     have:=dM (xs:=cs) (i:=off) (j:=0);rw[d]at this;simpa using this.symm
    simp[Q3,h1]
   simp only[Go.part,Sem.run_bind,qU hT w hg,aJ,aX,ak,this,aU]
  ·cases h
 ·cases h
end
theorem Vd(b o n:Nat):(⟨b,o,none⟩:Addr).add n=⟨b,o+n,none⟩:=by
 unfold Addr.add;split
 next h=>subst h;rfl
 ·rfl
theorem Bee(cells vs:List Value)(off:Nat)(h:off+vs.length<=cells.length):
 vs.toArray.zipIdx.foldl (fun cs (x:Value × Nat)=>cs.setIfInBounds (off+x.2) x.1) cells.toArray=(cells.take off++vs++cells.drop (off+vs.length)).toArray:=by
 obtain⟨h1,h2⟩:=Great.foldl_set off vs 0 cells.toArray;have e:vs.toArray.zipIdx.foldl (fun cs (x:Value × Nat)=>cs.setIfInBounds (off+x.2) x.1) cells.toArray=(vs.zipIdx 0).foldl (fun cs (x:Value × Nat)=>cs.setIfInBounds (off+x.2) x.1) cells.toArray:=by
  simp
 rw[e];apply gK;intro k;rw[h2 k];simp only[dU,dh,cI];by_cases c1:k<off
 ·rw[aG a_,bZ,cb (by simp;omega),List.getElem?_take_of_lt c1]
 ·by_cases c2:k<off+vs.length
  ·rw[aI a_,cb (by simp;omega),cp (by simp;omega)]
   congr 1;simp;omega
  ·rw[aG a_,cp (by simp;omega),dM]
   congr 1;simp;omega
theorem yL(f:Loc)(l vs:List EV)(off:Nat):Bw f (l.take off++vs++l.drop (off+vs.length))=(Bw f l).take off++Bw f vs++(Bw f l).drop (off+(Bw f vs).length):=by
 simp[Q3,List.map_take,List.map_drop]
theorem vr(f:Loc)(place:Nat->Option (Nat × Nat))(d:Nat->Option (Nat × Nat))(hp:∀i q,place i=some q->d i=some q):
 ∀{cells:List EV} {l:List (Nat × EV)} {c:List EV},fill place cells l=some c->Instr.fill d (Bw f cells).toArray (l.map fun(i,v)=>(i,Ct f v))=some (Bw f c).toArray
 | cells,[],c,h=>by cases h;rfl
 | cells,(i,v)::r,c,h=>by
  unfold fill at h;split at h
  ·cases h
  next off size y=>
   obtain⟨_,h⟩:=Ap h;obtain⟨h1,h2⟩:=Ap h;split at h2
   next x A=>
    rw[Wg]at h1;have u:v.cells.length=size:=aK h1;obtain⟨C,h4⟩:=Yt A;simp only[dT,Instr.fill,hp i _ y];have B:(Ct f v).cells=(Bw f v.cells).toArray:=Tv f v;rw[B];simp only[dh,Dh];rw[aG (by simp[u];omega)];have e:=Bee (Bw f cells) (Bw f v.cells) off (by simp only[Dh];omega);have e2:(fun(cs:Array Value) (x:Value × Nat)=>match x with|(c,j)=>cs.setIfInBounds (off+j) c)=fun cs x=>cs.setIfInBounds (off+x.2) x.1:=rfl
    rw[e2,e,<-yL,<-h4];exact vr f place d hp h2
   ·cases h2
theorem td(place:Nat->Option (Nat × Nat)){q:EV->Prop}:∀{cells:List EV} {l:List (Nat × EV)} {c:List EV},fill place cells l=some c->(∀v∈cells,q v)->(∀x∈l,∀v∈x.2.cells,q v)->∀v∈c,q v
 | cells,[],c,h,d,_=>by cases h;exact d
 | cells,(i,v)::r,c,h,d,j=>by
  unfold fill at h;split at h
  ·cases h
  ·obtain⟨_,h⟩:=Ap h
   obtain⟨h1,h2⟩:=Ap h;split at h2
   next x A=>
    refine td place h2 (fun u hu=>?_) (fun y B=>j y (by simp[B]));rcases yI A hu with hu|hu
    ·exact d u hu
    ·exact j (i,v) (by simp) u hu
   ·cases h2
theorem vt(place:Nat->Option (Nat × Nat)):∀{cells:List EV} {l:List (Nat × EV)} {c:List EV},fill place cells l=some c->∀q∈l,q.2.plain=true
 | cells,[],c,h=>by simp
 | cells,(i,v)::r,c,h=>by
  unfold fill at h;split at h
  ·cases h
  ·obtain⟨h0,h⟩:=Ap h
   obtain⟨h1,h2⟩:=Ap h;split at h2
   ·intro q d
    rcases bX.1 d with rfl|d
    ·exact h0
    ·exact vt place h2 q d
   ·cases h2
theorem vu:∀(a b:List UInt8),qK a b=decide (a=b)
 | [],[]=>rfl
 | a::r,b::s=>by
  simp only[qK];rw[Br,vu r s];by_cases h:a=b
  ·subst h
   rw[aI (by simp)];simp
  ·rw[aG]
   ·simp[h]
   ·intro e;exact h (UInt8.toNat_inj.1 (aK e))
 | [],_::_=>rfl
 | _::_,[]=>rfl
theorem vv(a b:ByteArray):qK a.data.toList b.data.toList=(a == b):=by
 obtain⟨⟨x⟩⟩:=a;obtain⟨⟨y⟩⟩:=b;show qK x y=((⟨x⟩:Array UInt8) == ⟨y⟩);rw[vu];simp only[List.beq_toArray];by_cases h:x=y
 ·subst h;simp
 ·have:(x == y)=false:=by simpa using h
  rw[this];simp[h]
theorem Bhx {a b:ByteArray}(h:(a == b)=true):a=b:=by
 rw[<-vv,vu]at h;have:=dG h;cases a;cases b;simp only[ByteArray.mk.injEq];apply fC;exact this
section
variable(hT:Qu P T)(f:Loc)(w:World)
theorem J6(op:BinOp)(t:TypeId)(x y:Operand)(a b:Value)(h1:∀c d,¬(a=.agg c/\b=.agg d))(h2:¬(a=.nilIface/\b=.nilIface)):(eqGuard op t x y a b).run P w=.ok () w:=by
 unfold eqGuard;cases op<;>simp<;>(split<;>first|rfl|(rename_i e1 e2;exact absurd ⟨rfl,rfl⟩ h2)|(rename_i c d;exact absurd ⟨rfl,rfl⟩ (h1 c d))|simp_all)
theorem Bax(op:BinOp)(t:TypeId)(x y:Operand)(c d:Array Value)(h:P.eqGuardType P.depth t=false):(eqGuard op t x y (.agg c) (.agg d)).run P w=.ok () w:=by
 unfold eqGuard;cases op<;>simp[h]
theorem QL(d:Nat)(t:TypeId)(a b:Bool)(hu:P.underlying t=some .bool):(Op.equalIn (d+1) t (.bool a) (.bool b)).run P w=.ok (a == b) w:=by
 simp[Op.equalIn,underlying,hu]
theorem Bnr(d:Nat)(t:TypeId)(a b:ByteArray)(hu:P.underlying t=some .string):(Op.equalIn (d+1) t (.string a) (.string b)).run P w=.ok (a == b) w:=by
 simp[Op.equalIn,underlying,hu]
theorem QM(d:Nat)(t:TypeId)(e:TypeId)(b:Option Addr)(hu:P.underlying t=some (.pointer e)):(Op.equalIn (d+1) t (.pointer none) (.pointer b)).run P w=.ok b.isNone w:=by
 simp[Op.equalIn,underlying,hu]
theorem Bmr(d:Nat)(t:TypeId)(e:TypeId)(b:Addr)(hu:P.underlying t=some (.pointer e)):(Op.equalIn (d+1) t (.pointer (some b)) (.pointer none)).run P w=.ok false w:=by
 simp[Op.equalIn,underlying,hu]
theorem Bg1(d:Nat)(t:TypeId)(e:TypeId)(n:Nat)(b:Addr)(hu:P.underlying t=some (.pointer e))(hs:(sizeOf e).run P w=.ok n w):(Op.equalIn (d+1) t (.pointer (some b)) (.pointer (some b))).run P w=.ok true w:=by
 simp only[Op.equalIn,underlying,hu,Sem.run_bind,hs];simp only[Sem.run_bind,hs,aJ,samePointer,sameAddr];simp[hu,hs,aJ]
theorem Bis(d:Nat)(t:TypeId)(e:TypeId)(b:Option Addr)(n m:Nat)(hu:P.underlying t=some (.slice e)):(Op.equalIn (d+1) t (.slice none 0 0) (.slice b n m)).run P w=.ok b.isNone w:=by
 simp[Op.equalIn,underlying,hu]
theorem QN(d:Nat)(t:TypeId)(e:TypeId)(b:Addr)(n m:Nat)(hu:P.underlying t=some (.slice e)):(Op.equalIn (d+1) t (.slice (some b) n m) (.slice none 0 0)).run P w=.ok false w:=by
 simp[Op.equalIn,underlying,hu]
include hT
theorem QO{a b:EV}{r:Bool}(h:jN T t a b=some r):(Op.equal t (Ct f a) (Ct f b)).run P w=.ok r w /\
 (∀op x y,(eqGuard op t x y (Ct f a) (Ct f b)).run P w=.ok () w) /\
 binOp .eql t (Ct f a) (Ct f b)=(do pure (.bool (←Op.equal t (Ct f a) (Ct f b))))/\binOp .neq t (Ct f a) (Ct f b)=(do pure (.bool (!(←Op.equal t (Ct f a) (Ct f b))))):=by
 unfold jN at h;split at h
 next l l'=>
  split at h
  next sh u=>
   obtain⟨A,h4⟩:=Ap h;obtain⟨e1,e2⟩:=hT.eqs t sh u;exact⟨e2 f w l l' r h4 A,fun op x y=>Bax w op t x y _ _ e1,rfl,rfl⟩
  ·cases h
 next p q=>
  split at h
  next hu=>
   cases h;refine⟨?_,fun op x y=>J6 w op t x y _ _ (by intro c d j;cases j.1) (by intro j;cases j.1),rfl,rfl⟩;refine(QL w 9999 t p q (hT.T8 _ _ hu)).trans ?_;cases p<;>cases q<;>rfl
  ·cases h
 ·split at h
  next hu=>
   cases h;exact⟨QM w 9999 t _ none (hT.T8 _ _ hu),fun op x y=>J6 w op t x y _ _ (by intro c d j;cases j.1) (by intro j;cases j.1),rfl,rfl⟩
  ·cases h
 ·split at h
  next hu=>
   cases h;exact⟨QM w 9999 t _ (some _) (hT.T8 _ _ hu),fun op x y=>J6 w op t x y _ _ (by intro c d j;cases j.1) (by intro j;cases j.1),rfl,rfl⟩
  ·cases h
 ·split at h
  next hu=>
   cases h;exact⟨Bmr w 9999 t _ _ (hT.T8 _ _ hu),fun op x y=>J6 w op t x y _ _ (by intro c d j;cases j.1) (by intro j;cases j.1),rfl,rfl⟩
  ·cases h
 ·split at h
  next hu=>
   split at h
   next n B=>
    obtain⟨h1,h2⟩:=Ap h;obtain⟨A,h4⟩:=Ap h2;cases h4;rw[aK h1,aK A];exact⟨Bg1 w 9999 t _ n _ (hT.T8 _ _ hu) (G7 hT w B),fun op x y=>J6 w op t x y _ _ (by intro c d j;cases j.1) (by intro j;cases j.1),rfl,rfl⟩
   ·cases h
  ·cases h
 ·split at h
  next hu=>
   cases h;exact⟨Bis w 9999 t _ none 0 0 (hT.T8 _ _ hu),fun op x y=>J6 w op t x y _ _ (by intro c d j;cases j.1) (by intro j;cases j.1),rfl,rfl⟩
  ·cases h
 ·split at h
  next hu=>
   cases h;exact⟨QN w 9999 t _ _ _ _ (hT.T8 _ _ hu),fun op x y=>J6 w op t x y _ _ (by intro c d j;cases j.1) (by intro j;cases j.1),rfl,rfl⟩
  ·cases h
 ·split at h
  next hu=>
   cases h;exact⟨QN w 9999 t _ _ _ _ (hT.T8 _ _ hu),fun op x y=>J6 w op t x y _ _ (by intro c d j;cases j.1) (by intro j;cases j.1),rfl,rfl⟩
  ·cases h
 ·cases h
end
end
section
section
variable(hT:Qu P T)(f:Loc)(w:World)
include hT
theorem Bow{a b:EV}(h:bin T op t a b=some v)(x y:Operand):
 (eqGuard op t x y (Ct f a) (Ct f b)).run P w=.ok () w/\(binOp op t (Ct f a) (Ct f b)).run P w=.ok (Ct f v) w:=by
 unfold bin at h;split at h
 next k a k' b=>
  refine⟨J6 w op t x y _ _ (by intro c d j;cases j.1) (by intro j;cases j.1),?_⟩;rw[Br]at h;split at h
  ·split at h
   ·exact Biv f w t h
   ·cases h
  next hs=>
   obtain⟨h1,h2⟩:=Ap h;obtain rfl:=tc h1;exact Blf f w t (by simpa using hs) h2
 next B=>
  split at h
  ·split at h
   next r u=>
    cases h;obtain⟨h1,h2,A,_⟩:=QO hT f w u;refine⟨h2 _ x y,?_⟩;rw[A];simp[h1,Ct]
   ·cases h
  ·split at h
   next r u=>
    cases h;obtain⟨h1,h2,_,A⟩:=QO hT f w u;refine⟨h2 _ x y,?_⟩;rw[A];simp[h1,Ct,Br]
   ·cases h
  ·cases h
theorem te {x:Option EV}{hi:Nat}(h:bound x hi kn=some n)(code:BoundsCode):
 (∀u,x=some u->(Instr.sliceBound (Ct f u) hi code).run P w=.ok n w)/\(x=none->n=kn):=by
 cases x with
 | none=>cases h;exact⟨fun u hu=>(by cases hu),fun _=>rfl⟩
 | some u=>
  refine⟨fun j hu=>?_,fun hu=>(by cases hu)⟩;cases hu;unfold bound at h;split at h
  next d=>cases d
  next k m d=>
   cases d;obtain⟨h1,h2⟩:=Ap h;cases h2;simp only[dO]at h1;simp only[Instr.sliceBound,Ct,asIntOf,Sem.run_bind,aU,aJ];rw[aI (by simp;omega)];simp
  ·cases h
theorem yM{len h l:Nat}(d:Bool)(h1:bound hi cap len=some h)(h2:bound lo h 0=some l):
 (Instr.sliceBounds d len cap (lo.map (Ct f)) (hi.map (Ct f)) none).run P w=.ok (l,h,cap) w:=by
 obtain⟨j,A⟩:=te hT f w h1 (if d=true then .sliceAcap else .sliceAlen);obtain⟨b1,b2⟩:=te hT f w h2 .sliceB;unfold Instr.sliceBounds;cases hi with
 | none=>
  obtain rfl:=A rfl;cases lo with
  | none=>obtain rfl:=b2 rfl;simp
  | some u=>simp[b1 u rfl]
 | some y=>
  cases lo with
  | none=>obtain rfl:=b2 rfl;simp[j y rfl]
  | some u=>simp[j y rfl,b1 u rfl]
theorem A9v{len room h l:Nat}(j:Bool){y d:EV}(hm:mx=some y)(C:hi=some d)(G:room<=cap)(h0:bound mx room 0=some m)(h1:bound hi m 0=some h)(h2:bound lo h 0=some l):
 (Instr.sliceBounds j len cap (lo.map (Ct f)) (hi.map (Ct f)) (mx.map (Ct f))).run P w=.ok (l,h,m) w:=by
 have A:bound mx cap 0=some m:=by
  subst hm;unfold bound at h0⊢;split at h0
  next D=>cases D
  ·obtain⟨E,F⟩:=Ap h0
   cases F;simp only[dO]at E;rw[Br,aI (by simp only[dO];omega)]
  ·cases h0
 obtain⟨c1,_⟩:=te hT f w A (if j=true then .slice3Acap else .slice3Alen);obtain⟨B,_⟩:=te hT f w h1 .slice3B;obtain⟨b1,b2⟩:=te hT f w h2 .slice3C;subst hm C;unfold Instr.sliceBounds;cases lo with
 | none=>obtain rfl:=b2 rfl;simp[c1 y rfl,B d rfl]
 | some u=>simp[c1 y rfl,B d rfl,b1 u rfl]
omit hT in
theorem QP {x:Option EV}{hi:Nat}(hd:kn<=hi)(h:bound x hi kn=some n):n<=hi:=by
 unfold bound at h;split at h
 ·cases h;exact hd
 ·obtain⟨h1,h2⟩:=Ap h
  cases h2;simpa only[dO]using h1
 ·cases h
theorem QQ {len room:Nat}{op:Bool}{size:Nat}(h:je (.slice i off len room op) size lo hi mx=some v)(d:Bool):
 ∃l u m,(Instr.sliceBounds d len (if op=true then room+f.sp i else room) (lo.map (Ct f)) (hi.map (Ct f)) (mx.map (Ct f))).run P w=.ok (l,u,m) w /\
  Ct f v=.slice (some (if m=l then(⟨f.b i,off,none⟩:Addr)else(⟨f.b i,off,none⟩:Addr).add (l*size))) (u-l) (m-l):=by
 unfold je at h;simp only[Nat.add_eq,Nat.mul_eq,Nat.sub_eq]at h;split at h
 ·split at h
  ·cases h
  next u h1=>
   split at h
   ·cases h
   next l h2=>
    rw[Br]at h;split at h
    next y=>
     subst y;have C:bound hi (room+f.sp i) len=some u:=by
      unfold bound at h1⊢;split at h1
      ·exact h1
      ·obtain⟨H,J⟩:=Ap h1
       cases J;simp only[dO]at H;rw[Br,aI (by simp only[dO];omega)]
      ·cases h1
     have hb:=yM hT f w d C h2;refine⟨l,u,room+f.sp i,by simpa using hb,?_⟩;rw[Br]at h;split at h
     next h0=>
      have D:=aK h0;subst D;cases h;simp only[Ct,bK,gX,gk];congr 2;rw[Vd];simp
     ·rw[Br]at h
      split at h
      next h0=>
       cases h;simp only[dO]at h0;rw[aG a_,Vd];simp only[Ct,bK];congr 1;omega
      ·obtain⟨G,h4⟩:=Ap h
       have E:=aK G;subst E;obtain⟨K,L⟩:=Ap h4;cases L;have F:=aK K;subst F;simp only[Ct,fU,Vd];congr 1
       ·by_cases A:f.sp i=0
        ·rw[aI A,aI a_]
        ·rw[aG A,aG a_]
       ·omega
    next y=>
     obtain⟨G,h4⟩:=Ap h;cases h4;have B:op=false:=by simpa using y
     subst B;have hb:=yM hT f w d h1 h2;refine⟨l,u,room,by simpa using hb,?_⟩;simp only[Ct,aX,ak];rw[Br];congr 2;by_cases j:room=l
     ·rw[aI (by rw[j];exact cL l),aI j]
     ·rw[aG (by simpa using j),aG j,Vd]
 next M=>
  cases hm:bound (some M) room 0 with
  | none=>rw[hm]at h;cases h
  | some m=>
   rw[hm]at h;cases hi with
   | none=>cases h
   | some O=>
    simp only at h;split at h
    ·cases h
    next u h1=>
     split at h
     ·cases h
     next l h2=>
      cases h;have hb:=A9v hT f w (len:=len) d rfl rfl (cap:=if op=true then room+f.sp i else room) (room:=room) (by split<;>omega) hm h1 h2;refine⟨l,u,m,hb,?_⟩;simp only[Ct,aX,ak];rw[Br];congr 2;by_cases j:m=l
      ·rw[aI (by rw[j];exact cL l),aI j]
      ·rw[aG (by simpa using j),aG j,Vd]
end
end
section
theorem QR:∀(l:List (Nat × Nat)) (i:Nat),lW l i=l[i]?
 | [],i=>by simp[lW]
 | a::r,0=>rfl
 | a::r,i+1=>by
  have:lW (a::r) (i+1)=lW r i:=rfl;rw[this,QR r i];simp
theorem QS:∀(l:List UInt8) (i:Nat),qL l i=l[i]?
 | [],i=>by simp[qL]
 | a::r,0=>rfl
 | a::r,i+1=>by
  have:qL (a::r) (i+1)=qL r i:=rfl;rw[this,QS r i];simp
theorem pI(f:Loc)(l:List EV)(i:Nat):(Bw f l)[i]? = (l[i]?).map (Ct f):=by rw[Q3,bH]
theorem Ws(d:Reads f tm ρ){x:Option Operand}{v:Option EV}(h:jw tm x=some v):x.map ρ=v.map (Ct f):=by
 cases x with
 | none=>simp only[jw]at h;cases h;rfl
 | some x=>
  simp only[jw]at h;split at h
  next a j=>
   cases h;simp[Bl d j]
  ·cases h
section
variable(hT:Qu P T)(f:Loc)(w:World)
include hT
theorem QT:∀{l:List Field} {ps:List (Nat × Nat)},placesOf T l=some ps ->
 (l.mapM (m:=Sem) fun fd=>do pure (fd.offset,<-sizeOf fd.type)).run P w=.ok ps w
 | [],ps,h=>by cases h;rfl
 | fd::r,ps,h=>by
  unfold placesOf at h;split at h
  next n d=>
   split at h
   next q j=>
    cases h;rw[List.mapM_cons];have u:=QT j;simp only[Sem.run_bind,G7 hT w d,aJ,aU,u]
   ·cases h
  ·cases h
theorem oH{z:List EV}(h:T.zero t=some z):∃x:EV,x.plain=true/\z=x.cells/\(zeroValue t).run P w=.ok (Ct f x) w /\
 (T.agg t=some true->x=.agg z)/\(T.agg t=some false->z = [x])/\(∀p,x.ok p)/\∃i,P.info? t=some i/\i.size=z.length/\i.bytes<=1048576:=by
 obtain⟨i,v,x,h1,h2,d,h4,j,u,y,A,B⟩:=hT.zero t z h;refine⟨x,h4,j,?_,A,B,fun p=>yG p d,i,h1,u,y⟩;rw[QG f d];simp[zeroValue,typeInfo,h1,h2]
theorem Bnq(A:Reads f tm ρ)(h:Fh T tm o.op=some v):
 (execOp ρ o).run P w=.ok (.value (Ct f v)) w:=by
 obtain⟨dst,op,type,after,pos,guard⟩:=o;simp only at h;cases op with
 | move x=>simp only[Fh]at h;simp[execOp,Bl A h]
 | assign x=>simp only[Fh]at h;simp[execOp,Bl A h]
 | pick c a b=>
  simp only[Fh]at h;split at h
  next G=>simp[execOp,Bl A G,Bl A h,Ct,asBool]
  next G=>simp[execOp,Bl A G,Bl A h,Ct,asBool]
  ·cases h
 | binOp op t x y c=>
  simp only[Fh]at h;split at h
  next a S=>
   split at h
   next b hb=>
    obtain⟨h1,h2⟩:=Bow hT f w h x y;simp[execOp,Bl A S,Bl A hb,h1,h2]
   ·cases h
  ·cases h
 | unOp op t x=>
  cases op with
  | not=>
   simp only[Fh]at h;split at h
   next b B=>
    cases h;cases b<;>simp[execOp,Bl A B,Ct,Op.unary]
   ·cases h
  | neg=>
   simp only[Fh]at h;split at h
   next k n B=>
    cases h;simp only[execOp,Bl A B,Ct,Op.unary,Op.intArith,Nw,Sem.run_bind,aU,aJ];rfl
   ·cases h
  | _=>simp[Fh]at h
 | nilCheck x=>
  simp only[Fh]at h;split at h
  next i off B=>
   cases h;simp[execOp,Bl A B,Ct]
  ·cases h
 | fieldAddr s x U=>
  simp only[Fh]at h;split at h
  next i off B=>
   split at h
   next fields hu=>
    split at h
    next fd hf=>
     split at h
     next n Z=>
      obtain⟨h1,h2⟩:=T5 h;cases h2;rw[yJ]at hf;have H:fields[U]? = some fd:=by simpa using hf
      have Q:n≠0:=by intro e;subst e;cases h1
      simp[execOp,Instr.fieldAt,Bl A B,D7 hT w hu,H,Ct,Instr.sureAddr,fieldPlace,G7 hT w Z,Q,Vd]
     ·cases h
    ·cases h
   ·cases h
  ·cases h
 | indexAddr t x ix=>
  simp only[Fh]at h;split at h
  next k n C=>
   split at h
   next len e i off hu B=>
    split at h
    next s hs=>
     obtain⟨h1,h2⟩:=Ap h;cases h2;simp only[dO]at h1;have F:(n:Int)<len:=a_
     simp[execOp,Instr.indexAt,Bl A C,Bl A B,Ct,asIntOf,D7 hT w hu,Instr.sureAddr,G7 hT w hs,Vd];exact fun hle=>absurd hle a_
    ·cases h
   next e i off len r op hu B=>
    split at h
    next s hs=>
     obtain⟨h1,h2⟩:=Ap h;cases h2;simp only[dO]at h1;have F:(n:Int)<len:=a_
     simp[execOp,Instr.indexAt,Bl A C,Bl A B,Ct,asIntOf,D7 hT w hu,G7 hT w hs,Vd];exact fun hle=>absurd hle a_
    ·cases h
   ·cases h
  ·cases h
 | index t x ix=>
  simp only[Fh]at h;split at h
  next k n C=>
   split at h
   next len e cs hu B=>
    split at h
    next s hs=>
     obtain⟨h1,h2⟩:=Ap h;simp only[dO]at h1;have F:(n:Int)<len:=a_
     have hp:=QK hT w f h2;simp only[Nat.mul_eq]at hp;simp[execOp,Instr.index,Bl A C,Bl A B,Ct,asIntOf,D7 hT w hu,G7 hT w hs,hp];exact fun hle=>absurd hle a_
    ·cases h
   next s hu B=>
    split at h
    next b hb=>
     cases h;rw[QS]at hb;have V:s[n]? = some b:=by
      have e:s.data[n]? = some b:=by simpa using hb
      rw[<-e];rfl
     simp[execOp,Instr.index,Bl A C,Bl A B,Ct,asIntOf,D7 hT w hu,V]
    ·cases h
   ·cases h
  ·cases h
 | field t x U=>
  simp only[Fh]at h;split at h
  next fields cs hu B=>
   split at h
   next fd hf=>
    rw[yJ]at hf;have H:fields[U]? = some fd:=by simpa using hf
    have hp:=QK hT w f h;simp[execOp,Instr.field,Bl A B,Ct,D7 hT w hu,H,asAgg,hp]
   ·cases h
  ·cases h
 | convert src d x=>
  simp only[Fh]at h;split at h
  next ud k k' n hs hd B=>
   cases h;simp only[execOp,Go.convert,Bl A B,Ct,Sem.run_bind,D7 hT w hs,D7 hT w hd,aJ,Conv.intToInt,aU,Nw]
  ·cases h
 | extract x ix=>
  simp only[Fh]at h;split at h
  next l B=>
   split at h
   next u r M=>
    cases h;rw[Td]at M;have h1:l[ix]? = some v:=by
     have:=dM (xs:=l) (i:=ix) (j:=0);rw[M]at this;simpa using this.symm
    simp[execOp,Instr.extract,Bl A B,Ct,pI,h1]
   ·cases h
  ·cases h
 | slice t x lo hi mx=>
  simp only[Fh]at h;split at h
  next aa ab W J K D=>
   split at h
   next n e i off hu B=>
    split at h
    next s hs=>
     obtain⟨l,X,m,h1,h2⟩:=QQ hT f w h false;simp only[aX,ak]at h1;simp[execOp,Instr.sliceAt,D7 hT w hu,Bl A B,Ws A J,Ws A K,Ws A D,Ct,Instr.sureAddr,h1,G7 hT w hs,h2]
    ·cases h
   next e x' hu B=>
    split at h
    next s hs=>
     cases x' with
     | slice i off len room op=>
      obtain⟨l,X,m,h1,h2⟩:=QQ hT f w h true;simp[execOp,Instr.sliceAt,Instr.slice,D7 hT w hu,Bl A B,Ws A J,Ws A K,Ws A D,Ct,h1,G7 hT w hs,h2];split<;>rfl
     | Aq=>
      unfold je at h;cases W with
      | some _=>cases h
      | none=>
       simp only at h;split at h
       ·cases h
       next X h1=>
        split at h
        ·cases h
        next l h2=>
         cases h;have e1:X=0:=Nat.le_zero.1 (QP (aE _) h1);subst e1;have e2:l=0:=Nat.le_zero.1 (QP (aE _) h2);subst e2;have hb:=yM hT f w true h1 h2;have hm:mx=none:=by
          cases mx with
          | none=>rfl
          | some o=>simp only[jw]at D;split at D<;>cases D
         subst hm;simp[execOp,Instr.sliceAt,Instr.slice,D7 hT w hu,Bl A B,Ws A J,Ws A K,Ct,hb,G7 hT w hs]
     | _=>simp[je]at h
    ·cases h
   ·cases h
  ·cases h
 | build t ps=>
  simp only[Fh]at h;split at h
  next z l fields Q M hu=>
   split at h
   next pl Y=>
    split at h
    next c G=>
     cases h;obtain⟨x,_,e1,e2,_⟩:=oH hT f w Q;have hp:(fields.mapM (m:=Sem) fun fd=>do pure (fd.offset,<-sizeOf fd.type)).run P w=.ok pl.toArray w:=by
      have e:fields=fields.toList.toArray:=by simp
      rw[e,List.mapM_toArray];have O:=QT hT w Y;simp only[map_eq_pure_bind,Sem.run_bind,O,aJ,aU]
     have E:=vr f (lW pl) (fun i=>pl.toArray[i]?) (fun i q O=>by rw[QR]at O;simpa using O) G;have L:(ps.map fun(i,x)=>(i,ρ x)).toList=l.map fun(i,v)=>(i,Ct f v):=by
      rw[Array.toList_map,vm A M]
     rw[e1]at E;simp only[execOp,Instr.build,Sem.run_bind,e2,aJ,D7 hT w hu,hp,Tv,L,E,aU,Ct]
    ·cases h
   ·cases h
  next z l n e Q M hu=>
   split at h
   next s hs=>
    split at h
    next c G=>
     cases h;obtain⟨x,_,e1,e2,_⟩:=oH hT f w Q;have E:=vr f (fun i=>some (Nat.mul i s,s)) (fun i=>some (i*s,s)) (fun i q O=>O) G;have L:(ps.map fun(i,x)=>(i,ρ x)).toList=l.map fun(i,v)=>(i,Ct f v):=by
      rw[Array.toList_map,vm A M]
     rw[e1]at E;simp only[execOp,Instr.build,Sem.run_bind,e2,aJ,D7 hT w hu,G7 hT w hs,Tv,L,E,aU,Ct]
    ·cases h
   ·cases h
  ·cases h
 | makeFunc fn first captured=>
  cases fn with
  | func g=>
   simp only[Fh]at h;split at h
   next a b S hb=>
    cases h;have h1:first.map ρ=(Bw f a).toArray:=by apply fC;simp[qP A S]
    have h2:captured.map ρ=(Bw f b).toArray:=by apply fC;simp[qP A hb]
    simp[execOp,Instr.makeFunc,Ct,h1,h2]
   ·cases h
  | _=>simp[Fh]at h
 | sliceToArrayPointer t x=>
  simp only[Fh]at h;split at h
  next n e i off len room op hu B=>
   obtain⟨h1,h2⟩:=Ap h;cases h2;simp only[dO]at h1;have F:¬len<n:=a_
   simp[execOp,Instr.arrayAt,D7 hT w hu,Bl A B,Ct,F]
  ·cases h
 | _=>simp[Fh]at h
end
end
theorem Ab.get_put(h:Ab)(i:Nat)(o:D5)(j:Nat):(h.put i o).get j=if i=j then some o else h.get j:=by
 obtain⟨t,n,m⟩:=h;exact Tr.get_put t i (some o) j
theorem Ab.lK(h:Ab)(i j:Nat):(h.del i).get j=if i=j then none else h.get j:=by
 obtain⟨t,n,m⟩:=h;exact Tr.get_put t i none j
theorem Ab.Lx(h:Ab)(o:D5)(j:Nat):(h.new o).get j=if h.next=j then some o else h.get j:=by
 obtain⟨t,n,m⟩:=h;exact Tr.get_put t n (some o) j
theorem Ab.Qv(h:Ab)(i:Nat)(o:D5):(h.put i o).next=h.next:=rfl
theorem Ab.xF(h:Ab)(i:Nat):(h.del i).next=h.next:=rfl
theorem Ab.D4(h:Ab)(o:D5):(h.new o).next=h.next+1:=rfl
theorem Ab.nU(h:Ab)(i:Nat)(o:D5):(h.put i o).mw=min i h.mw:=by
 obtain⟨t,n,m⟩:=h;show Bc (Nat.ble i m) i m=min i m;rw[Br];by_cases hi:i<=m
 ·rw[aI (oG hi)];omega
 ·rw[aG (by rw[qN hi];simp)];omega
theorem Ab.sv(h:Ab)(i:Nat):(h.del i).mw=min i h.mw:=Ab.nU h i (.deferred true)
theorem Ab.Bry(h:Ab)(o:D5):(h.new o).mw=h.mw:=rfl
def D5.ok(p:Nat->Prop):D5->Prop
 | .cells l _=>EV.Ud p l/\l.all EV.one=true
 | .vec l _ _=>EV.Ud p l/\l.all EV.one=true
 | .map es=>∀e∈es,e.1.ok p/\e.2.ok p
 | .chan _ buf=>EV.Ud p buf
 | .loop _ _ _ n tm _ _ _ d=>L9 p n tm/\p d
 | .deferred _=>True
 | .view ws _=>∀x∈ws,EV.Ud p x.2/\x.2.all EV.one=true
theorem D5.ok.mono(j:∀i,p i->q i){o:D5}(h:o.ok p):o.ok q:=by
 cases o with
 | cells l t=>exact⟨EV.Ud.mono j l h.1,h.2⟩
 | vec l t s=>exact⟨EV.Ud.mono j l h.1,h.2⟩
 | map es=>exact fun e he=>⟨EV.ok.mono j _ (h e he).1,EV.ok.mono j _ (h e he).2⟩
 | chan c buf=>exact EV.Ud.mono j buf h
 | loop st y fn n tm ps d' body d=>exact⟨L9.mono h.1 j,j d h.2⟩
 | deferred b=>trivial
 | view ws _=>exact fun x u=>⟨EV.Ud.mono j x.2 (h x u).1,(h x u).2⟩
def Vw(f:Loc)(i:Nat):D5->Obj->Prop
 | .cells l e,r=>r=.cells (Bw f l).toArray e (0,0)
 | .vec l e s,r=>∃more:List Value,r=.cells (Bw f l++more).toArray e (0,0)/\more.length=f.sp i*s
 | .map es,r=>∃gT clock,r=.map gT clock/\gT.toList.map (fun e=>(e.key,e.val))=es.map (fun e=>(Ct f e.1,Ct f e.2))
 | .chan cap buf,r=>∃s c,r=.chan cap (Bw f buf).toArray false s c false
 | .loop st p fn n tm ps d' body d,r=>r=.loop ⟨st,p,fn,Bj f n tm,ps.toArray,d',body,f.b d⟩
 | .deferred op,r=>r=.deferred (if op=true then some []else none)
 | .view ws r0,r=>r=r0/\∃arr e fr,r=.cells arr e fr/\∀x∈ws,∀(j:Nat) v,x.2[j]? = some v->arr[x.1+j]? = some (Ct f v)
theorem Vw.congr(u:Loc.F0 p f g)(hi:p i){o:D5}(y:o.ok p){r:Obj}(h:Vw f i o r):Vw g i o r:=by
 cases o with
 | cells l t=>simp only[Vw]at h⊢;rw[h,Hj u l y.1]
 | vec l t s=>simp only[Vw]at h⊢;obtain⟨more,h1,h2⟩:=h;exact⟨more,by rw[h1,Hj u l y.1],by rw[h2,(u i hi).2]⟩
 | map es=>
  obtain⟨gT,clock,h1,h2⟩:=h;refine⟨gT,clock,h1,?_⟩;rw[h2];apply cY;intro e he;rw[qO u _ (y e he).1,qO u _ (y e he).2]
 | chan c buf=>obtain⟨s,B,h1⟩:=h;exact⟨s,B,by rw[h1,Hj u buf y]⟩
 | loop st C fn n tm ps d' body d=>simp only[Vw]at h⊢;rw[h,Lw u y.1,(u d y.2).1]
 | deferred b=>exact h
 | view ws r0=>
  obtain⟨h0,arr,e,fr,h1,h2⟩:=h;exact⟨h0,arr,e,fr,h1,fun x A j v hj=>by rw[<-qO u v ((I9 p x.2).1 (y x A).1 v (bh hj))];exact h2 x A j v hj⟩
structure Ug(p:Nat->Prop)(h:Ab):Prop where
 lt:∀i,p i->i<h.next
 get:∀i o,h.get i=some o->p i/\o.ok p
structure Uc(f:Loc)(h:Ab)(w:World):Prop where
 obj:∀i o,h.get i=some o->∃r,w.heap[f.b i]? = some r/\Vw f i o r
 inj:∀i j o o',h.get i=some o->h.get j=some o'->f.b i=f.b j->i=j
theorem Uc.sub{w:World}(y:Uc f h w)(hs:∀i o,h'.get i=some o->h.get i=some o):Uc f h' w where
 obj i o d:=y.obj i o (hs i o d)
 inj i j o o' d u e:=y.inj i j o o' (hs i o d) (hs j o' u) e
theorem Uc.lt{w:World}(d:Uc f h w){o:D5}(j:h.get i=some o):f.b i<w.heap.size:=by
 obtain⟨r,h1,_⟩:=d.obj i o j;exact(eV.1 h1).1
def grow(p:Nat->Prop)(h h':Ab)(i:Nat):Prop:=p i\/(h.next<=i/\i<h'.next)
theorem Kt(p:Nat->Prop)(h h':Ab)(e:h'.next=h.next):grow p h h'=p:=by
 funext i;exact propext ⟨fun x=>x.elim id (fun⟨a,b⟩=>absurd b a_),.inl⟩
theorem qH(p:Nat->Prop)(a:h.next<=h1.next)(b:h1.next<=h2.next):grow (grow p h h1) h1 h2=grow p h h2:=by
 funext i;apply propext;constructor
 ·rintro((x|x)|x)
  ·exact .inl x
  ·exact .inr a_
  ·exact .inr a_
 ·rintro(x|x)
  ·exact .inl (.inl x)
  ·by_cases c:i<h1.next
   ·exact .inl (.inr ⟨x.1,c⟩)
   ·exact .inr a_
structure Wf(p:Nat->Prop)(h h':Ab):Prop where
 next:h.next<=h'.next
 mw:h'.mw<=h.mw
 same:∀i,i<h'.mw->i<h.next->h'.get i=h.get i
 live:∀i o,h'.get i=some o->(∃o',h.get i=some o')\/h.next<=i
 hok:Ug (grow p h h') h'
structure Move(p:Nat->Prop)(f:Loc)(h:Ab)(w:World)(f':Loc)(h':Ab)(w':World):Prop where
 F0:Loc.F0 p f f'
 rep:Uc f' h' w'
 kept:∀b,b<w.heap.size->(∀i o,h.get i=some o->f.b i≠b)->w'.heap[b]? = w.heap[b]?
 size:w.heap.size<=w'.heap.size
 tape:w'.tape=w.tape
 os:w'.os=w.os
 output:w'.output=w.output
 own:∀i o,h'.get i=some o->w.heap.size<=f'.b i\/∃j o',h.get j=some o'/\f'.b i=f.b j
theorem Wf.refl(d:Ug p h):Wf p h h where
 next:=aE _
 mw:=aE _
 same _ _ _:=rfl
 live i o j:=.inl ⟨o,j⟩
 hok:=by rw[Kt p h h rfl];exact d
theorem Wf.trans(a:Wf p h h1)(b:Wf (grow p h h1) h1 h2):Wf p h h2 where
 next:=bQ a.next b.next
 mw:=bQ b.mw a.mw
 same i x y:=by rw[b.same i x (by have:=a.next;omega),a.same i (by have:=b.mw;omega) y]
 live i o j:=by
  rcases b.live i o j with⟨o',d⟩|hi
  ·exact a.live i o' d
  ·exact .inr (by have:=a.next;omega)
 hok:=by rw[<-qH p a.next b.next];exact b.hok
theorem Move.refl{w:World}(d:Uc f h w):Move p f h w f h w where
 F0:=Loc.vl p f
 rep:=d
 kept _ _ _:=rfl
 size:=aE _
 tape:=rfl
 os:=rfl
 output:=rfl
 own i o j:=.inr ⟨i,o,j,rfl⟩
theorem Move.trans{f1 f2:Loc}{w w1 w2:World}(a:Move p f h w f1 h1 w1)
 (b:Move (grow p h h1) f1 h1 w1 f2 h2 w2):Move p f h w f2 h2 w2 where
 F0:=a.F0.trans (b.F0.mono fun i hi=>.inl hi)
 rep:=b.rep
 kept x B C:=by
  rw[b.kept x (aM B a.size) ?_,a.kept x B C];intro i o y e;rcases a.own i o y with hi|⟨j,o',d,hj⟩
  ·omega
  ·exact C j o' d (hj▸e)
 size:=bQ a.size b.size
 tape:=b.tape.trans a.tape
 os:=b.os.trans a.os
 output:=b.output.trans a.output
 own i o y:=by
  rcases b.own i o y with hi|⟨j,o',d,hj⟩
  ·exact .inl (bQ a.size hi)
  ·rcases a.own j o' d with hi|⟨k,A,u,D⟩
   ·exact .inl (hj▸hi)
   ·exact .inr ⟨k,A,u,hj.trans D⟩
theorem Wf.put(d:Ug p h){o:D5}(hi:h.get i=some o)(u:o'.ok p):Wf p h (h.put i o') where
 next:=aE _
 mw:=by rw[Ab.nU];omega
 same j x _:=by rw[Ab.nU]at x;rw[Ab.get_put,aG a_]
 live j q hj:=by
  rw[Ab.get_put]at hj;split at hj
  next e=>subst e;exact .inl ⟨o,hi⟩
  ·exact .inl ⟨q,hj⟩
 hok:=by
  rw[Kt p h (h.put i o') rfl];refine⟨d.lt,fun j q hj=>?_⟩;rw[Ab.get_put]at hj;split at hj
  next e=>subst e;cases hj;exact⟨(d.get i o hi).1,u⟩
  ·exact d.get j q hj
theorem Move.put{w:World}(d:Uc f h w){o:D5}(hi:h.get i=some o)
 {r:Obj} (h1:w'.heap[f.b i]? = some r) (h2:Vw f i o' r) (B:∀b,b≠f.b i->w'.heap[b]? = w.heap[b]?) (h4:w'.heap.size=w.heap.size)
 (C:w'.tape=w.tape) (D:w'.os=w.os) (E:w'.output=w.output):Move p f h w f (h.put i o') w' where
 F0:=Loc.vl p f
 rep:=by
  refine⟨fun j q hj=>?_,fun j k q q' hj u e=>?_⟩
  ·rw[Ab.get_put]at hj
   split at hj
   next e=>subst e;cases hj;exact⟨r,h1,h2⟩
   next e=>
    obtain⟨F,a,b⟩:=d.obj j q hj;refine⟨F,?_,b⟩;rw[B _ ?_]
    ·exact a
    ·intro e';exact e (d.inj j i q o hj hi e').symm
  ·have y:∃q,h.get j=some q:=by
    rw[Ab.get_put]at hj;split at hj
    next e=>exact⟨o,e▸hi⟩
    ·exact⟨q,hj⟩
   have A:∃q,h.get k=some q:=by
    rw[Ab.get_put]at u;split at u
    next e=>exact⟨o,e▸hi⟩
    ·exact⟨q',u⟩
   obtain⟨a,G⟩:=y;obtain⟨b,hb⟩:=A;exact d.inj j k a b G hb e
 kept b _ H:=B b (fun e=>H i o hi e.symm)
 size:=a_
 tape:=C
 os:=D
 output:=E
 own j q hj:=by
  rw[Ab.get_put]at hj;split at hj
  next e=>subst e;exact .inr ⟨i,o,hi,rfl⟩
  ·exact .inr ⟨j,q,hj,rfl⟩
def Loc.set(f:Loc)(i b sp:Nat):Loc:=⟨fun j=>if j=i then b else f.b j,fun j=>if j=i then sp else f.sp j⟩
theorem Loc.jA(f:Loc)(i b sp:Nat):(f.set i b sp).b i=b:=aI rfl
theorem Loc.vw(f:Loc)(i b sp:Nat):(f.set i b sp).sp i=sp:=aI rfl
theorem Loc.Ut(f:Loc){j:Nat}(b sp:Nat)(h:j≠i):(f.set i b sp).b j=f.b j/\(f.set i b sp).sp j=f.sp j:=⟨aG h,aG h⟩
theorem Loc.Rc(f:Loc)(b sp:Nat)(h:¬p i):Loc.F0 p f (f.set i b sp):=fun j hj=>
 have e:j≠i:=fun e=>h (e▸hj)
 ⟨(f.Ut b sp e).1.symm,(f.Ut b sp e).2.symm⟩
theorem Ug.fresh(d:Ug p h):¬p h.next:=fun x=>absurd (d.lt _ x) a_
theorem Ug.pJ(d:Ug p h){o:D5}(hi:h.get i=some o):i≠h.next:=fun e=>d.fresh (e▸(d.get i o hi).1)
theorem Wf.new(d:Ug p h){o:D5}(u:o.ok (grow p h (h.new o))):Wf p h (h.new o) where
 next:=by rw[Ab.D4];omega
 mw:=aE _
 same j x y:=by rw[Ab.Lx,aG a_]
 live j q hj:=by
  rw[Ab.Lx]at hj;split at hj
  next e=>exact .inr a_
  ·exact .inl ⟨q,hj⟩
 hok:=by
  refine⟨fun j hj=>?_,fun j q hj=>?_⟩
  ·rcases hj with hj|hj
   ·have:=d.lt j hj;rw[Ab.D4];omega
   ·exact hj.2
  ·rw[Ab.Lx]at hj
   split at hj
   next e=>cases hj;exact⟨.inr (by rw[Ab.D4];omega),u⟩
   ·exact⟨.inl (d.get j q hj).1,D5.ok.mono (fun i hi=>.inl hi) (d.get j q hj).2⟩
theorem Move.new{w:World}(d:Ug p h)(y:Uc f h w){o:D5}(sp:Nat)
 {r:Obj} (h1:w'.heap=w.heap.push r) (h2:Vw (f.set h.next w.heap.size sp) h.next o r)
 (A:w'.tape=w.tape) (B:w'.os=w.os) (C:w'.output=w.output):Move p f h w (f.set h.next w.heap.size sp) (h.new o) w' where
 F0:=f.Rc _ _ d.fresh
 rep:=by
  refine⟨fun j q hj=>?_,fun j k q q' hj u e=>?_⟩
  ·rw[Ab.Lx]at hj
   split at hj
   next e=>subst e;cases hj;exact⟨r,by rw[Loc.jA,h1];simp,h2⟩
   ·obtain⟨D,a,b⟩:=y.obj j q hj
    have E:=y.lt hj;obtain⟨hp,hok⟩:=d.get j q hj;refine⟨D,?_,b.congr (f.Rc _ _ d.fresh) hp hok⟩;rw[(f.Ut _ _ (d.pJ hj)).1,h1,Array.getElem?_push,aG a_];exact a
  ·rw[Ab.Lx]at hj u
   split at hj
   next e1=>
    split at u
    next e2=>omega
    ·subst e1
     rw[Loc.jA,(f.Ut _ _ (d.pJ u)).1]at e;have:=y.lt u;omega
   ·split at u
    next e2=>
     subst e2;rw[Loc.jA,(f.Ut _ _ (d.pJ hj)).1]at e;have:=y.lt hj;omega
    ·rw[(f.Ut _ _ (d.pJ hj)).1,(f.Ut _ _ (d.pJ u)).1]at e
     exact y.inj j k q q' hj u e
 kept b hb _:=by rw[h1,Array.getElem?_push,aG a_]
 size:=by rw[h1];simp
 tape:=A
 os:=B
 output:=C
 own j q hj:=by
  rw[Ab.Lx]at hj;split at hj
  next e=>subst e;rw[Loc.jA];exact .inl (aE _)
  ·exact .inr ⟨j,q,hj,(f.Ut _ _ (d.pJ hj)).1⟩
theorem Ug.del(d:Ug p h)(i:Nat):Ug p (h.del i):=
 ⟨d.lt,fun j q hj=>by rw[Ab.lK]at hj;split at hj;cases hj;exact d.get j q hj⟩
theorem Wf.del(d:Ug p h)(i:Nat):Wf p h (h.del i) where
 next:=aE _
 mw:=by rw[Ab.sv];omega
 same j x _:=by rw[Ab.sv]at x;rw[Ab.lK,aG a_]
 live j q hj:=by
  rw[Ab.lK]at hj;split at hj
  ·cases hj
  ·exact .inl ⟨q,hj⟩
 hok:=by rw[Kt p h (h.del i) rfl];exact d.del i
theorem vz:∀j o,(h.del i).get j=some o->h.get j=some o:=by
 intro j o hj;rw[Ab.lK]at hj;split at hj
 ·cases hj
 ·exact hj
theorem Wf.vA(d:Ug p h)(i:Nat){o:D5}(j:o.ok (grow p h (h.new o))):Wf p h ((h.del i).new o):=by
 have a:=Wf.del d i;have e:grow p h (h.del i)=p:=Kt p h (h.del i) rfl;have b:Wf (grow p h (h.del i)) (h.del i) ((h.del i).new o):=by
  rw[e];exact Wf.new (d.del i) j
 exact a.trans b
theorem Move.vA{w:World}(y:Ug p h)(d:Uc f h w){o:D5}(hi:h.get i=some o)(sp:Nat)
 {r:Obj} (h1:w'.heap[f.b i]? = some r) (h2:Vw (f.set h.next (f.b i) sp) h.next o' r) (A:∀b,b≠f.b i->w'.heap[b]? = w.heap[b]?) (h4:w'.heap.size=w.heap.size)
 (C:w'.tape=w.tape) (D:w'.os=w.os) (E:w'.output=w.output):Move p f h w (f.set h.next (f.b i) sp) ((h.del i).new o') w' where
 F0:=f.Rc _ _ y.fresh
 rep:=by
  have key:∀j q,((h.del i).new o').get j=some q->(j=h.next/\q=o')\/(j≠i/\j≠h.next/\h.get j=some q):=by
   intro j q hj;rw[Ab.Lx]at hj;split at hj
   next e=>cases hj;exact .inl ⟨e.symm,rfl⟩
   next e=>
    rw[Ab.lK]at hj;split at hj
    ·cases hj
    next e'=>exact .inr ⟨fun x=>e' x.symm,fun x=>e x.symm,hj⟩
  refine⟨fun j q hj=>?_,fun j k q q' hj B e=>?_⟩
  ·rcases key j q hj with⟨rfl,rfl⟩|⟨c1,c2,c3⟩
   ·exact⟨r,by rw[Loc.jA];exact h1,h2⟩
   ·obtain⟨F,a,b⟩:=d.obj j q c3
    obtain⟨hp,hok⟩:=y.get j q c3;refine⟨F,?_,b.congr (f.Rc _ _ y.fresh) hp hok⟩;rw[(f.Ut _ _ c2).1,A _ (fun e=>c1 (d.inj j i q o c3 hi e))];exact a
  ·rcases key j q hj with⟨rfl,rfl⟩|⟨c1,c2,c3⟩
   ·rcases key k q' B with⟨rfl,rfl⟩|⟨d1,d2,d3⟩
    ·rfl
    ·rw[Loc.jA,(f.Ut _ _ d2).1]at e
     exact absurd (d.inj i k o q' hi d3 e).symm d1
   ·rcases key k q' B with⟨rfl,rfl⟩|⟨d1,d2,d3⟩
    ·rw[Loc.jA,(f.Ut _ _ c2).1]at e
     exact absurd (d.inj j i q o c3 hi e) c1
    ·rw[(f.Ut _ _ c2).1,(f.Ut _ _ d2).1]at e
     exact d.inj j k q q' c3 d3 e
 kept b _ G:=A b (fun e=>G i o hi e.symm)
 size:=a_
 tape:=C
 os:=D
 output:=E
 own j q hj:=by
  rw[Ab.Lx]at hj;split at hj
  next e=>rw[show j=h.next from e.symm,Loc.jA];exact .inr ⟨i,o,hi,rfl⟩
  ·have u:=vz j q hj
   exact .inr ⟨j,q,u,(f.Ut _ _ (y.pJ u)).1⟩
section
def kY(P:Program)(s:Sem Next)(p:Nat->Prop)(f:Loc)(h:Ab)(w:World)(v:EV)(h':Ab):Prop:=
 ∃f' w' N,s.run P w=.ok N w'/\(N=.value (Ct f' v)\/(N=.skip/\v=.tuple []))/\Move p f h w f' h' w'/\Wf p h h'/\v.ok (grow p h h')
theorem oI{l:List EV}(d:EV.Ud p l):EV.Ud (grow p h h') l:=EV.Ud.mono (fun _ hi=>.inl hi) l d
theorem QU{l:List EV}(d:EV.Ud p l)(off n:Nat):EV.Ud p ((l.drop off).take n):=
 (I9 p _).2 fun v j=>(I9 p _).1 d v (aH (bV j))
theorem qV{b:List EV}(d:EV.Ud p a)(hb:EV.Ud p b):EV.Ud p (a++b):=
 (I9 p _).2 fun v j=>(bN.1 j).elim ((I9 p _).1 d v) ((I9 p _).1 hb v)
theorem QV {l:List EV}(d:l.all EV.one=true)(off n:Nat):((l.drop off).take n).all EV.one=true:=by
 rw[dS]at d⊢;exact fun v j=>d v (aH (bV j))
theorem Bc8 {b:List EV}(d:a.all EV.one=true)(hb:b.all EV.one=true):(a++b).all EV.one=true:=by
 rw[List.all_append,d,hb];rfl
theorem QW{l x:List EV}(h:Gc l off vs=some x)(d:EV.Ud p l)(j:EV.Ud p vs):EV.Ud p x:=
 (I9 p _).2 fun v u=>(yI h u).elim ((I9 p _).1 d v) ((I9 p _).1 j v)
theorem QX {l x:List EV}(h:Gc l off vs=some x)(d:l.all EV.one=true)(j:vs.all EV.one=true):x.all EV.one=true:=by
 rw[dS]at *;exact fun v u=>(yI h u).elim (d v) (j v)
theorem setRow_other(w:World)(g:Nat)(cs:Array Value)(b:Nat)(hb:b≠g):(w.setRow g cs).heap[b]? = w.heap[b]?:=by
 simp only[World.setRow,Array.getElem?_modify];rw[aG (cR hb)]
theorem setRow_size(w:World)(g:Nat)(cs:Array Value):(w.setRow g cs).heap.size=w.heap.size:=by simp[World.setRow]
section
variable{w:World}
theorem Bdr{o:Nat}{l:List EV}(e:mW ws off=some (o,l)):(o,l)∈ws/\o<=off:=by
 induction ws with
 | nil=>cases e
 | cons x r d=>
  obtain⟨o',l'⟩:=x;unfold mW at e;cases h1:Nat.ble o' off with
  | false=>rw[h1]at e;exact⟨aT _ (d e).1,(d e).2⟩
  | true=>
   rw[h1,Al]at e;cases h2:Nat.ble (Nat.succ (Nat.sub off o')) (len l')with
   | false=>rw[h2]at e;exact⟨aT _ (d e).1,(d e).2⟩
   | true=>rw[h2]at e;cases e;exact⟨aW ..,bG h1⟩
theorem vB(B:Ug p h)(C:Uc f h w){l:List EV}(d:Jo h i off n=some l):
 (loadCells ⟨f.b i,off,none⟩ n).run P w=.ok (Bw f l).toArray w/\EV.Ud p l/\l.all EV.one=true/\l.length=n /\
  ∀j v,l[j]? = some v->w.cell? ⟨f.b i,off+j,none⟩=some (Ct f v):=by
 have key:∀(L:List EV) (arr:Array Value) (e:TypeId) (fr:Nat × Nat) (o:Nat),w.heap[f.b i]? = some (.cells arr e fr)->o<=off->(∀(j:Nat) v,L[j]? = some v->arr[o+j]? = some (Ct f v))->EV.Ud p L->L.all EV.one=true ->
  takeN (Zm L (off-o)) n=some l->(loadCells ⟨f.b i,off,none⟩ n).run P w=.ok (Bw f l).toArray w/\EV.Ud p l/\l.all EV.one=true/\l.length=n /\
  ∀j v,l[j]? = some v->w.cell? ⟨f.b i,off+j,none⟩=some (Ct f v):=by
  intro L arr e fr o h1 K h2 y h4 D;obtain⟨E,A⟩:=sZ D;rw[Td]at E A;have hlen:l.length=n:=by rw[A,bW];omega
  have G:∀j v,l[j]? = some v->w.cell? ⟨f.b i,off+j,none⟩=some (Ct f v):=by
   intro j v hj;rw[A,fR]at hj;split at hj
   ·rw[dM]at hj
    simp only[World.cell?,h1];have:=h2 _ _ hj;rw[show o+(off-o+j)=off+j from a_]at this;simpa using this
   ·cases hj
  refine⟨?_,A▸QU y (off-o) n,A▸QV h4 (off-o) n,hlen,G⟩;have H:(Bw f l).length=n:=by rw[Dh,hlen]
  rw[<-H];apply run_loadCells_list;intro j v hj;rw[pI]at hj;cases F:l[j]? with
  | none=>rw[F]at hj;cases hj
  | some u=>
   rw[F]at hj;cases hj;rw[Vd];exact G j u F
 unfold Jo at d;split at d
 next L e hg=>
  obtain⟨r,h1,h2⟩:=C.obj i _ hg;obtain⟨_,y,h4⟩:=B.get i _ hg;simp only[Vw]at h2;subst h2;exact key L _ e (0,0) 0 h1 (cS _) (fun j v hj=>by simp[pI,hj]) y h4 d
 next L e s hg=>
  obtain⟨r,h1,more,h2,_⟩:=C.obj i _ hg;obtain⟨_,y,h4⟩:=B.get i _ hg;subst h2;refine key L _ e (0,0) 0 h1 (cS _) (fun j v hj=>?_) y h4 d;rw[bP];have:j<(Bw f L).length:=by rw[Dh];exact(aY.1 hj).1
  simp only[cI];rw[cb this,pI,hj];rfl
 next ws r0 hg=>
  split at d
  next o L hw=>
   obtain⟨hm,D⟩:=Bdr hw;obtain⟨r,h1,_,arr,e,fr,h2,E⟩:=C.obj i _ hg;obtain⟨_,J⟩:=B.get i _ hg;obtain⟨y,h4⟩:=J _ hm;subst h2;exact key L _ e fr o h1 D (E _ hm) y h4 d
  ·cases d
 ·cases d
theorem QY(A:Ug p h)(B:Uc f h w)(j:My h i off vs=some h')(G:EV.Ud p vs)(h1:vs.all EV.one=true):
 ∃w',(storeCells ⟨f.b i,off,none⟩ (Bw f vs)).run P w=.ok () w'/\Move p f h w f h' w'/\Wf p h h':=by
 have u:∀v∈Bw f vs,v.oneCell'=true:=QB f vs (by simpa using h1);unfold My at j;split at j
 next L e hg=>
  obtain⟨r,y,C⟩:=B.obj i _ hg;obtain⟨_,D,E⟩:=A.get i _ hg;simp only[Vw]at C;subst C;split at j
  next F hs=>
   cases j;obtain⟨b1,b2⟩:=Yt hs;have d:=run_storeCells_at (P:=P) (f.b i) off e (Bw f vs) 0 (Bw f L).toArray w y (by simp only[Dh,dh];omega) u;refine⟨_,d,?_,Wf.put A hg ⟨QW hs D G,QX hs E h1⟩⟩;refine Move.put B hg (r:=.cells (Bw f F).toArray e (0,0)) ?_ rfl (fun b hb=>setRow_other _ _ _ _ hb) (setRow_size _ _ _) rfl rfl rfl;rw[setRow_heap w (f.b i) _ _ e (0,0) y,b2,yL];simp
  ·cases j
 next L e s hg=>
  obtain⟨r,y,more,C,H⟩:=B.obj i _ hg;obtain⟨_,D,E⟩:=A.get i _ hg;subst C;split at j
  next F hs=>
   cases j;obtain⟨b1,b2⟩:=Yt hs;have d:=run_storeCells_at (P:=P) (f.b i) off e (Bw f vs) 0 (Bw f L++more).toArray w y (by simp only[Dh,dh,aF];omega) u;refine⟨_,d,?_,Wf.put A hg ⟨QW hs D G,QX hs E h1⟩⟩;refine Move.put B hg (r:=.cells (Bw f F++more).toArray e (0,0)) ?_ ⟨more,rfl,H⟩ (fun b hb=>setRow_other _ _ _ _ hb) (setRow_size _ _ _) rfl rfl rfl;rw[setRow_heap w (f.b i) _ _ e (0,0) y,b2,yL];simp only[List.toList_toArray,dU];rw[fM (by rw[Dh];omega),List.drop_append_of_le_length (by simp only[Dh];omega)];simp
  ·cases j
 ·cases j
variable (hT:Qu P T)
include hT
theorem Bkt(y:Reads f tm ρ)(A:Ug p h)(B:Uc f h w)
 {a:Operand} (C:o.op=.load t a) (d:D3 T tm (.load t a) h=some (v,h')) :
 h'=h/\v.ok p/\(execOp ρ o).run P w=.ok (.value (Ct f v)) w:=by
 simp only[D3]at d;split at d
 next i off D=>
  split at d
  next hg=>
   split at d
   next n H=>
    split at d
    next l j=>
     cases d;obtain⟨h1,h2,E,h4,F⟩:=vB (P:=P) A B j;refine⟨rfl,⟨h2,E⟩,?_⟩;simp only[execOp,C,Instr.loadAt,Bl y D,Ct,Instr.sureAddr,loadVar,Sem.run_bind,aU,aJ,qU hT w hg,G7 hT w H,h1,bK]
    ·cases d
   ·cases d
  next hg=>
   split at d
   next u j=>
    cases d;obtain⟨h1,h2,E,h4,F⟩:=vB (P:=P) A B j;refine⟨rfl,h2.1,?_⟩;have G:=F 0 v rfl;simp only[execOp,C,Instr.loadAt,Bl y D,Ct,Instr.sureAddr,loadVar,Sem.run_bind,aU,aJ,qU hT w hg,run_load,aX,ak];simp only[dU]at G;rw[G];rfl
   ·cases d
  ·cases d
 ·cases d
theorem Bg2(y:Reads f tm ρ)(D:L9 p n tm)(E:Ug p h)(F:Uc f h w)
 {a:Operand} (G:o.op=.store t a x) (d:D3 T tm (.store t a x) h=some (v,h')) :
 kY P (execOp ρ o) p f h w v h':=by
 simp only[D3]at d;split at d
 next i off u m H A B=>
  obtain⟨h1,h2⟩:=Ap d;obtain⟨C,h4⟩:=Ap h2;split at h4
  next J hw=>
   cases h4;rw[Wg]at C;have j:=aK C;obtain⟨c1,c2⟩:=Vh (Fg D A) h1;obtain⟨w',K,L,M⟩:=QY (P:=P) E F hw c1 (by simpa using c2);refine⟨f,w',.skip,?_,.inr ⟨rfl,rfl⟩,L,M,trivial⟩;simp only[execOp,G,Instr.storeAt,Bl y H,Bl y A,Instr.sureAddr,storeVar,Sem.run_bind,aU,aJ,G7 hT w B];simp only[Ct,aU,aJ,Tv,Sem.run_bind,G7 hT w B];simp[j,K,Dh]
  ·cases h4
 ·cases d
omit hT in
theorem vC(d:Ug p h)(u:Uc f h w)(e:TypeId){l:List EV}(j:EV.Ud p l)(h1:l.all EV.one=true):
 ∃f' w',(newRow e (Bw f l).toArray).run P w=.ok ⟨f'.b h.next,0,none⟩ w'/\Move p f h w f' (h.new (.cells l e)) w'/\Wf p h (h.new (.cells l e))/\grow p h (h.new (.cells l e)) h.next:=by
 refine⟨f.set h.next w.heap.size 0,{ w with heap:=w.heap.push (.cells (Bw f l).toArray e) },?_,?_,Wf.new d ⟨oI j,h1⟩,.inr ⟨aE _,by rw[Ab.D4];omega⟩⟩
 ·rw[Loc.jA];rfl
 ·refine Move.new d u 0 rfl ?_ rfl rfl rfl
  simp only[Vw];rw[Hj (f.Rc _ _ d.fresh) l j]
theorem Bik(u:Ug p h)(y:Uc f h w)
 (A:o.op=.alloc t) (d:D3 T tm (.alloc t) h=some (v,h')) :
 kY P (execOp ρ o) p f h w v h':=by
 simp only[D3]at d;split at d
 next z B=>
  cases d;obtain⟨x,C,j,D,_,_,E,_⟩:=oH hT f w B;obtain⟨c1,c2⟩:=Vh (E p) C;rw[<-j]at c1 c2;obtain⟨f',w',F,G,H,J⟩:=vC (P:=P) u y t c1 (by simpa using c2);refine⟨f',w',_,?_,.inl rfl,G,H,J⟩;simp only[execOp,A,Instr.alloc,Sem.run_bind,D,aJ,newVar,Tv,<-j,F,aU,Ct]
 ·cases d
omit hT in
theorem Bp3(j:Reads f tm ρ)(y:L9 p n tm)(A:Ug p h)(B:Uc f h w)
 (C:o.op=.box t x) (d:D3 T tm (.box t x) h=some (v,h')) :
 kY P (execOp ρ o) p f h w v h':=by
 simp only[D3]at d;split at d
 next u hu=>
  obtain⟨h1,h2⟩:=Ap d;cases h2;obtain⟨c1,c2⟩:=Vh (Fg y hu) h1;obtain⟨f',w',D,E,F,G⟩:=vC (P:=P) A B t c1 (by simpa using c2);refine⟨f',w',_,?_,.inl rfl,E,F,G⟩;simp only[execOp,C,Instr.box,Bl j hu,Sem.run_bind,aJ,newVar,Tv,D,aU,Ct]
 ·cases d
omit hT in
theorem QZ(f:Loc)(z:List EV)(m:Nat)(j:m*z.length≠0):
 (Array.range (m*z.length)).map (fun i=>(Bw f z).toArray[i%(Bw f z).toArray.size]!)=(Bw f (rep z m)).toArray:=by
 apply gK;intro i;simp only[Array.getElem?_map,cI,pI,dh,Dh];by_cases hi:i<m*z.length
 ·rw[QJ z m i hi]
  have d:i%z.length<z.length:=gR _ (by rcases eI z.length with e|e;(simp[e]at j);exact e);simp[hi,pI,d,aD d]
 ·have:(rep z m)[i]? = none:=cD (by rw[vp];omega)
  simp[this];omega
theorem A3x {n:Nat}(F:Reads f tm ρ)(H:Ug p h)(J:Uc f h w)
 {y:Operand} (K:o.op=.makeSlice t x y) (d:D3 T tm (.makeSlice t x y) h=some (v,h')) :
 kY P (execOp ρ o) p f h w v h':=by
 simp only[D3]at d;split at d
 next e k a k' b hu L M=>
  split at d
  next z O=>
   obtain⟨h1,h2⟩:=Ap d;obtain⟨C,h4⟩:=Ap h2;cases h4;simp only[dO]at h1 C;obtain⟨u,Q,G,S,_,_,U,i,i1,i2,i3⟩:=oH hT f w O;obtain⟨c1,c2⟩:=Vh (U p) Q;rw[<-G]at c1 c2;have d1:EV.Ud p (rep z b):=(I9 p _).2 fun v D=>(I9 p _).1 c1 v (s_ D)
   have d2:(rep z b).all EV.one=true:=by rw[dS];exact fun v D=>c2 v (s_ D)
   obtain⟨f',w',E,V,W,X⟩:=vC (P:=P) H J e d1 d2;refine⟨f',w',_,?_,.inl rfl,V,W,X⟩;have Y:IntKind.i64.wrap (Int.ofNat a)=a:=ma .i64 rfl _ 9223372036854775808 rfl rfl (by simp only[aZ];omega) (by simp only[aZ];omega);have wb:IntKind.i64.wrap (Int.ofNat b)=b:=ma .i64 rfl _ 9223372036854775808 rfl rfl (by simp only[aZ];omega) (by simp only[aZ];omega);have B:¬((2:Int)^48<(i.bytes:Int)*b):=by
    have:i.bytes*b<=1048576*65536:=gU i3 C;have e:((i.bytes*b:Nat):Int)=(i.bytes:Int)*b:=by simp
    omega
   have A:¬(roomBytes<b*i.bytes):=by
    have:b*i.bytes<=65536*1048576:=gU C i3;unfold roomBytes;omega
   simp only[execOp,K,Instr.makeSlice,Bl F L,Bl F M,Ct,Sem.run_bind,D7 hT w hu,aJ,asInt,aU];have Z:(decide ((b:Int)<0)||decide ((i.bytes:Int)*b>2^48)||decide ((a:Int)<0)||decide ((a:Int)>b))=false:=by
    simp only[Bool.or_eq_false_iff,cq];exact⟨⟨⟨a_,B⟩,a_⟩,a_⟩
   simp only[typeInfo,asIntOf,Sem.run_bind,gI,i1,aJ,aU,Y,wb];rw[Z];simp only[aX,ak,askRoom,bD,Sem.run_bind,gt_iff_lt,A,aU,aJ,sizeOf,typeInfo,gI,i1,i2];by_cases j:b*z.length=0
   ·have er:rep z b = []:=cO.1 (by rw[vp];exact j)
    rw[er]at E;have e0:∀g:Nat->Value,Array.map g (Array.range 0)=(Bw f []).toArray:=fun g=>by simp[Bw]
    simp only[j,bK,Sem.run_bind,aU,aJ];rw[e0,E];simp
   ·rw[aG j]
    simp only[Sem.run_bind,S,aU,aJ,Tv,<-G];rw[QZ f z b j,E];simp
  ·cases d
 ·cases d
end
end
section
section
variable{w:World}(hT:Qu P T)
include hT
theorem A0w(M:Reads f tm ρ)(H:L9 p n tm)(O:Ug p h)(Q:Uc f h w)
 (S:o.op=.buildSlice t m ps) (d:D3 T tm (.buildSlice t m ps) h=some (v,h')) :
 kY P (execOp ρ o) p f h w v h':=by
 simp only[D3]at d;split at d
 next e l hu F=>
  split at d
  next s z hs U=>
   obtain⟨h1,h2⟩:=Ap d;split at h2
   next c D=>
    cases h2;simp only[dO,Nat.mul_eq]at h1;obtain⟨u,V,J,W,_,_,X,i,i1,i2,i3⟩:=oH hT f w U;obtain⟨i',K,j2,j3⟩:=hT.size e s hs;have G:s=z.length:=by rw[i1]at K;cases K;omega
    subst G;obtain⟨c1,c2⟩:=Vh (X p) V;rw[<-J]at c1 c2;have d1:∀v∈c,v.ok p:=td (fun i=>some (Nat.mul i z.length,z.length)) D (fun v y=>(I9 p _).1 c1 v (s_ y))
     (fun q A v y=>(I9 p _).1 (Vh (vn H F q A) (vt _ D q A)).1 v y)
    have d2:∀v∈c,v.one=true:=td (fun i=>some (Nat.mul i z.length,z.length)) D (fun v y=>c2 v (s_ y))
     (fun q A v y=>(Vh (vn H F q A) (vt _ D q A)).2 v y)
    obtain⟨f',w',L,Y,Z,r4⟩:=vC (P:=P) O Q e ((I9 p _).2 d1) (by simpa using d2);refine⟨f',w',_,?_,.inl rfl,Y,Z,r4⟩;have B:=vr f (fun i=>some (Nat.mul i z.length,z.length)) (fun i=>some (i*z.length,z.length)) (fun i q A=>A) D;have E:(ps.map fun(i,x)=>(i,ρ x)).toList=l.map fun(i,v)=>(i,Ct f v):=by
     rw[Array.toList_map,vm M F]
    have C:¬(2^24<m*z.length):=a_
    simp only[execOp,S,Instr.buildSlice,Sem.run_bind,D7 hT w hu,aJ,G7 hT w hs,gt_iff_lt,C,ak,aU];by_cases j:m*z.length=0
    ·have er:rep z m = []:=cO.1 (by rw[vp];exact j)
     have e0:∀g:Nat->Value,Array.map g (Array.range 0)=(Bw f []).toArray:=fun g=>by simp[Bw]
     rw[er]at B;simp only[j,bK,Sem.run_bind,aU,aJ];rw[e0,E,B];simp only[Sem.run_bind,L,aJ,aU];simp[Ct]
    ·rw[aG j]
     simp only[Sem.run_bind,W,aU,aJ,Tv,<-J];rw[QZ f z m j,E,B];simp only[Sem.run_bind,L,aJ,aU];simp[Ct]
   ·cases h2
  ·cases d
 ·cases d
omit hT in
theorem Bbs(j:Ug p h)(u:Uc f h w)
 {r:Option Operand} (y:o.op=.makeMap t r) (d:D3 T tm (.makeMap t r) h=some (v,h')) :
 kY P (execOp ρ o) p f h w v h':=by
 cases r with
 | some x=>simp[D3]at d
 | none=>
  simp only[D3]at d;cases d;refine⟨f.set h.next w.heap.size 0,{ w with heap:=w.heap.push (.map #[] 0) },_,?_,.inl rfl,Move.new j u 0 rfl ⟨#[],0,rfl,rfl⟩ rfl rfl rfl,Wf.new j (by simp[D5.ok]),.inr ⟨aE _,by rw[Ab.D4];omega⟩⟩;simp only[execOp,y,Instr.makeMap,Ct,Loc.jA];simp
theorem A77(A:Reads f tm ρ)(y:Ug p h)(B:Uc f h w)
 (C:o.op=.makeChan t x) (j:D3 T tm (.makeChan t x) h=some (v,h')) :
 kY P (execOp ρ o) p f h w v h':=by
 simp only[D3]at j;split at j
 next d e k n hu D=>
  split at j
  next s hs=>
   obtain⟨h1,h2⟩:=Ap j;cases h2;simp only[dO]at h1;obtain⟨i,i1,i2,i3⟩:=hT.size e s hs;have u:¬(((n:Int)<0)\/((n:Int)>IntKind.i64.max)\/((i.bytes:Int)*n>2^48-112)):=by
    have:i.bytes*n<=1048576*65536:=gU i3 h1;have e:((i.bytes*n:Nat):Int)=(i.bytes:Int)*n:=by simp
    have e2:IntKind.i64.max=9223372036854775807:=rfl;omega
   refine⟨f.set h.next w.heap.size 0,{ w with heap:=w.heap.push (.chan n #[] false 0 0 false) },_,?_,.inl rfl,Move.new y B 0 rfl ⟨0,0,rfl⟩ rfl rfl rfl,Wf.new y trivial,.inr ⟨aE _,by rw[Ab.D4];omega⟩⟩;simp only[execOp,C,Instr.makeChan,Bl A D,Ct,asInt,asIntOf,Sem.run_bind,aU,aJ,D7 hT w hu,typeInfo,gI,i1,aZ];rw[aG u];simp[Loc.jA]
  ·cases j
 ·cases j
omit hT in
theorem Q':∀{a b:List EV},Fa a b=some true->a=b
 | [],[],_=>rfl
 | x::r,y::s,h=>by
  unfold Fa at h;split at h
  next j=>
   have A:=Q' h;have:x=y:=by
    unfold jX at j;split at j
    ·obtain⟨h1,h2⟩:=Ap j
     obtain rfl:=tc h1;cases d:iV _ _ with
     | false=>rw[d]at h2;cases h2
     | true=>rw[mc]at d;rw[dG d]
    next p q=>
     have u:=gN j;rw[vv]at u;rw[Bhx u]
    next p q=>
     cases p<;>cases q<;>first|rfl|(cases j)
    ·cases j
   rw[this,A]
  ·split at h<;>cases h
  ·cases h
 | [],_::_,h=>by cases h
 | _::_,[],h=>by cases h
omit hT in
theorem Bjp {a b:EV}{r:Bool}(h:jX a b=some r):(∃k n,a=.int k n)\/(∃c,a=.bool c)\/(∃s,a=.str s):=by
 unfold jX at h;split at h
 ·exact .inl ⟨_,_,rfl⟩
 ·exact .inr (.inr ⟨_,rfl⟩)
 ·exact .inr (.inl ⟨_,rfl⟩)
 ·cases h
theorem Rb{k:EV}(d:O2 T t k=true)(e:Bool):(Instr.checkKey e 10000 t (Ct f k)).run P w=.ok () w:=by
 unfold O2 at d;split at d
 next a=>
  rw[Br]at d;split at d
  next j=>
   split at d
   next sh u=>
    rw[Br]at d;split at d
    next hs=>
     split at d
     ·exact(hT.key t j).2 f w e a sh u hs
     ·cases d
    ·cases d
   ·cases d
  ·cases d
 next y n=>
  split at d
  next k' hu=>
   rw[Instr.checkKey.eq_def];simp[D7 hT w hu,Ct]
  ·cases d
 ·cases d
omit hT in
def mi(f:Loc)(gT:List MapEntry)(es:List (EV × EV)):Prop:=gT.map (fun e=>(e.key,e.val))=es.map (fun e=>(Ct f e.1,Ct f e.2))
theorem Q_{j:IntKind}{n:Int}(u:Nat.beq (Pq j) (Pq k')=true):∀{gT:List MapEntry} {es:List (EV × EV)} {i:Nat} {r:Option (Nat × EV)},mi f gT es->Io (.int j n) es i=some r ->
 Instr.findNow (.int k') (.int j n) gT i=some (r.map fun x=>(x.1,Ct f x.2))
 | [],[],i,r,_,h=>by simp only[Io]at h;cases h;rfl
 | B::gT,(a,b)::es,i,r,he,h=>by
  simp only[mi,dT,List.cons.injEq,Prod.mk.injEq]at he;obtain⟨⟨e1,e2⟩,e3⟩:=he;unfold Io at h;unfold Instr.findNow;have A:∀c,nh (.int j n) a=some c->Instr.sameNow (.int k') (.int j n) B.key=some c:=by
   intro c d;unfold nh at d;split at d
   next y=>cases y
   next C D E b1 y=>
    cases y;obtain⟨h1,h2⟩:=Ap d;obtain rfl:=tc h1;cases h2;rw[e1];simp[Ct,Instr.sameNow,mc];rfl
   ·cases d
  split at h
  next d=>
   cases h;rw[A _ d,e2];rfl
  next d=>
   rw[A _ d];exact Q_ u e3 h
  ·cases h
 | [],_::_,_,_,he,_=>by simp[mi]at he
 | _::_,[],_,_,he,_=>by simp[mi]at he
theorem Rh{sh:List Nat}(j:T.eqs t=some sh)(A:shaped sh a=true):∀{gT:List MapEntry} {es:List (EV × EV)} {i:Nat} {r:Option (Nat × EV)},mi f gT es->Io (.agg a) es i=some r ->
 (Instr.findAsking t (Ct f (.agg a)) gT i).run P w=.ok (r.map fun x=>(x.1,Ct f x.2)) w
 | [],[],i,r,_,h=>by simp only[Io]at h;cases h;rfl
 | C::gT,(b,c)::es,i,r,he,h=>by
  simp only[mi,dT,List.cons.injEq,Prod.mk.injEq]at he;obtain⟨⟨e1,e2⟩,e3⟩:=he;unfold Io at h;unfold Instr.findAsking;have B:∀d,nh (.agg a) b=some d->(Op.equal t (Ct f (.agg a)) C.key).run P w=.ok d w:=by
   intro d hd;unfold nh at hd;split at hd
   next u=>
    cases u;rw[e1];exact(hT.eqs t sh j).2 f w _ _ d hd A
   next u=>cases u
   ·cases hd
  split at h
  next y=>
   cases h;simp only[Sem.run_bind,B _ y,aJ,bK,aU,e2];rfl
  next y=>
   simp only[Sem.run_bind,B _ y,aJ,aX,ak];exact Rh j A e3 h
  ·cases h
 | [],_::_,_,_,he,_=>by simp[mi]at he
 | _::_,[],_,_,he,_=>by simp[mi]at he
theorem Wx{k:EV}(d:O2 T t k=true){es:List (EV × EV)}{r:Option (Nat × EV)}(he:mi f gT es)(hm:Io k es 0=some r):
 (Instr.findKey t (Ct f k) gT).run P w=.ok (r.map fun x=>(x.1,Ct f x.2)) w:=by
 unfold O2 at d;split at d
 next a=>
  rw[Br]at d;split at d
  next j=>
   split at d
   next sh A=>
    rw[Br]at d;split at d
    next C=>
     obtain⟨u,B,y⟩:=(hT.key t j).1;simp only[Instr.findKey,underlying,Sem.run_bind,gI,B,aJ,aU];cases gT with
     | nil=>
      cases es with
      | nil=>simp only[Io]at hm;cases hm;rfl
      | cons x r=>simp[mi]at he
     | cons D gT=>
      have:Instr.findNow u (Ct f (.agg a)) (D::gT) 0=none:=by
       cases u<;>first|(simp[Ax1]at y;done)|simp[Instr.findNow,Instr.sameNow,Ct]
      rw[this];exact Rh hT A C he hm
    ·cases d
   ·cases d
  ·cases d
 next E n=>
  split at d
  next k' hu=>
   have:=Q_ (f:=f) hT d he hm;simp only[Instr.findKey,Sem.run_bind,D7 hT w hu,aJ,Ct,this,aU]
  ·cases d
 ·cases d
omit hT in
theorem yN {k:EV}:∀{es:List (EV × EV)} {i j:Nat} {v:EV},Io k es i=some (some (j,v))->∃a,i<=j/\es[j-i]? = some (a,v)/\nh k a=some true
 | [],i,j,v,h=>by simp[Io]at h
 | (a,b)::es,i,j,v,h=>by
  unfold Io at h;split at h
  next d=>
   cases h;exact⟨a,aE _,by simp,d⟩
  ·obtain⟨u,h1,h2,y⟩:=yN h
   refine⟨u,a_,?_,y⟩;have:j-i=(j-Nat.succ i)+1:=a_
   rw[this];simpa using h2
  ·cases h
omit hT in
theorem Bdp {k a:EV}(h:nh k a=some true):k=a:=by
 unfold nh at h;split at h
 ·rw[Q' h]
 ·obtain⟨h1,h2⟩:=Ap h
  obtain rfl:=tc h1;cases d:iV _ _ with
  | false=>rw[d]at h2;cases h2
  | true=>rw[mc]at d;rw[dG d]
 ·cases h
end
end
section
theorem Om{w:World}{r:Nat}{o:Obj}(h:w.heap[r]? = some o)(d:∀c e z,o≠.cells c e z):(getObj r).run P w=.ok o w:=by
 unfold getObj;simp only[Sem.run,h]
theorem Q7{w:World}{r:Nat}{o o':Obj}(h:w.heap[r]? = some o)(d:∀c e z,o≠.cells c e z):(setObj r o').run P w=.ok () { w with heap:=w.heap.setIfInBounds r o' }:=by
 unfold setObj;simp only[Sem.run,h]
section
variable{w:World}
theorem Move.setObj(d:Uc f h w){o:D5}(hi:h.get i=some o){r:Obj}(h2:Vw f i o' r):
 Move p f h w f (h.put i o') { w with heap:=w.heap.setIfInBounds (f.b i) r }:=by
 have j:=d.lt hi;refine Move.put d hi (r:=r) ?_ h2 (fun b hb=>?_) ?_ rfl rfl rfl
 ·simp[j]
 ·simp[Array.getElem?_setIfInBounds,cR hb]
 ·simp
variable (hT:Qu P T)
include hT
theorem yO(d:zeroOf T t=some v):(zeroValue t).run P w=.ok (Ct f v) w/\∀q,v.ok q:=by
 unfold zeroOf at d;split at d
 next z j=>
  obtain⟨u,E,F,A,C,D,B,_⟩:=oH hT f w j;split at d
  next y=>
   cases d;rw[<-C y];exact⟨A,B⟩
  next y=>
   have e:=D y;split at d
   next G=>
    cases d;cases e;exact⟨A,B⟩
   ·cases d
  ·cases d
 ·cases d
theorem Bci {n:Nat}(B:Reads f tm ρ)(D:Ug p h)(E:Uc f h w)
 {k:Operand} {ok:Bool} (F:o.op=.lookup t x k ok) (d:D3 T tm (.lookup t x k ok) h=some (v,h')) :
 kY P (execOp ρ o) p f h w v h':=by
 simp only[D3]at d;split at d
 next Q e i S hu C G=>
  obtain⟨h1,h2⟩:=Ap d;split at h2
  next es hg=>
   obtain⟨r,K,gT,clock,L,H⟩:=E.obj i _ hg;obtain⟨_,M⟩:=D.get i _ hg;subst L;have y:=Om (P:=P) K (by intro c e z C;cases C);split at h2
   next j u hm=>
    cases h2;have hf:=Wx (w:=w) (f:=f) hT h1 H hm;obtain⟨a,_,b2,_⟩:=yN hm;have A:u.ok p:=(M _ (bh b2)).2;refine⟨f,w,_,?_,.inl rfl,Move.refl E,Wf.refl D,?_⟩
    ·simp only[execOp,F,Instr.lookup,Bl B C,Bl B G,Ct,Sem.run_bind,D7 hT w hu,aJ,y,aU,Rb hT h1,hf,eD]
     cases ok<;>rfl
    ·rw[Kt p h h rfl]
     cases ok
     ·exact A
     ·exact⟨A,trivial,trivial⟩
   next hm=>
    split at h2
    next zv O=>
     cases h2;obtain⟨z1,J⟩:=yO (w:=w) (f:=f) hT O;have hf:=Wx (w:=w) (f:=f) hT h1 H hm;refine⟨f,w,_,?_,.inl rfl,Move.refl E,Wf.refl D,?_⟩
     ·simp only[execOp,F,Instr.lookup,Bl B C,Bl B G,Ct,Sem.run_bind,D7 hT w hu,aJ,y,aU,Rb hT h1,hf,Option.map_none,z1]
      cases ok<;>rfl
     ·rw[Kt p h h rfl]
      cases ok
      ·exact J p
      ·exact⟨J p,trivial,trivial⟩
    ·cases h2
   ·cases h2
  ·cases h2
 ·cases d
omit hT in
theorem RA(n:Nat)(k:IntKind)(a:Int):Instr.sameBits n (.int k a) (.int k a)=true:=by
 unfold Instr.sameBits;simp
omit hT in
theorem RB(n:Nat)(f:Loc):∀{a:List EV} {r:Bool},Fa a a=some r->((Bw f a).zip (Bw f a)).all (fun(x,y)=>Instr.sameBits n x y)=true
 | [],_,_=>rfl
 | x::r,s,h=>by
  unfold Fa at h;have B:∃c,jX x x=some c/\∃A,Fa r r=some A:=by
   split at h
   next u=>exact⟨_,u,_,h⟩
   next u=>
    split at h
    next A j=>exact⟨_,u,_,j⟩
    ·cases h
   ·cases h
  obtain⟨c,u,A,j⟩:=B;simp only[Bw,List.zip_cons_cons,List.all_cons,RB n f j,Bool.and_true];rcases Bjp u with⟨k,m,rfl⟩|⟨d,rfl⟩|⟨d,rfl⟩
  ·exact RA n k m
  ·simp only[Ct];unfold Instr.sameBits;simp
  ·simp only[Ct];unfold Instr.sameBits;rw[<-vv,vu];simp
omit hT in
theorem A74{k:EV}(d:O2 T t k=true):Instr.sameBits 10000 (Ct f k) (Ct f k)=true:=by
 unfold O2 at d;split at d
 next a=>
  rw[Br]at d;split at d
  ·split at d
   ·rw[Br]at d
    split at d
    ·split at d
     next r j=>
      have:=RB 9999 f j;simp only[Ct];unfold Instr.sameBits;simpa using this
     ·cases d
    ·cases d
   ·cases d
  ·cases d
 ·exact RA _ _ _
 ·cases d
theorem A3q(F:Reads f tm ρ)(K:L9 p n tm)(M:Ug p h)(O:Uc f h w)
 {m k:Operand} (Q:o.op=.mapUpdate t m k x) (A:D3 T tm (.mapUpdate t m k x) h=some (v,h')) :
 kY P (execOp ρ o) p f h w v h':=by
 simp only[D3]at A;split at A
 next Z e i H u hu hm L C=>
  obtain⟨h1,h2⟩:=Ap A;split at h2
  next es hg=>
   obtain⟨r,S,gT,clock,X,G⟩:=O.obj i _ hg;obtain⟨_,U⟩:=M.get i _ hg;subst X;have D:=Om (P:=P) S (by intro c e z C;cases C);have E:=fun o'=>Q7 (P:=P) (o':=o') S (by intro c e z C;cases C)
   split at h2
   next j Y y=>
    cases h2;have hf:=Wx (w:=w) (f:=f) hT h1 G y;obtain⟨a,_,b2,b3⟩:=yN y;obtain rfl:=Bdp b3;simp only[gk]at b2;have J:((gT[j]?).map (·.key)).getD (Ct f H)=Ct f H:=by
     have B:(gT.toList.map (fun e=>(e.key,e.val)))[j]? = some (Ct f H,Ct f Y):=by
      rw[G,bH,b2];rfl
     rw[bH,cP]at B;cases he:gT[j]? with
     | none=>rw[he]at B;cases B
     | some V=>rw[he]at B;simp only[eD,cQ,Prod.mk.injEq]at B;simp[B.1]
    refine⟨f,_,.skip,?_,.inr ⟨rfl,rfl⟩,Move.setObj O hg (r:=.map (gT.modify j fun V=>{ V with key:=Ct f H,val:=Ct f u }) clock) ⟨_,_,rfl,?_⟩,Wf.put M hg ?_,trivial⟩
    ·simp only[execOp,Q,Instr.mapUpdate,Bl F hm,Bl F L,Bl F C]
     simp only[Ct,Sem.run_bind,D7 hT w hu,aJ,D,Rb hT h1,hf,eD,J,Instr.keyThatStays,A74 h1,bK,aU,E]
    ·rw[List.map_set,<-G]
     apply dF;intro q;simp only[Array.toList_modify,bH,List.getElem?_modify,cW,bk];by_cases W:j=q
     ·subst W
      have B:j<gT.toList.length:=by
       have:=(aY.1 b2).1;have e:=congrArg List.length G;simp only[bk]at e;omega
      simp at B;simp[B]
     ·simp[W]
    ·intro e' d
     rcases cZ d with d|rfl
     ·exact U e' d
     ·exact⟨Fg K L,Fg K C⟩
   next y=>
    cases h2;have hf:=Wx (w:=w) (f:=f) hT h1 G y;refine⟨f,_,.skip,?_,.inr ⟨rfl,rfl⟩,Move.setObj O hg (r:=.map (gT.push { key:=Ct f H,val:=Ct f u,born:=clock }) (clock+1)) ⟨_,_,rfl,?_⟩,Wf.put M hg ?_,trivial⟩
    ·simp only[execOp,Q,Instr.mapUpdate,Bl F hm,Bl F L,Bl F C]
     simp only[Ct,Sem.run_bind,D7 hT w hu,aJ,D,Rb hT h1,hf,Option.map_none,aU,E]
    ·simp[G]
    ·intro e' d
     rcases bN.1 d with d|d
     ·exact U e' d
     ·simp only[aP]at d;subst d;exact⟨Fg K L,Fg K C⟩
   ·cases h2
  ·cases h2
 ·cases A
end
end
section
section
variable{w:World}
theorem Uc.world(d:Uc f h w)(e:w'.heap=w.heap):Uc f h w':=⟨fun i o j=>by rw[e];exact d.obj i o j,d.inj⟩
theorem yP(mx:Bool)(k:IntKind):∀{l:List EV} {a:Int} {v:EV},iH mx k a l=some v->(∃b,v=.int k b) /\
 (l.map (Ct f)).foldlM (m:=Sem) (if mx=true then Builtin.max2 else Builtin.min2) (.int k a)=(pure (Ct f v):Sem Value)
 | [],a,v,h=>by simp only[iH]at h;cases h;exact⟨⟨a,rfl⟩,rfl⟩
 | .int k' b::r,a,v,h=>by
  simp only[iH]at h;obtain⟨h1,h2⟩:=yP mx k h;refine⟨h1,?_⟩;rw[dT,List.foldlM_cons,<-h2];cases mx
  ·simp only[aX,ak,Ct,Builtin.min2,Br,qS,aS]
   rfl
  ·simp only[bK,Ct,Builtin.max2,Br,qS,aS,gt_iff_lt]
   rfl
 | .bool _::_,_,_,h=>by simp[iH]at h
 | .str _::_,_,_,h=>by simp[iH]at h
 | .ptr _ _::_,_,_,h=>by simp[iH]at h
 | .Cl::_,_,_,h=>by simp[iH]at h
 | .slice _ _ _ _ _::_,_,_,h=>by simp[iH]at h
 | .tail _ _ _::_,_,_,h=>by simp[iH]at h
 | .Aq::_,_,_,h=>by simp[iH]at h
 | .odd _::_,_,_,h=>by simp[iH]at h
 | .map _::_,_,_,h=>by simp[iH]at h
 | .Am2::_,_,_,h=>by simp[iH]at h
 | .chan _::_,_,_,h=>by simp[iH]at h
 | .Afh::_,_,_,h=>by simp[iH]at h
 | .func _ _ _::_,_,_,h=>by simp[iH]at h
 | .Vz _::_,_,_,h=>by simp[iH]at h
 | .Aid::_,_,_,h=>by simp[iH]at h
 | .Acv::_,_,_,h=>by simp[iH]at h
 | .agg _::_,_,_,h=>by simp[iH]at h
 | .tuple _::_,_,_,h=>by simp[iH]at h
theorem yQ {x:EV}(d:lenOf x=some n):∃b c,Ct f x=.slice b n c:=by
 unfold lenOf at d;split at d<;>first|(cases d;exact⟨_,_,rfl⟩)|(cases d)
theorem th(j:Ug p h)(u:Uc f h w){size:Nat}{x:EV}{l:List EV}(d:cellsOf h size n x=some l):
 (Builtin.firstCells size n (Ct f x)).run P w=.ok (Bw f l).toArray w/\EV.Ud p l/\l.all EV.one=true/\l.length=n*size:=by
 unfold cellsOf at d;split at d
 ·obtain⟨h1,h2⟩:=Ap d
  cases h2;have:=aK h1;subst this;exact⟨by simp[Ct,Builtin.firstCells,Bw],trivial,rfl,by simp⟩
 next i off a b c=>
  rw[Br]at d;split at d
  next h1=>
   cases d;have:=aK h1;subst this;refine⟨?_,trivial,rfl,by simp⟩;simp[Ct,Builtin.firstCells,Bw,loadCells,loadCellsFrom]
  ·obtain⟨h1,h2,y,h4,_⟩:=vB (P:=P) j u d
   exact⟨by simp only[Ct,Builtin.firstCells];exact h1,h2,y,h4⟩
 ·obtain⟨h1,h2⟩:=Ap d
  cases h2;have:=aK h1;subst this;refine⟨?_,trivial,rfl,by simp⟩;simp[Ct,Builtin.firstCells,Bw,loadCells,loadCellsFrom]
 ·cases d
variable (hT:Qu P T)
include hT
theorem yR {st u e':TypeId}(D:T.T8 st=some (.slice e))(hu:T.T8 u=some (.slice e')){size:Nat}(hs:T.size e=some size){z:List EV}(E:T.zero e=some z)
 {sLen sCap G:Nat} {H:Option Addr} {Bt new:Array Value} (A:¬sLen+n<=sCap) (S:sLen<=1048576) (U:n<=65536)
 (h1:∀d,(Builtin.firstCells size sLen (.slice base sLen sCap)).run P { w with drawn:=d }=.ok Bt { w with drawn:=d })
 (h2:∀d,(Builtin.firstCells size n (.slice H n G)).run P { w with drawn:=d }=.ok new { w with drawn:=d }) :
 ∃cap rest,sLen+n<=cap/\rest.size=(cap-(sLen+n))*size /\
  (Builtin.append_ #[st,u] ty #[.slice base sLen sCap,.slice H n G]).run P w=.ok (.slice (some ⟨w.heap.size,0,none⟩) (sLen+n) cap) { w with drawn:=w.drawn+1,heap:=w.heap.push (.cells (Bt++new++rest) e) }:=by
 have⟨f⟩:Nonempty Loc:=⟨⟨id,id⟩⟩;obtain⟨x,V,M,C,_,_,W,i,i1,i2,i3⟩:=oH hT f w E;obtain⟨J,K,X,Y⟩:=hT.size e size hs;have hi:J=i:=by rw[i1]at K;cases K;rfl
 subst hi;have hb:Builtin.nextslicecap (sLen+n) sCap<=4000000:=by
  unfold Builtin.nextslicecap;split
  ·omega
  ·split
   ·omega
   ·simp only[Builtin.growBy]
    repeat' split
    all_goals omega
 have B:¬(2^48<Builtin.nextslicecap (sLen+n) sCap*J.bytes):=by
  have:=gU hb i3;omega
 refine⟨(Question.appendCap (sLen+n) sCap e).cut (w.tape w.drawn (.appendCap (sLen+n) sCap e)),Builtin.zeroCells (Ct f x).cells ((Question.appendCap (sLen+n) sCap e).cut (w.tape w.drawn (.appendCap (sLen+n) sCap e))-(sLen+n)),?_,?_,?_⟩
 rotate_left 2
 ·have j:¬(((sLen+n:Nat):Int)>IntKind.i64.max):=by
   have e2:IntKind.i64.max=9223372036854775807:=rfl;omega
  have F:∀d,(zeroValue e).run P { w with drawn:=d }=.ok (Ct f x) { w with drawn:=d }:=by
   intro d;obtain⟨y,_,Z,y3,_⟩:=oH hT f { w with drawn:=d } E;obtain⟨O,v,xx,L,Q,a3,_⟩:=hT.zero e z E;simp only[zeroValue,typeInfo,Sem.run_bind,gI,i1,aJ,aU]at C⊢;rw[i1]at L;cases L;rw[Q]at C⊢;simp only[aU,Result.ok.injEq]at C⊢;exact⟨C.1,trivial⟩
  simp only[Builtin.append_,Sem.run_bind,cI,bL,bm,D7 hT w D,D7 hT w hu,G7 hT w hs,aJ,aU,Builtin.lenOf,aX,ak,A];simp only[j,hH,ak,Sem.run_bind,aU,aJ,typeInfo,gI,i1,gt_iff_lt,B,run_choose,Question.forced,aX,run_askRoom,h1,h2,F,dI,bK];rfl
 ·simp only[Question.cut];omega
 ·rw[Builtin.zeroCells]
  have e1:(Ct f x).cells.size=size:=by rw[Tv,<-M];simp[Dh];omega
  simp[e1]
end
end
section
def kZ(P:Program)(s:Sem Value)(p:Nat->Prop)(f:Loc)(h:Ab)(w:World)(v:EV)(h':Ab):Prop:=
 ∃f' w',s.run P w=.ok (Ct f' v) w'/\Move p f h w f' h' w'/\Wf p h h'/\v.ok (grow p h h')
section
variable{w:World}(hT:Qu P T)
include hT
theorem yS(u:Ug p h)(C:Uc f h w){l:List EV}(A:EV.Ud p l)(h1:l.all EV.one=true){size:Nat}(B:m<=cap){rest:Array Value}(j:rest.size=(cap-m)*size){Bt new:List EV}(y:l=Bt++new)(d:Nat):
 Move p f h w (f.set h.next w.heap.size (cap-m)) (h.new (.vec l e size)) { w with drawn:=d,heap:=w.heap.push (.cells ((Bw f Bt).toArray++(Bw f new).toArray++rest) e) }/\Wf p h (h.new (.vec l e size)) /\
  Ct (f.set h.next w.heap.size (cap-m)) (.slice h.next 0 m m true)=.slice (some ⟨w.heap.size,0,none⟩) m cap:=by
 refine⟨Move.new u C _ rfl ?_ rfl rfl rfl,Wf.new u ⟨oI A,h1⟩,?_⟩
 ·refine⟨rest.toList,?_,by simp[j,Loc.vw]⟩
  rw[<-Hj (f.Rc _ _ u.fresh) l A,y,Sv];congr 1;apply fC;simp
 ·simp only[Ct,Loc.jA,Loc.vw,bK]
  congr 1;omega
theorem Bbz(C:Ug p h)(G:Uc f h w){st u e':TypeId}{s x:EV}(hs:s.ok p)(hu:T.T8 u=some (.slice e'))(A:append T st s x h=some (v,h')):
 kZ P (Builtin.append_ #[st,u] ty #[Ct f s,Ct f x]) p f h w v h':=by
 unfold append at A;split at A
 next e D=>
  split at A
  next size z E hz=>
   split at A
   next n hn=>
    obtain⟨bx,cx,L⟩:=yQ (f:=f) hn;rw[Br]at A;split at A
    next h0=>
     have:=aK h0;subst this;have Y:∀(size:Nat),(Builtin.firstCells size 0 (.slice bx 0 cx)).run P w=.ok #[] w:=by
      intro size;cases bx<;>simp[Builtin.firstCells,loadCells,loadCellsFrom]
     split at A
     next i off y room op=>
      obtain⟨h1,h2⟩:=Ap A;cases h2;simp only[dO]at h1;refine⟨f,w,?_,Move.refl G,Wf.refl C,by rw[Kt p h h rfl];exact hs⟩;rw[L];have hle:y<=(if op=true then room+f.sp i else room):=by split<;>omega
      simp only[Ct,Builtin.append_,Sem.run_bind,cI,bL,bm,D7 hT w D,D7 hT w hu,G7 hT w E,aJ,aU,Builtin.lenOf,aX,ak,dU,hle,bK,dI,Y];simp[storeCells]
     ·cases A
      refine⟨f,w,?_,Move.refl G,Wf.refl C,trivial⟩;rw[L];simp only[Ct,Builtin.append_,Sem.run_bind,cI,bL,bm,D7 hT w D,D7 hT w hu,G7 hT w E,aJ,aU,Builtin.lenOf,aX,ak,dU,aE,bK,dI,Y]
     ·cases A
    next h0=>
     obtain⟨J,h2⟩:=Ap A;simp only[dO]at J;split at h2
     next new M=>
      obtain⟨n1,n2,n3,n4⟩:=th (P:=P) C G M;have nd:∀d,(Builtin.firstCells size n (.slice bx n cx)).run P { w with drawn:=d }=.ok (Bw f new).toArray { w with drawn:=d }:=by
       intro d;rw[<-L];exact(th (P:=P) C (G.world (w':={ w with drawn:=d }) rfl) M).1
      split at h2
      ·cases h2
       have a0:n≠0:=fun e=>h0 (by rw[e];rfl)
       obtain⟨cap,rest,V,W,X⟩:=yR (w:=w) (ty:=ty) hT D hu E hz (base:=none) (sLen:=0) (sCap:=0) (Bt:=(Bw f []).toArray) a_ a_ J
        (by intro d;simp[Builtin.firstCells,Bw]) nd
       simp only[bP]at V W X;obtain⟨F,k2,Z⟩:=yS hT C G (e:=e) (l:=new) n2 n3 V W (Bt:=[]) rfl (w.drawn+1);refine⟨_,_,?_,F,k2,.inr ⟨aE _,by rw[Ab.D4];omega⟩⟩;rw[Z,L];exact X
      next i off y room op=>
       obtain⟨O,Q⟩:=Ap h2;simp only[dO]at O;split at Q
       next Bt hold=>
        obtain⟨o1,o2,o3,o4⟩:=th (P:=P) C G hold;have od:∀d,(Builtin.firstCells size y (Ct f (.slice i off y room op))).run P { w with drawn:=d }=.ok (Bw f Bt).toArray { w with drawn:=d }:=by
         intro d;exact(th (P:=P) C (G.world (w':={ w with drawn:=d }) rfl) hold).1
        have hok:EV.Ud p (Bt++new):=qV o2 n2;have B:(Bt++new).all EV.one=true:=Bc8 o3 n3;rw[Br]at Q;split at Q
        next H=>
         subst H;obtain⟨c1,h4⟩:=Ap Q;obtain⟨c2,h5⟩:=Ap h4;clear Q h4;have:=aK c1;subst this;have:=aK c2;subst this;split at h5
         next l e1 s1 hg=>
          obtain⟨c3,h6⟩:=Ap h5;obtain⟨c4,h7⟩:=Ap h6;obtain⟨c5,h8⟩:=Ap h7;clear h5 h6 h7;rw[Wg]at c3;have K:=aK c3;have:=aK c4;subst this;have:=aK c5;subst this;cases h8;simp only[Nat.mul_eq]at K;by_cases S:n<=f.sp i
          ·
           obtain⟨r,a1,more,a2,a5⟩:=G.obj i _ hg;subst a2;have ah:Bt=l:=by
            unfold cellsOf at hold;simp only at hold;rw[Br]at hold;split at hold
            next ai=>
             have:=aK ai;subst this;cases hold;simp at K;exact K.symm
            ·unfold Jo at hold
             rw[hg]at hold;obtain⟨_,q2⟩:=sZ hold;rw[Td]at q2;rw[q2];simp only[dE,Nat.mul_eq];rw[<-K,bY]
           subst ah;have a9:n*s1<=more.length:=by rw[a5];exact Nat.mul_le_mul_right _ S
           have aa:=run_storeCells_at (P:=P) (f.b i) (room*s1) e1 (Bw f new) 0 (Bw f Bt++more).toArray w a1 (by simp only[Dh,dh,aF];omega) (QB f new (by simpa using n3));refine⟨f.set h.next (f.b i) (f.sp i-n),w.setRow (f.b i) (Bw f Bt++Bw f new++more.drop (n*s1)).toArray,?_,Move.vA C G hg (f.sp i-n) (r:=.cells (Bw f (Bt++new)++more.drop (n*s1)).toArray e1 (0,0)) ?_ ?_ (fun b hb=>setRow_other _ _ _ _ hb) (setRow_size _ _ _) rfl rfl rfl,Wf.vA C i ⟨oI hok,B⟩,.inr ⟨aE _,by rw[Ab.D4,Ab.xF];omega⟩⟩
           rotate_left 1
           ·rw[setRow_heap w (f.b i) _ _ e1 (0,0) a1,Sv]
           ·refine⟨more.drop (n*s1),?_,?_⟩
            ·rw[Hj (f.Rc _ _ C.fresh) (Bt++new) hok]
            ·rw[Loc.vw,bA,a5,Nat.sub_mul]
           ·rw[L]
            have hle:room+n<=room+f.sp i:=a_
            simp only[Ct,Builtin.append_,Sem.run_bind,cI,bL,bm,D7 hT w D,D7 hT w hu,G7 hT w E,aJ,aU,Builtin.lenOf,aX,ak,bK,hle,dI,Loc.jA,Loc.vw];rw[<-L,n1];simp only[aJ,Sem.run_bind,Vd,bP,aa,aU];congr 1
            ·congr 1
             simp only[Nat.add_eq];omega
            ·congr 1
             simp only[dU,Dh];rw[fM (by rw[Dh];omega),bS (by rw[Dh];omega)];rw[List.drop_append,dc (by rw[Dh];omega)];simp only[Dh,cU];congr 4;omega
          ·obtain⟨cap,rest,V,W,X⟩:=yR (w:=w) (ty:=ty) hT D hu E hz (base:=some ⟨f.b i,0,none⟩) (sLen:=room) (sCap:=room+f.sp i) (Bt:=(Bw f Bt).toArray) a_ O J
            (by intro d;simpa [Ct]using od d) nd
           obtain⟨F,_,Z⟩:=yS hT (C.del i) (G.sub vz) (e:=e1) (l:=Bt++new) hok B V W rfl (w.drawn+1);refine⟨f.set h.next w.heap.size (cap-(room+n)),_,?_,⟨F.F0,F.rep,fun b hb hn=>F.kept b hb (fun j q hj=>hn j q (vz j q hj)),F.size,F.tape,F.os,F.output,fun j q hj=>(F.own j q hj).imp id (fun⟨k,q',hk,e⟩=>⟨k,q',vz k q' hk,e⟩)⟩,
            Wf.vA C i ⟨oI hok,B⟩,.inr ⟨aE _,by rw[Ab.D4,Ab.xF];omega⟩⟩
           rw[show Ct (f.set h.next w.heap.size (cap-(room+n))) (.slice h.next 0 (Nat.add room n) (Nat.add room n) true)=_ from Z,L];simpa [Ct]using X
         ·cases h5
        next H=>
         have U:op=false:=by simpa using H
         subst U;obtain⟨c1,h4⟩:=T5 Q;cases h4;have hc:¬y+n<=room:=by
          intro e;have:=oG e;rw[show Nat.add y n=y+n from rfl]at c1;rw[this]at c1;cases c1
         obtain⟨cap,rest,V,W,X⟩:=yR (w:=w) (ty:=ty) hT D hu E hz (base:=some ⟨f.b i,off,none⟩) (sLen:=y) (sCap:=room) (Bt:=(Bw f Bt).toArray) hc O J
          (by intro d;simpa [Ct]using od d) nd
         obtain⟨F,k2,Z⟩:=yS hT C G (e:=e) (l:=Bt++new) hok B V W rfl (w.drawn+1);refine⟨_,_,?_,F,k2,.inr ⟨aE _,by rw[Ab.D4];omega⟩⟩;rw[show Ct (f.set h.next w.heap.size (cap-(y+n))) (.slice h.next 0 (Nat.add y n) (Nat.add y n) true)=_ from Z,L];simpa [Ct]using X
       ·cases Q
      ·cases h2
     ·cases h2
   ·cases A
  ·cases A
 ·cases A
end
end
section
theorem RC:∀l:List UInt8,yF l=l.length
 | []=>rfl
 | _::r=>congrArg Nat.succ (RC r)
section
variable{w:World}(hT:Qu P T)
include hT
omit hT in
theorem kZ.stay(d:Ug p h)(j:Uc f h w){s:Sem Value}(hs:s.run P w=.ok (Ct f v) w)(u:v.ok p):kZ P s p f h w v h:=
 ⟨f,w,hs,Move.refl j,Wf.refl d,by rw[Kt p h h rfl];exact u⟩
theorem Bob(E:Ug p h)(F:Uc f h w){t u ty e e':TypeId}{d s:EV}(H:T.T8 t=some (.slice e)){size dn j:Nat}(hs:T.size e=some size)(hd:lenOf d=some dn)(B:lenOf s=some j)
 (J:n=Bc (Nat.ble j dn) j dn) {cs:List EV} (K:cellsOf h size n s=some cs) {a b:Nat} {op:Bool} (C:d=.slice i off a b op) (hw:My h i off cs=some h') :
 kZ P (Builtin.copy_ #[t,u] ty #[Ct f d,Ct f s]) p f h w (.int .i64 (.ofNat n)) h':=by
 obtain⟨G,L,n3,n4⟩:=th (P:=P) E F K;obtain⟨bs,S,y⟩:=yQ (f:=f) B;obtain⟨w',M,O,Q⟩:=QY (P:=P) E F hw L n3;subst C;have D:dn=a:=by simp only[lenOf]at hd;cases hd;rfl
 subst D;have A:Nat.min j dn=n:=by
  rw[J,Br];show min j dn=_;by_cases hle:j<=dn
  ·rw[aI (oG hle)];omega
  ·rw[aG (by rw[qN hle];simp)];omega
 refine⟨f,w',?_,O,Q,trivial⟩;rw[y];rw[y]at G;simp only[Ct,Builtin.copy_,Sem.run_bind,cI,bL,bm,D7 hT w H,aJ,Builtin.lenOf,aU,G7 hT w hs,A,G,M];rfl
theorem Bae(G:Ug p h)(F:Uc f h w){b:Builtin}{cs:Array Bool}(S:EV.Ud p args)(A:builtin T b ts args h=some (v,h')):
 ∃s,(Go.builtin b ts ty cs (Bw f args).toArray)=(do pure (.value (←s)):Sem Next)/\kZ P s p f h w v h':=by
 unfold builtin at A;split at A
 next s x=>
  split at A
  next t u C=>
   have B:ts = #[t,u]:=by apply fC;simpa using C
   subst B;split at A
   next e' hu=>
    exact⟨_,rfl,Bbz hT G F S.1 hu A⟩
   ·cases A
  ·cases A
 next x=>
  split at A
  next t C=>
   have B:ts = #[t]:=by apply fC;simpa using C
   subst B;refine⟨_,rfl,?_⟩;split at A
   next n e hu=>
    cases A;exact kZ.stay G F (by simp[Builtin.len_,D7 hT w hu,Bw,Ct,goInt]) trivial
   next e y hu=>
    split at A
    next n U=>
     cases A;obtain⟨bx,cx,J⟩:=yQ (f:=f) U;exact kZ.stay G F (by simp[Builtin.len_,D7 hT w hu,Bw,J,goInt,Ct]) trivial
    ·cases A
   next s hu=>
    cases A;exact kZ.stay G F (by simp[Builtin.len_,D7 hT w hu,Bw,Ct,goInt,RC]) trivial
   next d e i hu=>
    split at A
    next c buf hg=>
     cases A;obtain⟨r,K,s1,c1,M⟩:=F.obj i _ hg;subst M;have E:=Om (P:=P) K (by intro c e z J;cases J);exact kZ.stay G F (by simp[Builtin.len_,D7 hT w hu,Bw,Ct,E,goInt,Wg,Dh]) trivial
    ·cases A
   ·cases A
  ·cases A
 next d s=>
  split at A
  next t u C=>
   have B:ts = #[t,u]:=by apply fC;simpa using C
   subst B;split at A
   next e e' V hu=>
    split at A
    next size dn sn hs hd O=>
     obtain⟨_,A⟩:=T5 A;split at A
     next W X=>
      split at A
      ·split at A
       next Y hw=>
        cases A;exact⟨_,rfl,Bob hT G F (e':=e') V hs hd O rfl X rfl hw⟩
       ·cases A
      ·cases A
     ·cases A
    ·cases A
   ·cases A
  ·cases A
 next m k=>
  split at A
  next t tr C=>
   have h0:ts[0]? = some t:=by
    have:ts.toList[0]? = some t:=by rw[C];rfl
    simpa using this
   split at A
   next kt e i hu=>
    obtain⟨h1,h2⟩:=Ap A;split at h2
    next es hg=>
     obtain⟨r,K,gT,clock,M,L⟩:=F.obj i _ hg;obtain⟨_,Q⟩:=G.get i _ hg;subst M;have E:=Om (P:=P) K (by intro c e z J;cases J);have H:=fun o'=>Q7 (P:=P) (o':=o') K (by intro c e z J;cases J)
     refine⟨_,rfl,?_⟩;split at h2
     next j u' D=>
      cases h2;have hf:=Wx (w:=w) (f:=f) hT h1 L D;refine⟨f,_,?_,Move.setObj F hg (r:=.map (gT.eraseIdxIfInBounds j) clock) ⟨_,_,rfl,?_⟩,Wf.put G hg (fun q Z=>Q q (List.mem_of_mem_eraseIdx Z)),trivial⟩
      ·simp only[Builtin.delete_,Bw,Ct,Sem.run_bind,cI,bL,bm,h0,D7 hT w hu,aJ,E,Rb hT h1,hf,eD,H,aU]
      ·have e1:(gT.eraseIdxIfInBounds j).toList=gT.toList.eraseIdx j:=by
        rw[Array.eraseIdxIfInBounds_eq];split
        ·simp
        next hj=>
         rw[List.eraseIdx_of_length_le (by simpa using hj)]
       rw[e1,List.eraseIdx_eq_take_drop_succ,List.eraseIdx_eq_take_drop_succ];simp only[cM,List.map_take,List.map_drop,L]
     next D=>
      cases h2;have hf:=Wx (w:=w) (f:=f) hT h1 L D;refine⟨f,_,?_,Move.setObj F hg (r:=.map gT clock) ⟨_,_,rfl,L⟩,Wf.put G hg Q,trivial⟩;simp only[Builtin.delete_,Bw,Ct,Sem.run_bind,cI,bL,bm,h0,D7 hT w hu,aJ,E,Rb hT h1,hf,Option.map_none,H,aU]
     ·cases h2
    ·cases h2
   ·cases A
  ·cases A
 next k a l=>
  split at A
  next u hm=>
   cases A;obtain⟨⟨c,rfl⟩,h2⟩:=yP (f:=f) false k hm;refine⟨_,rfl,kZ.stay G F ?_ trivial⟩;simp only[Builtin.min_,Bw,List.toList_toArray,Ct,Q3];simp only[aX,ak,Ct]at h2;rw[h2];rfl
  ·cases A
 next k a l=>
  split at A
  next u hm=>
   cases A;obtain⟨⟨c,rfl⟩,h2⟩:=yP (f:=f) true k hm;refine⟨_,rfl,kZ.stay G F ?_ trivial⟩;simp only[Builtin.max_,Bw,List.toList_toArray,Ct,Q3];simp only[bK,Ct]at h2;rw[h2];rfl
  ·cases A
 ·cases A
end
end
section
structure FB where
 fn:Nat
 defers:List Deferred
 Dy:Option Nat
def FB.at(b:FB)(tmps:Array Value)(todo:List Item):Frame:={ fn:=b.fn,tmps,todo,defers:=b.defers,mode:=.run,kind:=.normal,roundOf:=b.Dy }
def Jk(tmps:Array Value):Operand->Value:=(Act.mk tmps []).eval
def oJ(tmps:Array Value)(d:Option Tmp)(v:Value):Array Value:=
 match d with
 | some d=>tmps.setIfInBounds d v
 | none=>tmps
theorem FB.eval_at(b:FB)(tmps:Array Value)(todo:List Item):(b.at tmps todo).eval=Jk tmps:=by funext x;cases x<;>rfl
theorem FB.finish_at(b:FB)(tmps:Array Value)(d:ops[i]? = some o)(rest:List Nat)(k:List Item)(v:Value):
 (b.at tmps (.inRegion ops (i::rest)::k)).finish v=b.at (oJ tmps o.dst v) (.inRegion ops rest::k):=by
 cases hd:o.dst<;>simp[Frame.finish,FB.at,oJ,d,hd]
def pK:Op->Bool
 | .defer _=>true
 | _=>false
section
variable{b:FB}{rest:List Nat}{k:List Item}{cs:List Frame}{w:World}
theorem ti(u:ops[i]? = some o)(hw:Region.wanted o (Go.yielded ops tmps)=true)(hd:pK o.op=false):
 stepG P true { frame:=b.at tmps (.inRegion ops (i::rest)::k),callers:=cs,status:=.running,dying:=none } w =
  stepG.apply P true (b.at tmps (.inRegion ops (i::rest)::k)) cs none (execOp (Jk tmps) o) w:=by
 have he:=FB.eval_at b tmps (.inRegion ops (i::rest)::k);simp only[FB.at]at he;cases j:b.Dy<;>cases d:o.op<;>simp[stepG,stepG.exec,stepG.oper,Frame.oper?,FB.at,u,hw,j,d]<;>first|(rw[j]at he;rw[he];done)|(simp[d,pK]at hd)
theorem A3t(d:ops[i]? = some o)(hw:Region.wanted o (Go.yielded ops tmps)=true)(hd:pK o.op=false){v:Value}
 (j:(execOp (Jk tmps) o).run P w=.ok (.value v) w') :
 step P (lone (b.at tmps (.inRegion ops (i::rest)::k)) cs w)=.next (lone (b.at (oJ tmps o.dst v) (.inRegion ops rest::k)) cs w'):=by
 refine cJ ?_;rw[ti d hw hd,<-FB.finish_at b tmps d];simp[stepG.apply,j]
theorem A6n(d:ops[i]? = some o)(hw:Region.wanted o (Go.yielded ops tmps)=true)(hd:pK o.op=false)
 (j:(execOp (Jk tmps) o).run P w=.ok .skip w') :
 step P (lone (b.at tmps (.inRegion ops (i::rest)::k)) cs w)=.next (lone (b.at (oJ tmps o.dst undef) (.inRegion ops rest::k)) cs w'):=by
 refine cJ ?_;rw[ti d hw hd,<-FB.finish_at b tmps d];simp[stepG.apply,j]
theorem A3g(d:ops[i]? = some o)(hw:Region.wanted o (Go.yielded ops tmps)=true)(hd:pK o.op=false){g:FuncId}{args:Array Value}
 (j:(execOp (Jk tmps) o).run P w=.ok (.enter g args) w') :
 step P (lone (b.at tmps (.inRegion ops (i::rest)::k)) cs w)=.next (lone (Frame.enter P g args .normal) (b.at tmps (.inRegion ops (i::rest)::k)::cs) w'):=by
 refine cJ ?_;rw[ti d hw hd];simp[stepG.apply,j,FB.at]
theorem A30(d:ops[i]? = some o)(hw:Region.wanted o (Go.yielded ops tmps)=true)(hd:pK o.op=false){l g:Nat}{ts:Array Value}{d' body:Code}
 (j:(execOp (Jk tmps) o).run P w=.ok (.round l g ts d' body) w') :
 step P (lone (b.at tmps (.inRegion ops (i::rest)::k)) cs w)=.next (lone (Frame.round l g ts d' body .normal) (b.at tmps (.inRegion ops (i::rest)::k)::cs) w'):=by
 refine cJ ?_;rw[ti d hw hd];simp[stepG.apply,j,FB.at]
theorem RD(d:ops[i]? = some o)(hw:Region.wanted o (Go.yielded ops tmps)=false):
 step P (lone (b.at tmps (.inRegion ops (i::rest)::k)) cs w)=.next (lone (b.at (oJ tmps o.dst undef) (.inRegion ops rest::k)) cs w):=by
 refine cJ ?_;rw[<-FB.finish_at b tmps d];simp[stepG,stepG.exec,FB.at,d,hw]
theorem RE:step P (lone (b.at tmps (.inRegion ops []::k)) cs w)=.next (lone (b.at tmps k) cs w):=
 cJ (by simp[stepG,stepG.exec,FB.at])
end
def jm(P:Program)(o:Oper)(tmps:Array Value)(p:Nat->Prop)(f:Loc)(h:Ab)(w:World)(v:EV)(h':Ab):Prop:=
 ∀(b:FB) (ops:Array Oper) (i:Nat) (rest:List Nat) (k:List Item) (cs:List Frame),ops[i]? = some o->Region.wanted o (Go.yielded ops tmps)=true ->
  ∃f' w',Steps P (lone (b.at tmps (.inRegion ops (i::rest)::k)) cs w) (lone (b.at (oJ tmps o.dst (Ct f' v)) (.inRegion ops rest::k)) cs w') /\
   Move p f h w f' h' w'/\Wf p h h'/\v.ok (grow p h h')
theorem jm.kL{w:World}(hd:pK o.op=false)
 (he:kY P (execOp (Jk tmps) o) p f h w v h'):jm P o tmps p f h w v h':=by
 intro b ops i rest k cs d hw;obtain⟨f',w',N,h1,h2,j,h4,u⟩:=he;refine⟨f',w',?_,j,h4,u⟩;rcases h2 with rfl|⟨rfl,rfl⟩
 ·exact .one (A3t d hw hd h1)
 ·exact .one (A6n d hw hd h1)
def kX(P:Program)(c:Ah):Prop:=
 ∀g args h v h',c g args h=some (v,h')->(∃fn,P.funcs[g]? = some fn/\fn.body.isSome=true/\(fn.name == "runtime.NumGoroutine")=false) /\
  ∀p f w,Ug p h->Uc f h w->EV.Ud p args->∀cs,∃fr f' w',Steps P (lone (Frame.enter P g (Bw f args).toArray .normal) cs w) (lone fr cs w')/\fr.fn=g /\
   fr.leaving P w' (.returned (Ct f' v))/\Move p f h w f' h' w'/\Wf p h h'/\v.ok (grow p h h')
def pF(P:Program)(c:Ah):Prop:=
 ∀l args h v h',c l args h=some (v,h')->∃st u fn n tm ps d' body d j,h.get l=some (.loop st u fn n tm ps d' body d)/\Ww ps args n tm=some j /\
  ∀p f w,Ug p h->Uc f h w->EV.Ud p args->∀caller cs,∃f' w',Steps P (lone (Frame.round (f.b l) fn (Bj f n j) d' body .normal) (caller::cs) w) (lone (caller.finish (Ct f' v)) cs w') /\
   Move p f h w f' h' w'/\Wf p h h'/\v.ok (grow p h h')
theorem Bo5(n:Nat)(tm:Bb)(d:Nat)(v:EV):Bc (Nat.ble (Nat.succ d) n) (tm.put d (some v)) tm=Qm n tm (some d) v:=rfl
theorem yC(f:Loc):∀{ps:List Tmp} {args:List EV} {tm d:Bb},Ww ps args n tm=some d->EV.Ud p args->L9 p n tm ->
 ps.length=args.length/\L9 p n d/\(ps.zip (Bw f args)).foldl (fun tmps (x:Tmp × Value)=>tmps.setIfInBounds x.1 x.2) (Bj f n tm)=Bj f n d
 | [],[],tm,d,h,_,j=>by cases h;exact⟨rfl,j,rfl⟩
 | q::r,v::s,tm,d,h,u,j=>by
  simp only[Ww,Bo5]at h;obtain⟨h1,h2,y⟩:=yC f h u.2 (j.put (some q) u.1);refine⟨by simp[h1],h2,?_⟩;simp only[Bw,List.zip_cons_cons,List.foldl_cons];rw[QI];exact y
 | [],_::_,_,_,h,_,_=>by cases h
 | _::_,[],_,_,h,_,_=>by cases h
theorem Tq(d:L9 p n tm):Reads f tm (Jk (Bj f n tm)) where
 tmp t:=by simp only[Jk,Act.eval];exact sY f d t
 const v:=rfl
 func g:=rfl
end
section
section
variable{w:World}(hT:Qu P T)
theorem Bre{a b:EV}(d:bin T op t a b=some v):v.ok p:=by
 unfold bin at d;split at d
 next k a k' b=>
  rw[Br]at d;split at d
  ·split at d
   ·unfold vi at d
    split at d
    ·cases d;trivial
    ·split at d<;>(cases d;trivial)
    ·cases d
   ·cases d
  ·rw[Br]at d
   split at d
   ·unfold qE at d
    split at d
    all_goals first
     | (cases d;done)
     | (cases d;trivial)
     | (obtain⟨_,h2⟩:=T5 d;cases h2;trivial)
     | (split at d<;>first|(cases d;done)|(cases d;trivial))
   ·cases d
 ·split at d
  ·split at d<;>first|(cases d;trivial)|cases d
  ·split at d<;>first|(cases d;trivial)|cases d
  ·cases d
theorem RF{cs:List EV}(j:EV.Ud p cs)(h1:cs.all EV.one=true)(d:part T t cs off=some v):v.ok p:=by
 unfold part at d;split at d
 ·split at d
  ·split at d
   next n y l u=>
    cases d;obtain⟨_,h2⟩:=sZ u;rw[h2,Td];exact⟨QU j _ _,QV h1 _ _⟩
   ·cases d
  ·cases d
 ·split at d
  next A r hd=>
   cases d;rw[Td]at hd;exact(I9 p cs).1 j _ (aH (by rw[hd];exact aW))
  ·cases d
 ·cases d
theorem RG {x:EV}{size:Nat}(j:x.ok p)(d:je x size lo hi mx=some v):v.ok p:=by
 unfold je at d;split at d
 next i off len room op=>
  have hp:p i:=j;split at d
  ·split at d
   ·cases d
   ·split at d
    ·cases d
    ·simp only[Br]at d
     repeat' split at d
     all_goals first|(cases d;exact hp)|cases d
  ·split at d
   ·split at d
    ·cases d
    ·split at d
     ·cases d
     ·cases d;exact hp
   ·cases d
 ·split at d
  ·split at d
   ·cases d
   ·split at d
    ·cases d
    ·cases d;exact j
  ·cases d
 ·cases d
include hT in
theorem Bon(A:L9 p n tm){op:Op}(j:Fh T tm op=some v):v.ok p:=by
 cases op with
 | move x=>exact Fg A j
 | assign x=>exact Fg A j
 | pick c a b=>
  simp only[Fh]at j;split at j
  ·exact Fg A j
  ·exact Fg A j
  ·cases j
 | binOp op t x y u=>
  simp only[Fh]at j;split at j
  ·split at j
   ·exact Bre j
   ·cases j
  ·cases j
 | unOp u t x=>
  cases u<;>simp only[Fh]at j
  all_goals first
   | (split at j<;>first|(cases j;trivial)|cases j)
   | cases j
 | nilCheck x=>
  simp only[Fh]at j;split at j
  next i o' he=>
   cases j;exact Fg A he
  ·cases j
 | fieldAddr s x L=>
  simp only[Fh]at j;split at j
  next i off he=>
   have hp:p i:=Fg A he;split at j
   ·split at j
    ·split at j
     ·obtain⟨_,h2⟩:=T5 j;cases h2;exact hp
     ·cases j
    ·cases j
   ·cases j
  ·cases j
 | indexAddr t x ix=>
  simp only[Fh]at j;split at j
  ·split at j
   next he=>
    split at j
    ·obtain⟨_,h2⟩:=Ap j;cases h2;have:=Fg A he;exact this
    ·cases j
   next he=>
    split at j
    ·obtain⟨_,h2⟩:=Ap j;cases h2;have:=Fg A he;exact this
    ·cases j
   ·cases j
  ·cases j
 | index t x ix=>
  simp only[Fh]at j;split at j
  ·split at j
   next he=>
    split at j
    ·obtain⟨_,h2⟩:=Ap j
     have B:=Fg (v:=.agg _) A he;exact RF B.1 B.2 h2
    ·cases j
   ·split at j
    ·cases j;trivial
    ·cases j
   ·cases j
  ·cases j
 | field t x L=>
  simp only[Fh]at j;split at j
  next he=>
   split at j
   ·have B:=Fg (v:=.agg _) A he
    exact RF B.1 B.2 j
   ·cases j
  ·cases j
 | convert s d x=>
  simp only[Fh]at j;split at j
  ·cases j;trivial
  ·cases j
 | extract x ix=>
  simp only[Fh]at j;split at j
  next l he=>
   split at j
   next Q r hd=>
    cases j;rw[Td]at hd;exact(I9 p l).1 (Fg (v:=.tuple l) A he) _ (aH (by rw[hd];exact aW))
   ·cases j
  ·cases j
 | slice t x lo hi mx=>
  simp only[Fh]at j;split at j
  ·split at j
   next he=>
    split at j
    ·exact RG (x:=.slice _ _ _ _ _) (Fg (v:=.ptr _ _) A he) j
    ·cases j
   next he=>
    split at j
    ·exact RG (Fg A he) j
    ·cases j
   ·cases j
  ·cases j
 | build t ps=>
  have key:∀{z c:List EV} {l:List (Nat × EV)} {pl:Nat->Option (Nat × Nat)},T.zero t=some z->Z8 tm ps.toList=some l->fill pl z l=some c->(EV.agg c).ok p:=by
   intro z c l pl C D hf;obtain⟨i,S,U,_,_,M,K,rfl,_⟩:=hT.zero t z C;have E:=Vh (yG p M) K;have F:=vn A D;have G:=vt pl hf;refine⟨(I9 p c).2 (td pl (q:=fun v=>v.ok p) hf (fun v H=>(I9 p _).1 E.1 v H) (fun q J v H=>(I9 p _).1 (Vh (F q J) (G q J)).1 v H)),?_⟩;rw[dS];exact td pl (q:=fun v=>v.one=true) hf E.2 (fun q J v H=>(Vh (F q J) (G q J)).2 v H)
  simp only[Fh]at j;split at j
  next C D _=>
   split at j
   ·split at j
    next hf=>cases j;exact key C D hf
    ·cases j
   ·cases j
  next C D _=>
   split at j
   ·split at j
    next hf=>cases j;exact key C D hf
    ·cases j
   ·cases j
  ·cases j
 | makeFunc fn a b=>
  cases fn<;>simp only[Fh]at j
  all_goals first
   | (split at j
      next O hb=>cases j;exact⟨qQ A O,qQ A hb⟩
      ·cases j)
   | cases j
 | sliceToArrayPointer t x=>
  simp only[Fh]at j;split at j
  next he=>
   obtain⟨_,h2⟩:=Ap j;cases h2;exact Fg (v:=.slice _ _ _ _ _) A he
  ·cases j
 | _=>cases j
theorem RH(j:Ug p h)(u:Uc f h w){d:List EV}(hg:h.get i=some (.chan cap buf))(hb:EV.Ud p d)(s r:Nat):
 Move p f h w f (h.put i (.chan cap d)) (w.setChan (f.b i) cap (Bw f d).toArray false s r false)/\Wf p h (h.put i (.chan cap d)):=
 ⟨Move.setObj (p:=p) u hg (o':=.chan cap d) (r:=.chan cap (Bw f d).toArray false s r false) ⟨s,r,rfl⟩,Wf.put j hg hb⟩
theorem RI{c:SelectCase}(A:o.op=.select #[c] false){zv:Value}(u:(zeroValue c.elem).run P w=.ok zv w)
 (b:FB) {d:Array Value} (y:execOp (Jk tmps) o=execOp (Jk d) o) (rest:List Nat) (k:List Item) (cs:List Frame) (hi:ops[i]? = some o) (hw:Region.wanted o (Go.yielded ops tmps)=true) :
 ∃es,stepG P true (Conc.G (b.at tmps (.inRegion ops (i::rest)::k)) cs) w=.comm (Conc.G (b.at tmps (.inRegion ops (i::rest)::k)) cs)
  #[{ chan:=Jk d c.chan,send:=c.send.map (Jk d),zero:=zv }] false .select w es:=by
 have:=ti (P:=P) (b:=b) (rest:=rest) (k:=k) (cs:=cs) (w:=w) hi hw (by rw[A];rfl);have j:(execOp (Jk tmps) o).run P w=.ok (.comm #[{ chan:=Jk d c.chan,send:=c.send.map (Jk d),zero:=zv }] false .select) w:=by
  rw[y];simp only[execOp,A];simp[u]
 rw[Conc.G,this];simp only[stepG.apply,Sem.runT_eq,j,GStep.after,bK];exact⟨_,rfl⟩
include hT in
theorem Ba1(F:L9 p n tm)(y:Ug p h)(A:Uc f h w)(B:execOp (Jk tmps) o=execOp (Jk (Bj f n tm)) o){c:SelectCase}(K:o.op=.select #[c] false)
 (L:Cj tm c.chan=some (.chan i)) (hs:c.send=some x) {C:EV} (hg:h.get i=some (.chan cap buf)) (H:Cj tm x=some C) (M:zeroOf T c.elem=some zv)
 (d:Bc (Nat.ble (Nat.succ (len buf)) cap) (some (EV.tuple [.int .i64 0,.bool false],h.put i (.chan cap (buf++[C])))) (some (.tuple [.int .i64 (-1),.bool false],h))=some (v,h')) :
 jm P o tmps p f h w v h':=by
 intro b ops j rest k cs hj hw;have J:=Tq (f:=f) F;obtain⟨r0,u,s,r,rfl⟩:=A.obj i _ hg;have D:=(yO hT (f:=f) (w:=w) M).1;obtain⟨es,he⟩:=RI K D b B rest k cs hj hw;rw[Bl J L,hs,eD,Bl J H]at he;have hok:=(y.get i _ hg).2;by_cases hb:buf.length<cap
 ·rw[Wg,oG a_,Al]at d
  cases d;have E:EV.Ud p (buf++[C]):=qV hok ⟨Fg F H,trivial⟩;obtain⟨m1,m2⟩:=RH y A hg E (s+1) r;refine⟨f,_,.one ?_,m1,m2,?_⟩
  ·have:=Conc.step_lone_select_send_room he u (by simpa [Dh]using hb)
   rw[FB.finish_at b _ hj]at this;simpa [Sv,Bw,Ct,goInt,Conc.solo,Conc.G,lone]using this
  ·simp[EV.ok,EV.Ud]
 ·rw[Wg,qN a_,Bk]at d
  cases d;refine⟨f,w,.one ?_,Move.refl A,Wf.refl y,?_⟩
  ·have:=Conc.step_lone_select_send_full he u (by simpa [Dh]using hb)
   rw[FB.finish_at b _ hj]at this;simpa [Sv,Bw,Ct,goInt,Conc.solo,Conc.G,lone]using this
  ·simp[EV.ok,EV.Ud]
include hT in
theorem Bbc(F:L9 p n tm)(A:Ug p h)(B:Uc f h w)(C:execOp (Jk tmps) o=execOp (Jk (Bj f n tm)) o){c:SelectCase}(H:o.op=.select #[c] false)
 (J:Cj tm c.chan=some (.chan i)) (hs:c.send=none)
 (d:(match buf with
  | v::r=>some (EV.tuple [.int .i64 0,.bool true,v],h.put i (.chan cap r))
  | []=>some (.tuple [.int .i64 (-1),.bool false,zv],h))=some (v,h')) (hg:h.get i=some (.chan cap buf)) (K:zeroOf T c.elem=some zv) :
 jm P o tmps p f h w v h':=by
 intro b ops j rest k cs hj hw;have L:=Tq (f:=f) F;obtain⟨r0,u,s,r,rfl⟩:=B.obj i _ hg;obtain⟨D,E⟩:=yO hT (f:=f) (w:=w) K;obtain⟨es,he⟩:=RI H D b C rest k cs hj hw;rw[Bl L J,hs,Option.map_none]at he;have hok:=(A.get i _ hg).2;cases buf with
 | cons x l=>
  cases d;obtain⟨m1,m2⟩:=RH A B hg hok.2 s (r+1);refine⟨f,_,.one ?_,m1,m2,?_⟩
  ·have:=Conc.step_lone_select_recv_buf he u (by simp[Bw])
   rw[FB.finish_at b _ hj]at this;simpa [Bw,Ct,goInt,Conc.solo,Conc.G,lone]using this
  ·exact⟨trivial,trivial,EV.ok.mono (fun _ hi=>.inl hi) _ hok.1,trivial⟩
 | nil=>
  cases d;refine⟨f,w,.one ?_,Move.refl B,Wf.refl A,?_⟩
  ·have:=Conc.step_lone_sel_default he (by
    intro M y;simp only[List.mem_toArray,aP]at y;subst y;exact Conc.noWay_recv u)
   rw[FB.finish_at b _ hj]at this;simpa [commResult,Bw,Ct,goInt,Conc.solo,Conc.G,lone]using this
  ·exact⟨trivial,trivial,E _,trivial⟩
include hT
theorem Box(D:L9 p n tm)(A:Ug p h)(B:Uc f h w)(u:execOp (Jk tmps) o=execOp (Jk (Bj f n tm)) o)(d:D3 T tm o.op h=some (v,h')):
 jm P o tmps p f h w v h':=by
 have C:=Tq (f:=f) D;cases j:o.op with
 | load t a=>
  rw[j]at d;obtain⟨rfl,h2,E⟩:=Bkt hT C A B j d;refine jm.kL (by rw[j];rfl) ⟨f,w,_,(by rw[u];exact E),.inl rfl,Move.refl B,Wf.refl A,?_⟩;rw[Kt _ _ _ rfl];exact h2
 | store t a x=>rw[j]at d;exact jm.kL (by rw[j];rfl) (by rw[u];exact Bg2 hT C D A B j d)
 | alloc t=>rw[j]at d;exact jm.kL (by rw[j];rfl) (by rw[u];exact Bik hT A B j d)
 | box t x=>rw[j]at d;exact jm.kL (by rw[j];rfl) (by rw[u];exact Bp3 C D A B j d)
 | makeSlice t x y=>rw[j]at d;exact jm.kL (by rw[j];rfl) (by rw[u];exact A3x (n:=n) hT C A B j d)
 | buildSlice t m ps=>rw[j]at d;exact jm.kL (by rw[j];rfl) (by rw[u];exact A0w hT C D A B j d)
 | makeMap t r=>rw[j]at d;exact jm.kL (by rw[j];rfl) (by rw[u];exact Bbs A B j d)
 | makeChan t x=>rw[j]at d;exact jm.kL (by rw[j];rfl) (by rw[u];exact A77 hT C A B j d)
 | lookup t x k ok=>rw[j]at d;exact jm.kL (by rw[j];rfl) (by rw[u];exact Bci (n:=n) hT C A B j d)
 | mapUpdate t m k x=>rw[j]at d;exact jm.kL (by rw[j];rfl) (by rw[u];exact A3q hT C D A B j d)
 | call c=>
  rw[j]at d;obtain⟨callee,args,argTypes⟩:=c;cases callee with
  | builtin bi=>
   simp only[D3]at d;split at d
   next as has=>
    have key:∀cs,kY P (Go.builtin bi argTypes o.type cs (Bw f as).toArray) p f h w v h':=by
     intro cs;obtain⟨s,h1,f',w',h2,E,h4,G⟩:=Bae (ty:=o.type) (cs:=cs) hT A B (qQ D has) d;refine⟨f',w',.value (Ct f' v),?_,.inl rfl,E,h4,G⟩;rw[h1];simp only[Sem.run_bind,h2,aJ,aU]
    have he:args.map (Jk (Bj f n tm))=(Bw f as).toArray:=by
     rw[<-qP C has];simp only[<-List.map_toArray,eK]
    obtain⟨f',w',N,h1,h2,E,h4,G⟩:=key (args.map fun | .const _=>true|_=>false);refine jm.kL (by rw[j];rfl) ⟨f',w',N,?_,h2,E,h4,G⟩;rw[<-h1,u];simp only[execOp,j,resolve,Sem.run_bind,aU,aJ,invoke,he];rfl
   ·cases d
  | value x=>cases d
  | invoke x m=>cases d
 | select cs bl=>
  rw[j]at d;cases bl with
  | true=>cases d
  | false=>
   simp only[D3]at d;split at d
   next c H=>
    have F:cs = #[c]:=by apply fC;simpa using H
    subst F;split at d
    next i x J hs=>
     split at d
     next cap buf M hg L=>
      split at d
      next zv K=>
       exact Ba1 hT D A B u j J hs hg L K d
      ·cases d
     ·cases d
    next i J hs=>
     split at d
     next cap buf zv hg K=>
      exact Bbc hT D A B u j J hs d hg K
     ·cases d
    ·cases d
   ·cases d
 | _=>rw[j]at d;cases d
end
end
section
section
variable{w:World}(hT:Qu P T){call:Ah}(hC:kX P call)(hR:pF P round)
theorem Move.Bj{f':Loc}{w:World}(m:Move p f h w f' h' w')(d:L9 p n tm):Bj f n tm=Bj f' n tm:=Lw m.F0 d
theorem vD(f:Loc)(n:Nat)(tm:Bb)(d:Option Tmp)(v:EV):oJ (Bj f n tm) d (Ct f v)=Bj f n (Qm n tm d v):=by
 cases d with
 | none=>rfl
 | some d=>exact QI f n tm d v
include hT hC hR in
theorem RJ(G:L9 p n tm)(H:Ug p h)(J:Uc f h w)(A:execOp (Jk tmps) o=execOp (Jk (Bj f n tm)) o)(j:aop T call round tm o.op h=some (v,h')):
 jm P o tmps p f h w v h':=by
 have K:=Tq (f:=f) G;unfold aop at j;rw[Br]at j;split at j
 next hv=>
  split at j
  next v' L=>
   cases j;refine jm.kL ?_ ⟨f,w,_,(by rw[A];exact Bnq hT f w K L),.inl rfl,Move.refl J,Wf.refl H,?_⟩
   ·cases C:o.op<;>first|rfl|(rw[C]at hv;cases hv)
   ·rw[Kt _ _ _ rfl];exact Bon hT G L
  ·cases j
 ·split at j
  next fo args ad heq=>
   split at j
   next g first captured as hf has=>
    obtain⟨⟨fn,V,W,D⟩,X⟩:=hC _ _ _ _ _ j;intro b ops i rest k cs C hw;have M:=Fg (v:=.func g first captured) G hf;have B:=qQ G has;have E:EV.Ud p (first++(as++captured)):=qV M.1 (qV B M.2);obtain⟨fr,f',w',hs,ae,hl,hm,hwf,F⟩:=X p f w H J E (b.at tmps (.inRegion ops (i::rest)::k)::cs);refine⟨f',w',?_,hm,hwf,F⟩;have he:args.map (Jk (Bj f n tm))=(Bw f as).toArray:=by
     rw[<-qP K has];simp only[<-List.map_toArray,eK]
    have u:(execOp (Jk tmps) o).run P w=.ok (.enter g (Bw f (first++(as++captured))).toArray) w:=by
     rw[A];have hb:¬fn.body=none:=by cases hx:fn.body<;>simp_all
     have hn:¬fn.name = "runtime.NumGoroutine":=by simpa using D
     simp[execOp,heq,resolve,he,Bl K hf,Ct,Deferred.ofValue,invoke,callFunc,V,hn,hb,Sv]
    refine .head (A3g C hw (by rw[heq];rfl) u) (hs.trans (.one ?_));rw[<-FB.finish_at b _ C];exact step_leave_returned hl
   next l as hf has=>
    obtain⟨st,pd,fn,S,O,ps,d',body,d,Q,hg,Y,X⟩:=hR _ _ _ _ _ j;intro b ops i rest k cs C hw;have B:=qQ G has;obtain⟨f',w',hs,hm,hwf,F⟩:=X p f w H J B (b.at tmps (.inRegion ops (i::rest)::k)) cs;refine⟨f',w',?_,hm,hwf,F⟩;have he:args.map (Jk (Bj f n tm))=(Bw f as).toArray:=by
     rw[<-qP K has];simp only[<-List.map_toArray,eK]
    obtain⟨r0,Z,rfl⟩:=J.obj l _ hg;obtain⟨hlen,ai,y⟩:=yC f Y B (H.get l _ hg).2.1;have u:(execOp (Jk tmps) o).run P w=.ok (.round (f.b l) fn (Bj f S Q) d' body) w:=by
     rw[A];have U:Array.foldl (fun tmps (x:Tmp × Value)=>tmps.setIfInBounds x.1 x.2) (Bj f S O) (ps.toArray.zip (Bw f as).toArray)=Bj f S Q:=by
      rw[<-y,List.zip_toArray,List.foldl_toArray]
     have aa:(getObj (f.b l)).run P w=.ok (.loop ⟨st,pd,fn,Bj f S O,ps.toArray,d',body,f.b d⟩) w:=Om Z (by intros;simp);simp only[execOp,heq,resolve,he,Bl K hf,Ct,Deferred.ofValue,invoke,Sem.run_bind,aU,aJ,Instr.yield,Instr.getLoop,aa];simp[Dh,hlen];exact y
    refine .head (A30 C hw (by rw[heq];rfl) u) ?_;rw[<-FB.finish_at b _ C];exact hs
   ·cases j
  next aj=>
   exact Box hT G H J A j
theorem Bcv(u:L9 p n tm)(ops:Array Oper)(j:Nat):Go.yielded ops (Bj f n tm) j=Ev.yielded ops.toList tm j:=by
 unfold Go.yielded Ev.yielded;rw[vo,cP];cases ops[j]? with
 | none=>rfl
 | some o=>
  simp only[Option.bind_some];cases o.dst with
  | none=>rfl
  | some d=>
   simp only[Option.bind_some];rw[sX];by_cases hd:d<n
   ·rw[aI hd]
    unfold tmp;cases y:tm.get d with
    | none=>rfl
    | some v=>cases v<;>rfl
   ·rw[aG hd,u.out d (Nat.le_of_not_lt hd)]
theorem RK(d:L9 p n tm)(ops:Array Oper)(o:Oper):Region.wanted o (Go.yielded ops (Bj f n tm))=Ev.wanted ops.toList tm o.guard:=by
 unfold Region.wanted Ev.wanted;cases o.guard with
 | none=>rfl
 | some x=>
  obtain⟨j,want⟩:=x;simp only[];rw[Bcv d];cases Ev.yielded ops.toList tm j with
  | none=>rfl
  | some b=>cases b<;>cases want<;>rfl
include hT hC hR in
theorem yT(ops:Array Oper):∀{l:List Oper} {i:Nat} {p:Nat->Prop} {f:Loc} {h:Ab} {w:World} {tm u:Bb} {h':Ab},l=ops.toList.drop i->L9 p n tm->Ug p h->Uc f h w ->
 jJ T call round n ops.toList l tm h=some (u,h')->∀(b:FB) (k:List Item) (cs:List Frame),
  ∃f' w',Steps P (lone (b.at (Bj f n tm) (.inRegion ops (List.range' i l.length)::k)) cs w) (lone (b.at (Bj f' n u) (.inRegion ops []::k)) cs w') /\
   Move p f h w f' h' w'/\Wf p h h'/\L9 (grow p h h') n u
 | [],i,p,f,h,w,tm,u,h',L,A,J,K,d,b,k,cs=>by
  simp only[jJ]at d;cases d;exact⟨f,w,.refl _ _,Move.refl K,Wf.refl J,by rw[Kt _ _ _ rfl];exact A⟩
 | o::r,i,p,f,h,w,tm,u,h',L,A,J,K,d,b,k,cs=>by
  have hi:ops[i]? = some o:=by
   have:=congrArg (fun l=>l[0]?) L;simp only[bL,dM,dU,cP]at this;exact this.symm
  have U:r=ops.toList.drop (i+1):=by
   have:=congrArg List.tail L;simpa [List.tail_drop]using this
  obtain⟨dst,op,ty,ps,M,g⟩:=o;simp only[jJ]at d;rw[Br]at d;have B:=RK (f:=f) A ops ⟨dst,op,ty,ps,M,g⟩;split at d
  next hw=>
   rw[hw]at B;split at d
   next v h1 H=>
    obtain⟨f1,w1,O,C,y,Q⟩:=RJ hT hC hR A J K (o:=⟨dst,op,ty,ps,M,g⟩) rfl H b ops i (List.range' (i+1) r.length) k cs hi B;have D:L9 (grow p h h1) n (Qm n tm dst v):=(A.mono fun _ hi=>.inl hi).put dst Q;obtain⟨f2,w2,E,F,j,G⟩:=yT ops U D y.hok C.rep d b k cs;refine⟨f2,w2,?_,C.trans F,y.trans j,?_⟩
    ·rw[bJ,gF]
     refine O.trans ?_;rw[C.Bj A,vD];exact E
    ·rw[<-qH p y.next j.next];exact G
   ·cases d
  next hw=>
   have S:Region.wanted ⟨dst,op,ty,ps,M,g⟩ (Go.yielded ops (Bj f n tm))=false:=by rw[B];simpa using hw
   have D:L9 p n (Qm n tm dst (.tuple [])):=A.put dst trivial;obtain⟨f2,w2,E,F,j,G⟩:=yT ops U D J K d b k cs;refine⟨f2,w2,?_,F,j,G⟩;rw[bJ,gF];refine .head (RD hi S) ?_;have:(undef:Value)=Ct f (.tuple []):=rfl;rw[this,vD];exact E
end
end
structure AWf(h h':Ab):Prop where
 next:h.next<=h'.next
 mw:h'.mw<=h.mw
 same:∀q,q<h'.mw->q<h.next->h'.get q=h.get q
 live:∀q o,h'.get q=some o->(∃o',h.get q=some o')\/h.next<=q
 lt:(∀q o,h.get q=some o->q<h.next)->∀q o,h'.get q=some o->q<h'.next
theorem AWf.refl(h:Ab):AWf h h:=⟨aE _,aE _,fun _ _ _=>rfl,fun _ o d=>.inl ⟨o,d⟩,fun H=>H⟩
theorem AWf.trans {a b c:Ab}(x:AWf a b)(y:AWf b c):AWf a c where
 next:=bQ x.next y.next
 mw:=bQ y.mw x.mw
 same q h1 h2:=(y.same q h1 (aM h2 x.next)).trans (x.same q (aM h1 y.mw) h2)
 live q o d:=by
  rcases y.live q o d with⟨o',h1⟩|h1
  ·exact x.live q o' h1
  ·exact .inr (bQ x.next h1)
 lt H:=y.lt (x.lt H)
theorem AWf.put{o:D5}(hi:h.get i=some o)(o':D5):AWf h (h.put i o') where
 next:=aE _
 mw:=by rw[Ab.nU];exact Nat.min_le_right _ _
 same q h1 _:=by rw[Ab.nU]at h1;rw[Ab.get_put,aG a_]
 live q x d:=by
  rw[Ab.get_put]at d;split at d
  next e=>subst e;exact .inl ⟨o,hi⟩
  ·exact .inl ⟨x,d⟩
 lt H q x d:=by
  rw[Ab.get_put]at d;split at d
  next e=>subst e;exact H _ _ hi
  ·exact H _ _ d
theorem AWf.new(h:Ab)(o:D5):AWf h (h.new o) where
 next:=Nat.le_succ _
 mw:=aE _
 same q _ h2:=by rw[Ab.Lx,aG a_]
 live q x d:=by
  rw[Ab.Lx]at d;split at d
  next e=>exact .inr a_
  ·exact .inl ⟨x,d⟩
 lt H q x d:=by
  rw[Ab.Lx]at d;rw[Ab.D4];split at d
  next e=>omega
  ·exact Nat.lt_succ_of_lt (H _ _ d)
theorem AWf.del(h:Ab)(i:Nat):AWf h (h.del i) where
 next:=aE _
 mw:=by rw[Ab.sv];exact Nat.min_le_right _ _
 same q h1 _:=by rw[Ab.sv]at h1;rw[Ab.lK,aG a_]
 live q x d:=by
  rw[Ab.lK]at d;split at d
  ·cases d
  ·exact .inl ⟨x,d⟩
 lt H q x d:=by
  rw[Ab.lK]at d;split at d
  ·cases d
  ·exact H _ _ d
theorem RL(d:My h i off vs=some h'):AWf h h':=by
 unfold My at d;split at d
 next hg=>
  split at d
  ·cases d;exact .put hg _
  ·cases d
 next hg=>
  split at d
  ·cases d;exact .put hg _
  ·cases d
 ·cases d
theorem Bnk{st:TypeId}{s x:EV}(d:append T st s x h=some (v,h')):AWf h h':=by
 unfold append at d;split at d
 ·split at d
  ·split at d
   ·rw[Br]at d
    split at d
    ·split at d
     ·obtain⟨_,h2⟩:=Ap d;cases h2;exact .refl _
     ·cases d;exact .refl _
     ·cases d
    ·obtain⟨_,h2⟩:=Ap d
     split at h2
     ·split at h2
      ·cases h2;exact .new _ _
      ·obtain⟨_,j⟩:=Ap h2
       split at j
       ·rw[Br]at j
        split at j
        ·obtain⟨_,j⟩:=Ap j
         obtain⟨_,j⟩:=Ap j;split at j
         ·obtain⟨_,j⟩:=Ap j
          obtain⟨_,j⟩:=Ap j;obtain⟨_,j⟩:=Ap j;cases j;exact(AWf.del _ _).trans (.new _ _)
         ·cases j
        ·obtain⟨_,j⟩:=T5 j
         cases j;exact .new _ _
       ·cases j
      ·cases h2
     ·cases h2
   ·cases d
  ·cases d
 ·cases d
theorem Bg9{b:Builtin}(d:builtin T b ts args h=some (v,h')):AWf h h':=by
 unfold builtin at d;split at d
 ·split at d
  ·split at d
   ·exact Bnk d
   ·cases d
  ·cases d
 ·split at d
  ·split at d
   ·cases d;exact .refl _
   ·split at d<;>first|(cases d;done)|(cases d;exact .refl _)
   ·cases d;exact .refl _
   ·split at d<;>first|(cases d;done)|(cases d;exact .refl _)
   ·cases d
  ·cases d
 ·split at d
  ·split at d
   ·split at d
    ·obtain⟨_,h2⟩:=T5 d
     split at h2
     ·split at h2
      ·split at h2
       next hw=>cases h2;exact RL hw
       ·cases h2
      ·cases h2
     ·cases h2
    ·cases d
   ·cases d
  ·cases d
 ·split at d
  ·split at d
   ·obtain⟨_,h2⟩:=Ap d
    split at h2
    next hg=>
     split at h2
     ·cases h2;exact .put hg _
     ·cases h2;exact .put hg _
     ·cases h2
    ·cases h2
   ·cases d
  ·cases d
 ·split at d<;>first|(cases d;done)|(cases d;exact .refl _)
 ·split at d<;>first|(cases d;done)|(cases d;exact .refl _)
 ·cases d
theorem Brn{op:Op}(d:D3 T tm op h=some (v,h')):AWf h h':=by
 unfold D3 at d;split at d
 ·
  split at d
  ·split at d
   ·split at d
    ·split at d<;>first|(cases d;done)|(cases d;exact .refl _)
    ·cases d
   ·split at d<;>first|(cases d;done)|(cases d;exact .refl _)
   ·cases d
  ·cases d
 ·
  split at d
  ·obtain⟨_,h2⟩:=Ap d
   obtain⟨_,h2⟩:=Ap h2;split at h2
   next hw=>cases h2;exact RL hw
   ·cases h2
  ·cases d
 ·split at d<;>first|(cases d;done)|(cases d;exact .new _ _)
 ·split at d
  ·obtain⟨_,h2⟩:=Ap d;cases h2;exact .new _ _
  ·cases d
 ·split at d
  ·exact Bg9 d
  ·cases d
 ·split at d
  ·split at d
   ·obtain⟨_,h2⟩:=Ap d
    split at h2
    ·cases h2;exact .new _ _
    ·cases h2
   ·cases d
  ·cases d
 ·split at d
  ·split at d
   ·obtain⟨_,h2⟩:=Ap d
    obtain⟨_,h2⟩:=Ap h2;cases h2;exact .new _ _
   ·cases d
  ·cases d
 ·cases d;exact .new _ _
 ·split at d
  ·split at d
   ·obtain⟨_,h2⟩:=Ap d;cases h2;exact .new _ _
   ·cases d
  ·cases d
 ·split at d
  ·obtain⟨_,h2⟩:=Ap d
   split at h2
   ·split at h2
    ·cases h2;exact .refl _
    ·split at h2<;>first|(cases h2;done)|(cases h2;exact .refl _)
    ·cases h2
   ·cases h2
  ·cases d
 ·split at d
  ·obtain⟨_,h2⟩:=Ap d
   split at h2
   next hg=>
    split at h2
    ·cases h2;exact .put hg _
    ·cases h2;exact .put hg _
    ·cases h2
   ·cases h2
  ·cases d
 ·split at d
  ·split at d
   ·split at d
    next hg _=>
     split at d
     ·rw[Br]at d
      split at d
      ·cases d;exact .put hg _
      ·cases d;exact .refl _
     ·cases d
    ·cases d
   ·split at d
    next hg _=>
     split at d
     ·cases d;exact .put hg _
     ·cases d;exact .refl _
    ·cases d
   ·cases d
  ·cases d
 ·cases d
def Wu(c:Ah):Prop:=∀g args h v h',c g args h=some (v,h')->AWf h h'
section
variable{call:Ah}(hC:Wu call)(hR:Wu round)
include hC hR
theorem RM{op:Op}(d:aop T call round tm op h=some (v,h')):AWf h h':=by
 unfold aop at d;rw[Br]at d;split at d
 ·split at d<;>first|(cases d;done)|(cases d;exact .refl _)
 ·split at d
  ·split at d
   ·exact hC _ _ _ _ _ d
   ·exact hR _ _ _ _ _ d
   ·cases d
  ·exact Brn d
theorem yU{ops:List Oper}:∀{l:List Oper} {tm j:Bb} {h h':Ab},jJ T call round n ops l tm h=some (j,h')->AWf h h'
 | [],_,_,_,_,d=>by cases d;exact .refl _
 | ⟨dst,op,ty,ps,u,g⟩::r,tm,j,h,h',d=>by
  simp only[jJ]at d;rw[Br]at d;split at d
  ·split at d
   next h1=>
    exact(RM hC hR h1).trans (yU d)
   ·cases d
  ·exact yU d
end
end
end Go.Ev
