import GoSem.Step
import Derived.Control
import Derived.Calls
import Derived.Laws.CopyRow
import Derived.Great.FillDense
import Derived.Conc.LoneSelect
import Derived.Conc.LoneSelectN
set_option linter.all false
namespace Go.Ev
def aA:=@decide_false
def aB:=@not_true_eq_false
def aC:=@decide_true
def aD.{u}:=@List.getElem?_eq_getElem.{u}
def aE:=@Nat.le_refl
def aF.{u}:=@List.length_append.{u}
def aG.{u}:=@if_neg.{u}
def aH.{u}:=@List.mem_of_mem_drop.{u}
def aI.{u}:=@if_pos.{u}
def aJ:=@decide_eq_false
def aK:=@Result.andThen_ok
def aL:=@Nat.eq_of_beq_eq_true
def aM:=@decide_eq_true
def aN:=@Nat.lt_of_lt_of_le
def aO:=@Nat.lt_succ_self
def aP.{u}:=@List.mem_singleton.{u}
def aQ:=@Nat.ble_eq_true_of_le
def aR:=@not_false_eq_true
def aS:=@Bool.and_eq_true
def aT:=@Sem.run_pure
def aU.{u}:=@List.mem_cons_of_mem.{u}
def aV:=@decide_eq_true_eq
def aW.{u}:=@List.mem_cons_self.{u}
def aX:=@Bool.false_eq_true
def aY.{u}:=@List.getElem?_eq_some_iff.{u}
def aZ:=@Int.ofNat_eq_natCast
def ak.{u}:=@if_false.{u}
def av:=@Bool.false_and
def bA:=@Int.eq_ofNat_of_zero_le
def bB.{u}:=@List.length_drop.{u}
def bD.{u,v}:=@List.getElem?_map.{u,v}
def bF:=@Int.toNat_natCast
def bG.{u}:=@List.length_cons.{u}
def bH.{u}:=@List.getElem_mem.{u}
def bI:=@Bool.true_and
def bJ.{u}:=@if_true.{u}
def bK.{u}:=@List.getElem?_cons_zero.{u}
def bL:=@Nat.le_of_ble_eq_true
def bM:=@Nat.zero_add
def bN:=@Nat.lt_irrefl
def bO.{u}:=@List.eq_of_mem_replicate.{u}
def bP.{u}:=@List.length_set.{u}
def bQ:=@Nat.le_trans
def bR.{u}:=@List.mem_append.{u}
def bS.{u}:=@List.take_of_length_le.{u}
def bT:=@Int.mul_le_mul_of_nonneg_left
def bU.{u}:=@List.getElem?_append_right.{u}
def bV.{u}:=@List.length_replicate.{u}
def bW.{u}:=@List.take_length.{u}
def bX.{u}:=@List.mem_cons.{u}
def bY.{u}:=@List.append_assoc.{u}
def bZ.{u}:=@List.length_take.{u}
def bc.{u}:=@List.mem_of_getElem?.{u}
def bh.{u,v}:=@List.length_map.{u,v}
def bk:=@Nat.mul_one
def bm.{u}:=@List.getElem?_append_left.{u}
def br.{u}:=@List.getElem?_cons_succ.{u}
def b9.{u}:=@List.mem_of_mem_take.{u}
def cC.{u}:=@List.getElem?_eq_none.{u}
def cD.{u}:=@List.take_succ_eq_append_getElem.{u}
def cF:=@Nat.lt_succ_iff_lt_or_eq
def cI:=@Nat.not_lt_zero
def cJ.{u}:=@List.flatten_cons.{u}
def cK.{u}:=@List.nodup_cons.{u}
def cL.{u}:=@List.getElem?_toArray.{u}
def cM.{u}:=@Array.getElem?_toList.{u}
def cN:=@step_lone_go
def cO:=@Int.le_refl
def cP:=@List.getElem?_range
def cQ:=@Nat.beq_refl
def cR.{u,v}:=@List.map_append.{u,v}
def cS.{u}:=@List.length_eq_zero_iff.{u}
def cU.{u}:=@Option.some.injEq.{u}
def cV.{u}:=@List.nil_append.{u}
def cW.{u,v}:=@List.mem_map.{u,v}
def cX.{u}:=@List.drop_drop.{u}
def cY.{u}:=@Ne.symm.{u}
def cZ:=@Nat.zero_le
def cb:=@Nat.lt_or_ge
def cj.{u}:=@List.mem_iff_getElem?.{u}
def cm.{u,v}:=@List.map_congr_left.{u,v}
def cp.{u}:=@Array.getElem?_eq_getElem.{u}
def cq.{u}:=@Array.getElem?_eq_some_iff.{u}
def cr:=@decide_eq_false_iff_not
def dE:=@List.range_succ
def dF.{u}:=@List.drop_zero.{u}
def dG.{u}:=@List.mem_or_eq_of_mem_set.{u}
def dH:=@of_decide_eq_true
def dI:=@Bool.and_false
def dJ:=@Bool.not_false
def dK:=@Int.negSucc_eq
def dL:=@List.mem_range
def dM.{u}:=@Array.mem_toList_iff.{u}
def dN:=@Nat.ble_eq
def dO.{u}:=@List.append_nil.{u}
def dP.{u}:=@List.nodup_nil.{u}
def dQ.{u,v}:=@List.map_cons.{u,v}
def dR.{u}:=@List.getElem?_set.{u}
def dS:=@Nat.add_zero
def dT.{u}:=@List.getElem?_drop.{u}
def dU.{u}:=@List.drop_eq_getElem_cons.{u}
def dV.{u}:=@List.all_eq_true.{u}
def dW.{u}:=@List.flatten_append.{u}
def dX:=@Int.mul_nonneg
def dY:=@Nat.eq_zero_or_pos
def dZ:=@Bool.or_eq_true
def dc:=@Nat.zero_testBit
def dh.{u}:=@List.drop_of_length_le.{u}
def eA.{u}:=@List.ext_getElem?.{u}
def eC.{u}:=@List.replicate_succ.{u}
def eD.{u}:=@List.size_toArray.{u}
def eH.{u}:=@List.set_append_right.{u}
def eI.{u,v}:=@Option.map_some.{u,v}
def eJ.{u}:=@List.mem_filter.{u}
def eK:=@Nat.xor_lt_two_pow
def eO:=@decide_eq_decide
def eQ.{u}:=@Array.toArray_toList.{u}
def eR:=@Bool.eq_iff_iff
def eU.{u}:=@Array.getD_eq_getD_getElem?.{u}
def eV:=@Nat.min_eq_left
def eh.{u}:=@List.filter_cons.{u}
def fC.{u}:=@Array.ext'.{u}
def fD:=@Nat.pow_succ
def fF:=@Bool.not_true
def fG.{u}:=@List.filter_append.{u}
def fH.{u}:=@List.length_filter_le.{u}
def fI.{u}:=@List.getElem?_take.{u}
def fJ:=@List.length_range
def fK:=@Int.mul_le_mul_of_nonneg_right
def fL.{u}:=@List.take_append_of_le_length.{u}
def fM.{u}:=@List.eq_nil_of_length_eq_zero.{u}
def fN.{u}:=@List.take_left.{u}
def fO:=@Nat.div_div_eq_div_mul
def fP:=@decide_eq_true_iff
def fQ:=@Bool.true_eq_false
def fR:=@Nat.succ_mul
def fS.{u}:=@List.length_nil.{u}
def fT:=@Nat.sub_self
def fU:=@Classical.em
def fV.{u}:=@List.take_add_one.{u}
def fW:=@Int.fdiv_eq_ediv_of_nonneg
def fZ:=@Nat.div_lt_of_lt_mul
def fm:=@Nat.pow_le_pow_right
def gA:=@Nat.shiftRight_eq_div_pow
def gE:=@Nat.mod_eq_of_lt
def gF:=@List.range'_succ
def gG:=@Int.toNat_of_nonneg
def gH:=@Nat.add_mul
def gI:=@run_program
def gJ.{u}:=@List.take_succ_cons.{u}
def gK:=@Nat.zero_mul
def gN:=@Nat.mul_comm
def gO.{u,v}:=@List.map_replicate.{u,v}
def gP.{u}:=@Array.ext_getElem?.{u}
def gQ.{u}:=@Option.some.inj.{u}
def gR:=@Int.emod_nonneg
def gS:=@Nat.add_sub_cancel
def gU.{u}:=@List.drop_left.{u}
def gW:=@Nat.mul_le_mul
def gX:=@Int.lt_or_le
def gh:=@Nat.sub_zero
def gk:=@false_and
def hH:=@true_and
variable {x:Operand}{i m n cap off jZ:Nat}{p q:Nat->Prop}{ρ:Operand->Value}{k':IntKind}{op:BinOp}{e t ty:TypeId}{o:Oper}{w':World}{ps:Array (Nat × Operand)}{d':List MapEntry}{P:Program}{base:Option Addr}{ts:Array TypeId}{ops:Array Oper}{tmps:Array Value}{α:Type}
noncomputable section
inductive Tr (α:Type) where
 | nil
 | node (l:Tr α) (v:Option α) (r:Tr α)
noncomputable def Bb {α:Type}(b:Bool)(x y:α):α:=@Bool.rec (fun _=>α) y x b
noncomputable def Tr.get {α:Type}(t:Tr α):Nat->Option α:=
 @Tr.rec α (fun _=>Nat->Option α) (fun _=>none)
  (fun _ v _ d j i=>@Bool.rec (fun _=>Option α) (@Bool.rec (fun _=>Option α) (j (Nat.pred (Nat.div i 2))) (d (Nat.div i 2)) (Nat.beq (Nat.land i 1) 1)) v (Nat.beq i 0)) t
noncomputable def Tr.lf {α:Type}(x:Option α)(r:Tr α)(t:Tr α):Tr α:=@Tr.rec α (fun _=>Tr α) .nil (fun a b c _ _=>.node (.node a b c) x r) t
noncomputable def Tr.rt {α:Type}(l:Tr α)(x:Option α)(t:Tr α):Tr α:=@Tr.rec α (fun _=>Tr α) .nil (fun a b c _ _=>.node l x (.node a b c)) t
noncomputable def Tr.set {α:Type}(n:Nat):Tr α->Nat->Option α->Tr α:=
 @Nat.rec (fun _=>Tr α->Nat->Option α->Tr α) (fun t _ _=>t)
  (fun _ d t i v=>@Tr.rec α (fun _=>Tr α)
   (@Bool.rec (fun _=>Tr α) (@Bool.rec (fun _=>Tr α) (Tr.rt .nil none (d .nil (Nat.pred (Nat.div i 2)) v)) (Tr.lf none .nil (d .nil (Nat.div i 2) v)) (Nat.beq (Nat.land i 1) 1)) (.node .nil v .nil) (Nat.beq i 0))
   (fun l x r _ _=>@Bool.rec (fun _=>Tr α) (@Bool.rec (fun _=>Tr α) (Tr.rt l x (d r (Nat.pred (Nat.div i 2)) v)) (Tr.lf x r (d l (Nat.div i 2) v)) (Nat.beq (Nat.land i 1) 1)) (.node l v r) (Nat.beq i 0)) t) n
noncomputable def Tr.put {α:Type}(t:Tr α)(i:Nat)(v:Option α):Tr α:=Tr.set (Nat.succ (Nat.log2 (Nat.succ i))) t i v
inductive EV where
 | int (k:IntKind) (n:Int)
 | bool (b:Bool)
 | str (s:ByteArray)
 | ptr (i off:Nat)
 | Ch
 | slice (i off len room:Nat) (op:Bool)
 | tail (i off poff:Nat)
 | Aq
 | odd (a:Addr)
 | map (i:Nat)
 | Al8
 | chan (i:Nat)
 | Ae6
 | func (f:Nat) (first captured:List EV)
 | Vv (l:Nat)
 | Ajg
 | Acf
 | agg (l:List EV)
 | tuple (l:List EV)
 deriving Inhabited
def EV.cells:EV->List EV
 | .agg l=>l
 | v=>[v]
def EV.plain:EV->Bool
 | .tuple _=>false
 | _=>true
inductive D3 where
 | cells (l:List EV) (elem:TypeId)
 | vec (l:List EV) (elem:TypeId) (size:Nat)
 | map (es:List (EV × EV))
 | chan (cap:Nat) (buf:List EV)
 | loop (state:LoopState) (pending:Option Code) (fn:FuncId) (n:Nat) (tmps:Tr EV) (params:List Tmp) (assign body:Code) (defers:Nat)
 | deferred (open_:Bool)
 | view (ws:List (Nat × List EV)) (r:Obj)
structure Ab where
 t:Tr D3
 next:Nat
 mw:Nat
def Ab.get:Ab->Nat->Option D3
 | ⟨t,_,_⟩,i=>t.get i
def Ab.put:Ab->Nat->D3->Ab
 | ⟨t,n,m⟩,i,o=>⟨t.put i (some o),n,Bb (Nat.ble i m) i m⟩
def Ab.del:Ab->Nat->Ab
 | ⟨t,n,m⟩,i=>⟨t.put i none,n,Bb (Nat.ble i m) i m⟩
def Ab.new:Ab->D3->Ab
 | ⟨t,n,m⟩,o=>⟨t.put n (some o),Nat.succ n,m⟩
structure Ajt where
 fn:Nat
 n:Nat
 tmps:Tr EV
 todo:List Item
 defers:List Nat
 ret:Bool
 Dt:Option Nat
structure Hp where
 fr:Ajt
 h:Ab
structure Ig where
 fn:Nat->Option Func
 Tv:Nat->Option TypeDesc
 size:Nat->Option Nat
 zero:Nat->Option (List EV)
 agg:Nat->Option Bool
 eqs:Nat->Option (List Nat)
 key:Nat->Bool
abbrev Ah:=Nat->List EV->Ab->Option (EV × Ab)
def qs:Value->Option EV
 | .int k n=>some (.int k n)
 | .bool b=>some (.bool b)
 | .string s=>some (.str s)
 | .pointer none=>some .Ch
 | .slice none 0 0=>some .Aq
 | .map none=>some .Al8
 | .chan none=>some .Ae6
 | .nilFunc=>some .Ajg
 | .nilIface=>some .Acf
 | _=>none
def qu:List Value->Option (List EV)
 | []=>some []
 | v::r=>match qs v with
  | some x=>match qu r with
   | some y=>some (x::y)
   | none=>none
  | none=>none
def ofV:Value->Option EV
 | .agg cs=>match qu cs.toList with|some l=>some (.agg l)|none=>none
 | .tuple cs=>match cs.toList with | []=>some (.tuple [])|_=>none
 | v=>qs v
abbrev Ba:=Tr EV
def tmp(tm:Ba)(t:Nat):EV:=match tm.get t with|some v=>v|none=>.tuple []
def Cj(tm:Ba):Operand->Option EV
 | .tmp t=>some (match tm.get t with|some v=>v|none=>.tuple [])
 | .const v=>ofV v
 | .global _=>none
 | .func f=>some (.func f [] [])
def Mu(tm:Ba):List Operand->Option (List EV)
 | []=>some []
 | x::r=>match Cj tm x with
  | some a=>match Mu tm r with
   | some b=>some (a::b)
   | none=>none
  | none=>none
def Po(n:Nat)(tm:Ba)(d:Option Tmp)(v:EV):Ba:=
 match d with
 | none=>tm
 | some d=>Bb (Nat.ble (Nat.succ d) n) (tm.put d (some v)) tm
def len(l:List EV):Nat:=match l with | []=>0|_::r=>Nat.succ (len r)
def Zv:List EV->Nat->List EV
 | [],_=>[]
 | a::r,n=>Bb (Nat.beq n 0) (a::r) (Zv r (Nat.pred n))
def takeN:List EV->Nat->Option (List EV)
 | [],n=>Bb (Nat.beq n 0) (some []) none
 | a::r,n=>Bb (Nat.beq n 0) (some []) (match takeN r (Nat.pred n)with|some x=>some (a::x)|none=>none)
def Jr:List EV->List EV->Option (List EV)
 | l,[]=>some l
 | a::r,v::vs=>match Jr r vs with|some x=>some (v::x)|none=>none
 | [],_::_=>none
def F0:List EV->Nat->List EV->Option (List EV)
 | [],off,vs=>Bb (Nat.beq off 0) (Jr [] vs) none
 | a::r,off,vs=>Bb (Nat.beq off 0) (Jr (a::r) vs) (match F0 r (Nat.pred off) vs with|some x=>some (a::x)|none=>none)
def mB(ws:List (Nat × List EV))(off:Nat):Option (Nat × List EV):=
 match ws with
 | []=>none
 | (o,l)::r=>Bb (Bb (Nat.ble o off) (Nat.ble (Nat.succ (Nat.sub off o)) (len l)) false) (some (o,l)) (mB r off)
def I6(h:Ab)(i off n:Nat):Option (List EV):=
 match h.get i with
 | some (.cells l _)=>takeN (Zv l off) n
 | some (.vec l _ _)=>takeN (Zv l off) n
 | some (.view ws _)=>match mB ws off with|some (o,l)=>takeN (Zv l (Nat.sub off o)) n|none=>none
 | _=>none
def Ml(h:Ab)(i off:Nat)(vs:List EV):Option Ab:=
 match h.get i with
 | some (.cells l t)=>match F0 l off vs with|some l'=>some (h.put i (.cells l' t))|none=>none
 | some (.vec l t s)=>match F0 l off vs with|some l'=>some (h.put i (.vec l' t s))|none=>none
 | _=>none
def uV:IntKind->Nat
 | .u8=>256 | .u16=>65536 | .u32=>4294967296 | .u64=>18446744073709551616 | .i8=>128 | .i16=>32768 | .i32=>2147483648 | .i64=>9223372036854775808
def floor:IntKind->Nat
 | .i8=>128 | .i16=>32768 | .i32=>2147483648 | .i64=>9223372036854775808|_=>0
def Dr(k:IntKind)(n:Int):Int:=
 match n with
 | .ofNat m=>Bb (Nat.ble (Nat.succ m) (uV k)) (.ofNat m) (k.wrap (.ofNat m))
 | .negSucc m=>Bb (Nat.ble (Nat.succ m) (floor k)) (.negSucc m) (k.wrap (.negSucc m))
def Pc:IntKind->Nat
 | .u8=>0 | .u16=>1 | .u32=>2 | .u64=>3 | .i8=>4 | .i16=>5 | .i32=>6 | .i64=>7
def ko:Int->Int->Bool
 | .ofNat a,.ofNat b=>Nat.ble (Nat.succ a) b
 | .ofNat _,.negSucc _=>false
 | .negSucc _,.ofNat _=>true
 | .negSucc a,.negSucc b=>Nat.ble (Nat.succ b) a
def iN:Int->Int->Bool
 | .ofNat a,.ofNat b=>Nat.beq a b
 | .negSucc a,.negSucc b=>Nat.beq a b
 | _,_=>false
def qv:List UInt8->List UInt8->Bool
 | [],[]=>true
 | a::r,b::s=>Bb (Nat.beq a.toNat b.toNat) (qv r s) false
 | _,_=>false
def jO:EV->EV->Option Bool
 | .int k a,.int k' b=>Bb (Nat.beq (Pc k) (Pc k')) (some (iN a b)) none
 | .str a,.str b=>some (qv a.data.toList b.data.toList)
 | .bool a,.bool b=>some (Bb a b (Bb b false true))
 | _,_=>none
def E8:List EV->List EV->Option Bool
 | [],[]=>some true
 | a::r,b::s=>match jO a b with
  | some true=>E8 r s
  | some false=>match E8 r s with|some _=>some false|none=>none
  | none=>none
 | _,_=>none
def shaped:List Nat->List EV->Bool
 | [],[]=>true
 | b::s,.int _ _::l=>Bb (Nat.beq b 0) (shaped s l) false
 | b::s,.bool _::l=>Bb (Nat.beq b 1) (shaped s l) false
 | b::s,.str _::l=>Bb (Nat.beq b 2) (shaped s l) false
 | _,_=>false
def jD(T:Ig)(t:TypeId):EV->EV->Option Bool
 | .agg a,.agg b=>match T.eqs t with|some sh=>Bb (shaped sh a) (E8 a b) none|none=>none
 | .bool a,.bool b=>match T.Tv t with
  | some .bool=>some (Bb a b (Bb b false true))
  | _=>none
 | .Ch,.Ch=>match T.Tv t with|some (.pointer _)=>some true|_=>none
 | .Ch,.ptr _ _=>match T.Tv t with|some (.pointer _)=>some false|_=>none
 | .ptr _ _,.Ch=>match T.Tv t with|some (.pointer _)=>some false|_=>none
 | .ptr i o,.ptr j p=>match T.Tv t with|some (.pointer e)=>(match T.size e with|some _=>Bb (Nat.beq i j) (Bb (Nat.beq o p) (some true) none) none|none=>none)|_=>none
 | .Aq,.Aq=>match T.Tv t with|some (.slice _)=>some true|_=>none
 | .slice ..,.Aq=>match T.Tv t with|some (.slice _)=>some false|_=>none
 | .tail ..,.Aq=>match T.Tv t with|some (.slice _)=>some false|_=>none
 | _,_=>none
def qm(op:BinOp)(k:IntKind)(a b:Int):Option EV:=
 match op with
 | .add=>some (.int k (Dr k (Int.add a b)))
 | .sub=>some (.int k (Dr k (Int.sub a b)))
 | .mul=>some (.int k (Dr k (Int.mul a b)))
 | .quo=>Bb (iN b 0) none (some (.int k (Dr k (a.tdiv b))))
 | .rem=>Bb (iN b 0) none (some (.int k (a.tmod b)))
 | .and=>match a,b with | .ofNat a,.ofNat b=>some (.int k (Dr k (.ofNat (Nat.land a b))))|_,_=>none
 | .or=>match a,b with | .ofNat a,.ofNat b=>some (.int k (Dr k (.ofNat (Nat.lor a b))))|_,_=>none
 | .xor=>match a,b with | .ofNat a,.ofNat b=>some (.int k (Dr k (.ofNat (Nat.xor a b))))|_,_=>none
 | .lss=>some (.bool (ko a b))
 | .leq=>some (.bool (Bb (ko b a) false true))
 | .gtr=>some (.bool (ko b a))
 | .geq=>some (.bool (Bb (ko a b) false true))
 | .eql=>some (.bool (iN a b))
 | .neq=>some (.bool (Bb (iN a b) false true))
 | _=>none
def uW(op:BinOp)(k:IntKind)(a:Int)(b:Nat):Option EV:=
 match op with
 | .shl=>some (.int k (Dr k (Int.mul a (.ofNat (Nat.pow 2 (Bb (Nat.ble b k.bits) b k.bits))))))
 | .shr=>match a with
  | .ofNat a=>some (.int k (.ofNat (Nat.shiftRight a (Bb (Nat.ble b k.bits) b k.bits))))
  | .negSucc _=>some (.int k (a.fdiv (.ofNat (Nat.pow 2 (Bb (Nat.ble b k.bits) b k.bits)))))
 | _=>none
def uN:BinOp->Bool
 | .shl=>true
 | .shr=>true
 | _=>false
def bin(T:Ig)(op:BinOp)(t:TypeId)(x y:EV):Option EV:=
 match x,y with
 | .int k a,.int k' b=>Bb (uN op) (match b with | .ofNat b=>uW op k a b | .negSucc _=>none)
  (Bb (Nat.beq (Pc k) (Pc k')) (qm op k a b) none)
 | x,y=>match op with
  | .eql=>match jD T t x y with|some b=>some (.bool b)|none=>none
  | .neq=>match jD T t x y with|some b=>some (.bool (Bb b false true))|none=>none
  | _=>none
def fill(place:Nat->Option (Nat × Nat))(cells:List EV):List (Nat × EV)->Option (List EV)
 | []=>some cells
 | (i,v)::rest=>
  match place i with
  | none=>none
  | some (off,size)=>Bb (v.plain) (Bb (Nat.beq (len v.cells) size) (match F0 cells off v.cells with
   | some c=>fill place c rest
   | none=>none) none) none
def Zc(tm:Ba):List (Nat × Operand)->Option (List (Nat × EV))
 | []=>some []
 | (i,x)::r=>match Cj tm x with
  | some a=>match Zc tm r with
   | some b=>some ((i,a)::b)
   | none=>none
  | none=>none
def rep(l:List EV):Nat->List EV
 | 0=>[]
 | n+1=>l++rep l n
def bound(x:Option EV)(hi jZ:Nat):Option Nat:=
 match x with
 | none=>some jZ
 | some (.int _ (.ofNat n))=>Bb (Nat.ble n hi) (some n) none
 | _=>none
def iV(x:EV)(size:Nat)(lo hi mx:Option EV):Option EV:=
 match x with
 | .slice i off len room op=>
  match mx with
  | none=>
   match bound hi room len with
   | none=>none
   | some h=>match bound lo h 0 with
    | none=>none
    | some l=>
     Bb op
      (Bb (Nat.beq l 0) (some (.slice i off h room true))
       (Bb (Nat.ble (Nat.succ l) room) (some (.slice i (Nat.add off (Nat.mul l size)) (Nat.sub h l) (Nat.sub room l) true))
        (Bb (Nat.beq l room) (Bb (Nat.beq h l) (some (.tail i (Nat.add off (Nat.mul l size)) off)) none) none)))
      (Bb (Nat.ble l room) (some (.slice i (Bb (Nat.beq room l) off (Nat.add off (Nat.mul l size))) (Nat.sub h l) (Nat.sub room l) false)) none)
  | some _=>
   match bound mx room 0,hi with
   | some m,some _=>match bound hi m 0 with
    | none=>none
    | some h=>match bound lo h 0 with
     | none=>none
     | some l=>some (.slice i (Bb (Nat.beq m l) off (Nat.add off (Nat.mul l size))) (Nat.sub h l) (Nat.sub m l) false)
   | _,_=>none
 | .Aq=>
  match mx with
  | none=>
   match bound hi 0 0 with
   | none=>none
   | some h=>match bound lo h 0 with
    | none=>none
    | some _=>some .Aq
  | some _=>none
 | _=>none
def jn(tm:Ba):Option Operand->Option (Option EV)
 | none=>some none
 | some x=>match Cj tm x with
  | some v=>some (some v)
  | none=>none
def lenOf:EV->Option Nat
 | .Aq=>some 0
 | .slice _ _ n _ _=>some n
 | .tail ..=>some 0
 | .odd _=>some 0
 | _=>none
def cellsOf(h:Ab)(size n:Nat):EV->Option (List EV)
 | .Aq=>Bb (Nat.beq n 0) (some []) none
 | .slice i off _ _ _=>Bb (Nat.beq n 0) (some []) (I6 h i off (Nat.mul n size))
 | .tail ..=>Bb (Nat.beq n 0) (some []) none
 | _=>none
def append(T:Ig)(st:TypeId)(s x:EV)(h:Ab):Option (EV × Ab):=
 match T.Tv st with
 | some (.slice e)=>match T.size e,T.zero e with
  | some size,some _=>match lenOf x with
   | some n=>Bb (Nat.beq n 0)
    (match s with
     | .slice _ _ d room _=>Bb (Nat.ble d room) (some (s,h)) none
     | .Aq=>some (s,h)
     | _=>none)
    (Bb (Nat.ble n 65536) (match cellsOf h size n x with
    | some new=>
     (match s with
     | .Aq=>some (.slice h.next 0 n n true,h.new (.vec new e size))
     | .slice i off d room op=>Bb (Nat.ble d 1048576) (match cellsOf h size d s with
      | some Br=>
       Bb op
        (Bb (Nat.beq off 0) (Bb (Nat.beq room d) (match h.get i with
         | some (.vec l e' s')=>Bb (Nat.beq (len l) (Nat.mul d size)) (Bb (Nat.beq s' size) (Bb (Nat.beq e' e)
          (some (.slice h.next 0 (Nat.add d n) (Nat.add d n) true,(h.del i).new (.vec (Br++new) e size))) none) none) none
         | _=>none) none) none)
        (Bb (Nat.ble (Nat.add d n) room) none (some (.slice h.next 0 (Nat.add d n) (Nat.add d n) true,h.new (.vec (Br++new) e size))))
      | none=>none) none
     | _=>none)
    | none=>none) none)
   | none=>none
  | _,_=>none
 | _=>none
def mI:EV->EV->Option Bool
 | .agg a,.agg b=>E8 a b
 | .int k a,.int k' b=>Bb (Nat.beq (Pc k) (Pc k')) (some (iN a b)) none
 | _,_=>none
def Ot(T:Ig)(t:TypeId):EV->Bool
 | .agg a=>Bb (T.key t) (match T.eqs t with
  | some sh=>Bb (shaped sh a) (match E8 a a with|some _=>true|none=>false) false
  | none=>false) false
 | .int k _=>match T.Tv t with
  | some (.int k')=>Nat.beq (Pc k) (Pc k')
  | _=>false
 | _=>false
def H0(k:EV):List (EV × EV)->Nat->Option (Option (Nat × EV))
 | [],_=>some none
 | (a,b)::r,i=>match mI k a with
  | some true=>some (some (i,b))
  | some false=>H0 k r (Nat.succ i)
  | none=>none
def iB(mx:Bool)(k:IntKind)(a:Int):List EV->Option EV
 | []=>some (.int k a)
 | .int _ b::r=>iB mx k (Bb (Bb mx (ko a b) (ko b a)) b a) r
 | _=>none
def yo(l:List UInt8):Nat:=match l with | []=>0|_::r=>Nat.succ (yo r)
def builtin(T:Ig)(b:Builtin)(ts:Array TypeId)(args:List EV)(h:Ab):Option (EV × Ab):=
 match b,args with
 | .append,[s,x]=>match ts.toList with | [t,u]=>(match T.Tv u with|some (.slice _)=>append T t s x h|_=>none)|_=>none
 | .len,[x]=>match ts.toList with
  | [t]=>match T.Tv t,x with
   | some (.array n _),_=>some (.int .i64 (.ofNat n),h)
   | some (.slice _),x=>match lenOf x with|some n=>some (.int .i64 (.ofNat n),h)|none=>none
   | some .string,.str s=>some (.int .i64 (.ofNat (yo s.data.toList)),h)
   | some (.chan ..),.chan i=>match h.get i with|some (.chan _ buf)=>some (.int .i64 (.ofNat (len buf)),h)|_=>none
   | _,_=>none
  | _=>none
 | .copy,[d,s]=>match ts.toList with
  | [t,u]=>match T.Tv t,T.Tv u with
   | some (.slice e),some (.slice _)=>match T.size e,lenOf d,lenOf s with
    | some size,some dn,some y=>
     let n:=Bb (Nat.ble y dn) y dn
     Bb (Nat.beq n 0) none (match cellsOf h size n s with
     | some cs=>(match d with
      | .slice i off _ _ _=>match Ml h i off cs with|some h'=>some (.int .i64 (.ofNat n),h')|none=>none
      | _=>none)
     | none=>none)
    | _,_,_=>none
   | _,_=>none
  | _=>none
 | .delete,[m,k]=>match ts.toList with
  | t::_=>match T.Tv t,m with
   | some (.map A _),.map i=>Bb (Ot T A k) (match h.get i with
    | some (.map es)=>match H0 k es 0 with
     | some (some (j,_))=>some (.tuple [],h.put i (.map (es.eraseIdx j)))
     | some none=>some (.tuple [],h.put i (.map es))
     | none=>none
    | _=>none) none
   | _,_=>none
  | _=>none
 | .min,.int k a::l=>match iB false k a l with|some v=>some (v,h)|none=>none
 | .max,.int k a::l=>match iB true k a l with|some v=>some (v,h)|none=>none
 | _,_=>none
def part(T:Ig)(t:TypeId)(cs:List EV)(off:Nat):Option EV:=
 match T.agg t with
 | some true=>(match T.size t with
  | some n=>match takeN (Zv cs off) n with|some l=>some (.agg l)|none=>none
  | none=>none)
 | some false=>(match Zv cs off with|v::_=>some v | []=>none)
 | none=>none
def mD(l:List Field)(i:Nat):Option Field:=
 match l with
 | []=>none
 | a::r=>Bb (Nat.beq i 0) (some a) (mD r (Nat.pred i))
def zeroOf(T:Ig)(t:TypeId):Option EV:=
 match T.zero t with
 | some z=>match T.agg t with
  | some true=>some (.agg z)
  | some false=>(match z with | [v]=>some v|_=>none)
  | none=>none
 | none=>none
def placesOf(T:Ig):List Field->Option (List (Nat × Nat))
 | []=>some []
 | f::r=>match T.size f.type with
  | some n=>match placesOf T r with
   | some l=>some ((f.offset,n)::l)
   | none=>none
  | none=>none
def lu(l:List (Nat × Nat))(i:Nat):Option (Nat × Nat):=
 match l with
 | []=>none
 | a::r=>Bb (Nat.beq i 0) (some a) (lu r (Nat.pred i))
def qw(l:List UInt8)(i:Nat):Option UInt8:=
 match l with
 | []=>none
 | a::r=>Bb (Nat.beq i 0) (some a) (qw r (Nat.pred i))
def Fc(T:Ig)(tm:Ba)(op:Op):Option EV:=
 match op with
 | .move x=>Cj tm x
 | .assign x=>Cj tm x
 | .pick c a b=>match Cj tm c with
  | some (.bool true)=>Cj tm a
  | some (.bool false)=>Cj tm b
  | _=>none
 | .binOp op t x y _=>match Cj tm x with
  | some a=>match Cj tm y with
   | some b=>bin T op t a b
   | none=>none
  | none=>none
 | .unOp .not _ x=>match Cj tm x with
  | some (.bool b)=>some (.bool (Bb b false true))
  | _=>none
 | .unOp .neg _ x=>match Cj tm x with
  | some (.int k n)=>some (.int k (Dr k (Int.sub 0 n)))
  | _=>none
 | .nilCheck x=>match Cj tm x with
  | some (.ptr i o)=>some (.ptr i o)
  | _=>none
 | .fieldAddr s x f=>match Cj tm x with
  | some (.ptr i off)=>match T.Tv s with
   | some (.struct fields)=>match mD fields.toList f with
    | some fd=>match T.size fd.type with
     | some n=>Bb (Nat.beq n 0) none (some (.ptr i (Nat.add off fd.offset)))
     | none=>none
    | none=>none
   | _=>none
  | _=>none
 | .indexAddr t x ix=>match Cj tm ix with
  | some (.int _ (.ofNat n))=>match T.Tv t,Cj tm x with
   | some (.array len e),some (.ptr i off)=>match T.size e with
    | some s=>Bb (Nat.ble (Nat.succ n) len) (some (.ptr i (Nat.add off (Nat.mul n s)))) none
    | none=>none
   | some (.slice e),some (.slice i off len _ _)=>match T.size e with
    | some s=>Bb (Nat.ble (Nat.succ n) len) (some (.ptr i (Nat.add off (Nat.mul n s)))) none
    | none=>none
   | _,_=>none
  | _=>none
 | .index t x ix=>match Cj tm ix with
  | some (.int _ (.ofNat n))=>match T.Tv t,Cj tm x with
   | some (.array len e),some (.agg cs)=>match T.size e with
    | some s=>Bb (Nat.ble (Nat.succ n) len) (part T e cs (Nat.mul n s)) none
    | none=>none
   | some .string,some (.str s)=>match qw s.data.toList n with
    | some b=>some (.int .u8 (.ofNat b.toNat))
    | none=>none
   | _,_=>none
  | _=>none
 | .field t x f=>match T.Tv t,Cj tm x with
  | some (.struct fields),some (.agg cs)=>match mD fields.toList f with
   | some fd=>part T fd.type cs fd.offset
   | none=>none
  | _,_=>none
 | .convert src dst x=>match T.Tv src,T.Tv dst,Cj tm x with
  | some _,some (.int k),some (.int _ n)=>some (.int k (Dr k n))
  | _,_,_=>none
 | .extract x ix=>match Cj tm x with
  | some (.tuple l)=>match Zv l ix with|v::_=>some v | []=>none
  | _=>none
 | .slice t x lo hi mx=>
  match jn tm lo,jn tm hi,jn tm mx with
  | some lo,some hi,some mx=>match T.Tv t,Cj tm x with
   | some (.array n e),some (.ptr i off)=>match T.size e with
    | some s=>iV (.slice i off n n false) s lo hi mx
    | none=>none
   | some (.slice e),some v=>match T.size e with
    | some s=>iV v s lo hi mx
    | none=>none
   | _,_=>none
  | _,_,_=>none
 | .build t ps=>match T.zero t,Zc tm ps.toList,T.Tv t with
  | some z,some l,some (.struct fields)=>match placesOf T fields.toList with
   | some ps=>match fill (lu ps) z l with
    | some c=>some (.agg c)
    | none=>none
   | none=>none
  | some z,some l,some (.array _ e)=>match T.size e with
   | some s=>match fill (fun i=>some (Nat.mul i s,s)) z l with
    | some c=>some (.agg c)
    | none=>none
   | none=>none
  | _,_,_=>none
 | .makeFunc (.func f) first captured=>match Mu tm first.toList,Mu tm captured.toList with
  | some a,some b=>some (.func f a b)
  | _,_=>none
 | .sliceToArrayPointer t x=>match T.Tv t,Cj tm x with
  | some (.array n _),some (.slice i off len _ _)=>Bb (Nat.ble n len) (some (.ptr i off)) none
  | _,_=>none
 | _=>none
def nO:Op->Bool
 | .move _=>true | .assign _=>true | .pick ..=>true | .binOp ..=>true | .unOp ..=>true | .nilCheck _=>true | .fieldAddr ..=>true | .indexAddr ..=>true | .index ..=>true
 | .field ..=>true | .convert ..=>true | .extract ..=>true | .slice ..=>true | .build ..=>true | .makeFunc ..=>true | .sliceToArrayPointer ..=>true
 | _=>false
def Dz(T:Ig)(tm:Ba)(op:Op)(h:Ab):Option (EV × Ab):=
 match op with
 | .load t a=>match Cj tm a with
  | some (.ptr i off)=>match T.agg t with
   | some true=>(match T.size t with
    | some n=>match I6 h i off n with|some l=>some (.agg l,h)|none=>none
    | none=>none)
   | some false=>(match I6 h i off 1 with|some [v]=>some (v,h)|_=>none)
   | none=>none
  | _=>none
 | .store t a x=>match Cj tm a,Cj tm x,T.size t with
  | some (.ptr i off),some v,some n=>Bb (v.plain) (Bb (Nat.beq (len v.cells) n)
   (match Ml h i off v.cells with|some h'=>some (.tuple [],h')|none=>none) none) none
  | _,_,_=>none
 | .alloc t=>match T.zero t with
  | some z=>some (.ptr h.next 0,h.new (.cells z t))
  | none=>none
 | .box t x=>match Cj tm x with
  | some v=>Bb v.plain (some (.ptr h.next 0,h.new (.cells v.cells t))) none
  | none=>none
 | .call { callee:=.builtin b,args,argTypes }=>match Mu tm args.toList with
  | some as=>builtin T b argTypes as h
  | none=>none
 | .buildSlice t n ps=>match T.Tv t,Zc tm ps.toList with
  | some (.slice e),some l=>match T.size e,T.zero e with
   | some s,some z=>Bb (Nat.ble (Nat.mul n s) 65536) (match fill (fun i=>some (Nat.mul i s,s)) (rep z n) l with
    | some c=>some (.slice h.next 0 n n false,h.new (.cells c e))
    | none=>none) none
   | _,_=>none
  | _,_=>none
 | .makeSlice t l c=>match T.Tv t,Cj tm l,Cj tm c with
  | some (.slice e),some (.int _ (.ofNat n)),some (.int _ (.ofNat m))=>match T.zero e with
   | some z=>Bb (Nat.ble n m) (Bb (Nat.ble m 65536) (some (.slice h.next 0 n m false,h.new (.cells (rep z m) e))) none) none
   | none=>none
  | _,_,_=>none
 | .makeMap _ none=>some (.map h.next,h.new (.map []))
 | .makeChan t s=>match T.Tv t,Cj tm s with
  | some (.chan _ e),some (.int _ (.ofNat n))=>match T.size e with
   | some _=>Bb (Nat.ble n 65536) (some (.chan h.next,h.new (.chan n []))) none
   | none=>none
  | _,_=>none
 | .lookup t x k ok=>match T.Tv t,Cj tm x,Cj tm k with
  | some (.map u e),some (.map i),some d=>Bb (Ot T u d) (match h.get i with
   | some (.map es)=>match H0 d es 0 with
    | some (some (_,v))=>some (Bb ok (.tuple [v,.bool true]) v,h)
    | some none=>match zeroOf T e with
     | some zv=>some (Bb ok (.tuple [zv,.bool false]) zv,h)
     | none=>none
    | none=>none
   | _=>none) none
  | _,_,_=>none
 | .mapUpdate t m k x=>match T.Tv t,Cj tm m,Cj tm k,Cj tm x with
  | some (.map u _),some (.map i),some d,some v=>Bb (Ot T u d) (match h.get i with
   | some (.map es)=>match H0 d es 0 with
    | some (some (j,_))=>some (.tuple [],h.put i (.map (es.set j (d,v))))
    | some none=>some (.tuple [],h.put i (.map (es++[(d,v)])))
    | none=>none
   | _=>none) none
  | _,_,_,_=>none
 | .select cs false=>match cs.toList with
  | [c]=>match Cj tm c.chan,c.send with
   | some (.chan i),some x=>match h.get i,Cj tm x with
    | some (.chan cap buf),some v=>match zeroOf T c.elem with
     | some _=>Bb (Nat.ble (Nat.succ (len buf)) cap) (some (.tuple [.int .i64 0,.bool false],h.put i (.chan cap (buf++[v]))))
      (some (.tuple [.int .i64 (-1),.bool false],h))
     | none=>none
    | _,_=>none
   | some (.chan i),none=>match h.get i,zeroOf T c.elem with
    | some (.chan cap buf),some zv=>
     match buf with
     | v::r=>some (.tuple [.int .i64 0,.bool true,v],h.put i (.chan cap r))
     | []=>some (.tuple [.int .i64 (-1),.bool false,zv],h)
    | _,_=>none
   | _,_=>none
  | _=>none
 | _=>none
def setArgs:List EV->Nat->Tr EV->Tr EV
 | [],_,t=>t
 | v::r,i,t=>setArgs r (Nat.succ i) (t.put i (some v))
def Wh:List Tmp->List EV->Nat->Tr EV->Option (Tr EV)
 | [],[],_,t=>some t
 | p::r,v::s,n,t=>Wh r s n (Bb (Nat.ble (Nat.succ p) n) (t.put p (some v)) t)
 | _,_,_,_=>none
def enter(T:Ig)(f:Nat)(args:List EV):Option Ajt:=
 match T.fn f with
 | some { ntmps:=n,body:=some c,.. }=>Bb (Nat.ble (len args) n) (some ⟨f,n,setArgs args 0 .nil,[.code c],[],false,none⟩) none
 | _=>none
def kr(l:List Oper)(i:Nat):Option Oper:=
 match l with
 | []=>none
 | a::r=>Bb (Nat.beq i 0) (some a) (kr r (Nat.pred i))
def yielded(ops:List Oper)(tm:Ba)(j:Nat):Option Bool:=
 match kr ops j with
 | some o=>match o.dst with
  | some d=>match tm.get d with
   | some (.bool b)=>some b
   | _=>none
  | none=>none
 | none=>none
def wanted(ops:List Oper)(tm:Ba)(g:Option (Nat × Bool)):Bool:=
 match g with
 | none=>true
 | some (j,want)=>match yielded ops tm j with|some b=>Bb b want (Bb want false true)|none=>false
def aop(T:Ig)(call round:Ah)(tm:Ba)(op:Op)(h:Ab):Option (EV × Ab):=
 Bb (nO op) (match Fc T tm op with|some v=>some (v,h)|none=>none)
  (match op with
  | .call { callee:=.value f,args,.. }=>match Cj tm f,Mu tm args.toList with
   | some (.func g first captured),some as=>call g (first++(as++captured)) h
   | some (.Vv l),some as=>round l as h
   | _,_=>none
  | op=>Dz T tm op h)
def jz(T:Ig)(call round:Ah)(n:Nat)(ops:List Oper):List Oper->Ba->Ab->Option (Ba × Ab)
 | [],tm,h=>some (tm,h)
 | ⟨dst,op,_,_,_,g⟩::r,tm,h=>Bb (wanted ops tm g)
  (match aop T call round tm op h with
   | some (v,h')=>jz T call round n ops r (Po n tm dst v) h'
   | none=>none)
  (jz T call round n ops r (Po n tm dst (.tuple [])) h)
inductive lC where
 | val|load|new|pur|sto|big
def mF:Op->Bool
 | .call { callee:=.builtin .len,.. }=>true
 | .call { callee:=.builtin .min,.. }=>true
 | .call { callee:=.builtin .max,.. }=>true
 | _=>false
def cls:Op->lC
 | .load ..=>.load
 | .store ..=>.sto
 | .alloc _=>.new | .box ..=>.new | .buildSlice ..=>.new | .makeSlice ..=>.new | .makeMap ..=>.new | .makeChan ..=>.new
 | op=>Bb (nO op) .val (Bb (mF op) .pur .big)
def nQ(e:Edge):Bool:=
 match e.ground with
 | .textOnly _=>false
 | .gcOnly _=>false
 | _=>true
def qy(bs:Tr Nat):List Edge->Nat->Nat
 | [],x=>x
 | e::r,x=>qy bs r (Bb (nQ e) (Nat.lor x (Nat.lor (Nat.shiftLeft 1 e.on) (match bs.get e.on with|some y=>y|none=>0))) x)
def Oq:List Oper->Nat->Tr Nat->Tr Nat
 | [],_,bs=>bs
 | o::r,i,bs=>Oq r (Nat.succ i) (bs.put i (some (qy bs o.after.toList 0)))
def mJ:List Operand->Nat->Nat
 | [],x=>x
 | .tmp t::r,x=>mJ r (Nat.lor x (Nat.shiftLeft 1 t))
 | _::r,x=>mJ r x
def nS(o:Oper):Nat:=match o.dst with|some d=>Nat.shiftLeft 1 d|none=>0
def pa(ops:List Oper)(o:Oper):Nat:=
 Nat.lor (mJ o.op.operands.toList 0) (match o.guard with|some (j,_)=>(match kr ops j with|some g=>nS g|none=>0)|none=>0)
def uX(j d l u l' b:Nat):Bool:=
 Bb (Nat.beq (Nat.land b (Nat.shiftLeft 1 j)) 0) (Nat.beq (Nat.lor (Nat.land d (Nat.lor u l')) (Nat.land l u)) 0) true
def sF(u l' b:Nat):List (Nat × Nat)->Nat->Bool
 | [],_=>true
 | (d,l)::r,j=>Bb (uX j d l u l' b) (sF u l' b r (Nat.succ j)) false
def mC(ops:List Oper)(bs:Tr Nat):List Oper->Nat->List (Nat × Nat)->Bool
 | [],_,_=>true
 | o::r,i,ms=>match bs.get i with
  | some b=>Bb (sF (nS o) (pa ops o) b ms 0) (mC ops bs r (Nat.succ i) (ms++[(nS o,pa ops o)])) false
  | none=>false
def within(x b:Nat):Bool:=Nat.beq (Nat.land x b) x
def Yx(b q:Nat):List (Nat × Nat)->Bool
 | []=>true
 | (m,w)::r=>Bb (Bb (within m b) true (Nat.ble (Nat.succ q) w)) (Yx b q r) false
def Se(b w:Nat):List (Nat × Nat)->Bool
 | []=>true
 | (m,q)::r=>Bb (Bb (within m b) true (Nat.ble (Nat.succ q) w)) (Se b w r) false
def loose(b:Nat):List (Nat × Nat)->List Nat
 | []=>[]
 | (m,q)::r=>Bb (within m b) (loose b r) (q::loose b r)
def kq(t:Tr D3):List Nat->Tr D3
 | []=>t
 | q::r=>(kq t r).put q none
def j_(t d:Tr D3):List Nat->Tr D3
 | []=>d
 | q::r=>(j_ t d r).put q (t.get q)
structure iZ where
 tm:Ba
 h:Ab
 bg:Nat
 nw:List (Nat × Nat)
 Cw:List (Nat × Nat)
 lou:List (Nat × Nat)
 st:List (Nat × Nat)
def Fm(b q:Nat):List (Nat × Nat)->Bool
 | []=>true
 | (m,r)::l=>Bb (Bb (within m b) true (Bb (Nat.beq q r) false true)) (Fm b q l) false
def Ay1(b:Nat):List (Nat × Nat)->Bool
 | []=>true
 | (m,_)::l=>Bb (within m b) (Ay1 b l) false
def A0g(q:Nat):List Nat->Bool
 | []=>true
 | r::l=>Bb (Nat.beq q r) false (A0g q l)
def V9(T:Ig)(call round:Ah)(n:Nat)(ops:List Oper)(bs:Tr Nat)(base:Nat)(o:Oper)(i:Nat)(s:iZ):Option iZ:=
 match o,s with
 | ⟨dst,op,_,_,_,g⟩,⟨tm,h,bg,nw,Cw,lou,st⟩=>Bb (wanted ops tm g)
  (match bs.get i with
  | none=>none
  | some b=>match cls op with
   | .val=>match Fc T tm op with
    | some v=>some ⟨Po n tm dst v,h,bg,nw,Cw,lou,st⟩
    | none=>none
   | .load=>match op with
    | .load t x=>match Cj tm x with
     | some (.ptr q _)=>
      Bb (Bb (Fm b q st) (Bb (Nat.ble (Nat.succ q) base) (Yx b q lou) (Bb (within bg b) (match loose b nw with | []=>true|_=>false) false)) false) (match Dz T tm (.load t x) h with
      | some (v,_)=>some ⟨Po n tm dst v,h,bg,nw,(Nat.shiftLeft 1 i,q)::Cw,lou,st⟩
      | none=>none) none
     | _=>none
    | _=>none
   | .new=>match Dz T tm op h with
    | some (v,h')=>some ⟨Po n tm dst v,h',bg,(Nat.shiftLeft 1 i,h.next)::nw,Cw,lou,st⟩
    | none=>none
   | .sto=>match op with
    | .store t a x=>match Cj tm a with
     | some (.ptr q _)=>
      Bb (Bb (within bg b) (Bb (Fm b q st) (Bb (Fm b q Cw) (A0g q (loose b nw)) false) false) false) (match Dz T tm (.store t a x) h with
      | some (v,h')=>some ⟨Po n tm dst v,h',bg,nw,Cw,lou,(Nat.shiftLeft 1 i,q)::st⟩
      | none=>none) none
     | _=>none
    | _=>none
   | .pur=>match Dz T tm op ⟨.nil,h.next,h.next⟩with
    | some (v,_)=>some ⟨Po n tm dst v,h,bg,nw,Cw,lou,st⟩
    | none=>none
   | .big=>Bb (Bb (within bg b) (Ay1 b st) false) (match h with
    | ⟨t,nx,mw⟩=>match aop T call round tm op ⟨kq t (loose b nw),nx,nx⟩with
     | some (v,⟨u,j,d⟩)=>
      Bb (Nat.ble nx d)
       (some ⟨Po n tm dst v,⟨j_ t u (loose b nw),j,mw⟩,Nat.lor bg (Nat.shiftLeft 1 i),nw,Cw,lou,st⟩)
       (Bb (Se b d Cw)
        (some ⟨Po n tm dst v,⟨j_ t u (loose b nw),j,Bb (Nat.ble mw d) mw d⟩,Nat.lor bg (Nat.shiftLeft 1 i),nw,Cw,(Nat.shiftLeft 1 i,d)::lou,st⟩)
        none)
     | none=>none) none)
  (some ⟨Po n tm dst (.tuple []),h,bg,nw,Cw,lou,st⟩)
def S7(T:Ig)(call round:Ah)(n:Nat)(ops:List Oper)(bs:Tr Nat)(base:Nat):List Oper->Nat->iZ->Option iZ
 | [],_,s=>some s
 | o::r,i,s=>match V9 T call round n ops bs base o i s with
  | some s'=>S7 T call round n ops bs base r (Nat.succ i) s'
  | none=>none
def uY(i:Nat):List Edge->Bool
 | []=>true
 | e::r=>Bb (Bb (nQ e) (Nat.ble (Nat.succ e.on) i) true) (uY i r) false
def nL:List Oper->Nat->Bool
 | [],_=>true
 | o::r,i=>Bb (uY i o.after.toList) (nL r (Nat.succ i)) false
def ly(T:Ig)(call round:Ah)(n:Nat)(ops:List Oper)(tm:Ba)(h:Ab):Option (Ba × Ab):=
 Bb (nL ops 0) (Bb (mC ops (Oq ops 0 .nil) ops 0 []) (match S7 T call round n ops (Oq ops 0 .nil) h.next ops 0 ⟨tm,h,0,[],[],[],[]⟩with
  | some ⟨d,h',_,_,_,_,_⟩=>some (d,h')
  | none=>none) none) none
def Nb(T:Ig)(tm:Ba)(h:Ab):List ResultVar->Option (List EV)
 | []=>some []
 | .tmp t::r=>match Nb T tm h r with|some l=>some (tmp tm t::l)|none=>none
 | .cell a t::r=>match tmp tm a,Nb T tm h r,T.size t with
  | .ptr i off,some l,some n=>match I6 h i off n with
   | some cs=>match T.agg t with
    | some true=>some (.agg cs::l)
    | some false=>(match cs with | [v]=>some (v::l)|_=>none)
    | none=>none
   | none=>none
  | _,_,_=>none
inductive AR where
 | go (s:Hp)
 | done (v:EV) (h:Ab)
 | fail
def leave(fn n:Nat)(tm:Ba)(todo:List Item)(defers:List Nat)(Dt:Option Nat)(h:Ab)(jump:Option Code):AR:=
 match Dt with
 | none=>match jump with
  | none=>.go ⟨⟨fn,n,tm,todo,defers,true,Dt⟩,h⟩
  | some .ret=>.go ⟨⟨fn,n,tm,todo,defers,true,Dt⟩,h⟩
  | some _=>.fail
 | some l=>match h.get l with
  | some (.loop _ _ f n tm ps b_ body d)=>
   match jump with
   | none=>.done (.bool true) (h.put l (.loop .ready none f n tm ps b_ body d))
   | some c=>.done (.bool false) (h.put l (.loop .done (some c) f n tm ps b_ body d))
  | _=>.fail
def behind(fn n:Nat)(tm:Ba)(defers:List Nat)(Dt:Option Nat)(l:Nat)(k:List Item)(r:Option (EV × Ab)):AR:=
 match r with
 | none=>.fail
 | some (_,h)=>match h.get l with
  | some (.loop st p f u j ps b_ body d)=>match st with
   | .busy=>.fail
   | _=>.go ⟨⟨fn,n,tm,(match p with|some c=>.code c::k|none=>k),defers,false,Dt⟩,h.put l (.loop .exhausted p f u j ps b_ body d)⟩
  | _=>.fail
def Cq(T:Ig)(call round:Ah):Hp->AR
 | ⟨⟨fn,n,tm,todo,defers,true,Dt⟩,h⟩=>match defers with
  | d::ds=>match h.get d with
   | some (.deferred true)=>.go ⟨⟨fn,n,tm,todo,ds,true,Dt⟩,h.put d (.deferred false)⟩
   | _=>.fail
  | []=>match T.fn fn with
   | some f=>match Nb T tm h f.results.toList with
    | some [v]=>.done v h
    | some l=>.done (.tuple l) h
    | none=>.fail
   | none=>.fail
 | ⟨⟨fn,n,tm,todo,defers,false,Dt⟩,h⟩=>
  match todo with
  | []=>leave fn n tm todo defers Dt h none
  | .code c::k=>match c with
   | .region _ ops false=>match jz T call round n ops.toList ops.toList tm h with
    | some (j,h')=>.go ⟨⟨fn,n,j,k,defers,false,Dt⟩,h'⟩
    | none=>.fail
   | .region _ ops true=>match ly T call round n ops.toList tm h with
    | some (j,h')=>.go ⟨⟨fn,n,j,k,defers,false,Dt⟩,h'⟩
    | none=>.fail
   | .seq a b=>.go ⟨⟨fn,n,tm,.code a :: .code b::k,defers,false,Dt⟩,h⟩
   | .skip=>.go ⟨⟨fn,n,tm,k,defers,false,Dt⟩,h⟩
   | .cond c a b=>match Cj tm c with
    | some (.bool true)=>.go ⟨⟨fn,n,tm,.code a::k,defers,false,Dt⟩,h⟩
    | some (.bool false)=>.go ⟨⟨fn,n,tm,.code b::k,defers,false,Dt⟩,h⟩
    | _=>.fail
   | .block id c=>.go ⟨⟨fn,n,tm,.code c :: .inBlock id::k,defers,false,Dt⟩,h⟩
   | .loop c=>.go ⟨⟨fn,n,tm,.code c :: .inLoop c::k,defers,false,Dt⟩,h⟩
   | .label _=>.go ⟨⟨fn,n,tm,k,defers,false,Dt⟩,h⟩
   | .exit id=>match exitTo id k with
    | some k'=>.go ⟨⟨fn,n,tm,k',defers,false,Dt⟩,h⟩
    | none=>leave fn n tm todo defers Dt h (some (.exit id))
   | .ret=>leave fn n tm todo defers Dt h (some .ret)
   | .rangeFunc f params b_ body=>
    match Cj tm f with
    | some (.func g first captured)=>
     match Dt with
     | none=>
      behind fn n tm (h.next::defers) Dt (Nat.succ h.next) k (call g (first++(.Vv (Nat.succ h.next)::captured)) ((h.new (.deferred true)).new (.loop .ready none fn n tm params.toList b_ body h.next)))
     | some l0=>match h.get l0 with
      | some (.loop _ _ _ _ _ _ _ _ d)=>
       behind fn n tm defers Dt h.next k (call g (first++(.Vv h.next::captured)) (h.new (.loop .ready none fn n tm params.toList b_ body d)))
      | _=>.fail
    | _=>.fail
   | _=>.fail
  | .inBlock _::k=>.go ⟨⟨fn,n,tm,k,defers,false,Dt⟩,h⟩
  | .inLoop c::k=>.go ⟨⟨fn,n,tm,.code c :: .inLoop c::k,defers,false,Dt⟩,h⟩
  | .beginRound::k=>match Dt with
   | some l=>match h.get l with
    | some (.loop .ready p f u j ps b_ body d)=>.go ⟨⟨fn,n,tm,k,defers,false,Dt⟩,h.put l (.loop .busy p f u j ps b_ body d)⟩
    | _=>.fail
   | none=>.fail
  | _=>.fail
def uS(l:Nat)(args:List EV)(h:Ab):Option Ajt:=
 match h.get l with
 | some (.loop _ _ f n tm ps b_ body _)=>match Wh ps args n tm with
  | some d=>some ⟨f,n,d,[.code b_,.beginRound,.code body],[],false,some l⟩
  | none=>none
 | _=>none
end
variable {a vs buf args:List EV}{h h' h1 h2:Ab}{v zv:EV}{tm:Ba}{hi lo mx:Option EV}{o':D3}{ws:List (Nat × List EV)}{T:Ig}{round:Ah}
section
section Bb
@[simp] theorem Ak(x y:α):Bb true x y=x:=rfl
@[simp] theorem Bm(x y:α):Bb false x y=y:=rfl
theorem Bq(b:Bool)(x y:α):Bb b x y=if b=true then x else y:=by cases b<;>rfl
theorem Ap {b:Bool}{x:Option α}{r:α}(h:Bb b x none=some r):b=true/\x=some r:=by cases b<;>simp_all [Bq]
theorem To {b:Bool}{x:Option α}{r:α}(h:Bb b none x=some r):b=false/\x=some r:=by cases b<;>simp_all [Bq]
end Bb
theorem nU {a b:Nat}(h:a<=b):Nat.ble a b=true:=aQ h
theorem qz {a b:Nat}(h:¬a<=b):Nat.ble a b=false:=Bool.eq_false_iff.2 fun e=>h (bL e)
theorem beq_false {a b:Nat}(h:a≠b):Nat.beq a b=false:=Bool.eq_false_iff.2 fun e=>h (aL e)
section tree
theorem Tr.get_nil(i:Nat):(Tr.nil:Tr α).get i=none:=rfl
theorem Tr.Yp(l r:Tr α)(v:Option α)(i:Nat):(Tr.node l v r).get i=if i=0 then v else if i%2=1 then l.get (i/2)else r.get (i/2-1):=by
 have e:(Tr.node l v r).get i=Bb (Nat.beq i 0) v (Bb (Nat.beq (Nat.land i 1) 1) (l.get (Nat.div i 2)) (r.get (Nat.pred (Nat.div i 2)))):=rfl;have e2:Nat.land i 1=i%2:=Nat.and_one_is_mod i;rw[e,Bq,Bq,e2];simp only[Nat.beq_eq];rfl
theorem Tr.set_nil(n i:Nat)(v:Option α):Tr.set (n+1) (.nil:Tr α) i v =
 Bb (Nat.beq i 0) (.node .nil v .nil) (Bb (Nat.beq (Nat.land i 1) 1) (Tr.lf none .nil (Tr.set n .nil (Nat.div i 2) v)) (Tr.rt .nil none (Tr.set n .nil (Nat.pred (Nat.div i 2)) v))):=rfl
theorem Tr.sG(n i:Nat)(l r:Tr α)(x v:Option α):Tr.set (n+1) (.node l x r) i v =
 Bb (Nat.beq i 0) (.node l v r) (Bb (Nat.beq (Nat.land i 1) 1) (Tr.lf x r (Tr.set n l (Nat.div i 2) v)) (Tr.rt l x (Tr.set n r (Nat.pred (Nat.div i 2)) v))):=rfl
theorem Tr.PT(x:Option α)(r a c:Tr α)(b:Option α):Tr.lf x r (.node a b c)=.node (.node a b c) x r:=rfl
theorem Tr.PU(x:Option α)(l a c:Tr α)(b:Option α):Tr.rt l x (.node a b c)=.node l x (.node a b c):=rfl
theorem Tr.Sw:∀(n:Nat) (t:Tr α) (i:Nat) (v:Option α),i+1<2^n->∃a b c,Tr.set n t i v=.node a b c
 | 0,_,i,_,h=>by simp at h
 | n+1,t,i,v,h=>by
  have e2:Nat.land i 1=i%2:=Nat.and_one_is_mod i;rw[fD]at h;by_cases h0:i=0
  ·subst h0
   cases t with
   | nil=>exact⟨_,_,_,rfl⟩
   | node l x r=>exact⟨_,_,_,rfl⟩
  ·have b0:Nat.beq i 0=false:=by cases hb:Nat.beq i 0 with|false=>rfl|true=>exact absurd (aL hb) h0
   by_cases h1:i%2=1
   ·have b1:Nat.beq (i%2) 1=true:=by rw[h1];rfl
    cases t with
    | nil=>
     obtain⟨a,b,c,e⟩:=Tr.Sw n (.nil:Tr α) (i/2) v (by omega);exact⟨_,_,_,by rw[Tr.set_nil,b0,Bm,e2,b1,Ak];exact congrArg (Tr.lf none .nil) e⟩
    | node l x r=>
     obtain⟨a,b,c,e⟩:=Tr.Sw n l (i/2) v (by omega);exact⟨_,_,_,by rw[Tr.sG,b0,Bm,e2,b1,Ak];exact congrArg (Tr.lf x r) e⟩
   ·have b1:Nat.beq (i%2) 1=false:=by cases hb:Nat.beq (i%2) 1 with|false=>rfl|true=>exact absurd (aL hb) h1
    cases t with
    | nil=>
     obtain⟨a,b,c,e⟩:=Tr.Sw n (.nil:Tr α) (i/2-1) v (by omega);exact⟨_,_,_,by rw[Tr.set_nil,b0,Bm,e2,b1,Bm];exact congrArg (Tr.rt .nil none) e⟩
    | node l x r=>
     obtain⟨a,b,c,e⟩:=Tr.Sw n r (i/2-1) v (by omega);exact⟨_,_,_,by rw[Tr.sG,b0,Bm,e2,b1,Bm];exact congrArg (Tr.rt l x) e⟩
theorem Tr.sH:∀(n:Nat) (t:Tr α) (i:Nat) (v:Option α) (j:Nat),i+1<2^n->(Tr.set n t i v).get j=if i=j then v else t.get j
 | 0,_,i,_,_,h=>by simp at h
 | n+1,t,i,v,j,h=>by
  have e2:Nat.land i 1=i%2:=Nat.and_one_is_mod i;rw[fD]at h;by_cases h0:i=0
  ·subst h0
   cases t with
   | nil=>
    rw[Tr.set_nil,show Nat.beq 0 0=true from rfl,Ak,Tr.Yp];by_cases hj:j=0
    ·simp[hj]
    ·rw[aG hj,aG (cY hj)];simp only[Tr.get_nil,ite_self]
   | node l x r=>
    rw[Tr.sG,show Nat.beq 0 0=true from rfl,Ak,Tr.Yp,Tr.Yp];by_cases hj:j=0
    ·simp[hj]
    ·rw[aG hj,aG (cY hj),aG hj]
  ·have b0:Nat.beq i 0=false:=by cases hb:Nat.beq i 0 with|false=>rfl|true=>exact absurd (aL hb) h0
   by_cases h1:i%2=1
   ·have b1:Nat.beq (i%2) 1=true:=by rw[h1];rfl
    have hs:i/2+1<2^n:=by omega
    cases t with
    | nil=>
     obtain⟨a,b,c,e⟩:=Tr.Sw n (.nil:Tr α) (i/2) v hs;have u:=Tr.sH n (.nil:Tr α) (i/2) v (j/2) hs;rw[e]at u;have e':Tr.set n (.nil:Tr α) (Nat.div i 2) v=.node a b c:=e;rw[Tr.set_nil,b0,Bm,e2,b1,Ak,e',Tr.PT,Tr.Yp];by_cases hj:j=0
     ·subst hj;simp[h0,Tr.get_nil]
     ·rw[aG hj]
      by_cases d:j%2=1
      ·rw[aI d,u]
       by_cases he:i=j
       ·subst he;simp
       ·rw[aG he,aG (by omega)];rfl
      ·rw[aG d,aG (by rintro rfl;exact d h1)];rfl
    | node l x r=>
     obtain⟨a,b,c,e⟩:=Tr.Sw n l (i/2) v hs;have u:=Tr.sH n l (i/2) v (j/2) hs;rw[e]at u;have e':Tr.set n l (Nat.div i 2) v=.node a b c:=e;rw[Tr.sG,b0,Bm,e2,b1,Ak,e',Tr.PT,Tr.Yp,Tr.Yp l r x j];by_cases hj:j=0
     ·subst hj;simp[h0]
     ·rw[aG hj,aG hj]
      by_cases d:j%2=1
      ·rw[aI d,aI d,u]
       by_cases he:i=j
       ·subst he;simp
       ·rw[aG he,aG (by omega)]
      ·rw[aG d,aG d,aG (by rintro rfl;exact d h1)]
   ·have b1:Nat.beq (i%2) 1=false:=by cases hb:Nat.beq (i%2) 1 with|false=>rfl|true=>exact absurd (aL hb) h1
    have hs:i/2-1+1<2^n:=by omega
    cases t with
    | nil=>
     obtain⟨a,b,c,e⟩:=Tr.Sw n (.nil:Tr α) (i/2-1) v hs;have u:=Tr.sH n (.nil:Tr α) (i/2-1) v (j/2-1) hs;rw[e]at u;have e':Tr.set n (.nil:Tr α) (Nat.pred (Nat.div i 2)) v=.node a b c:=e;rw[Tr.set_nil,b0,Bm,e2,b1,Bm,e',Tr.PU,Tr.Yp];by_cases hj:j=0
     ·subst hj;simp[h0,Tr.get_nil]
     ·rw[aG hj]
      by_cases d:j%2=1
      ·rw[aI d,aG (by rintro rfl;exact h1 d)];rfl
      ·rw[aG d,u]
       by_cases he:i=j
       ·subst he;simp
       ·rw[aG he,aG (by omega)];rfl
    | node l x r=>
     obtain⟨a,b,c,e⟩:=Tr.Sw n r (i/2-1) v hs;have u:=Tr.sH n r (i/2-1) v (j/2-1) hs;rw[e]at u;have e':Tr.set n r (Nat.pred (Nat.div i 2)) v=.node a b c:=e;rw[Tr.sG,b0,Bm,e2,b1,Bm,e',Tr.PU,Tr.Yp,Tr.Yp l r x j];by_cases hj:j=0
     ·subst hj;simp[h0]
     ·rw[aG hj,aG hj]
      by_cases d:j%2=1
      ·rw[aI d,aI d,aG (by rintro rfl;exact h1 d)]
      ·rw[aG d,aG d,u]
       by_cases he:i=j
       ·subst he;simp
       ·rw[aG he,aG (by omega)]
theorem Tr.get_put(t:Tr α)(i:Nat)(v:Option α)(j:Nat):(t.put i v).get j=if i=j then v else t.get j:=
 Tr.sH _ t i v j Nat.lt_log2_self
theorem Tr.Ae(t:Tr α)(i:Nat)(v:Option α):(t.put i v).get i=v:=by rw[Tr.get_put,aI rfl]
theorem Tr.Af(t:Tr α){j:Nat}(v:Option α)(h:i≠j):(t.put i v).get j=t.get j:=by rw[Tr.get_put,aG h]
end tree
structure Loc where
 b:Nat->Nat
 sp:Nat->Nat
mutual
def Cr(f:Loc):EV->Value
 | .int k n=>.int k n
 | .bool b=>.bool b
 | .str s=>.string s
 | .ptr i off=>.pointer (some ⟨f.b i,off,none⟩)
 | .Ch=>.pointer none
 | .slice i off len room op=>.slice (some ⟨f.b i,off,none⟩) len (if op=true then room+f.sp i else room)
 | .tail i off poff=>.slice (some ⟨f.b i,if f.sp i=0 then poff else off,none⟩) 0 (f.sp i)
 | .Aq=>.slice none 0 0
 | .odd a=>.slice (some a) 0 0
 | .map i=>.map (some (f.b i))
 | .Al8=>.map none
 | .chan i=>.chan (some (f.b i))
 | .Ae6=>.chan none
 | .func g a c=>.func (.func g) (Bw f a).toArray (Bw f c).toArray
 | .Vv l=>.func (.yield (f.b l)) #[] #[]
 | .Ajg=>.nilFunc
 | .Acf=>.nilIface
 | .agg l=>.agg (Bw f l).toArray
 | .tuple l=>.tuple (Bw f l).toArray
def Bw(f:Loc):List EV->List Value
 | []=>[]
 | v::r=>Cr f v::Bw f r
end
theorem Qo(f:Loc):∀l:List EV,Bw f l=l.map (Cr f)
 | []=>rfl
 | v::r=>by rw[Bw,Qo f r];rfl
theorem Di(f:Loc)(l:List EV):(Bw f l).length=l.length:=by rw[Qo,bh]
theorem Sa(f:Loc)(a b:List EV):Bw f (a++b)=Bw f a++Bw f b:=by simp only[Qo,cR]
def EV.one:EV->Bool
 | .agg _=>false
 | .tuple _=>false
 | _=>true
theorem A8a(f:Loc)(v:EV)(h:v.one=true):(Cr f v).oneCell'=true:=by
 cases v<;>first|rfl|(simp[EV.one]at h)
theorem PV(f:Loc)(l:List EV)(h:∀v∈l,v.one=true):∀x∈Bw f l,x.oneCell'=true:=by
 intro x d;rw[Qo,cW]at d;obtain⟨v,j,rfl⟩:=d;exact A8a f v (h v j)
mutual
def EV.ok(p:Nat->Prop):EV->Prop
 | .ptr i _=>p i
 | .slice i _ _ _ _=>p i
 | .tail i _ _=>p i
 | .map i=>p i
 | .chan i=>p i
 | .Vv l=>p l
 | .func _ a c=>EV.Tx p a/\EV.Tx p c
 | .agg l=>EV.Tx p l/\l.all EV.one=true
 | .tuple l=>EV.Tx p l
 | _=>True
def EV.Tx(p:Nat->Prop):List EV->Prop
 | []=>True
 | v::r=>EV.ok p v/\EV.Tx p r
end
theorem Io(p:Nat->Prop):∀l:List EV,EV.Tx p l↔∀v∈l,v.ok p
 | []=>by simp[EV.Tx]
 | v::r=>by rw[EV.Tx,Io p r];simp
def Loc.Fo(p:Nat->Prop)(f g:Loc):Prop:=∀i,p i->f.b i=g.b i/\f.sp i=g.sp i
theorem Loc.uZ(p:Nat->Prop)(f:Loc):Loc.Fo p f f:=fun _ _=>⟨rfl,rfl⟩
theorem Loc.Fo.trans{f g h:Loc}(a:Loc.Fo p f g)(b:Loc.Fo p g h):Loc.Fo p f h:=fun i hi=>⟨(a i hi).1.trans (b i hi).1,(a i hi).2.trans (b i hi).2⟩
theorem Loc.Fo.mono{f g:Loc}(a:Loc.Fo p f g)(h:∀i,q i->p i):Loc.Fo q f g:=fun i hi=>a i (h i hi)
mutual
theorem qA{f g:Loc}(d:Loc.Fo p f g):∀v:EV,v.ok p->Cr f v=Cr g v
 | .int _ _,_=>rfl
 | .bool _,_=>rfl
 | .str _,_=>rfl
 | .ptr i off,h=>by simp only[Cr];rw[(d i h).1]
 | .Ch,_=>rfl
 | .slice i off len room op,h=>by simp only[Cr];rw[(d i h).1,(d i h).2]
 | .tail i off poff,h=>by simp only[Cr];rw[(d i h).1,(d i h).2]
 | .Aq,_=>rfl
 | .odd _,_=>rfl
 | .map i,h=>by simp only[Cr];rw[(d i h).1]
 | .Al8,_=>rfl
 | .chan i,h=>by simp only[Cr];rw[(d i h).1]
 | .Ae6,_=>rfl
 | .func a b c,h=>by simp only[Cr];rw[G8 d b h.1,G8 d c h.2]
 | .Vv l,h=>by simp only[Cr];rw[(d l h).1]
 | .Ajg,_=>rfl
 | .Acf,_=>rfl
 | .agg l,h=>by simp only[Cr];rw[G8 d l h.1]
 | .tuple l,h=>by simp only[Cr];rw[G8 d l h]
theorem G8{f g:Loc}(d:Loc.Fo p f g):∀l:List EV,EV.Tx p l->Bw f l=Bw g l
 | [],_=>rfl
 | v::r,h=>by simp only[Bw];rw[qA d v h.1,G8 d r h.2]
end
mutual
theorem EV.ok.mono(d:∀i,p i->q i):∀v:EV,v.ok p->v.ok q
 | .int _ _,_=>trivial
 | .bool _,_=>trivial
 | .str _,_=>trivial
 | .ptr i _,h=>d i h
 | .Ch,_=>trivial
 | .slice i _ _ _ _,h=>d i h
 | .tail i _ _,h=>d i h
 | .Aq,_=>trivial
 | .odd _,_=>trivial
 | .map i,h=>d i h
 | .Al8,_=>trivial
 | .chan i,h=>d i h
 | .Ae6,_=>trivial
 | .func _ b c,h=>⟨EV.Tx.mono d b h.1,EV.Tx.mono d c h.2⟩
 | .Vv l,h=>d l h
 | .Ajg,_=>trivial
 | .Acf,_=>trivial
 | .agg l,h=>⟨EV.Tx.mono d l h.1,h.2⟩
 | .tuple l,h=>EV.Tx.mono d l h
theorem EV.Tx.mono(d:∀i,p i->q i):∀l:List EV,EV.Tx p l->EV.Tx q l
 | [],_=>trivial
 | v::r,h=>⟨EV.ok.mono d v h.1,EV.Tx.mono d r h.2⟩
end
theorem U9(h:v.ok p)(hp:v.plain=true):EV.Tx p v.cells/\∀x∈v.cells,x.one=true:=by
 cases v with
 | tuple l=>simp[EV.plain]at hp
 | agg l=>obtain⟨h1,h2⟩:=h;exact⟨h1,by simpa [EV.cells]using h2⟩
 | _=>exact⟨⟨h,trivial⟩,by simp[EV.cells,EV.one]⟩
theorem Td(f:Loc)(v:EV):(Cr f v).cells=(Bw f v.cells).toArray:=by
 cases v<;>rfl
theorem PW(f:Loc){v:Value}{x:EV}(h:qs v=some x):Cr f x=v:=by
 unfold qs at h;split at h<;>first|(cases h;rfl)|(cases h)
theorem PX(p:Nat->Prop){v:Value}{x:EV}(h:qs v=some x):x.ok p/\x.one=true:=by
 unfold qs at h;split at h<;>first|(cases h;exact⟨trivial,rfl⟩)|(cases h)
theorem PY(f:Loc):∀{l:List Value} {xs:List EV},qu l=some xs->Bw f xs=l
 | [],_,h=>by cases h;rfl
 | v::r,_,h=>by
  unfold qu at h;split at h
  ·rename_i x d
   split at h
   ·rename_i y j
    cases h;rw[Bw,PW f d,PY f j]
   ·cases h
  ·cases h
theorem PZ(p:Nat->Prop):∀{l:List Value} {xs:List EV},qu l=some xs->EV.Tx p xs/\xs.all EV.one=true
 | [],_,h=>by cases h;exact⟨trivial,rfl⟩
 | v::r,_,h=>by
  unfold qu at h;split at h
  ·rename_i x d
   split at h
   ·rename_i y j
    cases h;have h1:=PX p d;have h2:=PZ p j;exact⟨⟨h1.1,h2.1⟩,by simp[h1.2];simpa using h2.2⟩
   ·cases h
  ·cases h
theorem P_(f:Loc){v:Value}{x:EV}(h:ofV v=some x):Cr f x=v:=by
 unfold ofV at h;split at h
 ·rename_i cs
  split at h
  ·rename_i l d
   cases h;rw[Cr,PY f d]
  ·cases h
 ·rename_i cs
  split at h
  ·rename_i d
   cases h;rw[Cr,Bw];congr 1;apply fC;simpa using d.symm
  ·cases h
 ·exact PW f h
theorem yp(p:Nat->Prop){v:Value}{x:EV}(h:ofV v=some x):x.ok p:=by
 unfold ofV at h;split at h
 ·split at h
  ·rename_i l d
   cases h;exact PZ p d
  ·cases h
 ·split at h
  ·cases h;trivial
  ·cases h
 ·exact(PX p h).1
noncomputable def Bi(f:Loc)(n:Nat)(tm:Ba):Array Value:=((List.range n).map fun t=>Cr f (tmp tm t)).toArray
structure Lr(p:Nat->Prop)(n:Nat)(tm:Ba):Prop where
 ok:∀t v,tm.get t=some v->v.ok p
 out:∀t,n<=t->tm.get t=none
theorem Lr.tmp(h:Lr p n tm)(t:Nat):(tmp tm t).ok p:=by
 unfold Go.Ev.tmp;split
 ·rename_i v d;exact h.ok t v d
 ·trivial
theorem Lr.mono(h:Lr p n tm)(d:∀i,p i->q i):Lr q n tm:=⟨fun t v j=>EV.ok.mono d v (h.ok t v j),h.out⟩
theorem Bbl(f:Loc)(n:Nat)(tm:Ba):(Bi f n tm).size=n:=by simp[Bi]
theorem sI(f:Loc)(n:Nat)(tm:Ba)(t:Nat):(Bi f n tm)[t]? = if t<n then some (Cr f (tmp tm t))else none:=by
 unfold Bi;simp only[cL,bD];by_cases h:t<n
 ·simp[h]
 ·simp[h,cC (l:=List.range n) (i:=t) (by simp;omega)]
theorem sJ(f:Loc)(h:Lr p n tm)(t:Nat):(Bi f n tm).getD t undef=Cr f (tmp tm t):=by
 rw[eU,sI];by_cases d:t<n
 ·simp[d]
 ·have:tmp tm t=.tuple []:=by unfold tmp;rw[h.out t (by omega)]
  simp[d,this,Cr,Bw,undef]
theorem QA(n:Nat)(tm:Ba)(d:Nat)(v:EV)(t:Nat):tmp (Po n tm (some d) v) t=if d=t/\d<n then v else tmp tm t:=by
 unfold Po;by_cases hd:d<n
 ·simp only[show Nat.ble (Nat.succ d) n=true from nU hd,Ak]
  unfold tmp;rw[Tr.get_put];by_cases j:d=t
  ·simp[j,j▸hd]
  ·simp[j]
 ·simp only[show Nat.ble (Nat.succ d) n=false from qz hd,Bm]
  rw[aG (by omega)]
theorem QB(f:Loc)(n:Nat)(tm:Ba)(d:Nat)(v:EV):(Bi f n tm).setIfInBounds d (Cr f v)=Bi f n (Po n tm (some d) v):=by
 apply gP;intro t;rw[sI,Array.getElem?_setIfInBounds,Bbl,sI,QA];by_cases hd:d=t
 ·subst hd
  by_cases j:d<n<;>simp[j]
 ·simp[hd]
theorem Lr.put(h:Lr p n tm)(d:Option Tmp)(A:v.ok p):Lr p n (Po n tm d v):=by
 cases d with
 | none=>exact h
 | some d=>
  unfold Po;by_cases hd:d<n
  ·simp only[show Nat.ble (Nat.succ d) n=true from nU hd,Ak]
   refine⟨fun t x j=>?_,fun t y=>?_⟩
   ·rw[Tr.get_put]at j
    split at j
    ·cases j;exact A
    ·exact h.ok t x j
   ·have u:(d:Nat)≠t:=fun e=>by have h1:(d:Nat)<n:=hd;have h2:n<=t:=y;rw[<-e]at h2;exact absurd h1 (Nat.not_lt.2 h2)
    rw[Tr.Af _ _ u];exact h.out t y
  ·simp only[show Nat.ble (Nat.succ d) n=false from qz hd,Bm]
   exact h
theorem Lh{f g:Loc}(d:Loc.Fo p f g)(h:Lr p n tm):Bi f n tm=Bi g n tm:=by
 unfold Bi;congr 1;apply cm;intro t _;exact qA d _ (h.tmp t)
structure Reads(f:Loc)(tm:Ba)(ρ:Operand->Value):Prop where
 tmp:∀t,ρ (.tmp t)=Cr f (tmp tm t)
 const:∀v,ρ (.const v)=v
 func:∀g,ρ (.func g)=.func (.func g) #[] #[]
theorem Bl {f:Loc}(d:Reads f tm ρ)(h:Cj tm x=some v):ρ x=Cr f v:=by
 cases x with
 | tmp t=>rw[d.tmp];simp only[Cj]at h;cases h;rfl
 | const c=>rw[d.const];exact(P_ f h).symm
 | global g=>cases h
 | func g=>rw[d.func];cases h;rfl
theorem E9(d:Lr p n tm)(h:Cj tm x=some v):v.ok p:=by
 cases x with
 | tmp t=>simp only[Cj]at h;cases h;exact d.tmp t
 | const c=>exact yp p h
 | global g=>cases h
 | func g=>cases h;exact⟨trivial,trivial⟩
theorem qB {f:Loc}(d:Reads f tm ρ):∀{xs:List Operand} {l:List EV},Mu tm xs=some l->xs.map ρ=Bw f l
 | [],_,h=>by cases h;rfl
 | x::r,_,h=>by
  unfold Mu at h;split at h
  ·rename_i a j
   split at h
   ·rename_i b hb
    cases h;rw[dQ,Bl d j,qB d hb,Bw]
   ·cases h
  ·cases h
theorem qC(d:Lr p n tm):∀{xs:List Operand} {l:List EV},Mu tm xs=some l->EV.Tx p l
 | [],_,h=>by cases h;trivial
 | x::r,_,h=>by
  unfold Mu at h;split at h
  ·rename_i a j
   split at h
   ·rename_i b hb
    cases h;exact⟨E9 d j,qC d hb⟩
   ·cases h
  ·cases h
theorem u5 {f:Loc}(d:Reads f tm ρ):∀{xs:List (Nat × Operand)} {l:List (Nat × EV)},Zc tm xs=some l->xs.map (fun(i,x)=>(i,ρ x))=l.map (fun(i,v)=>(i,Cr f v))
 | [],_,h=>by cases h;rfl
 | (i,x)::r,_,h=>by
  unfold Zc at h;split at h
  ·rename_i a j
   split at h
   ·rename_i b hb
    cases h;rw[dQ,dQ,u5 d hb];show(i,ρ x)::_=(i,Cr f a)::_;rw[Bl d j]
   ·cases h
  ·cases h
theorem u7(j:Lr p n tm):∀{xs:List (Nat × Operand)} {l:List (Nat × EV)},Zc tm xs=some l->∀q∈l,q.2.ok p
 | [],_,h=>by cases h;simp
 | (i,x)::r,_,h=>by
  unfold Zc at h;split at h
  ·rename_i a u
   split at h
   ·rename_i b hb
    cases h;intro q d;rcases bX.1 d with rfl|d
    ·exact E9 j u
    ·exact u7 j hb q d
   ·cases h
  ·cases h
end
variable {f g:Loc}
section
theorem Ye:∀l:List EV,len l=l.length
 | []=>rfl
 | _::r=>by rw[len,Ye r];rfl
theorem Ta:∀(l:List EV) (n:Nat),Zv l n=l.drop n
 | [],n=>by simp[Zv]
 | a::r,0=>rfl
 | a::r,n+1=>by
  have:Zv (a::r) (n+1)=Zv r n:=rfl;rw[this,Ta r n];rfl
theorem sK:∀{l:List EV} {n:Nat} {x:List EV},takeN l n=some x->n<=l.length/\x=l.take n
 | [],0,x,h=>by cases h;exact⟨aE _,rfl⟩
 | [],n+1,x,h=>by cases h
 | a::r,0,x,h=>by cases h;exact⟨cZ _,rfl⟩
 | a::r,n+1,x,h=>by
  have e:takeN (a::r) (n+1)=match takeN r n with|some x=>some (a::x)|none=>none:=rfl
  rw[e]at h;split at h
  ·rename_i y d
   cases h;obtain⟨h1,rfl⟩:=sK d;exact⟨by simp;omega,rfl⟩
  ·cases h
theorem yq:∀{l vs x:List EV},Jr l vs=some x->vs.length<=l.length/\x=vs++l.drop vs.length
 | l,[],x,h=>by
  have:Jr l []=some l:=by cases l<;>rfl
  rw[this]at h;cases h;exact⟨cZ _,rfl⟩
 | [],v::vs,x,h=>by cases h
 | a::r,v::vs,x,h=>by
  have e:Jr (a::r) (v::vs)=match Jr r vs with|some x=>some (v::x)|none=>none:=rfl
  rw[e]at h;split at h
  ·rename_i y d
   cases h;obtain⟨h1,rfl⟩:=yq d;exact⟨by simp;omega,rfl⟩
  ·cases h
theorem Ym:∀{l:List EV} {off:Nat} {vs x:List EV},F0 l off vs=some x->off+vs.length<=l.length/\x=l.take off++vs++l.drop (off+vs.length)
 | [],0,vs,x,h=>by
  have e:F0 [] 0 vs=Jr [] vs:=rfl;rw[e]at h;obtain⟨h1,rfl⟩:=yq h;exact⟨by omega,by simp⟩
 | [],off+1,vs,x,h=>by cases h
 | a::r,0,vs,x,h=>by
  have e:F0 (a::r) 0 vs=Jr (a::r) vs:=rfl;rw[e]at h;obtain⟨h1,rfl⟩:=yq h;exact⟨by omega,by simp⟩
 | a::r,off+1,vs,x,h=>by
  have e:F0 (a::r) (off+1) vs=match F0 r off vs with|some x=>some (a::x)|none=>none:=rfl
  rw[e]at h;split at h
  ·rename_i y d
   cases h;obtain⟨h1,rfl⟩:=Ym d;refine⟨by simp;omega,?_⟩;rw[show off+1+vs.length=(off+vs.length)+1 from by omega];simp
  ·cases h
theorem yr {l:List EV}{x:List EV}(h:F0 l off vs=some x)(d:v∈x):v∈l\/v∈vs:=by
 obtain⟨h1,rfl⟩:=Ym h;simp only[bR]at d;rcases d with(d|d)|d
 ·exact .inl (b9 d)
 ·exact .inr d
 ·exact .inl (aH d)
theorem ys:∀(l:List Field) (i:Nat),mD l i=l[i]?
 | [],i=>by simp[mD]
 | a::r,0=>rfl
 | a::r,i+1=>by
  have:mD (a::r) (i+1)=mD r i:=rfl;rw[this,ys r i];simp
theorem u9:∀(l:List Oper) (i:Nat),kr l i=l[i]?
 | [],i=>by simp[kr]
 | a::r,0=>rfl
 | a::r,i+1=>by
  have:kr (a::r) (i+1)=kr r i:=rfl;rw[this,u9 r i];simp
theorem u_(l:List EV):∀n,(rep l n).length=n*l.length
 | 0=>by simp[rep]
 | n+1=>by rw[rep,aF,u_ l n,gH];omega
theorem sL {l:List EV}:∀{n:Nat},v∈rep l n->v∈l
 | 0,h=>by simp[rep]at h
 | n+1,h=>by
  rw[rep,bR]at h;rcases h with h|h
  ·exact h
  ·exact sL h
theorem QC(l:List EV):∀(n i:Nat),i<n*l.length->(rep l n)[i]? = l[i%l.length]?
 | 0,i,h=>by simp at h
 | n+1,i,h=>by
  rw[rep];by_cases hi:i<l.length
  ·rw[bm hi,gE hi]
  ·rw[bU (by omega),QC l n (i-l.length) (by rw[gH]at h;omega)]
   rw[<-Nat.mod_eq_sub_mod (by omega)]
theorem sM {k:IntKind}(h:Nat.beq (Pc k) (Pc k')=true):k=k':=by
 cases k<;>cases k'<;>first|rfl|(cases h)
theorem va(k:IntKind)(hs:k.signed=false)(n:Int)(h0:0<=n)(h1:n<2^k.bits):k.wrap n=n:=by
 unfold IntKind.wrap;simp only[hs,av,aX,ak];exact Int.emod_eq_of_lt h0 h1
theorem lG(k:IntKind)(hs:k.signed=true)(n M:Int)(j:(2:Int)^k.bits=2*M)(d:(2:Int)^(k.bits-1)=M)(h0 : -M<=n)(h1:n<M):k.wrap n=n:=by
 unfold IntKind.wrap;simp only[hs,bI,aV,j,d,ge_iff_le];by_cases u:0<=n
 ·rw[Int.emod_eq_of_lt u (by omega),aG (by omega)]
 ·have e:n%(2*M)=n+2*M:=by
   rw[<-Int.add_emod_right];exact Int.emod_eq_of_lt (by omega) (by omega)
  rw[e,aI (by omega)];omega
theorem Nl(k:IntKind)(n:Int):Dr k n=k.wrap n:=by
 cases n with
 | ofNat m=>
  show Bb (Nat.ble (Nat.succ m) (uV k)) (Int.ofNat m) (k.wrap (Int.ofNat m))=_;rw[Bq];split
  ·rename_i h
   have h:=bL h;symm;cases k<;>simp only[uV]at h
   case u8=>exact va _ rfl _ (by simp) (by simp only[IntKind.bits,aZ];omega)
   case u16=>exact va _ rfl _ (by simp) (by simp only[IntKind.bits,aZ];omega)
   case u32=>exact va _ rfl _ (by simp) (by simp only[IntKind.bits,aZ];omega)
   case u64=>exact va _ rfl _ (by simp) (by simp only[IntKind.bits,aZ];omega)
   case i8=>exact lG _ rfl _ 128 rfl rfl (by simp only[aZ];omega) (by simp only[aZ];omega)
   case i16=>exact lG _ rfl _ 32768 rfl rfl (by simp only[aZ];omega) (by simp only[aZ];omega)
   case i32=>exact lG _ rfl _ 2147483648 rfl rfl (by simp only[aZ];omega) (by simp only[aZ];omega)
   case i64=>exact lG _ rfl _ 9223372036854775808 rfl rfl (by simp only[aZ];omega) (by simp only[aZ];omega)
  ·rfl
 | negSucc m=>
  show Bb (Nat.ble (Nat.succ m) (floor k)) (Int.negSucc m) (k.wrap (Int.negSucc m))=_;rw[Bq];split
  ·rename_i h
   have h:=bL h;symm;cases k<;>simp only[floor]at h
   case i8=>exact lG _ rfl _ 128 rfl rfl (by rw[dK];omega) (by rw[dK];omega)
   case i16=>exact lG _ rfl _ 32768 rfl rfl (by rw[dK];omega) (by rw[dK];omega)
   case i32=>exact lG _ rfl _ 2147483648 rfl rfl (by rw[dK];omega) (by rw[dK];omega)
   case i64=>exact lG _ rfl _ 9223372036854775808 rfl rfl (by rw[dK];omega) (by rw[dK];omega)
   all_goals exact absurd h (by omega)
  ·rfl
theorem qD(a b:Int):ko a b=decide (a<b):=by
 cases a<;>cases b<;>simp only[ko]<;>(first
  | (rw[eR];simp only[dN,aV];simp only[aZ,dK];omega)
  | (simp only[aZ,dK];symm;first|(rw[cr];omega)|(rw[aV];omega)))
theorem lI(a b:Int):iN a b=decide (a=b):=by
 cases a<;>cases b<;>simp only[iN]<;>(first
  | (rw[eR];simp only[Nat.beq_eq,aV];simp only[aZ,dK];omega)
  | (simp only[aZ,dK];symm;rw[cr];omega))
theorem yu(k:IntKind)(x:Nat):k.wrap ((x%2^k.bits:Nat):Int)=k.wrap (x:Int):=by
 unfold IntKind.wrap;have:((x%2^k.bits:Nat):Int)%(2^k.bits:Int)=(x:Int)%(2^k.bits:Int):=by
  rw[Int.natCast_emod];simp
 simp only[this]
theorem Bnx(k:IntKind)(a b:Nat):k.wrap (((BitVec.ofInt k.bits (Int.ofNat a)&&& BitVec.ofInt k.bits (Int.ofNat b)).toNat:Nat):Int)=k.wrap (Int.ofNat (Nat.land a b)):=by
 have:(BitVec.ofInt k.bits (Int.ofNat a)&&& BitVec.ofInt k.bits (Int.ofNat b)).toNat=(a&&& b)%2^k.bits:=by
  simp only[aZ,BitVec.ofInt_natCast,BitVec.toNat_and,BitVec.toNat_ofNat];rw[Nat.and_mod_two_pow]
 rw[this,yu];rfl
theorem Bqc(k:IntKind)(a b:Nat):k.wrap (((BitVec.ofInt k.bits (Int.ofNat a)||| BitVec.ofInt k.bits (Int.ofNat b)).toNat:Nat):Int)=k.wrap (Int.ofNat (Nat.lor a b)):=by
 have:(BitVec.ofInt k.bits (Int.ofNat a)||| BitVec.ofInt k.bits (Int.ofNat b)).toNat=(a||| b)%2^k.bits:=by
  simp only[aZ,BitVec.ofInt_natCast,BitVec.toNat_or,BitVec.toNat_ofNat];rw[Nat.or_mod_two_pow]
 rw[this,yu];rfl
theorem Bk2(k:IntKind)(a b:Nat):k.wrap (((BitVec.ofInt k.bits (Int.ofNat a) ^^^ BitVec.ofInt k.bits (Int.ofNat b)).toNat:Nat):Int)=k.wrap (Int.ofNat (Nat.xor a b)):=by
 have:(BitVec.ofInt k.bits (Int.ofNat a) ^^^ BitVec.ofInt k.bits (Int.ofNat b)).toNat=(a ^^^ b)%2^k.bits:=by
  simp only[aZ,BitVec.ofInt_natCast,BitVec.toNat_xor,BitVec.toNat_ofNat];rw[Nat.xor_mod_two_pow]
 rw[this,yu];rfl
section
variable(f:Loc)(w:World)
theorem Bnm{k:IntKind}{a b:Int}(t:TypeId)(hs:uN op=false)(h:qm op k a b=some v):
 (binOp op t (.int k a) (.int k b)).run P w=.ok (Cr f v) w:=by
 cases op<;>simp only[qm]at h
 case add=>cases h;simp[binOp,Op.intArith,Cr,Nl];try rfl
 case sub=>cases h;simp[binOp,Op.intArith,Cr,Nl];try rfl
 case mul=>cases h;simp[binOp,Op.intArith,Cr,Nl];try rfl
 case quo=>
  obtain⟨h1,h2⟩:=To h;cases h2;rw[lI,cr]at h1;simp[binOp,Op.intDiv,Cr,Nl,h1]
 case rem=>
  obtain⟨h1,h2⟩:=To h;cases h2;rw[lI,cr]at h1;simp[binOp,Op.intDiv,Cr,h1]
 case and=>
  split at h
  ·cases h;simp only[binOp,ne_eq,aB,ak,Op.intBits,aT,Bnx,Cr,Nl]
  ·cases h
 case or=>
  split at h
  ·cases h;simp only[binOp,ne_eq,aB,ak,Op.intBits,aT,Bqc,Cr,Nl]
  ·cases h
 case xor=>
  split at h
  ·cases h;simp only[binOp,ne_eq,aB,ak,Op.intBits,aT,Bk2,Cr,Nl]
  ·cases h
 case lss=>cases h;simp only[binOp,ne_eq,aB,ak,Op.intCmp,aT,Cr,qD]
 case gtr=>cases h;simp only[binOp,ne_eq,aB,ak,Op.intCmp,aT,Cr,qD,gt_iff_lt]
 case eql=>
  cases h;simp only[binOp,ne_eq,aB,ak,Op.intCmp,aT,Cr,lI];congr 2
 case neq=>
  cases h;simp only[binOp,ne_eq,aB,ak,Op.intCmp,aT,Cr,lI,Bq];congr 2;by_cases e:a=b<;>simp[e]
 case leq=>
  cases h;simp only[binOp,ne_eq,aB,ak,Op.intCmp,aT,Cr,qD,Bq];congr 2;by_cases e:b<a
  ·simp[e]
  ·simp[e,Int.not_lt.1 e]
 case geq=>
  cases h;simp only[binOp,ne_eq,aB,ak,Op.intCmp,aT,Cr,qD,Bq];congr 2;by_cases e:a<b
  ·simp[e]
  ·simp[e,Int.not_lt.1 e]
 all_goals first|(cases h;done)|(simp[uN]at hs;done)
theorem Bhq{k:IntKind}{a:Int}{b:Nat}(t:TypeId)(h:uW op k a b=some v):
 (binOp op t (.int k a) (.int k' (.ofNat b))).run P w=.ok (Cr f v) w:=by
 have hm:Bb (Nat.ble b k.bits) b k.bits=min b k.bits:=by
  rw[Bq];simp only[dN];split<;>omega
 have hb:¬(Int.ofNat b<0):=by simp
 cases op<;>simp only[uW]at h
 case shl=>
  cases h;simp only[binOp,Op.shift,hb,ak,aT,Cr,Nl,hm];congr 3
 case shr=>
  split at h
  ·cases h
   simp only[binOp,Op.shift,hb,ak,aT,Cr,hm];congr 2;simp only[aZ,bF];have e:Nat.shiftRight=fun(a b:Nat)=>a >>> b:=rfl
   simp only[e];rw[gA,fW _ (by exact_mod_cast cZ _)];simp
  ·cases h
   simp only[binOp,Op.shift,hb,ak,aT,Cr,hm];congr 2
 all_goals (cases h;done)
end
end
section
def Axj:TypeDesc->Bool
 | .struct _=>true
 | .array _ _=>true
 | _=>false
structure Qg(P:Program)(T:Ig):Prop where
 mixed:P.follows .mixedOrders=true
 fn:∀g fn,T.fn g=some fn->P.funcs[g]? = some fn/\(fn.name == "runtime.NumGoroutine")=false
 Tv:∀t d,T.Tv t=some d->P.underlying t=some d
 size:∀t n,T.size t=some n->∃i,P.info? t=some i/\i.size=n/\i.bytes<=1048576
 zero:∀t z,T.zero t=some z->∃i v x,P.info? t=some i/\i.zero=some v/\ofV v=some x/\x.plain=true/\z=x.cells/\i.size=z.length/\i.bytes<=1048576 /\
  (T.agg t=some true->x=.agg z)/\(T.agg t=some false->z = [x])
 agg:∀t b,T.agg t=some b->∃d,P.underlying t=some d/\Axj d=b
 eqs:∀t sh,T.eqs t=some sh->P.eqGuardType P.depth t=false/\∀(f:Loc) (w:World) (a b:List EV) (r:Bool),E8 a b=some r->shaped sh a=true ->
  (Op.equal t (.agg (Bw f a).toArray) (.agg (Bw f b).toArray)).run P w=.ok r w
 key:∀t,T.key t=true->(∃d,P.underlying t=some d/\Axj d=true)/\∀(f:Loc) (w:World) (e:Bool) (a:List EV) (sh:List Nat),T.eqs t=some sh->shaped sh a=true ->
  (Instr.checkKey e 10000 t (.agg (Bw f a).toArray)).run P w=.ok () w
section
variable(hT:Qg P T)(w:World)
include hT
theorem D6{d:TypeDesc}(h:T.Tv t=some d):(underlying t).run P w=.ok d w:=by
 simp[underlying,hT.Tv t d h]
theorem Gq(h:T.size t=some n):(sizeOf t).run P w=.ok n w:=by
 obtain⟨i,h1,h2,_⟩:=hT.size t n h;simp[sizeOf,typeInfo,h1,h2]
theorem qE{b:Bool}(h:T.agg t=some b):(isAgg t).run P w=.ok b w:=by
 obtain⟨d,h1,h2⟩:=hT.agg t b h;subst h2;cases d<;>simp[isAgg,underlying,h1,Axj]
theorem QD(f:Loc){cs:List EV}(h:part T t cs off=some v):(Go.part t (Bw f cs).toArray off).run P w=.ok (Cr f v) w:=by
 unfold part at h;split at h
 ·rename_i u
  split at h
  ·rename_i n y
   split at h
   ·rename_i l d
    cases h;obtain⟨h1,rfl⟩:=sK d;rw[Ta]at h1⊢;simp only[Go.part,Sem.run_bind,qE hT w u,aK,bJ,Gq hT w y,aT,Cr];congr 2;apply fC;simp[Qo,List.extract_eq_take_drop]
   ·cases h
  ·cases h
 ·rename_i u
  split at h
  ·rename_i x r d
   cases h;rw[Ta]at d;have:(Bw f cs).toArray[off]? = some (Cr f v):=by
    have h1:cs[off]? = some v:=by
     have:=dT (xs:=cs) (i:=off) (j:=0);rw[d]at this;simpa using this.symm
    simp[Qo,h1]
   simp only[Go.part,Sem.run_bind,qE hT w u,aK,aX,ak,this,aT]
  ·cases h
 ·cases h
end
theorem Vc(b o n:Nat):(⟨b,o,none⟩:Addr).add n=⟨b,o+n,none⟩:=by
 unfold Addr.add;split
 ·rename_i h;subst h;rfl
 ·rfl
theorem Bej(cells vs:List Value)(off:Nat)(h:off+vs.length<=cells.length):
 vs.toArray.zipIdx.foldl (fun cs (x:Value × Nat)=>cs.setIfInBounds (off+x.2) x.1) cells.toArray=(cells.take off++vs++cells.drop (off+vs.length)).toArray:=by
 obtain⟨h1,h2⟩:=Great.foldl_set off vs 0 cells.toArray;have e:vs.toArray.zipIdx.foldl (fun cs (x:Value × Nat)=>cs.setIfInBounds (off+x.2) x.1) cells.toArray=(vs.zipIdx 0).foldl (fun cs (x:Value × Nat)=>cs.setIfInBounds (off+x.2) x.1) cells.toArray:=by
  simp
 rw[e];apply gP;intro k;rw[h2 k];simp only[dS,eD,cL];by_cases c1:k<off
 ·rw[aG (by omega),bY,bm (by simp;omega),List.getElem?_take_of_lt c1]
 ·by_cases c2:k<off+vs.length
  ·rw[aI (by omega),bm (by simp;omega),bU (by simp;omega)]
   congr 1;simp;omega
  ·rw[aG (by omega),bU (by simp;omega),dT]
   congr 1;simp;omega
theorem yv(f:Loc)(l vs:List EV)(off:Nat):Bw f (l.take off++vs++l.drop (off+vs.length))=(Bw f l).take off++Bw f vs++(Bw f l).drop (off+(Bw f vs).length):=by
 simp[Qo,List.map_take,List.map_drop]
theorem vc(f:Loc)(place:Nat->Option (Nat × Nat))(d:Nat->Option (Nat × Nat))(hp:∀i q,place i=some q->d i=some q):
 ∀{cells:List EV} {l:List (Nat × EV)} {c:List EV},fill place cells l=some c->Instr.fill d (Bw f cells).toArray (l.map fun(i,v)=>(i,Cr f v))=some (Bw f c).toArray
 | cells,[],c,h=>by cases h;rfl
 | cells,(i,v)::r,c,h=>by
  unfold fill at h;split at h
  ·cases h
  ·rename_i off size y
   obtain⟨_,h⟩:=Ap h;obtain⟨h1,h2⟩:=Ap h;split at h2
   ·rename_i x A
    rw[Ye]at h1;have u:v.cells.length=size:=aL h1;obtain⟨C,h4⟩:=Ym A;simp only[dQ,Instr.fill,hp i _ y];have B:(Cr f v).cells=(Bw f v.cells).toArray:=Td f v;rw[B];simp only[eD,Di];rw[aG (by simp[u];omega)];have e:=Bej (Bw f cells) (Bw f v.cells) off (by simp only[Di];omega);have e2:(fun(cs:Array Value) (x:Value × Nat)=>match x with|(c,j)=>cs.setIfInBounds (off+j) c)=fun cs x=>cs.setIfInBounds (off+x.2) x.1:=rfl
    rw[e2,e,<-yv,<-h4];exact vc f place d hp h2
   ·cases h2
theorem sN(place:Nat->Option (Nat × Nat)){q:EV->Prop}:∀{cells:List EV} {l:List (Nat × EV)} {c:List EV},fill place cells l=some c->(∀v∈cells,q v)->(∀x∈l,∀v∈x.2.cells,q v)->∀v∈c,q v
 | cells,[],c,h,d,_=>by cases h;exact d
 | cells,(i,v)::r,c,h,d,j=>by
  unfold fill at h;split at h
  ·cases h
  ·obtain⟨_,h⟩:=Ap h
   obtain⟨h1,h2⟩:=Ap h;split at h2
   ·rename_i x A
    refine sN place h2 (fun u hu=>?_) (fun y B=>j y (by simp[B]));rcases yr A hu with hu|hu
    ·exact d u hu
    ·exact j (i,v) (by simp) u hu
   ·cases h2
theorem vd(place:Nat->Option (Nat × Nat)):∀{cells:List EV} {l:List (Nat × EV)} {c:List EV},fill place cells l=some c->∀q∈l,q.2.plain=true
 | cells,[],c,h=>by simp
 | cells,(i,v)::r,c,h=>by
  unfold fill at h;split at h
  ·cases h
  ·obtain⟨h0,h⟩:=Ap h
   obtain⟨h1,h2⟩:=Ap h;split at h2
   ·intro q d
    rcases bX.1 d with rfl|d
    ·exact h0
    ·exact vd place h2 q d
   ·cases h2
theorem ve:∀(a b:List UInt8),qv a b=decide (a=b)
 | [],[]=>rfl
 | a::r,b::s=>by
  simp only[qv];rw[Bq,ve r s];by_cases h:a=b
  ·subst h
   rw[aI (by simp)];simp
  ·rw[aG]
   ·simp[h]
   ·intro e;exact h (UInt8.toNat_inj.1 (aL e))
 | [],_::_=>rfl
 | _::_,[]=>rfl
theorem vf(a b:ByteArray):qv a.data.toList b.data.toList=(a == b):=by
 obtain⟨⟨x⟩⟩:=a;obtain⟨⟨y⟩⟩:=b;show qv x y=((⟨x⟩:Array UInt8) == ⟨y⟩);rw[ve];simp only[List.beq_toArray];by_cases h:x=y
 ·subst h;simp
 ·have:(x == y)=false:=by simpa using h
  rw[this];simp[h]
theorem Bgy {a b:ByteArray}(h:(a == b)=true):a=b:=by
 rw[<-vf,ve]at h;have:=dH h;cases a;cases b;simp only[ByteArray.mk.injEq];apply fC;exact this
section
variable(hT:Qg P T)(f:Loc)(w:World)
theorem Jp(op:BinOp)(t:TypeId)(x y:Operand)(a b:Value)(h1:∀c d,¬(a=.agg c/\b=.agg d))(h2:¬(a=.nilIface/\b=.nilIface)):(eqGuard op t x y a b).run P w=.ok () w:=by
 unfold eqGuard;cases op<;>simp<;>(split<;>first|rfl|(rename_i e1 e2;exact absurd ⟨rfl,rfl⟩ h2)|(rename_i c d;exact absurd ⟨rfl,rfl⟩ (h1 c d))|simp_all)
theorem A8f(op:BinOp)(t:TypeId)(x y:Operand)(c d:Array Value)(h:P.eqGuardType P.depth t=false):(eqGuard op t x y (.agg c) (.agg d)).run P w=.ok () w:=by
 unfold eqGuard;cases op<;>simp[h]
theorem QE(d:Nat)(t:TypeId)(a b:Bool)(hu:P.underlying t=some .bool):(Op.equalIn (d+1) t (.bool a) (.bool b)).run P w=.ok (a == b) w:=by
 simp[Op.equalIn,underlying,hu]
theorem Bmq(d:Nat)(t:TypeId)(a b:ByteArray)(hu:P.underlying t=some .string):(Op.equalIn (d+1) t (.string a) (.string b)).run P w=.ok (a == b) w:=by
 simp[Op.equalIn,underlying,hu]
theorem QF(d:Nat)(t:TypeId)(e:TypeId)(b:Option Addr)(hu:P.underlying t=some (.pointer e)):(Op.equalIn (d+1) t (.pointer none) (.pointer b)).run P w=.ok b.isNone w:=by
 simp[Op.equalIn,underlying,hu]
theorem Bj5(d:Nat)(t:TypeId)(e:TypeId)(b:Addr)(hu:P.underlying t=some (.pointer e)):(Op.equalIn (d+1) t (.pointer (some b)) (.pointer none)).run P w=.ok false w:=by
 simp[Op.equalIn,underlying,hu]
theorem Bh5(d:Nat)(t:TypeId)(e:TypeId)(n:Nat)(b:Addr)(hu:P.underlying t=some (.pointer e))(hs:(sizeOf e).run P w=.ok n w):(Op.equalIn (d+1) t (.pointer (some b)) (.pointer (some b))).run P w=.ok true w:=by
 simp only[Op.equalIn,underlying,hu,Sem.run_bind,hs];simp only[Sem.run_bind,hs,aK,samePointer,sameAddr];simp[hu,hs,aK]
theorem Bjr(d:Nat)(t:TypeId)(e:TypeId)(b:Option Addr)(n m:Nat)(hu:P.underlying t=some (.slice e)):(Op.equalIn (d+1) t (.slice none 0 0) (.slice b n m)).run P w=.ok b.isNone w:=by
 simp[Op.equalIn,underlying,hu]
theorem QG(d:Nat)(t:TypeId)(e:TypeId)(b:Addr)(n m:Nat)(hu:P.underlying t=some (.slice e)):(Op.equalIn (d+1) t (.slice (some b) n m) (.slice none 0 0)).run P w=.ok false w:=by
 simp[Op.equalIn,underlying,hu]
include hT
theorem QH{a b:EV}{r:Bool}(h:jD T t a b=some r):(Op.equal t (Cr f a) (Cr f b)).run P w=.ok r w /\
 (∀op x y,(eqGuard op t x y (Cr f a) (Cr f b)).run P w=.ok () w) /\
 binOp .eql t (Cr f a) (Cr f b)=(do pure (.bool (←Op.equal t (Cr f a) (Cr f b))))/\binOp .neq t (Cr f a) (Cr f b)=(do pure (.bool (!(←Op.equal t (Cr f a) (Cr f b))))):=by
 unfold jD at h;split at h
 ·rename_i l l'
  split at h
  ·rename_i sh u
   obtain⟨A,h4⟩:=Ap h;obtain⟨e1,e2⟩:=hT.eqs t sh u;exact⟨e2 f w l l' r h4 A,fun op x y=>A8f w op t x y _ _ e1,rfl,rfl⟩
  ·cases h
 ·rename_i p q
  split at h
  ·rename_i hu
   cases h;refine⟨?_,fun op x y=>Jp w op t x y _ _ (by intro c d j;cases j.1) (by intro j;cases j.1),rfl,rfl⟩;refine(QE w 9999 t p q (hT.Tv _ _ hu)).trans ?_;cases p<;>cases q<;>rfl
  ·cases h
 ·split at h
  ·rename_i hu
   cases h;exact⟨QF w 9999 t _ none (hT.Tv _ _ hu),fun op x y=>Jp w op t x y _ _ (by intro c d j;cases j.1) (by intro j;cases j.1),rfl,rfl⟩
  ·cases h
 ·split at h
  ·rename_i hu
   cases h;exact⟨QF w 9999 t _ (some _) (hT.Tv _ _ hu),fun op x y=>Jp w op t x y _ _ (by intro c d j;cases j.1) (by intro j;cases j.1),rfl,rfl⟩
  ·cases h
 ·split at h
  ·rename_i hu
   cases h;exact⟨Bj5 w 9999 t _ _ (hT.Tv _ _ hu),fun op x y=>Jp w op t x y _ _ (by intro c d j;cases j.1) (by intro j;cases j.1),rfl,rfl⟩
  ·cases h
 ·split at h
  ·rename_i hu
   split at h
   ·rename_i n B
    obtain⟨h1,h2⟩:=Ap h;obtain⟨A,h4⟩:=Ap h2;cases h4;rw[aL h1,aL A];exact⟨Bh5 w 9999 t _ n _ (hT.Tv _ _ hu) (Gq hT w B),fun op x y=>Jp w op t x y _ _ (by intro c d j;cases j.1) (by intro j;cases j.1),rfl,rfl⟩
   ·cases h
  ·cases h
 ·split at h
  ·rename_i hu
   cases h;exact⟨Bjr w 9999 t _ none 0 0 (hT.Tv _ _ hu),fun op x y=>Jp w op t x y _ _ (by intro c d j;cases j.1) (by intro j;cases j.1),rfl,rfl⟩
  ·cases h
 ·split at h
  ·rename_i hu
   cases h;exact⟨QG w 9999 t _ _ _ _ (hT.Tv _ _ hu),fun op x y=>Jp w op t x y _ _ (by intro c d j;cases j.1) (by intro j;cases j.1),rfl,rfl⟩
  ·cases h
 ·split at h
  ·rename_i hu
   cases h;exact⟨QG w 9999 t _ _ _ _ (hT.Tv _ _ hu),fun op x y=>Jp w op t x y _ _ (by intro c d j;cases j.1) (by intro j;cases j.1),rfl,rfl⟩
  ·cases h
 ·cases h
end
end
section
section
variable(hT:Qg P T)(f:Loc)(w:World)
include hT
theorem Bop{a b:EV}(h:bin T op t a b=some v)(x y:Operand):
 (eqGuard op t x y (Cr f a) (Cr f b)).run P w=.ok () w/\(binOp op t (Cr f a) (Cr f b)).run P w=.ok (Cr f v) w:=by
 unfold bin at h;split at h
 ·rename_i k a k' b
  refine⟨Jp w op t x y _ _ (by intro c d j;cases j.1) (by intro j;cases j.1),?_⟩;rw[Bq]at h;split at h
  ·split at h
   ·exact Bhq f w t h
   ·cases h
  ·rename_i hs
   obtain⟨h1,h2⟩:=Ap h;obtain rfl:=sM h1;exact Bnm f w t (by simpa using hs) h2
 ·rename_i B
  split at h
  ·split at h
   ·rename_i r u
    cases h;obtain⟨h1,h2,A,_⟩:=QH hT f w u;refine⟨h2 _ x y,?_⟩;rw[A];simp[h1,Cr]
   ·cases h
  ·split at h
   ·rename_i r u
    cases h;obtain⟨h1,h2,_,A⟩:=QH hT f w u;refine⟨h2 _ x y,?_⟩;rw[A];simp[h1,Cr,Bq]
   ·cases h
  ·cases h
theorem sO {x:Option EV}{hi:Nat}(h:bound x hi jZ=some n)(code:BoundsCode):
 (∀u,x=some u->(Instr.sliceBound (Cr f u) hi code).run P w=.ok n w)/\(x=none->n=jZ):=by
 cases x with
 | none=>cases h;exact⟨fun u hu=>(by cases hu),fun _=>rfl⟩
 | some u=>
  refine⟨fun j hu=>?_,fun hu=>(by cases hu)⟩;cases hu;unfold bound at h;split at h
  ·rename_i d;cases d
  ·rename_i k m d
   cases d;obtain⟨h1,h2⟩:=Ap h;cases h2;simp only[dN]at h1;simp only[Instr.sliceBound,Cr,asIntOf,Sem.run_bind,aT,aK];rw[aI (by simp;omega)];simp
  ·cases h
theorem yw{len h l:Nat}(d:Bool)(h1:bound hi cap len=some h)(h2:bound lo h 0=some l):
 (Instr.sliceBounds d len cap (lo.map (Cr f)) (hi.map (Cr f)) none).run P w=.ok (l,h,cap) w:=by
 obtain⟨j,A⟩:=sO hT f w h1 (if d=true then .sliceAcap else .sliceAlen);obtain⟨b1,b2⟩:=sO hT f w h2 .sliceB;unfold Instr.sliceBounds;cases hi with
 | none=>
  obtain rfl:=A rfl;cases lo with
  | none=>obtain rfl:=b2 rfl;simp
  | some u=>simp[b1 u rfl]
 | some y=>
  cases lo with
  | none=>obtain rfl:=b2 rfl;simp[j y rfl]
  | some u=>simp[j y rfl,b1 u rfl]
theorem A88{len room h l:Nat}(j:Bool){y d:EV}(hm:mx=some y)(C:hi=some d)(G:room<=cap)(h0:bound mx room 0=some m)(h1:bound hi m 0=some h)(h2:bound lo h 0=some l):
 (Instr.sliceBounds j len cap (lo.map (Cr f)) (hi.map (Cr f)) (mx.map (Cr f))).run P w=.ok (l,h,m) w:=by
 have A:bound mx cap 0=some m:=by
  subst hm;unfold bound at h0⊢;split at h0
  ·rename_i D;cases D
  ·obtain⟨E,F⟩:=Ap h0
   cases F;simp only[dN]at E;rw[Bq,aI (by simp only[dN];omega)]
  ·cases h0
 obtain⟨c1,_⟩:=sO hT f w A (if j=true then .slice3Acap else .slice3Alen);obtain⟨B,_⟩:=sO hT f w h1 .slice3B;obtain⟨b1,b2⟩:=sO hT f w h2 .slice3C;subst hm C;unfold Instr.sliceBounds;cases lo with
 | none=>obtain rfl:=b2 rfl;simp[c1 y rfl,B d rfl]
 | some u=>simp[c1 y rfl,B d rfl,b1 u rfl]
omit hT in
theorem QI {x:Option EV}{hi:Nat}(hd:jZ<=hi)(h:bound x hi jZ=some n):n<=hi:=by
 unfold bound at h;split at h
 ·cases h;exact hd
 ·obtain⟨h1,h2⟩:=Ap h
  cases h2;simpa only[dN]using h1
 ·cases h
theorem QJ {len room:Nat}{op:Bool}{size:Nat}(h:iV (.slice i off len room op) size lo hi mx=some v)(d:Bool):
 ∃l u m,(Instr.sliceBounds d len (if op=true then room+f.sp i else room) (lo.map (Cr f)) (hi.map (Cr f)) (mx.map (Cr f))).run P w=.ok (l,u,m) w /\
  Cr f v=.slice (some (if m=l then(⟨f.b i,off,none⟩:Addr)else(⟨f.b i,off,none⟩:Addr).add (l*size))) (u-l) (m-l):=by
 unfold iV at h;simp only[Nat.add_eq,Nat.mul_eq,Nat.sub_eq]at h;split at h
 ·split at h
  ·cases h
  ·rename_i u h1
   split at h
   ·cases h
   ·rename_i l h2
    rw[Bq]at h;split at h
    ·rename_i y
     subst y;have C:bound hi (room+f.sp i) len=some u:=by
      unfold bound at h1⊢;split at h1
      ·exact h1
      ·obtain⟨H,J⟩:=Ap h1
       cases J;simp only[dN]at H;rw[Bq,aI (by simp only[dN];omega)]
      ·cases h1
     have hb:=yw hT f w d C h2;refine⟨l,u,room+f.sp i,by simpa using hb,?_⟩;rw[Bq]at h;split at h
     ·rename_i h0
      have D:=aL h0;subst D;cases h;simp only[Cr,bJ,gK,gh];congr 2;rw[Vc];simp
     ·rw[Bq]at h
      split at h
      ·rename_i h0
       cases h;simp only[dN]at h0;rw[aG (by omega),Vc];simp only[Cr,bJ];congr 1;omega
      ·obtain⟨G,h4⟩:=Ap h
       have E:=aL G;subst E;obtain⟨K,L⟩:=Ap h4;cases L;have F:=aL K;subst F;simp only[Cr,fT,Vc];congr 1
       ·by_cases A:f.sp i=0
        ·rw[aI A,aI (by omega)]
        ·rw[aG A,aG (by omega)]
       ·omega
    ·rename_i y
     obtain⟨G,h4⟩:=Ap h;cases h4;have B:op=false:=by simpa using y
     subst B;have hb:=yw hT f w d h1 h2;refine⟨l,u,room,by simpa using hb,?_⟩;simp only[Cr,aX,ak];rw[Bq];congr 2;by_cases j:room=l
     ·rw[aI (by rw[j];exact cQ l),aI j]
     ·rw[aG (by simpa using j),aG j,Vc]
 ·rename_i M
  cases hm:bound (some M) room 0 with
  | none=>rw[hm]at h;cases h
  | some m=>
   rw[hm]at h;cases hi with
   | none=>cases h
   | some O=>
    simp only at h;split at h
    ·cases h
    ·rename_i u h1
     split at h
     ·cases h
     ·rename_i l h2
      cases h;have hb:=A88 hT f w (len:=len) d rfl rfl (cap:=if op=true then room+f.sp i else room) (room:=room) (by split<;>omega) hm h1 h2;refine⟨l,u,m,hb,?_⟩;simp only[Cr,aX,ak];rw[Bq];congr 2;by_cases j:m=l
      ·rw[aI (by rw[j];exact cQ l),aI j]
      ·rw[aG (by simpa using j),aG j,Vc]
end
end
section
theorem QK:∀(l:List (Nat × Nat)) (i:Nat),lu l i=l[i]?
 | [],i=>by simp[lu]
 | a::r,0=>rfl
 | a::r,i+1=>by
  have:lu (a::r) (i+1)=lu r i:=rfl;rw[this,QK r i];simp
theorem QL:∀(l:List UInt8) (i:Nat),qw l i=l[i]?
 | [],i=>by simp[qw]
 | a::r,0=>rfl
 | a::r,i+1=>by
  have:qw (a::r) (i+1)=qw r i:=rfl;rw[this,QL r i];simp
theorem pe(f:Loc)(l:List EV)(i:Nat):(Bw f l)[i]? = (l[i]?).map (Cr f):=by rw[Qo,bD]
theorem Wa(d:Reads f tm ρ){x:Option Operand}{v:Option EV}(h:jn tm x=some v):x.map ρ=v.map (Cr f):=by
 cases x with
 | none=>simp only[jn]at h;cases h;rfl
 | some x=>
  simp only[jn]at h;split at h
  ·rename_i a j
   cases h;simp[Bl d j]
  ·cases h
section
variable(hT:Qg P T)(f:Loc)(w:World)
include hT
theorem QM:∀{l:List Field} {ps:List (Nat × Nat)},placesOf T l=some ps ->
 (l.mapM (m:=Sem) fun fd=>do pure (fd.offset,<-sizeOf fd.type)).run P w=.ok ps w
 | [],ps,h=>by cases h;rfl
 | fd::r,ps,h=>by
  unfold placesOf at h;split at h
  ·rename_i n d
   split at h
   ·rename_i q j
    cases h;rw[List.mapM_cons];have u:=QM j;simp only[Sem.run_bind,Gq hT w d,aK,aT,u]
   ·cases h
  ·cases h
theorem nV{z:List EV}(h:T.zero t=some z):∃x:EV,x.plain=true/\z=x.cells/\(zeroValue t).run P w=.ok (Cr f x) w /\
 (T.agg t=some true->x=.agg z)/\(T.agg t=some false->z = [x])/\(∀p,x.ok p)/\∃i,P.info? t=some i/\i.size=z.length/\i.bytes<=1048576:=by
 obtain⟨i,v,x,h1,h2,d,h4,j,u,y,A,B⟩:=hT.zero t z h;refine⟨x,h4,j,?_,A,B,fun p=>yp p d,i,h1,u,y⟩;rw[P_ f d];simp[zeroValue,typeInfo,h1,h2]
theorem Bmt(A:Reads f tm ρ)(h:Fc T tm o.op=some v):
 (execOp ρ o).run P w=.ok (.value (Cr f v)) w:=by
 obtain⟨dst,op,type,after,pos,guard⟩:=o;simp only at h;cases op with
 | move x=>simp only[Fc]at h;simp[execOp,Bl A h]
 | assign x=>simp only[Fc]at h;simp[execOp,Bl A h]
 | pick c a b=>
  simp only[Fc]at h;split at h
  ·rename_i G;simp[execOp,Bl A G,Bl A h,Cr,asBool]
  ·rename_i G;simp[execOp,Bl A G,Bl A h,Cr,asBool]
  ·cases h
 | binOp op t x y c=>
  simp only[Fc]at h;split at h
  ·rename_i a U
   split at h
   ·rename_i b hb
    obtain⟨h1,h2⟩:=Bop hT f w h x y;simp[execOp,Bl A U,Bl A hb,h1,h2]
   ·cases h
  ·cases h
 | unOp op t x=>
  cases op with
  | not=>
   simp only[Fc]at h;split at h
   ·rename_i b B
    cases h;cases b<;>simp[execOp,Bl A B,Cr,Op.unary]
   ·cases h
  | neg=>
   simp only[Fc]at h;split at h
   ·rename_i k n B
    cases h;simp only[execOp,Bl A B,Cr,Op.unary,Op.intArith,Nl,Sem.run_bind,aT,aK];rfl
   ·cases h
  | _=>simp[Fc]at h
 | nilCheck x=>
  simp only[Fc]at h;split at h
  ·rename_i i off B
   cases h;simp[execOp,Bl A B,Cr]
  ·cases h
 | fieldAddr s x V=>
  simp only[Fc]at h;split at h
  ·rename_i i off B
   split at h
   ·rename_i fields hu
    split at h
    ·rename_i fd Q
     split at h
     ·rename_i n hn
      obtain⟨h1,h2⟩:=To h;cases h2;rw[ys]at Q;have H:fields[V]? = some fd:=by simpa using Q
      have S:n≠0:=by intro e;subst e;cases h1
      simp[execOp,Instr.fieldAt,Bl A B,D6 hT w hu,H,Cr,Instr.sureAddr,fieldPlace,Gq hT w hn,S,Vc]
     ·cases h
    ·cases h
   ·cases h
  ·cases h
 | indexAddr t x ix=>
  simp only[Fc]at h;split at h
  ·rename_i k n C
   split at h
   ·rename_i len e i off hu B
    split at h
    ·rename_i s hs
     obtain⟨h1,h2⟩:=Ap h;cases h2;simp only[dN]at h1;have F:(n:Int)<len:=by omega
     simp[execOp,Instr.indexAt,Bl A C,Bl A B,Cr,asIntOf,D6 hT w hu,Instr.sureAddr,Gq hT w hs,Vc];exact fun hle=>absurd hle (by omega)
    ·cases h
   ·rename_i e i off len r op hu B
    split at h
    ·rename_i s hs
     obtain⟨h1,h2⟩:=Ap h;cases h2;simp only[dN]at h1;have F:(n:Int)<len:=by omega
     simp[execOp,Instr.indexAt,Bl A C,Bl A B,Cr,asIntOf,D6 hT w hu,Gq hT w hs,Vc];exact fun hle=>absurd hle (by omega)
    ·cases h
   ·cases h
  ·cases h
 | index t x ix=>
  simp only[Fc]at h;split at h
  ·rename_i k n C
   split at h
   ·rename_i len e cs hu B
    split at h
    ·rename_i s hs
     obtain⟨h1,h2⟩:=Ap h;simp only[dN]at h1;have F:(n:Int)<len:=by omega
     have hp:=QD hT w f h2;simp only[Nat.mul_eq]at hp;simp[execOp,Instr.index,Bl A C,Bl A B,Cr,asIntOf,D6 hT w hu,Gq hT w hs,hp];exact fun hle=>absurd hle (by omega)
    ·cases h
   ·rename_i s hu B
    split at h
    ·rename_i b hb
     cases h;rw[QL]at hb;have W:s[n]? = some b:=by
      have e:s.data[n]? = some b:=by simpa using hb
      rw[<-e];rfl
     simp[execOp,Instr.index,Bl A C,Bl A B,Cr,asIntOf,D6 hT w hu,W]
    ·cases h
   ·cases h
  ·cases h
 | field t x V=>
  simp only[Fc]at h;split at h
  ·rename_i fields cs hu B
   split at h
   ·rename_i fd Q
    rw[ys]at Q;have H:fields[V]? = some fd:=by simpa using Q
    have hp:=QD hT w f h;simp[execOp,Instr.field,Bl A B,Cr,D6 hT w hu,H,asAgg,hp]
   ·cases h
  ·cases h
 | convert src d x=>
  simp only[Fc]at h;split at h
  ·rename_i ud k k' n hs hd B
   cases h;simp only[execOp,Go.convert,Bl A B,Cr,Sem.run_bind,D6 hT w hs,D6 hT w hd,aK,Conv.intToInt,aT,Nl]
  ·cases h
 | extract x ix=>
  simp only[Fc]at h;split at h
  ·rename_i l B
   split at h
   ·rename_i u r M
    cases h;rw[Ta]at M;have h1:l[ix]? = some v:=by
     have:=dT (xs:=l) (i:=ix) (j:=0);rw[M]at this;simpa using this.symm
    simp[execOp,Instr.extract,Bl A B,Cr,pe,h1]
   ·cases h
  ·cases h
 | slice t x lo hi mx=>
  simp only[Fc]at h;split at h
  ·rename_i ab ad X J K D
   split at h
   ·rename_i n e i off hu B
    split at h
    ·rename_i s hs
     obtain⟨l,Y,m,h1,h2⟩:=QJ hT f w h false;simp only[aX,ak]at h1;simp[execOp,Instr.sliceAt,D6 hT w hu,Bl A B,Wa A J,Wa A K,Wa A D,Cr,Instr.sureAddr,h1,Gq hT w hs,h2]
    ·cases h
   ·rename_i e x' hu B
    split at h
    ·rename_i s hs
     cases x' with
     | slice i off len room op=>
      obtain⟨l,Y,m,h1,h2⟩:=QJ hT f w h true;simp[execOp,Instr.sliceAt,Instr.slice,D6 hT w hu,Bl A B,Wa A J,Wa A K,Wa A D,Cr,h1,Gq hT w hs,h2];split<;>rfl
     | Aq=>
      unfold iV at h;cases X with
      | some _=>cases h
      | none=>
       simp only at h;split at h
       ·cases h
       ·rename_i Y h1
        split at h
        ·cases h
        ·rename_i l h2
         cases h;have e1:Y=0:=Nat.le_zero.1 (QI (aE _) h1);subst e1;have e2:l=0:=Nat.le_zero.1 (QI (aE _) h2);subst e2;have hb:=yw hT f w true h1 h2;have hm:mx=none:=by
          cases mx with
          | none=>rfl
          | some o=>simp only[jn]at D;split at D<;>cases D
         subst hm;simp[execOp,Instr.sliceAt,Instr.slice,D6 hT w hu,Bl A B,Wa A J,Wa A K,Cr,hb,Gq hT w hs]
     | _=>simp[iV]at h
    ·cases h
   ·cases h
  ·cases h
 | build t ps=>
  simp only[Fc]at h;split at h
  ·rename_i z l fields S M hu
   split at h
   ·rename_i pl Z
    split at h
    ·rename_i c G
     cases h;obtain⟨x,_,e1,e2,_⟩:=nV hT f w S;have hp:(fields.mapM (m:=Sem) fun fd=>do pure (fd.offset,<-sizeOf fd.type)).run P w=.ok pl.toArray w:=by
      have e:fields=fields.toList.toArray:=by simp
      rw[e,List.mapM_toArray];have O:=QM hT w Z;simp only[map_eq_pure_bind,Sem.run_bind,O,aK,aT]
     have E:=vc f (lu pl) (fun i=>pl.toArray[i]?) (fun i q O=>by rw[QK]at O;simpa using O) G;have L:(ps.map fun(i,x)=>(i,ρ x)).toList=l.map fun(i,v)=>(i,Cr f v):=by
      rw[Array.toList_map,u5 A M]
     rw[e1]at E;simp only[execOp,Instr.build,Sem.run_bind,e2,aK,D6 hT w hu,hp,Td,L,E,aT,Cr]
    ·cases h
   ·cases h
  ·rename_i z l n e S M hu
   split at h
   ·rename_i s hs
    split at h
    ·rename_i c G
     cases h;obtain⟨x,_,e1,e2,_⟩:=nV hT f w S;have E:=vc f (fun i=>some (Nat.mul i s,s)) (fun i=>some (i*s,s)) (fun i q O=>O) G;have L:(ps.map fun(i,x)=>(i,ρ x)).toList=l.map fun(i,v)=>(i,Cr f v):=by
      rw[Array.toList_map,u5 A M]
     rw[e1]at E;simp only[execOp,Instr.build,Sem.run_bind,e2,aK,D6 hT w hu,Gq hT w hs,Td,L,E,aT,Cr]
    ·cases h
   ·cases h
  ·cases h
 | makeFunc fn first captured=>
  cases fn with
  | func g=>
   simp only[Fc]at h;split at h
   ·rename_i a b U hb
    cases h;have h1:first.map ρ=(Bw f a).toArray:=by apply fC;simp[qB A U]
    have h2:captured.map ρ=(Bw f b).toArray:=by apply fC;simp[qB A hb]
    simp[execOp,Instr.makeFunc,Cr,h1,h2]
   ·cases h
  | _=>simp[Fc]at h
 | sliceToArrayPointer t x=>
  simp only[Fc]at h;split at h
  ·rename_i n e i off len room op hu B
   obtain⟨h1,h2⟩:=Ap h;cases h2;simp only[dN]at h1;have F:¬len<n:=by omega
   simp[execOp,Instr.arrayAt,D6 hT w hu,Bl A B,Cr,F]
  ·cases h
 | _=>simp[Fc]at h
end
end
theorem Ab.get_put(h:Ab)(i:Nat)(o:D3)(j:Nat):(h.put i o).get j=if i=j then some o else h.get j:=by
 obtain⟨t,n,m⟩:=h;exact Tr.get_put t i (some o) j
theorem Ab.kV(h:Ab)(i j:Nat):(h.del i).get j=if i=j then none else h.get j:=by
 obtain⟨t,n,m⟩:=h;exact Tr.get_put t i none j
theorem Ab.K7(h:Ab)(o:D3)(j:Nat):(h.new o).get j=if h.next=j then some o else h.get j:=by
 obtain⟨t,n,m⟩:=h;exact Tr.get_put t n (some o) j
theorem Ab.Qr(h:Ab)(i:Nat)(o:D3):(h.put i o).next=h.next:=rfl
theorem Ab.xp(h:Ab)(i:Nat):(h.del i).next=h.next:=rfl
theorem Ab.Dx(h:Ab)(o:D3):(h.new o).next=h.next+1:=rfl
theorem Ab.nA(h:Ab)(i:Nat)(o:D3):(h.put i o).mw=min i h.mw:=by
 obtain⟨t,n,m⟩:=h;show Bb (Nat.ble i m) i m=min i m;rw[Bq];by_cases hi:i<=m
 ·rw[aI (nU hi)];omega
 ·rw[aG (by rw[qz hi];simp)];omega
theorem Ab.rQ(h:Ab)(i:Nat):(h.del i).mw=min i h.mw:=Ab.nA h i (.deferred true)
theorem Ab.Br2(h:Ab)(o:D3):(h.new o).mw=h.mw:=rfl
def D3.ok(p:Nat->Prop):D3->Prop
 | .cells l _=>EV.Tx p l/\l.all EV.one=true
 | .vec l _ _=>EV.Tx p l/\l.all EV.one=true
 | .map es=>∀e∈es,e.1.ok p/\e.2.ok p
 | .chan _ buf=>EV.Tx p buf
 | .loop _ _ _ n tm _ _ _ d=>Lr p n tm/\p d
 | .deferred _=>True
 | .view ws _=>∀x∈ws,EV.Tx p x.2/\x.2.all EV.one=true
theorem D3.ok.mono(j:∀i,p i->q i){o:D3}(h:o.ok p):o.ok q:=by
 cases o with
 | cells l t=>exact⟨EV.Tx.mono j l h.1,h.2⟩
 | vec l t s=>exact⟨EV.Tx.mono j l h.1,h.2⟩
 | map es=>exact fun e he=>⟨EV.ok.mono j _ (h e he).1,EV.ok.mono j _ (h e he).2⟩
 | chan c buf=>exact EV.Tx.mono j buf h
 | loop st y fn n tm ps b_ body d=>exact⟨Lr.mono h.1 j,j d h.2⟩
 | deferred b=>trivial
 | view ws _=>exact fun x u=>⟨EV.Tx.mono j x.2 (h x u).1,(h x u).2⟩
def Vu(f:Loc)(i:Nat):D3->Obj->Prop
 | .cells l e,r=>r=.cells (Bw f l).toArray e (0,0)
 | .vec l e s,r=>∃more:List Value,r=.cells (Bw f l++more).toArray e (0,0)/\more.length=f.sp i*s
 | .map es,r=>∃d' clock,r=.map d' clock/\d'.toList.map (fun e=>(e.key,e.val))=es.map (fun e=>(Cr f e.1,Cr f e.2))
 | .chan cap buf,r=>∃s c,r=.chan cap (Bw f buf).toArray false s c false
 | .loop st p fn n tm ps b_ body d,r=>r=.loop ⟨st,p,fn,Bi f n tm,ps.toArray,b_,body,f.b d⟩
 | .deferred op,r=>r=.deferred (if op=true then some []else none)
 | .view ws r0,r=>r=r0/\∃arr e fr,r=.cells arr e fr/\∀x∈ws,∀(j:Nat) v,x.2[j]? = some v->arr[x.1+j]? = some (Cr f v)
theorem Vu.congr(u:Loc.Fo p f g)(hi:p i){o:D3}(y:o.ok p){r:Obj}(h:Vu f i o r):Vu g i o r:=by
 cases o with
 | cells l t=>simp only[Vu]at h⊢;rw[h,G8 u l y.1]
 | vec l t s=>simp only[Vu]at h⊢;obtain⟨more,h1,h2⟩:=h;exact⟨more,by rw[h1,G8 u l y.1],by rw[h2,(u i hi).2]⟩
 | map es=>
  obtain⟨d',clock,h1,h2⟩:=h;refine⟨d',clock,h1,?_⟩;rw[h2];apply cm;intro e he;rw[qA u _ (y e he).1,qA u _ (y e he).2]
 | chan c buf=>obtain⟨s,B,h1⟩:=h;exact⟨s,B,by rw[h1,G8 u buf y]⟩
 | loop st C fn n tm ps b_ body d=>simp only[Vu]at h⊢;rw[h,Lh u y.1,(u d y.2).1]
 | deferred b=>exact h
 | view ws r0=>
  obtain⟨h0,arr,e,fr,h1,h2⟩:=h;exact⟨h0,arr,e,fr,h1,fun x A j v hj=>by rw[<-qA u v ((Io p x.2).1 (y x A).1 v (bc hj))];exact h2 x A j v hj⟩
structure T1(p:Nat->Prop)(h:Ab):Prop where
 lt:∀i,p i->i<h.next
 get:∀i o,h.get i=some o->p i/\o.ok p
structure T7(f:Loc)(h:Ab)(w:World):Prop where
 obj:∀i o,h.get i=some o->∃r,w.heap[f.b i]? = some r/\Vu f i o r
 inj:∀i j o o',h.get i=some o->h.get j=some o'->f.b i=f.b j->i=j
theorem T7.sub{w:World}(y:T7 f h w)(hs:∀i o,h'.get i=some o->h.get i=some o):T7 f h' w where
 obj i o d:=y.obj i o (hs i o d)
 inj i j o o' d u e:=y.inj i j o o' (hs i o d) (hs j o' u) e
theorem T7.lt{w:World}(d:T7 f h w){o:D3}(j:h.get i=some o):f.b i<w.heap.size:=by
 obtain⟨r,h1,_⟩:=d.obj i o j;exact(cq.1 h1).1
def grow(p:Nat->Prop)(h h':Ab)(i:Nat):Prop:=p i\/(h.next<=i/\i<h'.next)
theorem Kb(p:Nat->Prop)(h h':Ab)(e:h'.next=h.next):grow p h h'=p:=by
 funext i;exact propext ⟨fun x=>x.elim id (fun⟨a,b⟩=>absurd b (by omega)),.inl⟩
theorem qp(p:Nat->Prop)(a:h.next<=h1.next)(b:h1.next<=h2.next):grow (grow p h h1) h1 h2=grow p h h2:=by
 funext i;apply propext;constructor
 ·rintro((x|x)|x)
  ·exact .inl x
  ·exact .inr (by omega)
  ·exact .inr (by omega)
 ·rintro(x|x)
  ·exact .inl (.inl x)
  ·by_cases c:i<h1.next
   ·exact .inl (.inr ⟨x.1,c⟩)
   ·exact .inr (by omega)
structure Wf(p:Nat->Prop)(h h':Ab):Prop where
 next:h.next<=h'.next
 mw:h'.mw<=h.mw
 same:∀i,i<h'.mw->i<h.next->h'.get i=h.get i
 live:∀i o,h'.get i=some o->(∃o',h.get i=some o')\/h.next<=i
 hok:T1 (grow p h h') h'
structure Move(p:Nat->Prop)(f:Loc)(h:Ab)(w:World)(f':Loc)(h':Ab)(w':World):Prop where
 Fo:Loc.Fo p f f'
 rep:T7 f' h' w'
 kept:∀b,b<w.heap.size->(∀i o,h.get i=some o->f.b i≠b)->w'.heap[b]? = w.heap[b]?
 size:w.heap.size<=w'.heap.size
 tape:w'.tape=w.tape
 os:w'.os=w.os
 output:w'.output=w.output
 own:∀i o,h'.get i=some o->w.heap.size<=f'.b i\/∃j o',h.get j=some o'/\f'.b i=f.b j
theorem Wf.refl(d:T1 p h):Wf p h h where
 next:=aE _
 mw:=aE _
 same _ _ _:=rfl
 live i o j:=.inl ⟨o,j⟩
 hok:=by rw[Kb p h h rfl];exact d
theorem Wf.trans(a:Wf p h h1)(b:Wf (grow p h h1) h1 h2):Wf p h h2 where
 next:=bQ a.next b.next
 mw:=bQ b.mw a.mw
 same i x y:=by rw[b.same i x (by have:=a.next;omega),a.same i (by have:=b.mw;omega) y]
 live i o j:=by
  rcases b.live i o j with⟨o',d⟩|hi
  ·exact a.live i o' d
  ·exact .inr (by have:=a.next;omega)
 hok:=by rw[<-qp p a.next b.next];exact b.hok
theorem Move.refl{w:World}(d:T7 f h w):Move p f h w f h w where
 Fo:=Loc.uZ p f
 rep:=d
 kept _ _ _:=rfl
 size:=aE _
 tape:=rfl
 os:=rfl
 output:=rfl
 own i o j:=.inr ⟨i,o,j,rfl⟩
theorem Move.trans{f1 f2:Loc}{w w1 w2:World}(a:Move p f h w f1 h1 w1)
 (b:Move (grow p h h1) f1 h1 w1 f2 h2 w2):Move p f h w f2 h2 w2 where
 Fo:=a.Fo.trans (b.Fo.mono fun i hi=>.inl hi)
 rep:=b.rep
 kept x B C:=by
  rw[b.kept x (aN B a.size) ?_,a.kept x B C];intro i o y e;rcases a.own i o y with hi|⟨j,o',d,hj⟩
  ·omega
  ·exact C j o' d (hj▸e)
 size:=bQ a.size b.size
 tape:=b.tape.trans a.tape
 os:=b.os.trans a.os
 output:=b.output.trans a.output
 own i o y:=by
  rcases b.own i o y with hi|⟨j,o',d,hj⟩
  ·exact .inl (bQ a.size hi)
  ·rcases a.own j o' d with hi|⟨k,A,u,D⟩
   ·exact .inl (hj▸hi)
   ·exact .inr ⟨k,A,u,hj.trans D⟩
theorem Wf.put(d:T1 p h){o:D3}(hi:h.get i=some o)(u:o'.ok p):Wf p h (h.put i o') where
 next:=aE _
 mw:=by rw[Ab.nA];omega
 same j x _:=by rw[Ab.nA]at x;rw[Ab.get_put,aG (by omega)]
 live j q hj:=by
  rw[Ab.get_put]at hj;split at hj
  ·rename_i e;subst e;exact .inl ⟨o,hi⟩
  ·exact .inl ⟨q,hj⟩
 hok:=by
  rw[Kb p h (h.put i o') rfl];refine⟨d.lt,fun j q hj=>?_⟩;rw[Ab.get_put]at hj;split at hj
  ·rename_i e;subst e;cases hj;exact⟨(d.get i o hi).1,u⟩
  ·exact d.get j q hj
theorem Move.put{w:World}(d:T7 f h w){o:D3}(hi:h.get i=some o)
 {r:Obj} (h1:w'.heap[f.b i]? = some r) (h2:Vu f i o' r) (B:∀b,b≠f.b i->w'.heap[b]? = w.heap[b]?) (h4:w'.heap.size=w.heap.size)
 (C:w'.tape=w.tape) (D:w'.os=w.os) (E:w'.output=w.output):Move p f h w f (h.put i o') w' where
 Fo:=Loc.uZ p f
 rep:=by
  refine⟨fun j q hj=>?_,fun j k q q' hj u e=>?_⟩
  ·rw[Ab.get_put]at hj
   split at hj
   ·rename_i e;subst e;cases hj;exact⟨r,h1,h2⟩
   ·rename_i e
    obtain⟨F,a,b⟩:=d.obj j q hj;refine⟨F,?_,b⟩;rw[B _ ?_]
    ·exact a
    ·intro e';exact e (d.inj j i q o hj hi e').symm
  ·have y:∃q,h.get j=some q:=by
    rw[Ab.get_put]at hj;split at hj
    ·rename_i e;exact⟨o,e▸hi⟩
    ·exact⟨q,hj⟩
   have A:∃q,h.get k=some q:=by
    rw[Ab.get_put]at u;split at u
    ·rename_i e;exact⟨o,e▸hi⟩
    ·exact⟨q',u⟩
   obtain⟨a,G⟩:=y;obtain⟨b,hb⟩:=A;exact d.inj j k a b G hb e
 kept b _ H:=B b (fun e=>H i o hi e.symm)
 size:=by omega
 tape:=C
 os:=D
 output:=E
 own j q hj:=by
  rw[Ab.get_put]at hj;split at hj
  ·rename_i e;subst e;exact .inr ⟨i,o,hi,rfl⟩
  ·exact .inr ⟨j,q,hj,rfl⟩
def Loc.set(f:Loc)(i b sp:Nat):Loc:=⟨fun j=>if j=i then b else f.b j,fun j=>if j=i then sp else f.sp j⟩
theorem Loc.jo(f:Loc)(i b sp:Nat):(f.set i b sp).b i=b:=aI rfl
theorem Loc.vg(f:Loc)(i b sp:Nat):(f.set i b sp).sp i=sp:=aI rfl
theorem Loc.Ua(f:Loc){j:Nat}(b sp:Nat)(h:j≠i):(f.set i b sp).b j=f.b j/\(f.set i b sp).sp j=f.sp j:=⟨aG h,aG h⟩
theorem Loc.Qs(f:Loc)(b sp:Nat)(h:¬p i):Loc.Fo p f (f.set i b sp):=fun j hj=>
 have e:j≠i:=fun e=>h (e▸hj)
 ⟨(f.Ua b sp e).1.symm,(f.Ua b sp e).2.symm⟩
theorem T1.fresh(d:T1 p h):¬p h.next:=fun x=>absurd (d.lt _ x) (by omega)
theorem T1.pj(d:T1 p h){o:D3}(hi:h.get i=some o):i≠h.next:=fun e=>d.fresh (e▸(d.get i o hi).1)
theorem Wf.new(d:T1 p h){o:D3}(u:o.ok (grow p h (h.new o))):Wf p h (h.new o) where
 next:=by rw[Ab.Dx];omega
 mw:=aE _
 same j x y:=by rw[Ab.K7,aG (by omega)]
 live j q hj:=by
  rw[Ab.K7]at hj;split at hj
  ·rename_i e;exact .inr (by omega)
  ·exact .inl ⟨q,hj⟩
 hok:=by
  refine⟨fun j hj=>?_,fun j q hj=>?_⟩
  ·rcases hj with hj|hj
   ·have:=d.lt j hj;rw[Ab.Dx];omega
   ·exact hj.2
  ·rw[Ab.K7]at hj
   split at hj
   ·rename_i e;cases hj;exact⟨.inr (by rw[Ab.Dx];omega),u⟩
   ·exact⟨.inl (d.get j q hj).1,D3.ok.mono (fun i hi=>.inl hi) (d.get j q hj).2⟩
theorem Move.new{w:World}(d:T1 p h)(y:T7 f h w){o:D3}(sp:Nat)
 {r:Obj} (h1:w'.heap=w.heap.push r) (h2:Vu (f.set h.next w.heap.size sp) h.next o r)
 (A:w'.tape=w.tape) (B:w'.os=w.os) (C:w'.output=w.output):Move p f h w (f.set h.next w.heap.size sp) (h.new o) w' where
 Fo:=f.Qs _ _ d.fresh
 rep:=by
  refine⟨fun j q hj=>?_,fun j k q q' hj u e=>?_⟩
  ·rw[Ab.K7]at hj
   split at hj
   ·rename_i e;subst e;cases hj;exact⟨r,by rw[Loc.jo,h1];simp,h2⟩
   ·obtain⟨D,a,b⟩:=y.obj j q hj
    have E:=y.lt hj;obtain⟨hp,hok⟩:=d.get j q hj;refine⟨D,?_,b.congr (f.Qs _ _ d.fresh) hp hok⟩;rw[(f.Ua _ _ (d.pj hj)).1,h1,Array.getElem?_push,aG (by omega)];exact a
  ·rw[Ab.K7]at hj u
   split at hj
   ·rename_i e1
    split at u
    ·rename_i e2;omega
    ·subst e1
     rw[Loc.jo,(f.Ua _ _ (d.pj u)).1]at e;have:=y.lt u;omega
   ·split at u
    ·rename_i e2
     subst e2;rw[Loc.jo,(f.Ua _ _ (d.pj hj)).1]at e;have:=y.lt hj;omega
    ·rw[(f.Ua _ _ (d.pj hj)).1,(f.Ua _ _ (d.pj u)).1]at e
     exact y.inj j k q q' hj u e
 kept b hb _:=by rw[h1,Array.getElem?_push,aG (by omega)]
 size:=by rw[h1];simp
 tape:=A
 os:=B
 output:=C
 own j q hj:=by
  rw[Ab.K7]at hj;split at hj
  ·rename_i e;subst e;rw[Loc.jo];exact .inl (aE _)
  ·exact .inr ⟨j,q,hj,(f.Ua _ _ (d.pj hj)).1⟩
theorem T1.del(d:T1 p h)(i:Nat):T1 p (h.del i):=
 ⟨d.lt,fun j q hj=>by rw[Ab.kV]at hj;split at hj;cases hj;exact d.get j q hj⟩
theorem Wf.del(d:T1 p h)(i:Nat):Wf p h (h.del i) where
 next:=aE _
 mw:=by rw[Ab.rQ];omega
 same j x _:=by rw[Ab.rQ]at x;rw[Ab.kV,aG (by omega)]
 live j q hj:=by
  rw[Ab.kV]at hj;split at hj
  ·cases hj
  ·exact .inl ⟨q,hj⟩
 hok:=by rw[Kb p h (h.del i) rfl];exact d.del i
theorem vh:∀j o,(h.del i).get j=some o->h.get j=some o:=by
 intro j o hj;rw[Ab.kV]at hj;split at hj
 ·cases hj
 ·exact hj
theorem Wf.vi(d:T1 p h)(i:Nat){o:D3}(j:o.ok (grow p h (h.new o))):Wf p h ((h.del i).new o):=by
 have a:=Wf.del d i;have e:grow p h (h.del i)=p:=Kb p h (h.del i) rfl;have b:Wf (grow p h (h.del i)) (h.del i) ((h.del i).new o):=by
  rw[e];exact Wf.new (d.del i) j
 exact a.trans b
theorem Move.vi{w:World}(y:T1 p h)(d:T7 f h w){o:D3}(hi:h.get i=some o)(sp:Nat)
 {r:Obj} (h1:w'.heap[f.b i]? = some r) (h2:Vu (f.set h.next (f.b i) sp) h.next o' r) (A:∀b,b≠f.b i->w'.heap[b]? = w.heap[b]?) (h4:w'.heap.size=w.heap.size)
 (C:w'.tape=w.tape) (D:w'.os=w.os) (E:w'.output=w.output):Move p f h w (f.set h.next (f.b i) sp) ((h.del i).new o') w' where
 Fo:=f.Qs _ _ y.fresh
 rep:=by
  have key:∀j q,((h.del i).new o').get j=some q->(j=h.next/\q=o')\/(j≠i/\j≠h.next/\h.get j=some q):=by
   intro j q hj;rw[Ab.K7]at hj;split at hj
   ·rename_i e;cases hj;exact .inl ⟨e.symm,rfl⟩
   ·rename_i e
    rw[Ab.kV]at hj;split at hj
    ·cases hj
    ·rename_i e';exact .inr ⟨fun x=>e' x.symm,fun x=>e x.symm,hj⟩
  refine⟨fun j q hj=>?_,fun j k q q' hj B e=>?_⟩
  ·rcases key j q hj with⟨rfl,rfl⟩|⟨c1,c2,c3⟩
   ·exact⟨r,by rw[Loc.jo];exact h1,h2⟩
   ·obtain⟨F,a,b⟩:=d.obj j q c3
    obtain⟨hp,hok⟩:=y.get j q c3;refine⟨F,?_,b.congr (f.Qs _ _ y.fresh) hp hok⟩;rw[(f.Ua _ _ c2).1,A _ (fun e=>c1 (d.inj j i q o c3 hi e))];exact a
  ·rcases key j q hj with⟨rfl,rfl⟩|⟨c1,c2,c3⟩
   ·rcases key k q' B with⟨rfl,rfl⟩|⟨d1,d2,d3⟩
    ·rfl
    ·rw[Loc.jo,(f.Ua _ _ d2).1]at e
     exact absurd (d.inj i k o q' hi d3 e).symm d1
   ·rcases key k q' B with⟨rfl,rfl⟩|⟨d1,d2,d3⟩
    ·rw[Loc.jo,(f.Ua _ _ c2).1]at e
     exact absurd (d.inj j i q o c3 hi e) c1
    ·rw[(f.Ua _ _ c2).1,(f.Ua _ _ d2).1]at e
     exact d.inj j k q q' c3 d3 e
 kept b _ G:=A b (fun e=>G i o hi e.symm)
 size:=by omega
 tape:=C
 os:=D
 output:=E
 own j q hj:=by
  rw[Ab.K7]at hj;split at hj
  ·rename_i e;rw[show j=h.next from e.symm,Loc.jo];exact .inr ⟨i,o,hi,rfl⟩
  ·have u:=vh j q hj
   exact .inr ⟨j,q,u,(f.Ua _ _ (y.pj u)).1⟩
section
def kK(P:Program)(s:Sem Next)(p:Nat->Prop)(f:Loc)(h:Ab)(w:World)(v:EV)(h':Ab):Prop:=
 ∃f' w' N,s.run P w=.ok N w'/\(N=.value (Cr f' v)\/(N=.skip/\v=.tuple []))/\Move p f h w f' h' w'/\Wf p h h'/\v.ok (grow p h h')
theorem nX{l:List EV}(d:EV.Tx p l):EV.Tx (grow p h h') l:=EV.Tx.mono (fun _ hi=>.inl hi) l d
theorem QN{l:List EV}(d:EV.Tx p l)(off n:Nat):EV.Tx p ((l.drop off).take n):=
 (Io p _).2 fun v j=>(Io p _).1 d v (aH (b9 j))
theorem qF{b:List EV}(d:EV.Tx p a)(hb:EV.Tx p b):EV.Tx p (a++b):=
 (Io p _).2 fun v j=>(bR.1 j).elim ((Io p _).1 d v) ((Io p _).1 hb v)
theorem QO {l:List EV}(d:l.all EV.one=true)(off n:Nat):((l.drop off).take n).all EV.one=true:=by
 rw[dV]at d⊢;exact fun v j=>d v (aH (b9 j))
theorem Bcu {b:List EV}(d:a.all EV.one=true)(hb:b.all EV.one=true):(a++b).all EV.one=true:=by
 rw[List.all_append,d,hb];rfl
theorem QP{l x:List EV}(h:F0 l off vs=some x)(d:EV.Tx p l)(j:EV.Tx p vs):EV.Tx p x:=
 (Io p _).2 fun v u=>(yr h u).elim ((Io p _).1 d v) ((Io p _).1 j v)
theorem QQ {l x:List EV}(h:F0 l off vs=some x)(d:l.all EV.one=true)(j:vs.all EV.one=true):x.all EV.one=true:=by
 rw[dV]at *;exact fun v u=>(yr h u).elim (d v) (j v)
theorem setRow_other(w:World)(g:Nat)(cs:Array Value)(b:Nat)(hb:b≠g):(w.setRow g cs).heap[b]? = w.heap[b]?:=by
 simp only[World.setRow,Array.getElem?_modify];rw[aG (cY hb)]
theorem setRow_size(w:World)(g:Nat)(cs:Array Value):(w.setRow g cs).heap.size=w.heap.size:=by simp[World.setRow]
section
variable{w:World}
theorem Bce{o:Nat}{l:List EV}(e:mB ws off=some (o,l)):(o,l)∈ws/\o<=off:=by
 induction ws with
 | nil=>cases e
 | cons x r d=>
  obtain⟨o',l'⟩:=x;unfold mB at e;cases h1:Nat.ble o' off with
  | false=>rw[h1]at e;exact⟨aU _ (d e).1,(d e).2⟩
  | true=>
   rw[h1,Ak]at e;cases h2:Nat.ble (Nat.succ (Nat.sub off o')) (len l')with
   | false=>rw[h2]at e;exact⟨aU _ (d e).1,(d e).2⟩
   | true=>rw[h2]at e;cases e;exact⟨aW ..,bL h1⟩
theorem vj(C:T1 p h)(D:T7 f h w){l:List EV}(d:I6 h i off n=some l):
 (loadCells ⟨f.b i,off,none⟩ n).run P w=.ok (Bw f l).toArray w/\EV.Tx p l/\l.all EV.one=true/\l.length=n /\
  ∀j v,l[j]? = some v->w.cell? ⟨f.b i,off+j,none⟩=some (Cr f v):=by
 have key:∀(L:List EV) (arr:Array Value) (e:TypeId) (fr:Nat × Nat) (o:Nat),w.heap[f.b i]? = some (.cells arr e fr)->o<=off->(∀(j:Nat) v,L[j]? = some v->arr[o+j]? = some (Cr f v))->EV.Tx p L->L.all EV.one=true ->
  takeN (Zv L (off-o)) n=some l->(loadCells ⟨f.b i,off,none⟩ n).run P w=.ok (Bw f l).toArray w/\EV.Tx p l/\l.all EV.one=true/\l.length=n /\
  ∀j v,l[j]? = some v->w.cell? ⟨f.b i,off+j,none⟩=some (Cr f v):=by
  intro L arr e fr o h1 M h2 A h4 E;obtain⟨F,B⟩:=sK E;rw[Ta]at F B;have hlen:l.length=n:=by rw[B,bZ];omega
  have H:∀j v,l[j]? = some v->w.cell? ⟨f.b i,off+j,none⟩=some (Cr f v):=by
   intro j v hj;rw[B,fI]at hj;split at hj
   ·rw[dT]at hj
    simp only[World.cell?,h1];have:=h2 _ _ hj;rw[show o+(off-o+j)=off+j by omega]at this;simpa using this
   ·cases hj
  refine⟨?_,B▸QN A (off-o) n,B▸QO h4 (off-o) n,hlen,H⟩;have J:(Bw f l).length=n:=by rw[Di,hlen]
  rw[<-J];apply run_loadCells_list;intro j v hj;rw[pe]at hj;cases G:l[j]? with
  | none=>rw[G]at hj;cases hj
  | some u=>
   rw[G]at hj;cases hj;rw[Vc];exact H j u G
 unfold I6 at d;split at d
 ·rename_i L e y
  obtain⟨r,h1,h2⟩:=D.obj i _ y;obtain⟨_,A,h4⟩:=C.get i _ y;simp only[Vu]at h2;subst h2;exact key L _ e (0,0) 0 h1 (cZ _) (fun j v hj=>by simp[pe,hj]) A h4 d
 ·rename_i L e s y
  obtain⟨r,h1,more,h2,_⟩:=D.obj i _ y;obtain⟨_,A,h4⟩:=C.get i _ y;subst h2;refine key L _ e (0,0) 0 h1 (cZ _) (fun j v hj=>?_) A h4 d;rw[bM];have:j<(Bw f L).length:=by rw[Di];exact(aY.1 hj).1
  simp only[cL];rw[bm this,pe,hj];rfl
 ·rename_i ws r0 y
  split at d
  ·rename_i o L hw
   obtain⟨hm,E⟩:=Bce hw;obtain⟨r,h1,_,arr,e,fr,h2,F⟩:=D.obj i _ y;obtain⟨_,K⟩:=C.get i _ y;obtain⟨A,h4⟩:=K _ hm;subst h2;exact key L _ e fr o h1 E (F _ hm) A h4 d
  ·cases d
 ·cases d
theorem QR(B:T1 p h)(C:T7 f h w)(j:Ml h i off vs=some h')(H:EV.Tx p vs)(h1:vs.all EV.one=true):
 ∃w',(storeCells ⟨f.b i,off,none⟩ (Bw f vs)).run P w=.ok () w'/\Move p f h w f h' w'/\Wf p h h':=by
 have y:∀v∈Bw f vs,v.oneCell'=true:=PV f vs (by simpa using h1);unfold Ml at j;split at j
 ·rename_i L e u
  obtain⟨r,A,D⟩:=C.obj i _ u;obtain⟨_,E,F⟩:=B.get i _ u;simp only[Vu]at D;subst D;split at j
  ·rename_i G hs
   cases j;obtain⟨b1,b2⟩:=Ym hs;have d:=run_storeCells_at (P:=P) (f.b i) off e (Bw f vs) 0 (Bw f L).toArray w A (by simp only[Di,eD];omega) y;refine⟨_,d,?_,Wf.put B u ⟨QP hs E H,QQ hs F h1⟩⟩;refine Move.put C u (r:=.cells (Bw f G).toArray e (0,0)) ?_ rfl (fun b hb=>setRow_other _ _ _ _ hb) (setRow_size _ _ _) rfl rfl rfl;rw[setRow_heap w (f.b i) _ _ e (0,0) A,b2,yv];simp
  ·cases j
 ·rename_i L e s u
  obtain⟨r,A,more,D,J⟩:=C.obj i _ u;obtain⟨_,E,F⟩:=B.get i _ u;subst D;split at j
  ·rename_i G hs
   cases j;obtain⟨b1,b2⟩:=Ym hs;have d:=run_storeCells_at (P:=P) (f.b i) off e (Bw f vs) 0 (Bw f L++more).toArray w A (by simp only[Di,eD,aF];omega) y;refine⟨_,d,?_,Wf.put B u ⟨QP hs E H,QQ hs F h1⟩⟩;refine Move.put C u (r:=.cells (Bw f G++more).toArray e (0,0)) ?_ ⟨more,rfl,J⟩ (fun b hb=>setRow_other _ _ _ _ hb) (setRow_size _ _ _) rfl rfl rfl;rw[setRow_heap w (f.b i) _ _ e (0,0) A,b2,yv];simp only[List.toList_toArray,dS];rw[fL (by rw[Di];omega),List.drop_append_of_le_length (by simp only[Di];omega)];simp
  ·cases j
 ·cases j
variable (hT:Qg P T)
include hT
theorem Bnq(A:Reads f tm ρ)(B:T1 p h)(C:T7 f h w)
 {a:Operand} (D:o.op=.load t a) (d:Dz T tm (.load t a) h=some (v,h')) :
 h'=h/\v.ok p/\(execOp ρ o).run P w=.ok (.value (Cr f v)) w:=by
 simp only[Dz]at d;split at d
 ·rename_i i off E
  split at d
  ·rename_i j
   split at d
   ·rename_i n J
    split at d
    ·rename_i l y
     cases d;obtain⟨h1,h2,F,h4,G⟩:=vj (P:=P) B C y;refine⟨rfl,⟨h2,F⟩,?_⟩;simp only[execOp,D,Instr.loadAt,Bl A E,Cr,Instr.sureAddr,loadVar,Sem.run_bind,aT,aK,qE hT w j,Gq hT w J,h1,bJ]
    ·cases d
   ·cases d
  ·rename_i j
   split at d
   ·rename_i u y
    cases d;obtain⟨h1,h2,F,h4,G⟩:=vj (P:=P) B C y;refine⟨rfl,h2.1,?_⟩;have H:=G 0 v rfl;simp only[execOp,D,Instr.loadAt,Bl A E,Cr,Instr.sureAddr,loadVar,Sem.run_bind,aT,aK,qE hT w j,run_load,aX,ak];simp only[dS]at H;rw[H];rfl
   ·cases d
  ·cases d
 ·cases d
theorem Bhf(y:Reads f tm ρ)(D:Lr p n tm)(E:T1 p h)(F:T7 f h w)
 {a:Operand} (G:o.op=.store t a x) (d:Dz T tm (.store t a x) h=some (v,h')) :
 kK P (execOp ρ o) p f h w v h':=by
 simp only[Dz]at d;split at d
 ·rename_i i off u m H A B
  obtain⟨h1,h2⟩:=Ap d;obtain⟨C,h4⟩:=Ap h2;split at h4
  ·rename_i J hw
   cases h4;rw[Ye]at C;have j:=aL C;obtain⟨c1,c2⟩:=U9 (E9 D A) h1;obtain⟨w',K,L,M⟩:=QR (P:=P) E F hw c1 (by simpa using c2);refine⟨f,w',.skip,?_,.inr ⟨rfl,rfl⟩,L,M,trivial⟩;simp only[execOp,G,Instr.storeAt,Bl y H,Bl y A,Instr.sureAddr,storeVar,Sem.run_bind,aT,aK,Gq hT w B];simp only[Cr,aT,aK,Td,Sem.run_bind,Gq hT w B];simp[j,K,Di]
  ·cases h4
 ·cases d
omit hT in
theorem vk(d:T1 p h)(u:T7 f h w)(e:TypeId){l:List EV}(j:EV.Tx p l)(h1:l.all EV.one=true):
 ∃f' w',(newRow e (Bw f l).toArray).run P w=.ok ⟨f'.b h.next,0,none⟩ w'/\Move p f h w f' (h.new (.cells l e)) w'/\Wf p h (h.new (.cells l e))/\grow p h (h.new (.cells l e)) h.next:=by
 refine⟨f.set h.next w.heap.size 0,{ w with heap:=w.heap.push (.cells (Bw f l).toArray e) },?_,?_,Wf.new d ⟨nX j,h1⟩,.inr ⟨aE _,by rw[Ab.Dx];omega⟩⟩
 ·rw[Loc.jo];rfl
 ·refine Move.new d u 0 rfl ?_ rfl rfl rfl
  simp only[Vu];rw[G8 (f.Qs _ _ d.fresh) l j]
theorem Bhy(u:T1 p h)(y:T7 f h w)
 (A:o.op=.alloc t) (d:Dz T tm (.alloc t) h=some (v,h')) :
 kK P (execOp ρ o) p f h w v h':=by
 simp only[Dz]at d;split at d
 ·rename_i z B
  cases d;obtain⟨x,C,j,D,_,_,E,_⟩:=nV hT f w B;obtain⟨c1,c2⟩:=U9 (E p) C;rw[<-j]at c1 c2;obtain⟨f',w',F,G,H,J⟩:=vk (P:=P) u y t c1 (by simpa using c2);refine⟨f',w',_,?_,.inl rfl,G,H,J⟩;simp only[execOp,A,Instr.alloc,Sem.run_bind,D,aK,newVar,Td,<-j,F,aT,Cr]
 ·cases d
omit hT in
theorem Bo8(j:Reads f tm ρ)(y:Lr p n tm)(A:T1 p h)(B:T7 f h w)
 (C:o.op=.box t x) (d:Dz T tm (.box t x) h=some (v,h')) :
 kK P (execOp ρ o) p f h w v h':=by
 simp only[Dz]at d;split at d
 ·rename_i u hu
  obtain⟨h1,h2⟩:=Ap d;cases h2;obtain⟨c1,c2⟩:=U9 (E9 y hu) h1;obtain⟨f',w',D,E,F,G⟩:=vk (P:=P) A B t c1 (by simpa using c2);refine⟨f',w',_,?_,.inl rfl,E,F,G⟩;simp only[execOp,C,Instr.box,Bl j hu,Sem.run_bind,aK,newVar,Td,D,aT,Cr]
 ·cases d
omit hT in
theorem QS(f:Loc)(z:List EV)(m:Nat)(j:m*z.length≠0):
 (Array.range (m*z.length)).map (fun i=>(Bw f z).toArray[i%(Bw f z).toArray.size]!)=(Bw f (rep z m)).toArray:=by
 apply gP;intro i;simp only[Array.getElem?_map,cL,pe,eD,Di];by_cases hi:i<m*z.length
 ·rw[QC z m i hi]
  have d:i%z.length<z.length:=Nat.mod_lt _ (by rcases dY z.length with e|e;(simp[e]at j);exact e);simp[hi,pe,d,aD d]
 ·have:(rep z m)[i]? = none:=cC (by rw[u_];omega)
  simp[this];omega
theorem A23 {n:Nat}(F:Reads f tm ρ)(H:T1 p h)(J:T7 f h w)
 {y:Operand} (K:o.op=.makeSlice t x y) (d:Dz T tm (.makeSlice t x y) h=some (v,h')) :
 kK P (execOp ρ o) p f h w v h':=by
 simp only[Dz]at d;split at d
 ·rename_i e k a k' b hu L M
  split at d
  ·rename_i z O
   obtain⟨h1,h2⟩:=Ap d;obtain⟨C,h4⟩:=Ap h2;cases h4;simp only[dN]at h1 C;obtain⟨u,Q,G,S,_,_,U,i,i1,i2,i3⟩:=nV hT f w O;obtain⟨c1,c2⟩:=U9 (U p) Q;rw[<-G]at c1 c2;have d1:EV.Tx p (rep z b):=(Io p _).2 fun v D=>(Io p _).1 c1 v (sL D)
   have d2:(rep z b).all EV.one=true:=by rw[dV];exact fun v D=>c2 v (sL D)
   obtain⟨f',w',E,V,W,X⟩:=vk (P:=P) H J e d1 d2;refine⟨f',w',_,?_,.inl rfl,V,W,X⟩;have Y:IntKind.i64.wrap (Int.ofNat a)=a:=lG .i64 rfl _ 9223372036854775808 rfl rfl (by simp only[aZ];omega) (by simp only[aZ];omega);have wb:IntKind.i64.wrap (Int.ofNat b)=b:=lG .i64 rfl _ 9223372036854775808 rfl rfl (by simp only[aZ];omega) (by simp only[aZ];omega);have B:¬((2:Int)^48<(i.bytes:Int)*b):=by
    have:i.bytes*b<=1048576*65536:=gW i3 C;have e:((i.bytes*b:Nat):Int)=(i.bytes:Int)*b:=by simp
    omega
   have A:¬(roomBytes<b*i.bytes):=by
    have:b*i.bytes<=65536*1048576:=gW C i3;unfold roomBytes;omega
   simp only[execOp,K,Instr.makeSlice,Bl F L,Bl F M,Cr,Sem.run_bind,D6 hT w hu,aK,asInt,aT];have Z:(decide ((b:Int)<0)||decide ((i.bytes:Int)*b>2^48)||decide ((a:Int)<0)||decide ((a:Int)>b))=false:=by
    simp only[Bool.or_eq_false_iff,cr];exact⟨⟨⟨by omega,B⟩,by omega⟩,by omega⟩
   simp only[typeInfo,asIntOf,Sem.run_bind,gI,i1,aK,aT,Y,wb];rw[Z];simp only[aX,ak,askRoom,bF,Sem.run_bind,gt_iff_lt,A,aT,aK,sizeOf,typeInfo,gI,i1,i2];by_cases j:b*z.length=0
   ·have er:rep z b = []:=cS.1 (by rw[u_];exact j)
    rw[er]at E;have e0:∀g:Nat->Value,Array.map g (Array.range 0)=(Bw f []).toArray:=fun g=>by simp[Bw]
    simp only[j,bJ,Sem.run_bind,aT,aK];rw[e0,E];simp
   ·rw[aG j]
    simp only[Sem.run_bind,S,aT,aK,Td,<-G];rw[QS f z b j,E];simp
  ·cases d
 ·cases d
end
end
section
section
variable{w:World}(hT:Qg P T)
include hT
theorem A2l(M:Reads f tm ρ)(H:Lr p n tm)(O:T1 p h)(Q:T7 f h w)
 (S:o.op=.buildSlice t m ps) (d:Dz T tm (.buildSlice t m ps) h=some (v,h')) :
 kK P (execOp ρ o) p f h w v h':=by
 simp only[Dz]at d;split at d
 ·rename_i e l hu F
  split at d
  ·rename_i s z hs U
   obtain⟨h1,h2⟩:=Ap d;split at h2
   ·rename_i c D
    cases h2;simp only[dN,Nat.mul_eq]at h1;obtain⟨u,V,J,W,_,_,X,i,i1,i2,i3⟩:=nV hT f w U;obtain⟨i',K,j2,j3⟩:=hT.size e s hs;have G:s=z.length:=by rw[i1]at K;cases K;omega
    subst G;obtain⟨c1,c2⟩:=U9 (X p) V;rw[<-J]at c1 c2;have d1:∀v∈c,v.ok p:=sN (fun i=>some (Nat.mul i z.length,z.length)) D (fun v y=>(Io p _).1 c1 v (sL y))
     (fun q A v y=>(Io p _).1 (U9 (u7 H F q A) (vd _ D q A)).1 v y)
    have d2:∀v∈c,v.one=true:=sN (fun i=>some (Nat.mul i z.length,z.length)) D (fun v y=>c2 v (sL y))
     (fun q A v y=>(U9 (u7 H F q A) (vd _ D q A)).2 v y)
    obtain⟨f',w',L,Y,Z,r4⟩:=vk (P:=P) O Q e ((Io p _).2 d1) (by simpa using d2);refine⟨f',w',_,?_,.inl rfl,Y,Z,r4⟩;have B:=vc f (fun i=>some (Nat.mul i z.length,z.length)) (fun i=>some (i*z.length,z.length)) (fun i q A=>A) D;have E:(ps.map fun(i,x)=>(i,ρ x)).toList=l.map fun(i,v)=>(i,Cr f v):=by
     rw[Array.toList_map,u5 M F]
    have C:¬(2^24<m*z.length):=by omega
    simp only[execOp,S,Instr.buildSlice,Sem.run_bind,D6 hT w hu,aK,Gq hT w hs,gt_iff_lt,C,ak,aT];by_cases j:m*z.length=0
    ·have er:rep z m = []:=cS.1 (by rw[u_];exact j)
     have e0:∀g:Nat->Value,Array.map g (Array.range 0)=(Bw f []).toArray:=fun g=>by simp[Bw]
     rw[er]at B;simp only[j,bJ,Sem.run_bind,aT,aK];rw[e0,E,B];simp only[Sem.run_bind,L,aK,aT];simp[Cr]
    ·rw[aG j]
     simp only[Sem.run_bind,W,aT,aK,Td,<-J];rw[QS f z m j,E,B];simp only[Sem.run_bind,L,aK,aT];simp[Cr]
   ·cases h2
  ·cases d
 ·cases d
omit hT in
theorem A9n(j:T1 p h)(u:T7 f h w)
 {r:Option Operand} (y:o.op=.makeMap t r) (d:Dz T tm (.makeMap t r) h=some (v,h')) :
 kK P (execOp ρ o) p f h w v h':=by
 cases r with
 | some x=>simp[Dz]at d
 | none=>
  simp only[Dz]at d;cases d;refine⟨f.set h.next w.heap.size 0,{ w with heap:=w.heap.push (.map #[] 0) },_,?_,.inl rfl,Move.new j u 0 rfl ⟨#[],0,rfl,rfl⟩ rfl rfl rfl,Wf.new j (by simp[D3.ok]),.inr ⟨aE _,by rw[Ab.Dx];omega⟩⟩;simp only[execOp,y,Instr.makeMap,Cr,Loc.jo];simp
theorem A6s(A:Reads f tm ρ)(y:T1 p h)(B:T7 f h w)
 (C:o.op=.makeChan t x) (j:Dz T tm (.makeChan t x) h=some (v,h')) :
 kK P (execOp ρ o) p f h w v h':=by
 simp only[Dz]at j;split at j
 ·rename_i d e k n hu D
  split at j
  ·rename_i s hs
   obtain⟨h1,h2⟩:=Ap j;cases h2;simp only[dN]at h1;obtain⟨i,i1,i2,i3⟩:=hT.size e s hs;have u:¬(((n:Int)<0)\/((n:Int)>IntKind.i64.max)\/((i.bytes:Int)*n>2^48-112)):=by
    have:i.bytes*n<=1048576*65536:=gW i3 h1;have e:((i.bytes*n:Nat):Int)=(i.bytes:Int)*n:=by simp
    have e2:IntKind.i64.max=9223372036854775807:=rfl;omega
   refine⟨f.set h.next w.heap.size 0,{ w with heap:=w.heap.push (.chan n #[] false 0 0 false) },_,?_,.inl rfl,Move.new y B 0 rfl ⟨0,0,rfl⟩ rfl rfl rfl,Wf.new y trivial,.inr ⟨aE _,by rw[Ab.Dx];omega⟩⟩;simp only[execOp,C,Instr.makeChan,Bl A D,Cr,asInt,asIntOf,Sem.run_bind,aT,aK,D6 hT w hu,typeInfo,gI,i1,aZ];rw[aG u];simp[Loc.jo]
  ·cases j
 ·cases j
omit hT in
theorem QT:∀{a b:List EV},E8 a b=some true->a=b
 | [],[],_=>rfl
 | x::r,y::s,h=>by
  unfold E8 at h;split at h
  ·rename_i j
   have A:=QT h;have:x=y:=by
    unfold jO at j;split at j
    ·obtain⟨h1,h2⟩:=Ap j
     obtain rfl:=sM h1;cases d:iN _ _ with
     | false=>rw[d]at h2;cases h2
     | true=>rw[lI]at d;rw[dH d]
    ·rename_i p q
     have u:=gQ j;rw[vf]at u;rw[Bgy u]
    ·rename_i p q
     cases p<;>cases q<;>first|rfl|(cases j)
    ·cases j
   rw[this,A]
  ·split at h<;>cases h
  ·cases h
 | [],_::_,h=>by cases h
 | _::_,[],h=>by cases h
omit hT in
theorem Bip {a b:EV}{r:Bool}(h:jO a b=some r):(∃k n,a=.int k n)\/(∃c,a=.bool c)\/(∃s,a=.str s):=by
 unfold jO at h;split at h
 ·exact .inl ⟨_,_,rfl⟩
 ·exact .inr (.inr ⟨_,rfl⟩)
 ·exact .inr (.inl ⟨_,rfl⟩)
 ·cases h
theorem Qx{k:EV}(d:Ot T t k=true)(e:Bool):(Instr.checkKey e 10000 t (Cr f k)).run P w=.ok () w:=by
 unfold Ot at d;split at d
 ·rename_i a
  rw[Bq]at d;split at d
  ·rename_i j
   split at d
   ·rename_i sh u
    rw[Bq]at d;split at d
    ·rename_i hs
     split at d
     ·exact(hT.key t j).2 f w e a sh u hs
     ·cases d
    ·cases d
   ·cases d
  ·cases d
 ·rename_i y n
  split at d
  ·rename_i k' hu
   rw[Instr.checkKey.eq_def];simp[D6 hT w hu,Cr]
  ·cases d
 ·cases d
omit hT in
def lJ(f:Loc)(d':List MapEntry)(es:List (EV × EV)):Prop:=d'.map (fun e=>(e.key,e.val))=es.map (fun e=>(Cr f e.1,Cr f e.2))
theorem QU{j:IntKind}{n:Int}(u:Nat.beq (Pc j) (Pc k')=true):∀{d':List MapEntry} {es:List (EV × EV)} {i:Nat} {r:Option (Nat × EV)},lJ f d' es->H0 (.int j n) es i=some r ->
 Instr.findNow (.int k') (.int j n) d' i=some (r.map fun x=>(x.1,Cr f x.2))
 | [],[],i,r,_,h=>by simp only[H0]at h;cases h;rfl
 | B::d',(a,b)::es,i,r,he,h=>by
  simp only[lJ,dQ,List.cons.injEq,Prod.mk.injEq]at he;obtain⟨⟨e1,e2⟩,e3⟩:=he;unfold H0 at h;unfold Instr.findNow;have A:∀c,mI (.int j n) a=some c->Instr.sameNow (.int k') (.int j n) B.key=some c:=by
   intro c d;unfold mI at d;split at d
   ·rename_i y;cases y
   ·rename_i C D E b1 y
    cases y;obtain⟨h1,h2⟩:=Ap d;obtain rfl:=sM h1;cases h2;rw[e1];simp[Cr,Instr.sameNow,lI];rfl
   ·cases d
  split at h
  ·rename_i d
   cases h;rw[A _ d,e2];rfl
  ·rename_i d
   rw[A _ d];exact QU u e3 h
  ·cases h
 | [],_::_,_,_,he,_=>by simp[lJ]at he
 | _::_,[],_,_,he,_=>by simp[lJ]at he
theorem QV{sh:List Nat}(j:T.eqs t=some sh)(A:shaped sh a=true):∀{d':List MapEntry} {es:List (EV × EV)} {i:Nat} {r:Option (Nat × EV)},lJ f d' es->H0 (.agg a) es i=some r ->
 (Instr.findAsking t (Cr f (.agg a)) d' i).run P w=.ok (r.map fun x=>(x.1,Cr f x.2)) w
 | [],[],i,r,_,h=>by simp only[H0]at h;cases h;rfl
 | C::d',(b,c)::es,i,r,he,h=>by
  simp only[lJ,dQ,List.cons.injEq,Prod.mk.injEq]at he;obtain⟨⟨e1,e2⟩,e3⟩:=he;unfold H0 at h;unfold Instr.findAsking;have B:∀d,mI (.agg a) b=some d->(Op.equal t (Cr f (.agg a)) C.key).run P w=.ok d w:=by
   intro d hd;unfold mI at hd;split at hd
   ·rename_i u
    cases u;rw[e1];exact(hT.eqs t sh j).2 f w _ _ d hd A
   ·rename_i u;cases u
   ·cases hd
  split at h
  ·rename_i y
   cases h;simp only[Sem.run_bind,B _ y,aK,bJ,aT,e2];rfl
  ·rename_i y
   simp only[Sem.run_bind,B _ y,aK,aX,ak];exact QV j A e3 h
  ·cases h
 | [],_::_,_,_,he,_=>by simp[lJ]at he
 | _::_,[],_,_,he,_=>by simp[lJ]at he
theorem Wg{k:EV}(d:Ot T t k=true){es:List (EV × EV)}{r:Option (Nat × EV)}(he:lJ f d' es)(hm:H0 k es 0=some r):
 (Instr.findKey t (Cr f k) d').run P w=.ok (r.map fun x=>(x.1,Cr f x.2)) w:=by
 unfold Ot at d;split at d
 ·rename_i a
  rw[Bq]at d;split at d
  ·rename_i j
   split at d
   ·rename_i sh A
    rw[Bq]at d;split at d
    ·rename_i C
     obtain⟨u,B,y⟩:=(hT.key t j).1;simp only[Instr.findKey,underlying,Sem.run_bind,gI,B,aK,aT];cases d' with
     | nil=>
      cases es with
      | nil=>simp only[H0]at hm;cases hm;rfl
      | cons x r=>simp[lJ]at he
     | cons D d'=>
      have:Instr.findNow u (Cr f (.agg a)) (D::d') 0=none:=by
       cases u<;>first|(simp[Axj]at y;done)|simp[Instr.findNow,Instr.sameNow,Cr]
      rw[this];exact QV hT A C he hm
    ·cases d
   ·cases d
  ·cases d
 ·rename_i E n
  split at d
  ·rename_i k' hu
   have:=QU (f:=f) hT d he hm;simp only[Instr.findKey,Sem.run_bind,D6 hT w hu,aK,Cr,this,aT]
  ·cases d
 ·cases d
omit hT in
theorem yx {k:EV}:∀{es:List (EV × EV)} {i j:Nat} {v:EV},H0 k es i=some (some (j,v))->∃a,i<=j/\es[j-i]? = some (a,v)/\mI k a=some true
 | [],i,j,v,h=>by simp[H0]at h
 | (a,b)::es,i,j,v,h=>by
  unfold H0 at h;split at h
  ·rename_i d
   cases h;exact⟨a,aE _,by simp,d⟩
  ·obtain⟨u,h1,h2,y⟩:=yx h
   refine⟨u,by omega,?_,y⟩;have:j-i=(j-Nat.succ i)+1:=by omega
   rw[this];simpa using h2
  ·cases h
omit hT in
theorem Bdq {k a:EV}(h:mI k a=some true):k=a:=by
 unfold mI at h;split at h
 ·rw[QT h]
 ·obtain⟨h1,h2⟩:=Ap h
  obtain rfl:=sM h1;cases d:iN _ _ with
  | false=>rw[d]at h2;cases h2
  | true=>rw[lI]at d;rw[dH d]
 ·cases h
end
end
section
theorem Oe{w:World}{r:Nat}{o:Obj}(h:w.heap[r]? = some o)(d:∀c e z,o≠.cells c e z):(getObj r).run P w=.ok o w:=by
 unfold getObj;simp only[Sem.run,h]
theorem Qy{w:World}{r:Nat}{o o':Obj}(h:w.heap[r]? = some o)(d:∀c e z,o≠.cells c e z):(setObj r o').run P w=.ok () { w with heap:=w.heap.setIfInBounds r o' }:=by
 unfold setObj;simp only[Sem.run,h]
section
variable{w:World}
theorem Move.setObj(d:T7 f h w){o:D3}(hi:h.get i=some o){r:Obj}(h2:Vu f i o' r):
 Move p f h w f (h.put i o') { w with heap:=w.heap.setIfInBounds (f.b i) r }:=by
 have j:=d.lt hi;refine Move.put d hi (r:=r) ?_ h2 (fun b hb=>?_) ?_ rfl rfl rfl
 ·simp[j]
 ·simp[Array.getElem?_setIfInBounds,cY hb]
 ·simp
variable (hT:Qg P T)
include hT
theorem yy(d:zeroOf T t=some v):(zeroValue t).run P w=.ok (Cr f v) w/\∀q,v.ok q:=by
 unfold zeroOf at d;split at d
 ·rename_i z j
  obtain⟨u,E,F,A,C,D,B,_⟩:=nV hT f w j;split at d
  ·rename_i y
   cases d;rw[<-C y];exact⟨A,B⟩
  ·rename_i y
   have e:=D y;split at d
   ·rename_i G
    cases d;cases e;exact⟨A,B⟩
   ·cases d
  ·cases d
 ·cases d
theorem Bbx {n:Nat}(B:Reads f tm ρ)(D:T1 p h)(E:T7 f h w)
 {k:Operand} {ok:Bool} (G:o.op=.lookup t x k ok) (d:Dz T tm (.lookup t x k ok) h=some (v,h')) :
 kK P (execOp ρ o) p f h w v h':=by
 simp only[Dz]at d;split at d
 ·rename_i U e i V hu C H
  obtain⟨h1,h2⟩:=Ap d;split at h2
  ·rename_i es J
   obtain⟨r,M,d',clock,O,K⟩:=E.obj i _ J;obtain⟨_,Q⟩:=D.get i _ J;subst O;have y:=Oe (P:=P) M (by intro c e z C;cases C);split at h2
   ·rename_i j u hm
    cases h2;have F:=Wg (w:=w) (f:=f) hT h1 K hm;obtain⟨a,_,b2,_⟩:=yx hm;have A:u.ok p:=(Q _ (bc b2)).2;refine⟨f,w,_,?_,.inl rfl,Move.refl E,Wf.refl D,?_⟩
    ·simp only[execOp,G,Instr.lookup,Bl B C,Bl B H,Cr,Sem.run_bind,D6 hT w hu,aK,y,aT,Qx hT h1,F,eI]
     cases ok<;>rfl
    ·rw[Kb p h h rfl]
     cases ok
     ·exact A
     ·exact⟨A,trivial,trivial⟩
   ·rename_i hm
    split at h2
    ·rename_i zv S
     cases h2;obtain⟨z1,L⟩:=yy (w:=w) (f:=f) hT S;have F:=Wg (w:=w) (f:=f) hT h1 K hm;refine⟨f,w,_,?_,.inl rfl,Move.refl E,Wf.refl D,?_⟩
     ·simp only[execOp,G,Instr.lookup,Bl B C,Bl B H,Cr,Sem.run_bind,D6 hT w hu,aK,y,aT,Qx hT h1,F,Option.map_none,z1]
      cases ok<;>rfl
     ·rw[Kb p h h rfl]
      cases ok
      ·exact L p
      ·exact⟨L p,trivial,trivial⟩
    ·cases h2
   ·cases h2
  ·cases h2
 ·cases d
omit hT in
theorem QW(n:Nat)(k:IntKind)(a:Int):Instr.sameBits n (.int k a) (.int k a)=true:=by
 unfold Instr.sameBits;simp
omit hT in
theorem QX(n:Nat)(f:Loc):∀{a:List EV} {r:Bool},E8 a a=some r->((Bw f a).zip (Bw f a)).all (fun(x,y)=>Instr.sameBits n x y)=true
 | [],_,_=>rfl
 | x::r,s,h=>by
  unfold E8 at h;have B:∃c,jO x x=some c/\∃A,E8 r r=some A:=by
   split at h
   ·rename_i u;exact⟨_,u,_,h⟩
   ·rename_i u
    split at h
    ·rename_i A j;exact⟨_,u,_,j⟩
    ·cases h
   ·cases h
  obtain⟨c,u,A,j⟩:=B;simp only[Bw,List.zip_cons_cons,List.all_cons,QX n f j,Bool.and_true];rcases Bip u with⟨k,m,rfl⟩|⟨d,rfl⟩|⟨d,rfl⟩
  ·exact QW n k m
  ·simp only[Cr];unfold Instr.sameBits;simp
  ·simp only[Cr];unfold Instr.sameBits;rw[<-vf,ve];simp
omit hT in
theorem A7n{k:EV}(d:Ot T t k=true):Instr.sameBits 10000 (Cr f k) (Cr f k)=true:=by
 unfold Ot at d;split at d
 ·rename_i a
  rw[Bq]at d;split at d
  ·split at d
   ·rw[Bq]at d
    split at d
    ·split at d
     ·rename_i r j
      have:=QX 9999 f j;simp only[Cr];unfold Instr.sameBits;simpa using this
     ·cases d
    ·cases d
   ·cases d
  ·cases d
 ·exact QW _ _ _
 ·cases d
theorem A3o(F:Reads f tm ρ)(L:Lr p n tm)(O:T1 p h)(Q:T7 f h w)
 {m k:Operand} (U:o.op=.mapUpdate t m k x) (A:Dz T tm (.mapUpdate t m k x) h=some (v,h')) :
 kK P (execOp ρ o) p f h w v h':=by
 simp only[Dz]at A;split at A
 ·rename_i kt e i J u hu hm M C
  obtain⟨h1,h2⟩:=Ap A;split at h2
  ·rename_i es G
   obtain⟨r,V,d',clock,Z,H⟩:=Q.obj i _ G;obtain⟨_,W⟩:=O.get i _ G;subst Z;have D:=Oe (P:=P) V (by intro c e z C;cases C);have E:=fun o'=>Qy (P:=P) (o':=o') V (by intro c e z C;cases C)
   split at h2
   ·rename_i j u' y
    cases h2;have S:=Wg (w:=w) (f:=f) hT h1 H y;obtain⟨a,_,b2,b3⟩:=yx y;obtain rfl:=Bdq b3;simp only[gh]at b2;have K:((d'[j]?).map (·.key)).getD (Cr f J)=Cr f J:=by
     have B:(d'.toList.map (fun e=>(e.key,e.val)))[j]? = some (Cr f J,Cr f u'):=by
      rw[H,bD,b2];rfl
     rw[bD,cM]at B;cases he:d'[j]? with
     | none=>rw[he]at B;cases B
     | some X=>rw[he]at B;simp only[eI,cU,Prod.mk.injEq]at B;simp[B.1]
    refine⟨f,_,.skip,?_,.inr ⟨rfl,rfl⟩,Move.setObj Q G (r:=.map (d'.modify j fun X=>{ X with key:=Cr f J,val:=Cr f u }) clock) ⟨_,_,rfl,?_⟩,Wf.put O G ?_,trivial⟩
    ·simp only[execOp,U,Instr.mapUpdate,Bl F hm,Bl F M,Bl F C]
     simp only[Cr,Sem.run_bind,D6 hT w hu,aK,D,Qx hT h1,S,eI,K,Instr.keyThatStays,A7n h1,bJ,aT,E]
    ·rw[List.map_set,<-H]
     apply eA;intro q;simp only[Array.toList_modify,bD,List.getElem?_modify,dR,bh];by_cases Y:j=q
     ·subst Y
      have B:j<d'.toList.length:=by
       have:=(aY.1 b2).1;have e:=congrArg List.length H;simp only[bh]at e;omega
      simp at B;simp[B]
     ·simp[Y]
    ·intro e' d
     rcases dG d with d|rfl
     ·exact W e' d
     ·exact⟨E9 L M,E9 L C⟩
   ·rename_i y
    cases h2;have S:=Wg (w:=w) (f:=f) hT h1 H y;refine⟨f,_,.skip,?_,.inr ⟨rfl,rfl⟩,Move.setObj Q G (r:=.map (d'.push { key:=Cr f J,val:=Cr f u,born:=clock }) (clock+1)) ⟨_,_,rfl,?_⟩,Wf.put O G ?_,trivial⟩
    ·simp only[execOp,U,Instr.mapUpdate,Bl F hm,Bl F M,Bl F C]
     simp only[Cr,Sem.run_bind,D6 hT w hu,aK,D,Qx hT h1,S,Option.map_none,aT,E]
    ·simp[H]
    ·intro e' d
     rcases bR.1 d with d|d
     ·exact W e' d
     ·simp only[aP]at d;subst d;exact⟨E9 L M,E9 L C⟩
   ·cases h2
  ·cases h2
 ·cases A
end
end
section
section
variable{w:World}
theorem T7.world(d:T7 f h w)(e:w'.heap=w.heap):T7 f h w':=⟨fun i o j=>by rw[e];exact d.obj i o j,d.inj⟩
theorem yz(mx:Bool)(k:IntKind):∀{l:List EV} {a:Int} {v:EV},iB mx k a l=some v->(∃b,v=.int k b) /\
 (l.map (Cr f)).foldlM (m:=Sem) (if mx=true then Builtin.max2 else Builtin.min2) (.int k a)=(pure (Cr f v):Sem Value)
 | [],a,v,h=>by simp only[iB]at h;cases h;exact⟨⟨a,rfl⟩,rfl⟩
 | .int k' b::r,a,v,h=>by
  simp only[iB]at h;obtain⟨h1,h2⟩:=yz mx k h;refine⟨h1,?_⟩;rw[dQ,List.foldlM_cons,<-h2];cases mx
  ·simp only[aX,ak,Cr,Builtin.min2,Bq,qD,aV]
   rfl
  ·simp only[bJ,Cr,Builtin.max2,Bq,qD,aV,gt_iff_lt]
   rfl
 | .bool _::_,_,_,h=>by simp[iB]at h
 | .str _::_,_,_,h=>by simp[iB]at h
 | .ptr _ _::_,_,_,h=>by simp[iB]at h
 | .Ch::_,_,_,h=>by simp[iB]at h
 | .slice _ _ _ _ _::_,_,_,h=>by simp[iB]at h
 | .tail _ _ _::_,_,_,h=>by simp[iB]at h
 | .Aq::_,_,_,h=>by simp[iB]at h
 | .odd _::_,_,_,h=>by simp[iB]at h
 | .map _::_,_,_,h=>by simp[iB]at h
 | .Al8::_,_,_,h=>by simp[iB]at h
 | .chan _::_,_,_,h=>by simp[iB]at h
 | .Ae6::_,_,_,h=>by simp[iB]at h
 | .func _ _ _::_,_,_,h=>by simp[iB]at h
 | .Vv _::_,_,_,h=>by simp[iB]at h
 | .Ajg::_,_,_,h=>by simp[iB]at h
 | .Acf::_,_,_,h=>by simp[iB]at h
 | .agg _::_,_,_,h=>by simp[iB]at h
 | .tuple _::_,_,_,h=>by simp[iB]at h
theorem yA {x:EV}(d:lenOf x=some n):∃b c,Cr f x=.slice b n c:=by
 unfold lenOf at d;split at d<;>first|(cases d;exact⟨_,_,rfl⟩)|(cases d)
theorem sP(j:T1 p h)(u:T7 f h w){size:Nat}{x:EV}{l:List EV}(d:cellsOf h size n x=some l):
 (Builtin.firstCells size n (Cr f x)).run P w=.ok (Bw f l).toArray w/\EV.Tx p l/\l.all EV.one=true/\l.length=n*size:=by
 unfold cellsOf at d;split at d
 ·obtain⟨h1,h2⟩:=Ap d
  cases h2;have:=aL h1;subst this;exact⟨by simp[Cr,Builtin.firstCells,Bw],trivial,rfl,by simp⟩
 ·rename_i i off a b c
  rw[Bq]at d;split at d
  ·rename_i h1
   cases d;have:=aL h1;subst this;refine⟨?_,trivial,rfl,by simp⟩;simp[Cr,Builtin.firstCells,Bw,loadCells,loadCellsFrom]
  ·obtain⟨h1,h2,y,h4,_⟩:=vj (P:=P) j u d
   exact⟨by simp only[Cr,Builtin.firstCells];exact h1,h2,y,h4⟩
 ·obtain⟨h1,h2⟩:=Ap d
  cases h2;have:=aL h1;subst this;refine⟨?_,trivial,rfl,by simp⟩;simp[Cr,Builtin.firstCells,Bw,loadCells,loadCellsFrom]
 ·cases d
variable (hT:Qg P T)
include hT
theorem yB {st u e':TypeId}(D:T.Tv st=some (.slice e))(hu:T.Tv u=some (.slice e')){size:Nat}(hs:T.size e=some size){z:List EV}(E:T.zero e=some z)
 {sLen sCap G:Nat} {H:Option Addr} {Br new:Array Value} (A:¬sLen+n<=sCap) (S:sLen<=1048576) (U:n<=65536)
 (h1:∀d,(Builtin.firstCells size sLen (.slice base sLen sCap)).run P { w with drawn:=d }=.ok Br { w with drawn:=d })
 (h2:∀d,(Builtin.firstCells size n (.slice H n G)).run P { w with drawn:=d }=.ok new { w with drawn:=d }) :
 ∃cap rest,sLen+n<=cap/\rest.size=(cap-(sLen+n))*size /\
  (Builtin.append_ #[st,u] ty #[.slice base sLen sCap,.slice H n G]).run P w=.ok (.slice (some ⟨w.heap.size,0,none⟩) (sLen+n) cap) { w with drawn:=w.drawn+1,heap:=w.heap.push (.cells (Br++new++rest) e) }:=by
 have⟨f⟩:Nonempty Loc:=⟨⟨id,id⟩⟩;obtain⟨x,V,M,C,_,_,W,i,i1,i2,i3⟩:=nV hT f w E;obtain⟨J,K,X,Y⟩:=hT.size e size hs;have hi:J=i:=by rw[i1]at K;cases K;rfl
 subst hi;have hb:Builtin.nextslicecap (sLen+n) sCap<=4000000:=by
  unfold Builtin.nextslicecap;split
  ·omega
  ·split
   ·omega
   ·simp only[Builtin.growBy]
    repeat' split
    all_goals omega
 have B:¬(2^48<Builtin.nextslicecap (sLen+n) sCap*J.bytes):=by
  have:=gW hb i3;omega
 refine⟨(Question.appendCap (sLen+n) sCap e).cut (w.tape w.drawn (.appendCap (sLen+n) sCap e)),Builtin.zeroCells (Cr f x).cells ((Question.appendCap (sLen+n) sCap e).cut (w.tape w.drawn (.appendCap (sLen+n) sCap e))-(sLen+n)),?_,?_,?_⟩
 rotate_left 2
 ·have j:¬(((sLen+n:Nat):Int)>IntKind.i64.max):=by
   have e2:IntKind.i64.max=9223372036854775807:=rfl;omega
  have F:∀d,(zeroValue e).run P { w with drawn:=d }=.ok (Cr f x) { w with drawn:=d }:=by
   intro d;obtain⟨y,_,Z,y3,_⟩:=nV hT f { w with drawn:=d } E;obtain⟨O,v,xx,L,Q,a3,_⟩:=hT.zero e z E;simp only[zeroValue,typeInfo,Sem.run_bind,gI,i1,aK,aT]at C⊢;rw[i1]at L;cases L;rw[Q]at C⊢;simp only[aT,Result.ok.injEq]at C⊢;exact⟨C.1,trivial⟩
  simp only[Builtin.append_,Sem.run_bind,cL,bK,br,D6 hT w D,D6 hT w hu,Gq hT w hs,aK,aT,Builtin.lenOf,aX,ak,A];simp only[j,gk,ak,Sem.run_bind,aT,aK,typeInfo,gI,i1,gt_iff_lt,B,run_choose,Question.forced,aX,run_askRoom,h1,h2,F,dJ,bJ];rfl
 ·simp only[Question.cut];omega
 ·rw[Builtin.zeroCells]
  have e1:(Cr f x).cells.size=size:=by rw[Td,<-M];simp[Di];omega
  simp[e1]
end
end
section
def kL(P:Program)(s:Sem Value)(p:Nat->Prop)(f:Loc)(h:Ab)(w:World)(v:EV)(h':Ab):Prop:=
 ∃f' w',s.run P w=.ok (Cr f' v) w'/\Move p f h w f' h' w'/\Wf p h h'/\v.ok (grow p h h')
section
variable{w:World}(hT:Qg P T)
include hT
theorem yC(u:T1 p h)(C:T7 f h w){l:List EV}(A:EV.Tx p l)(h1:l.all EV.one=true){size:Nat}(B:m<=cap){rest:Array Value}(j:rest.size=(cap-m)*size){Br new:List EV}(y:l=Br++new)(d:Nat):
 Move p f h w (f.set h.next w.heap.size (cap-m)) (h.new (.vec l e size)) { w with drawn:=d,heap:=w.heap.push (.cells ((Bw f Br).toArray++(Bw f new).toArray++rest) e) }/\Wf p h (h.new (.vec l e size)) /\
  Cr (f.set h.next w.heap.size (cap-m)) (.slice h.next 0 m m true)=.slice (some ⟨w.heap.size,0,none⟩) m cap:=by
 refine⟨Move.new u C _ rfl ?_ rfl rfl rfl,Wf.new u ⟨nX A,h1⟩,?_⟩
 ·refine⟨rest.toList,?_,by simp[j,Loc.vg]⟩
  rw[<-G8 (f.Qs _ _ u.fresh) l A,y,Sa];congr 1;apply fC;simp
 ·simp only[Cr,Loc.jo,Loc.vg,bJ]
  congr 1;omega
theorem Bcz(C:T1 p h)(G:T7 f h w){st u e':TypeId}{s x:EV}(hs:s.ok p)(hu:T.Tv u=some (.slice e'))(A:append T st s x h=some (v,h')):
 kL P (Builtin.append_ #[st,u] ty #[Cr f s,Cr f x]) p f h w v h':=by
 unfold append at A;split at A
 ·rename_i e D
  split at A
  ·rename_i size z E hz
   split at A
   ·rename_i n hn
    obtain⟨bx,cx,L⟩:=yA (f:=f) hn;rw[Bq]at A;split at A
    ·rename_i h0
     have:=aL h0;subst this;have Y:∀(size:Nat),(Builtin.firstCells size 0 (.slice bx 0 cx)).run P w=.ok #[] w:=by
      intro size;cases bx<;>simp[Builtin.firstCells,loadCells,loadCellsFrom]
     split at A
     ·rename_i i off y room op
      obtain⟨h1,h2⟩:=Ap A;cases h2;simp only[dN]at h1;refine⟨f,w,?_,Move.refl G,Wf.refl C,by rw[Kb p h h rfl];exact hs⟩;rw[L];have hle:y<=(if op=true then room+f.sp i else room):=by split<;>omega
      simp only[Cr,Builtin.append_,Sem.run_bind,cL,bK,br,D6 hT w D,D6 hT w hu,Gq hT w E,aK,aT,Builtin.lenOf,aX,ak,dS,hle,bJ,dJ,Y];simp[storeCells]
     ·cases A
      refine⟨f,w,?_,Move.refl G,Wf.refl C,trivial⟩;rw[L];simp only[Cr,Builtin.append_,Sem.run_bind,cL,bK,br,D6 hT w D,D6 hT w hu,Gq hT w E,aK,aT,Builtin.lenOf,aX,ak,dS,aE,bJ,dJ,Y]
     ·cases A
    ·rename_i h0
     obtain⟨J,h2⟩:=Ap A;simp only[dN]at J;split at h2
     ·rename_i new M
      obtain⟨n1,n2,n3,n4⟩:=sP (P:=P) C G M;have nd:∀d,(Builtin.firstCells size n (.slice bx n cx)).run P { w with drawn:=d }=.ok (Bw f new).toArray { w with drawn:=d }:=by
       intro d;rw[<-L];exact(sP (P:=P) C (G.world (w':={ w with drawn:=d }) rfl) M).1
      split at h2
      ·cases h2
       have a3:n≠0:=fun e=>h0 (by rw[e];rfl)
       obtain⟨cap,rest,V,W,X⟩:=yB (w:=w) (ty:=ty) hT D hu E hz (base:=none) (sLen:=0) (sCap:=0) (Br:=(Bw f []).toArray) (by omega) (by omega) J
        (by intro d;simp[Builtin.firstCells,Bw]) nd
       simp only[bM]at V W X;obtain⟨F,k2,Z⟩:=yC hT C G (e:=e) (l:=new) n2 n3 V W (Br:=[]) rfl (w.drawn+1);refine⟨_,_,?_,F,k2,.inr ⟨aE _,by rw[Ab.Dx];omega⟩⟩;rw[Z,L];exact X
      ·rename_i i off y room op
       obtain⟨O,Q⟩:=Ap h2;simp only[dN]at O;split at Q
       ·rename_i Br hold
        obtain⟨o1,o2,o3,o4⟩:=sP (P:=P) C G hold;have od:∀d,(Builtin.firstCells size y (Cr f (.slice i off y room op))).run P { w with drawn:=d }=.ok (Bw f Br).toArray { w with drawn:=d }:=by
         intro d;exact(sP (P:=P) C (G.world (w':={ w with drawn:=d }) rfl) hold).1
        have hok:EV.Tx p (Br++new):=qF o2 n2;have B:(Br++new).all EV.one=true:=Bcu o3 n3;rw[Bq]at Q;split at Q
        ·rename_i H
         subst H;obtain⟨c1,h4⟩:=Ap Q;obtain⟨c2,h5⟩:=Ap h4;clear Q h4;have:=aL c1;subst this;have:=aL c2;subst this;split at h5
         ·rename_i l e1 s1 hg
          obtain⟨c3,h6⟩:=Ap h5;obtain⟨c4,h7⟩:=Ap h6;obtain⟨c5,h8⟩:=Ap h7;clear h5 h6 h7;rw[Ye]at c3;have K:=aL c3;have:=aL c4;subst this;have:=aL c5;subst this;cases h8;simp only[Nat.mul_eq]at K;by_cases S:n<=f.sp i
          ·
           obtain⟨r,a1,more,a2,a5⟩:=G.obj i _ hg;subst a2;have ai:Br=l:=by
            unfold cellsOf at hold;simp only at hold;rw[Bq]at hold;split at hold
            ·rename_i aj
             have:=aL aj;subst this;cases hold;simp at K;exact K.symm
            ·unfold I6 at hold
             rw[hg]at hold;obtain⟨_,q2⟩:=sK hold;rw[Ta]at q2;rw[q2];simp only[dF,Nat.mul_eq];rw[<-K,bW]
           subst ai;have bb:n*s1<=more.length:=by rw[a5];exact Nat.mul_le_mul_right _ S
           have aa:=run_storeCells_at (P:=P) (f.b i) (room*s1) e1 (Bw f new) 0 (Bw f Br++more).toArray w a1 (by simp only[Di,eD,aF];omega) (PV f new (by simpa using n3));refine⟨f.set h.next (f.b i) (f.sp i-n),w.setRow (f.b i) (Bw f Br++Bw f new++more.drop (n*s1)).toArray,?_,Move.vi C G hg (f.sp i-n) (r:=.cells (Bw f (Br++new)++more.drop (n*s1)).toArray e1 (0,0)) ?_ ?_ (fun b hb=>setRow_other _ _ _ _ hb) (setRow_size _ _ _) rfl rfl rfl,Wf.vi C i ⟨nX hok,B⟩,.inr ⟨aE _,by rw[Ab.Dx,Ab.xp];omega⟩⟩
           rotate_left 1
           ·rw[setRow_heap w (f.b i) _ _ e1 (0,0) a1,Sa]
           ·refine⟨more.drop (n*s1),?_,?_⟩
            ·rw[G8 (f.Qs _ _ C.fresh) (Br++new) hok]
            ·rw[Loc.vg,bB,a5,Nat.sub_mul]
           ·rw[L]
            have hle:room+n<=room+f.sp i:=by omega
            simp only[Cr,Builtin.append_,Sem.run_bind,cL,bK,br,D6 hT w D,D6 hT w hu,Gq hT w E,aK,aT,Builtin.lenOf,aX,ak,bJ,hle,dJ,Loc.jo,Loc.vg];rw[<-L,n1];simp only[aK,Sem.run_bind,Vc,bM,aa,aT];congr 1
            ·congr 1
             simp only[Nat.add_eq];omega
            ·congr 1
             simp only[dS,Di];rw[fL (by rw[Di];omega),bS (by rw[Di];omega)];rw[List.drop_append,dh (by rw[Di];omega)];simp only[Di,cV];congr 4;omega
          ·obtain⟨cap,rest,V,W,X⟩:=yB (w:=w) (ty:=ty) hT D hu E hz (base:=some ⟨f.b i,0,none⟩) (sLen:=room) (sCap:=room+f.sp i) (Br:=(Bw f Br).toArray) (by omega) O J
            (by intro d;simpa [Cr]using od d) nd
           obtain⟨F,_,Z⟩:=yC hT (C.del i) (G.sub vh) (e:=e1) (l:=Br++new) hok B V W rfl (w.drawn+1);refine⟨f.set h.next w.heap.size (cap-(room+n)),_,?_,⟨F.Fo,F.rep,fun b hb hn=>F.kept b hb (fun j q hj=>hn j q (vh j q hj)),F.size,F.tape,F.os,F.output,fun j q hj=>(F.own j q hj).imp id (fun⟨k,q',hk,e⟩=>⟨k,q',vh k q' hk,e⟩)⟩,
            Wf.vi C i ⟨nX hok,B⟩,.inr ⟨aE _,by rw[Ab.Dx,Ab.xp];omega⟩⟩
           rw[show Cr (f.set h.next w.heap.size (cap-(room+n))) (.slice h.next 0 (Nat.add room n) (Nat.add room n) true)=_ from Z,L];simpa [Cr]using X
         ·cases h5
        ·rename_i H
         have U:op=false:=by simpa using H
         subst U;obtain⟨c1,h4⟩:=To Q;cases h4;have hc:¬y+n<=room:=by
          intro e;have:=nU e;rw[show Nat.add y n=y+n from rfl]at c1;rw[this]at c1;cases c1
         obtain⟨cap,rest,V,W,X⟩:=yB (w:=w) (ty:=ty) hT D hu E hz (base:=some ⟨f.b i,off,none⟩) (sLen:=y) (sCap:=room) (Br:=(Bw f Br).toArray) hc O J
          (by intro d;simpa [Cr]using od d) nd
         obtain⟨F,k2,Z⟩:=yC hT C G (e:=e) (l:=Br++new) hok B V W rfl (w.drawn+1);refine⟨_,_,?_,F,k2,.inr ⟨aE _,by rw[Ab.Dx];omega⟩⟩;rw[show Cr (f.set h.next w.heap.size (cap-(y+n))) (.slice h.next 0 (Nat.add y n) (Nat.add y n) true)=_ from Z,L];simpa [Cr]using X
       ·cases Q
      ·cases h2
     ·cases h2
   ·cases A
  ·cases A
 ·cases A
end
end
section
theorem QY:∀l:List UInt8,yo l=l.length
 | []=>rfl
 | _::r=>congrArg Nat.succ (QY r)
section
variable{w:World}(hT:Qg P T)
include hT
omit hT in
theorem kL.stay(d:T1 p h)(j:T7 f h w){s:Sem Value}(hs:s.run P w=.ok (Cr f v) w)(u:v.ok p):kL P s p f h w v h:=
 ⟨f,w,hs,Move.refl j,Wf.refl d,by rw[Kb p h h rfl];exact u⟩
theorem Bnc(E:T1 p h)(F:T7 f h w){t u ty e e':TypeId}{d s:EV}(H:T.Tv t=some (.slice e)){size dn j:Nat}(hs:T.size e=some size)(hd:lenOf d=some dn)(B:lenOf s=some j)
 (J:n=Bb (Nat.ble j dn) j dn) {cs:List EV} (K:cellsOf h size n s=some cs) {a b:Nat} {op:Bool} (C:d=.slice i off a b op) (hw:Ml h i off cs=some h') :
 kL P (Builtin.copy_ #[t,u] ty #[Cr f d,Cr f s]) p f h w (.int .i64 (.ofNat n)) h':=by
 obtain⟨G,L,n3,n4⟩:=sP (P:=P) E F K;obtain⟨bs,S,y⟩:=yA (f:=f) B;obtain⟨w',M,O,Q⟩:=QR (P:=P) E F hw L n3;subst C;have D:dn=a:=by simp only[lenOf]at hd;cases hd;rfl
 subst D;have A:Nat.min j dn=n:=by
  rw[J,Bq];show min j dn=_;by_cases hle:j<=dn
  ·rw[aI (nU hle)];omega
  ·rw[aG (by rw[qz hle];simp)];omega
 refine⟨f,w',?_,O,Q,trivial⟩;rw[y];rw[y]at G;simp only[Cr,Builtin.copy_,Sem.run_bind,cL,bK,br,D6 hT w H,aK,Builtin.lenOf,aT,Gq hT w hs,A,G,M];rfl
theorem Bbj(G:T1 p h)(F:T7 f h w){b:Builtin}{cs:Array Bool}(V:EV.Tx p args)(A:builtin T b ts args h=some (v,h')):
 ∃s,(Go.builtin b ts ty cs (Bw f args).toArray)=(do pure (.value (←s)):Sem Next)/\kL P s p f h w v h':=by
 unfold builtin at A;split at A
 ·rename_i s x
  split at A
  ·rename_i t u C
   have B:ts = #[t,u]:=by apply fC;simpa using C
   subst B;split at A
   ·rename_i e' hu
    exact⟨_,rfl,Bcz hT G F V.1 hu A⟩
   ·cases A
  ·cases A
 ·rename_i x
  split at A
  ·rename_i t C
   have B:ts = #[t]:=by apply fC;simpa using C
   subst B;refine⟨_,rfl,?_⟩;split at A
   ·rename_i n e hu
    cases A;exact kL.stay G F (by simp[Builtin.len_,D6 hT w hu,Bw,Cr,goInt]) trivial
   ·rename_i e y hu
    split at A
    ·rename_i n W
     cases A;obtain⟨bx,cx,K⟩:=yA (f:=f) W;exact kL.stay G F (by simp[Builtin.len_,D6 hT w hu,Bw,K,goInt,Cr]) trivial
    ·cases A
   ·rename_i s hu
    cases A;exact kL.stay G F (by simp[Builtin.len_,D6 hT w hu,Bw,Cr,goInt,QY]) trivial
   ·rename_i d e i hu
    split at A
    ·rename_i c buf H
     cases A;obtain⟨r,L,s1,c1,O⟩:=F.obj i _ H;subst O;have E:=Oe (P:=P) L (by intro c e z K;cases K);exact kL.stay G F (by simp[Builtin.len_,D6 hT w hu,Bw,Cr,E,goInt,Ye,Di]) trivial
    ·cases A
   ·cases A
  ·cases A
 ·rename_i d s
  split at A
  ·rename_i t u C
   have B:ts = #[t,u]:=by apply fC;simpa using C
   subst B;split at A
   ·rename_i e e' X hu
    split at A
    ·rename_i size dn sn hs hd Q
     obtain⟨_,A⟩:=To A;split at A
     ·rename_i Y Z
      split at A
      ·split at A
       ·rename_i aa hw
        cases A;exact⟨_,rfl,Bnc hT G F (e':=e') X hs hd Q rfl Z rfl hw⟩
       ·cases A
      ·cases A
     ·cases A
    ·cases A
   ·cases A
  ·cases A
 ·rename_i m k
  split at A
  ·rename_i t tr C
   have h0:ts[0]? = some t:=by
    have:ts.toList[0]? = some t:=by rw[C];rfl
    simpa using this
   split at A
   ·rename_i kt e i hu
    obtain⟨h1,h2⟩:=Ap A;split at h2
    ·rename_i es H
     obtain⟨r,L,d',clock,O,M⟩:=F.obj i _ H;obtain⟨_,U⟩:=G.get i _ H;subst O;have E:=Oe (P:=P) L (by intro c e z K;cases K);have J:=fun o'=>Qy (P:=P) (o':=o') L (by intro c e z K;cases K)
     refine⟨_,rfl,?_⟩;split at h2
     ·rename_i j u' D
      cases h2;have S:=Wg (w:=w) (f:=f) hT h1 M D;refine⟨f,_,?_,Move.setObj F H (r:=.map (d'.eraseIdxIfInBounds j) clock) ⟨_,_,rfl,?_⟩,Wf.put G H (fun q hq=>U q (List.mem_of_mem_eraseIdx hq)),trivial⟩
      ·simp only[Builtin.delete_,Bw,Cr,Sem.run_bind,cL,bK,br,h0,D6 hT w hu,aK,E,Qx hT h1,S,eI,J,aT]
      ·have e1:(d'.eraseIdxIfInBounds j).toList=d'.toList.eraseIdx j:=by
        rw[Array.eraseIdxIfInBounds_eq];split
        ·simp
        ·rename_i hj
         rw[List.eraseIdx_of_length_le (by simpa using hj)]
       rw[e1,List.eraseIdx_eq_take_drop_succ,List.eraseIdx_eq_take_drop_succ];simp only[cR,List.map_take,List.map_drop,M]
     ·rename_i D
      cases h2;have S:=Wg (w:=w) (f:=f) hT h1 M D;refine⟨f,_,?_,Move.setObj F H (r:=.map d' clock) ⟨_,_,rfl,M⟩,Wf.put G H U,trivial⟩;simp only[Builtin.delete_,Bw,Cr,Sem.run_bind,cL,bK,br,h0,D6 hT w hu,aK,E,Qx hT h1,S,Option.map_none,J,aT]
     ·cases h2
    ·cases h2
   ·cases A
  ·cases A
 ·rename_i k a l
  split at A
  ·rename_i u hm
   cases A;obtain⟨⟨c,rfl⟩,h2⟩:=yz (f:=f) false k hm;refine⟨_,rfl,kL.stay G F ?_ trivial⟩;simp only[Builtin.min_,Bw,List.toList_toArray,Cr,Qo];simp only[aX,ak,Cr]at h2;rw[h2];rfl
  ·cases A
 ·rename_i k a l
  split at A
  ·rename_i u hm
   cases A;obtain⟨⟨c,rfl⟩,h2⟩:=yz (f:=f) true k hm;refine⟨_,rfl,kL.stay G F ?_ trivial⟩;simp only[Builtin.max_,Bw,List.toList_toArray,Cr,Qo];simp only[bJ,Cr]at h2;rw[h2];rfl
  ·cases A
 ·cases A
end
end
section
structure FB where
 fn:Nat
 defers:List Deferred
 Dt:Option Nat
def FB.at(b:FB)(tmps:Array Value)(todo:List Item):Frame:={ fn:=b.fn,tmps,todo,defers:=b.defers,mode:=.run,kind:=.normal,roundOf:=b.Dt }
def Iz(tmps:Array Value):Operand->Value:=(Act.mk tmps []).eval
def nY(tmps:Array Value)(d:Option Tmp)(v:Value):Array Value:=
 match d with
 | some d=>tmps.setIfInBounds d v
 | none=>tmps
theorem FB.eval_at(b:FB)(tmps:Array Value)(todo:List Item):(b.at tmps todo).eval=Iz tmps:=by funext x;cases x<;>rfl
theorem FB.finish_at(b:FB)(tmps:Array Value)(d:ops[i]? = some o)(rest:List Nat)(k:List Item)(v:Value):
 (b.at tmps (.inRegion ops (i::rest)::k)).finish v=b.at (nY tmps o.dst v) (.inRegion ops rest::k):=by
 cases hd:o.dst<;>simp[Frame.finish,FB.at,nY,d,hd]
def pk:Op->Bool
 | .defer _=>true
 | _=>false
section
variable{b:FB}{rest:List Nat}{k:List Item}{cs:List Frame}{w:World}
theorem sQ(u:ops[i]? = some o)(hw:Region.wanted o (Go.yielded ops tmps)=true)(hd:pk o.op=false):
 stepG P true { frame:=b.at tmps (.inRegion ops (i::rest)::k),callers:=cs,status:=.running,dying:=none } w =
  stepG.apply P true (b.at tmps (.inRegion ops (i::rest)::k)) cs none (execOp (Iz tmps) o) w:=by
 have he:=FB.eval_at b tmps (.inRegion ops (i::rest)::k);simp only[FB.at]at he;cases j:b.Dt<;>cases d:o.op<;>simp[stepG,stepG.exec,stepG.oper,Frame.oper?,FB.at,u,hw,j,d]<;>first|(rw[j]at he;rw[he];done)|(simp[d,pk]at hd)
theorem A3j(d:ops[i]? = some o)(hw:Region.wanted o (Go.yielded ops tmps)=true)(hd:pk o.op=false){v:Value}
 (j:(execOp (Iz tmps) o).run P w=.ok (.value v) w') :
 step P (lone (b.at tmps (.inRegion ops (i::rest)::k)) cs w)=.next (lone (b.at (nY tmps o.dst v) (.inRegion ops rest::k)) cs w'):=by
 refine cN ?_;rw[sQ d hw hd,<-FB.finish_at b tmps d];simp[stepG.apply,j]
theorem A6a(d:ops[i]? = some o)(hw:Region.wanted o (Go.yielded ops tmps)=true)(hd:pk o.op=false)
 (j:(execOp (Iz tmps) o).run P w=.ok .skip w') :
 step P (lone (b.at tmps (.inRegion ops (i::rest)::k)) cs w)=.next (lone (b.at (nY tmps o.dst undef) (.inRegion ops rest::k)) cs w'):=by
 refine cN ?_;rw[sQ d hw hd,<-FB.finish_at b tmps d];simp[stepG.apply,j]
theorem A29(d:ops[i]? = some o)(hw:Region.wanted o (Go.yielded ops tmps)=true)(hd:pk o.op=false){g:FuncId}{args:Array Value}
 (j:(execOp (Iz tmps) o).run P w=.ok (.enter g args) w') :
 step P (lone (b.at tmps (.inRegion ops (i::rest)::k)) cs w)=.next (lone (Frame.enter P g args .normal) (b.at tmps (.inRegion ops (i::rest)::k)::cs) w'):=by
 refine cN ?_;rw[sQ d hw hd];simp[stepG.apply,j,FB.at]
theorem A3c(d:ops[i]? = some o)(hw:Region.wanted o (Go.yielded ops tmps)=true)(hd:pk o.op=false){l g:Nat}{ts:Array Value}{b_ body:Code}
 (j:(execOp (Iz tmps) o).run P w=.ok (.round l g ts b_ body) w') :
 step P (lone (b.at tmps (.inRegion ops (i::rest)::k)) cs w)=.next (lone (Frame.round l g ts b_ body .normal) (b.at tmps (.inRegion ops (i::rest)::k)::cs) w'):=by
 refine cN ?_;rw[sQ d hw hd];simp[stepG.apply,j,FB.at]
theorem QZ(d:ops[i]? = some o)(hw:Region.wanted o (Go.yielded ops tmps)=false):
 step P (lone (b.at tmps (.inRegion ops (i::rest)::k)) cs w)=.next (lone (b.at (nY tmps o.dst undef) (.inRegion ops rest::k)) cs w):=by
 refine cN ?_;rw[<-FB.finish_at b tmps d];simp[stepG,stepG.exec,FB.at,d,hw]
theorem Q':step P (lone (b.at tmps (.inRegion ops []::k)) cs w)=.next (lone (b.at tmps k) cs w):=
 cN (by simp[stepG,stepG.exec,FB.at])
end
def i_(P:Program)(o:Oper)(tmps:Array Value)(p:Nat->Prop)(f:Loc)(h:Ab)(w:World)(v:EV)(h':Ab):Prop:=
 ∀(b:FB) (ops:Array Oper) (i:Nat) (rest:List Nat) (k:List Item) (cs:List Frame),ops[i]? = some o->Region.wanted o (Go.yielded ops tmps)=true ->
  ∃f' w',Steps P (lone (b.at tmps (.inRegion ops (i::rest)::k)) cs w) (lone (b.at (nY tmps o.dst (Cr f' v)) (.inRegion ops rest::k)) cs w') /\
   Move p f h w f' h' w'/\Wf p h h'/\v.ok (grow p h h')
theorem i_.ks{w:World}(hd:pk o.op=false)
 (he:kK P (execOp (Iz tmps) o) p f h w v h'):i_ P o tmps p f h w v h':=by
 intro b ops i rest k cs d hw;obtain⟨f',w',N,h1,h2,j,h4,u⟩:=he;refine⟨f',w',?_,j,h4,u⟩;rcases h2 with rfl|⟨rfl,rfl⟩
 ·exact .one (A3j d hw hd h1)
 ·exact .one (A6a d hw hd h1)
def kJ(P:Program)(c:Ah):Prop:=
 ∀g args h v h',c g args h=some (v,h')->(∃fn,P.funcs[g]? = some fn/\fn.body.isSome=true/\(fn.name == "runtime.NumGoroutine")=false) /\
  ∀p f w,T1 p h->T7 f h w->EV.Tx p args->∀cs,∃fr f' w',Steps P (lone (Frame.enter P g (Bw f args).toArray .normal) cs w) (lone fr cs w')/\fr.fn=g /\
   fr.leaving P w' (.returned (Cr f' v))/\Move p f h w f' h' w'/\Wf p h h'/\v.ok (grow p h h')
def o9(P:Program)(c:Ah):Prop:=
 ∀l args h v h',c l args h=some (v,h')->∃st u fn n tm ps b_ body d j,h.get l=some (.loop st u fn n tm ps b_ body d)/\Wh ps args n tm=some j /\
  ∀p f w,T1 p h->T7 f h w->EV.Tx p args->∀caller cs,∃f' w',Steps P (lone (Frame.round (f.b l) fn (Bi f n j) b_ body .normal) (caller::cs) w) (lone (caller.finish (Cr f' v)) cs w') /\
   Move p f h w f' h' w'/\Wf p h h'/\v.ok (grow p h h')
theorem Bqa(n:Nat)(tm:Ba)(d:Nat)(v:EV):Bb (Nat.ble (Nat.succ d) n) (tm.put d (some v)) tm=Po n tm (some d) v:=rfl
theorem yk(f:Loc):∀{ps:List Tmp} {args:List EV} {tm d:Ba},Wh ps args n tm=some d->EV.Tx p args->Lr p n tm ->
 ps.length=args.length/\Lr p n d/\(ps.zip (Bw f args)).foldl (fun tmps (x:Tmp × Value)=>tmps.setIfInBounds x.1 x.2) (Bi f n tm)=Bi f n d
 | [],[],tm,d,h,_,j=>by cases h;exact⟨rfl,j,rfl⟩
 | q::r,v::s,tm,d,h,u,j=>by
  simp only[Wh,Bqa]at h;obtain⟨h1,h2,y⟩:=yk f h u.2 (j.put (some q) u.1);refine⟨by simp[h1],h2,?_⟩;simp only[Bw,List.zip_cons_cons,List.foldl_cons];rw[QB];exact y
 | [],_::_,_,_,h,_,_=>by cases h
 | _::_,[],_,_,h,_,_=>by cases h
theorem Tp(d:Lr p n tm):Reads f tm (Iz (Bi f n tm)) where
 tmp t:=by simp only[Iz,Act.eval];exact sJ f d t
 const v:=rfl
 func g:=rfl
end
section
section
variable{w:World}(hT:Qg P T)
theorem Bsz{a b:EV}(d:bin T op t a b=some v):v.ok p:=by
 unfold bin at d;split at d
 ·rename_i k a k' b
  rw[Bq]at d;split at d
  ·split at d
   ·unfold uW at d
    split at d
    ·cases d;trivial
    ·split at d<;>(cases d;trivial)
    ·cases d
   ·cases d
  ·rw[Bq]at d
   split at d
   ·unfold qm at d
    split at d
    all_goals first
     | (cases d;done)
     | (cases d;trivial)
     | (obtain⟨_,h2⟩:=To d;cases h2;trivial)
     | (split at d<;>first|(cases d;done)|(cases d;trivial))
   ·cases d
 ·split at d
  ·split at d<;>first|(cases d;trivial)|cases d
  ·split at d<;>first|(cases d;trivial)|cases d
  ·cases d
theorem Q_{cs:List EV}(j:EV.Tx p cs)(h1:cs.all EV.one=true)(d:part T t cs off=some v):v.ok p:=by
 unfold part at d;split at d
 ·split at d
  ·split at d
   ·rename_i n y l u
    cases d;obtain⟨_,h2⟩:=sK u;rw[h2,Ta];exact⟨QN j _ _,QO h1 _ _⟩
   ·cases d
  ·cases d
 ·split at d
  ·rename_i A r hd
   cases d;rw[Ta]at hd;exact(Io p cs).1 j _ (aH (by rw[hd];exact aW))
  ·cases d
 ·cases d
theorem RA {x:EV}{size:Nat}(j:x.ok p)(d:iV x size lo hi mx=some v):v.ok p:=by
 unfold iV at d;split at d
 ·rename_i i off len room op
  have hp:p i:=j;split at d
  ·split at d
   ·cases d
   ·split at d
    ·cases d
    ·simp only[Bq]at d
     repeat' split at d
     all_goals first|(cases d;exact hp)|cases d
  ·split at d
   ·split at d
    ·cases d
    ·split at d
     ·cases d
     ·cases d;exact hp
   ·cases d
 ·split at d
  ·split at d
   ·cases d
   ·split at d
    ·cases d
    ·cases d;exact j
  ·cases d
 ·cases d
include hT in
theorem Bos(A:Lr p n tm){op:Op}(j:Fc T tm op=some v):v.ok p:=by
 cases op with
 | move x=>exact E9 A j
 | assign x=>exact E9 A j
 | pick c a b=>
  simp only[Fc]at j;split at j
  ·exact E9 A j
  ·exact E9 A j
  ·cases j
 | binOp op t x y u=>
  simp only[Fc]at j;split at j
  ·split at j
   ·exact Bsz j
   ·cases j
  ·cases j
 | unOp u t x=>
  cases u<;>simp only[Fc]at j
  all_goals first
   | (split at j<;>first|(cases j;trivial)|cases j)
   | cases j
 | nilCheck x=>
  simp only[Fc]at j;split at j
  ·rename_i i o' he
   cases j;exact E9 A he
  ·cases j
 | fieldAddr s x M=>
  simp only[Fc]at j;split at j
  ·rename_i i off he
   have hp:p i:=E9 A he;split at j
   ·split at j
    ·split at j
     ·obtain⟨_,h2⟩:=To j;cases h2;exact hp
     ·cases j
    ·cases j
   ·cases j
  ·cases j
 | indexAddr t x ix=>
  simp only[Fc]at j;split at j
  ·split at j
   ·rename_i he
    split at j
    ·obtain⟨_,h2⟩:=Ap j;cases h2;have:=E9 A he;exact this
    ·cases j
   ·rename_i he
    split at j
    ·obtain⟨_,h2⟩:=Ap j;cases h2;have:=E9 A he;exact this
    ·cases j
   ·cases j
  ·cases j
 | index t x ix=>
  simp only[Fc]at j;split at j
  ·split at j
   ·rename_i he
    split at j
    ·obtain⟨_,h2⟩:=Ap j
     have C:=E9 (v:=.agg _) A he;exact Q_ C.1 C.2 h2
    ·cases j
   ·split at j
    ·cases j;trivial
    ·cases j
   ·cases j
  ·cases j
 | field t x M=>
  simp only[Fc]at j;split at j
  ·rename_i he
   split at j
   ·have C:=E9 (v:=.agg _) A he
    exact Q_ C.1 C.2 j
   ·cases j
  ·cases j
 | convert s d x=>
  simp only[Fc]at j;split at j
  ·cases j;trivial
  ·cases j
 | extract x ix=>
  simp only[Fc]at j;split at j
  ·rename_i l he
   split at j
   ·rename_i S r hd
    cases j;rw[Ta]at hd;exact(Io p l).1 (E9 (v:=.tuple l) A he) _ (aH (by rw[hd];exact aW))
   ·cases j
  ·cases j
 | slice t x lo hi mx=>
  simp only[Fc]at j;split at j
  ·split at j
   ·rename_i he
    split at j
    ·exact RA (x:=.slice _ _ _ _ _) (E9 (v:=.ptr _ _) A he) j
    ·cases j
   ·rename_i he
    split at j
    ·exact RA (E9 A he) j
    ·cases j
   ·cases j
  ·cases j
 | build t ps=>
  have key:∀{z c:List EV} {l:List (Nat × EV)} {pl:Nat->Option (Nat × Nat)},T.zero t=some z->Zc tm ps.toList=some l->fill pl z l=some c->(EV.agg c).ok p:=by
   intro z c l pl D E B;obtain⟨i,U,V,_,_,O,L,rfl,_⟩:=hT.zero t z D;have F:=U9 (yp p O) L;have G:=u7 A E;have H:=vd pl B;refine⟨(Io p c).2 (sN pl (q:=fun v=>v.ok p) B (fun v J=>(Io p _).1 F.1 v J) (fun q K v J=>(Io p _).1 (U9 (G q K) (H q K)).1 v J)),?_⟩;rw[dV];exact sN pl (q:=fun v=>v.one=true) B F.2 (fun q K v J=>(U9 (G q K) (H q K)).2 v J)
  simp only[Fc]at j;split at j
  ·rename_i D E _
   split at j
   ·split at j
    ·rename_i B;cases j;exact key D E B
    ·cases j
   ·cases j
  ·rename_i D E _
   split at j
   ·split at j
    ·rename_i B;cases j;exact key D E B
    ·cases j
   ·cases j
  ·cases j
 | makeFunc fn a b=>
  cases fn<;>simp only[Fc]at j
  all_goals first
   | (split at j
      ·rename_i Q hb;cases j;exact⟨qC A Q,qC A hb⟩
      ·cases j)
   | cases j
 | sliceToArrayPointer t x=>
  simp only[Fc]at j;split at j
  ·rename_i he
   obtain⟨_,h2⟩:=Ap j;cases h2;exact E9 (v:=.slice _ _ _ _ _) A he
  ·cases j
 | _=>cases j
theorem RB(u:T1 p h)(y:T7 f h w){d:List EV}(j:h.get i=some (.chan cap buf))(hb:EV.Tx p d)(s r:Nat):
 Move p f h w f (h.put i (.chan cap d)) (w.setChan (f.b i) cap (Bw f d).toArray false s r false)/\Wf p h (h.put i (.chan cap d)):=
 ⟨Move.setObj (p:=p) y j (o':=.chan cap d) (r:=.chan cap (Bw f d).toArray false s r false) ⟨s,r,rfl⟩,Wf.put u j hb⟩
theorem RC{c:SelectCase}(A:o.op=.select #[c] false){zv:Value}(u:(zeroValue c.elem).run P w=.ok zv w)
 (b:FB) {d:Array Value} (y:execOp (Iz tmps) o=execOp (Iz d) o) (rest:List Nat) (k:List Item) (cs:List Frame) (hi:ops[i]? = some o) (hw:Region.wanted o (Go.yielded ops tmps)=true) :
 ∃es,stepG P true (Conc.G (b.at tmps (.inRegion ops (i::rest)::k)) cs) w=.comm (Conc.G (b.at tmps (.inRegion ops (i::rest)::k)) cs)
  #[{ chan:=Iz d c.chan,send:=c.send.map (Iz d),zero:=zv }] false .select w es:=by
 have:=sQ (P:=P) (b:=b) (rest:=rest) (k:=k) (cs:=cs) (w:=w) hi hw (by rw[A];rfl);have j:(execOp (Iz tmps) o).run P w=.ok (.comm #[{ chan:=Iz d c.chan,send:=c.send.map (Iz d),zero:=zv }] false .select) w:=by
  rw[y];simp only[execOp,A];simp[u]
 rw[Conc.G,this];simp only[stepG.apply,Sem.runT_eq,j,GStep.after,bJ];exact⟨_,rfl⟩
include hT in
theorem Bax(H:Lr p n tm)(y:T1 p h)(A:T7 f h w)(B:execOp (Iz tmps) o=execOp (Iz (Bi f n tm)) o){c:SelectCase}(L:o.op=.select #[c] false)
 (M:Cj tm c.chan=some (.chan i)) (hs:c.send=some x) {C:EV} (D:h.get i=some (.chan cap buf)) (J:Cj tm x=some C) (O:zeroOf T c.elem=some zv)
 (d:Bb (Nat.ble (Nat.succ (len buf)) cap) (some (EV.tuple [.int .i64 0,.bool false],h.put i (.chan cap (buf++[C])))) (some (.tuple [.int .i64 (-1),.bool false],h))=some (v,h')) :
 i_ P o tmps p f h w v h':=by
 intro b ops j rest k cs hj hw;have K:=Tp (f:=f) H;obtain⟨r0,u,s,r,rfl⟩:=A.obj i _ D;have E:=(yy hT (f:=f) (w:=w) O).1;obtain⟨es,he⟩:=RC L E b B rest k cs hj hw;rw[Bl K M,hs,eI,Bl K J]at he;have hok:=(y.get i _ D).2;by_cases hb:buf.length<cap
 ·rw[Ye,nU (by omega),Ak]at d
  cases d;have F:EV.Tx p (buf++[C]):=qF hok ⟨E9 H J,trivial⟩;obtain⟨m1,m2⟩:=RB y A D F (s+1) r;refine⟨f,_,.one ?_,m1,m2,?_⟩
  ·have:=Conc.step_lone_select_send_room he u (by simpa [Di]using hb)
   rw[FB.finish_at b _ hj]at this;simpa [Sa,Bw,Cr,goInt,Conc.solo,Conc.G,lone]using this
  ·simp[EV.ok,EV.Tx]
 ·rw[Ye,qz (by omega),Bm]at d
  cases d;refine⟨f,w,.one ?_,Move.refl A,Wf.refl y,?_⟩
  ·have:=Conc.step_lone_select_send_full he u (by simpa [Di]using hb)
   rw[FB.finish_at b _ hj]at this;simpa [Sa,Bw,Cr,goInt,Conc.solo,Conc.G,lone]using this
  ·simp[EV.ok,EV.Tx]
include hT in
theorem Bav(H:Lr p n tm)(A:T1 p h)(B:T7 f h w)(C:execOp (Iz tmps) o=execOp (Iz (Bi f n tm)) o){c:SelectCase}(J:o.op=.select #[c] false)
 (K:Cj tm c.chan=some (.chan i)) (hs:c.send=none)
 (d:(match buf with
  | v::r=>some (EV.tuple [.int .i64 0,.bool true,v],h.put i (.chan cap r))
  | []=>some (.tuple [.int .i64 (-1),.bool false,zv],h))=some (v,h')) (D:h.get i=some (.chan cap buf)) (L:zeroOf T c.elem=some zv) :
 i_ P o tmps p f h w v h':=by
 intro b ops j rest k cs hj hw;have M:=Tp (f:=f) H;obtain⟨r0,u,s,r,rfl⟩:=B.obj i _ D;obtain⟨E,F⟩:=yy hT (f:=f) (w:=w) L;obtain⟨es,he⟩:=RC J E b C rest k cs hj hw;rw[Bl M K,hs,Option.map_none]at he;have hok:=(A.get i _ D).2;cases buf with
 | cons x l=>
  cases d;obtain⟨m1,m2⟩:=RB A B D hok.2 s (r+1);refine⟨f,_,.one ?_,m1,m2,?_⟩
  ·have:=Conc.step_lone_select_recv_buf he u (by simp[Bw])
   rw[FB.finish_at b _ hj]at this;simpa [Bw,Cr,goInt,Conc.solo,Conc.G,lone]using this
  ·exact⟨trivial,trivial,EV.ok.mono (fun _ hi=>.inl hi) _ hok.1,trivial⟩
 | nil=>
  cases d;refine⟨f,w,.one ?_,Move.refl B,Wf.refl A,?_⟩
  ·have:=Conc.step_lone_sel_default he (by
    intro O y;simp only[List.mem_toArray,aP]at y;subst y;exact Conc.noWay_recv u)
   rw[FB.finish_at b _ hj]at this;simpa [commResult,Bw,Cr,goInt,Conc.solo,Conc.G,lone]using this
  ·exact⟨trivial,trivial,F _,trivial⟩
include hT
theorem Bpe(D:Lr p n tm)(A:T1 p h)(B:T7 f h w)(u:execOp (Iz tmps) o=execOp (Iz (Bi f n tm)) o)(d:Dz T tm o.op h=some (v,h')):
 i_ P o tmps p f h w v h':=by
 have C:=Tp (f:=f) D;cases j:o.op with
 | load t a=>
  rw[j]at d;obtain⟨rfl,h2,E⟩:=Bnq hT C A B j d;refine i_.ks (by rw[j];rfl) ⟨f,w,_,(by rw[u];exact E),.inl rfl,Move.refl B,Wf.refl A,?_⟩;rw[Kb _ _ _ rfl];exact h2
 | store t a x=>rw[j]at d;exact i_.ks (by rw[j];rfl) (by rw[u];exact Bhf hT C D A B j d)
 | alloc t=>rw[j]at d;exact i_.ks (by rw[j];rfl) (by rw[u];exact Bhy hT A B j d)
 | box t x=>rw[j]at d;exact i_.ks (by rw[j];rfl) (by rw[u];exact Bo8 C D A B j d)
 | makeSlice t x y=>rw[j]at d;exact i_.ks (by rw[j];rfl) (by rw[u];exact A23 (n:=n) hT C A B j d)
 | buildSlice t m ps=>rw[j]at d;exact i_.ks (by rw[j];rfl) (by rw[u];exact A2l hT C D A B j d)
 | makeMap t r=>rw[j]at d;exact i_.ks (by rw[j];rfl) (by rw[u];exact A9n A B j d)
 | makeChan t x=>rw[j]at d;exact i_.ks (by rw[j];rfl) (by rw[u];exact A6s hT C A B j d)
 | lookup t x k ok=>rw[j]at d;exact i_.ks (by rw[j];rfl) (by rw[u];exact Bbx (n:=n) hT C A B j d)
 | mapUpdate t m k x=>rw[j]at d;exact i_.ks (by rw[j];rfl) (by rw[u];exact A3o hT C D A B j d)
 | call c=>
  rw[j]at d;obtain⟨callee,args,argTypes⟩:=c;cases callee with
  | builtin bi=>
   simp only[Dz]at d;split at d
   ·rename_i as has
    have key:∀cs,kK P (Go.builtin bi argTypes o.type cs (Bw f as).toArray) p f h w v h':=by
     intro cs;obtain⟨s,h1,f',w',h2,E,h4,G⟩:=Bbj (ty:=o.type) (cs:=cs) hT A B (qC D has) d;refine⟨f',w',.value (Cr f' v),?_,.inl rfl,E,h4,G⟩;rw[h1];simp only[Sem.run_bind,h2,aK,aT]
    have he:args.map (Iz (Bi f n tm))=(Bw f as).toArray:=by
     rw[<-qB C has];simp only[<-List.map_toArray,eQ]
    obtain⟨f',w',N,h1,h2,E,h4,G⟩:=key (args.map fun | .const _=>true|_=>false);refine i_.ks (by rw[j];rfl) ⟨f',w',N,?_,h2,E,h4,G⟩;rw[<-h1,u];simp only[execOp,j,resolve,Sem.run_bind,aT,aK,invoke,he];rfl
   ·cases d
  | value x=>cases d
  | invoke x m=>cases d
 | select cs bl=>
  rw[j]at d;cases bl with
  | true=>cases d
  | false=>
   simp only[Dz]at d;split at d
   ·rename_i c H
    have F:cs = #[c]:=by apply fC;simpa using H
    subst F;split at d
    ·rename_i i x J hs
     split at d
     ·rename_i cap buf O K M
      split at d
      ·rename_i zv L
       exact Bax hT D A B u j J hs K M L d
      ·cases d
     ·cases d
    ·rename_i i J hs
     split at d
     ·rename_i cap buf zv K L
      exact Bav hT D A B u j J hs d K L
     ·cases d
    ·cases d
   ·cases d
 | _=>rw[j]at d;cases d
end
end
section
section
variable{w:World}(hT:Qg P T){call:Ah}(hC:kJ P call)(hR:o9 P round)
theorem Move.Bi{f':Loc}{w:World}(m:Move p f h w f' h' w')(d:Lr p n tm):Bi f n tm=Bi f' n tm:=Lh m.Fo d
theorem vl(f:Loc)(n:Nat)(tm:Ba)(d:Option Tmp)(v:EV):nY (Bi f n tm) d (Cr f v)=Bi f n (Po n tm d v):=by
 cases d with
 | none=>rfl
 | some d=>exact QB f n tm d v
include hT hC hR in
theorem RD(G:Lr p n tm)(H:T1 p h)(J:T7 f h w)(A:execOp (Iz tmps) o=execOp (Iz (Bi f n tm)) o)(j:aop T call round tm o.op h=some (v,h')):
 i_ P o tmps p f h w v h':=by
 have K:=Tp (f:=f) G;unfold aop at j;rw[Bq]at j;split at j
 ·rename_i hv
  split at j
  ·rename_i v' L
   cases j;refine i_.ks ?_ ⟨f,w,_,(by rw[A];exact Bmt hT f w K L),.inl rfl,Move.refl J,Wf.refl H,?_⟩
   ·cases C:o.op<;>first|rfl|(rw[C]at hv;cases hv)
   ·rw[Kb _ _ _ rfl];exact Bos hT G L
  ·cases j
 ·split at j
  ·rename_i fo args af heq
   split at j
   ·rename_i g first captured as S has
    obtain⟨⟨fn,W,X,D⟩,Y⟩:=hC _ _ _ _ _ j;intro b ops i rest k cs C hw;have M:=E9 (v:=.func g first captured) G S;have B:=qC G has;have E:EV.Tx p (first++(as++captured)):=qF M.1 (qF B M.2);obtain⟨fr,f',w',hs,ag,hl,hm,hwf,F⟩:=Y p f w H J E (b.at tmps (.inRegion ops (i::rest)::k)::cs);refine⟨f',w',?_,hm,hwf,F⟩;have he:args.map (Iz (Bi f n tm))=(Bw f as).toArray:=by
     rw[<-qB K has];simp only[<-List.map_toArray,eQ]
    have u:(execOp (Iz tmps) o).run P w=.ok (.enter g (Bw f (first++(as++captured))).toArray) w:=by
     rw[A];have hb:¬fn.body=none:=by cases hx:fn.body<;>simp_all
     have hn:¬fn.name = "runtime.NumGoroutine":=by simpa using D
     simp[execOp,heq,resolve,he,Bl K S,Cr,Deferred.ofValue,invoke,callFunc,W,hn,hb,Sa]
    refine .head (A29 C hw (by rw[heq];rfl) u) (hs.trans (.one ?_));rw[<-FB.finish_at b _ C];exact step_leave_returned hl
   ·rename_i l as S has
    obtain⟨st,pd,fn,U,O,ps,b_,body,d,Q,hg,Z,Y⟩:=hR _ _ _ _ _ j;intro b ops i rest k cs C hw;have B:=qC G has;obtain⟨f',w',hs,hm,hwf,F⟩:=Y p f w H J B (b.at tmps (.inRegion ops (i::rest)::k)) cs;refine⟨f',w',?_,hm,hwf,F⟩;have he:args.map (Iz (Bi f n tm))=(Bw f as).toArray:=by
     rw[<-qB K has];simp only[<-List.map_toArray,eQ]
    obtain⟨r0,aa,rfl⟩:=J.obj l _ hg;obtain⟨hlen,al,y⟩:=yk f Z B (H.get l _ hg).2.1;have u:(execOp (Iz tmps) o).run P w=.ok (.round (f.b l) fn (Bi f U Q) b_ body) w:=by
     rw[A];have V:Array.foldl (fun tmps (x:Tmp × Value)=>tmps.setIfInBounds x.1 x.2) (Bi f U O) (ps.toArray.zip (Bw f as).toArray)=Bi f U Q:=by
      rw[<-y,List.zip_toArray,List.foldl_toArray]
     have ab:(getObj (f.b l)).run P w=.ok (.loop ⟨st,pd,fn,Bi f U O,ps.toArray,b_,body,f.b d⟩) w:=Oe aa (by intros;simp);simp only[execOp,heq,resolve,he,Bl K S,Cr,Deferred.ofValue,invoke,Sem.run_bind,aT,aK,Instr.yield,Instr.getLoop,ab];simp[Di,hlen];exact y
    refine .head (A3c C hw (by rw[heq];rfl) u) ?_;rw[<-FB.finish_at b _ C];exact hs
   ·cases j
  ·rename_i ao
   exact Bpe hT G H J A j
theorem Bci(u:Lr p n tm)(ops:Array Oper)(j:Nat):Go.yielded ops (Bi f n tm) j=Ev.yielded ops.toList tm j:=by
 unfold Go.yielded Ev.yielded;rw[u9,cM];cases ops[j]? with
 | none=>rfl
 | some o=>
  simp only[Option.bind_some];cases o.dst with
  | none=>rfl
  | some d=>
   simp only[Option.bind_some];rw[sI];by_cases hd:d<n
   ·rw[aI hd]
    unfold tmp;cases y:tm.get d with
    | none=>rfl
    | some v=>cases v<;>rfl
   ·rw[aG hd,u.out d (Nat.le_of_not_lt hd)]
theorem RE(d:Lr p n tm)(ops:Array Oper)(o:Oper):Region.wanted o (Go.yielded ops (Bi f n tm))=Ev.wanted ops.toList tm o.guard:=by
 unfold Region.wanted Ev.wanted;cases o.guard with
 | none=>rfl
 | some x=>
  obtain⟨j,want⟩:=x;simp only[];rw[Bci d];cases Ev.yielded ops.toList tm j with
  | none=>rfl
  | some b=>cases b<;>cases want<;>rfl
include hT hC hR in
theorem yD(ops:Array Oper):∀{l:List Oper} {i:Nat} {p:Nat->Prop} {f:Loc} {h:Ab} {w:World} {tm u:Ba} {h':Ab},l=ops.toList.drop i->Lr p n tm->T1 p h->T7 f h w ->
 jz T call round n ops.toList l tm h=some (u,h')->∀(b:FB) (k:List Item) (cs:List Frame),
  ∃f' w',Steps P (lone (b.at (Bi f n tm) (.inRegion ops (List.range' i l.length)::k)) cs w) (lone (b.at (Bi f' n u) (.inRegion ops []::k)) cs w') /\
   Move p f h w f' h' w'/\Wf p h h'/\Lr (grow p h h') n u
 | [],i,p,f,h,w,tm,u,h',L,A,J,K,d,b,k,cs=>by
  simp only[jz]at d;cases d;exact⟨f,w,.refl _ _,Move.refl K,Wf.refl J,by rw[Kb _ _ _ rfl];exact A⟩
 | o::r,i,p,f,h,w,tm,u,h',L,A,J,K,d,b,k,cs=>by
  have hi:ops[i]? = some o:=by
   have:=congrArg (fun l=>l[0]?) L;simp only[bK,dT,dS,cM]at this;exact this.symm
  have U:r=ops.toList.drop (i+1):=by
   have:=congrArg List.tail L;simpa [List.tail_drop]using this
  obtain⟨dst,op,ty,ps,M,g⟩:=o;simp only[jz]at d;rw[Bq]at d;have B:=RE (f:=f) A ops ⟨dst,op,ty,ps,M,g⟩;split at d
  ·rename_i hw
   rw[hw]at B;split at d
   ·rename_i v h1 H
    obtain⟨f1,w1,O,C,y,Q⟩:=RD hT hC hR A J K (o:=⟨dst,op,ty,ps,M,g⟩) rfl H b ops i (List.range' (i+1) r.length) k cs hi B;have D:Lr (grow p h h1) n (Po n tm dst v):=(A.mono fun _ hi=>.inl hi).put dst Q;obtain⟨f2,w2,E,F,j,G⟩:=yD ops U D y.hok C.rep d b k cs;refine⟨f2,w2,?_,C.trans F,y.trans j,?_⟩
    ·rw[bG,gF]
     refine O.trans ?_;rw[C.Bi A,vl];exact E
    ·rw[<-qp p y.next j.next];exact G
   ·cases d
  ·rename_i hw
   have S:Region.wanted ⟨dst,op,ty,ps,M,g⟩ (Go.yielded ops (Bi f n tm))=false:=by rw[B];simpa using hw
   have D:Lr p n (Po n tm dst (.tuple [])):=A.put dst trivial;obtain⟨f2,w2,E,F,j,G⟩:=yD ops U D J K d b k cs;refine⟨f2,w2,?_,F,j,G⟩;rw[bG,gF];refine .head (QZ hi S) ?_;have:(undef:Value)=Cr f (.tuple []):=rfl;rw[this,vl];exact E
end
end
structure AWf(h h':Ab):Prop where
 next:h.next<=h'.next
 mw:h'.mw<=h.mw
 same:∀q,q<h'.mw->q<h.next->h'.get q=h.get q
 live:∀q o,h'.get q=some o->(∃o',h.get q=some o')\/h.next<=q
 lt:(∀q o,h.get q=some o->q<h.next)->∀q o,h'.get q=some o->q<h'.next
theorem AWf.refl(h:Ab):AWf h h:=⟨aE _,aE _,fun _ _ _=>rfl,fun _ o d=>.inl ⟨o,d⟩,fun H=>H⟩
theorem AWf.trans {a b c:Ab}(x:AWf a b)(y:AWf b c):AWf a c where
 next:=bQ x.next y.next
 mw:=bQ y.mw x.mw
 same q h1 h2:=(y.same q h1 (aN h2 x.next)).trans (x.same q (aN h1 y.mw) h2)
 live q o d:=by
  rcases y.live q o d with⟨o',h1⟩|h1
  ·exact x.live q o' h1
  ·exact .inr (bQ x.next h1)
 lt H:=y.lt (x.lt H)
theorem AWf.put{o:D3}(hi:h.get i=some o)(o':D3):AWf h (h.put i o') where
 next:=aE _
 mw:=by rw[Ab.nA];exact Nat.min_le_right _ _
 same q h1 _:=by rw[Ab.nA]at h1;rw[Ab.get_put,aG (by omega)]
 live q x d:=by
  rw[Ab.get_put]at d;split at d
  ·rename_i e;subst e;exact .inl ⟨o,hi⟩
  ·exact .inl ⟨x,d⟩
 lt H q x d:=by
  rw[Ab.get_put]at d;split at d
  ·rename_i e;subst e;exact H _ _ hi
  ·exact H _ _ d
theorem AWf.new(h:Ab)(o:D3):AWf h (h.new o) where
 next:=Nat.le_succ _
 mw:=aE _
 same q _ h2:=by rw[Ab.K7,aG (by omega)]
 live q x d:=by
  rw[Ab.K7]at d;split at d
  ·rename_i e;exact .inr (by omega)
  ·exact .inl ⟨x,d⟩
 lt H q x d:=by
  rw[Ab.K7]at d;rw[Ab.Dx];split at d
  ·rename_i e;omega
  ·exact Nat.lt_succ_of_lt (H _ _ d)
theorem AWf.del(h:Ab)(i:Nat):AWf h (h.del i) where
 next:=aE _
 mw:=by rw[Ab.rQ];exact Nat.min_le_right _ _
 same q h1 _:=by rw[Ab.rQ]at h1;rw[Ab.kV,aG (by omega)]
 live q x d:=by
  rw[Ab.kV]at d;split at d
  ·cases d
  ·exact .inl ⟨x,d⟩
 lt H q x d:=by
  rw[Ab.kV]at d;split at d
  ·cases d
  ·exact H _ _ d
theorem RF(d:Ml h i off vs=some h'):AWf h h':=by
 unfold Ml at d;split at d
 ·rename_i j
  split at d
  ·cases d;exact .put j _
  ·cases d
 ·rename_i j
  split at d
  ·cases d;exact .put j _
  ·cases d
 ·cases d
theorem Bls{st:TypeId}{s x:EV}(d:append T st s x h=some (v,h')):AWf h h':=by
 unfold append at d;split at d
 ·split at d
  ·split at d
   ·rw[Bq]at d
    split at d
    ·split at d
     ·obtain⟨_,h2⟩:=Ap d;cases h2;exact .refl _
     ·cases d;exact .refl _
     ·cases d
    ·obtain⟨_,h2⟩:=Ap d
     split at h2
     ·split at h2
      ·cases h2;exact .new _ _
      ·obtain⟨_,j⟩:=Ap h2
       split at j
       ·rw[Bq]at j
        split at j
        ·obtain⟨_,j⟩:=Ap j
         obtain⟨_,j⟩:=Ap j;split at j
         ·obtain⟨_,j⟩:=Ap j
          obtain⟨_,j⟩:=Ap j;obtain⟨_,j⟩:=Ap j;cases j;exact(AWf.del _ _).trans (.new _ _)
         ·cases j
        ·obtain⟨_,j⟩:=To j
         cases j;exact .new _ _
       ·cases j
      ·cases h2
     ·cases h2
   ·cases d
  ·cases d
 ·cases d
theorem Bgr{b:Builtin}(d:builtin T b ts args h=some (v,h')):AWf h h':=by
 unfold builtin at d;split at d
 ·split at d
  ·split at d
   ·exact Bls d
   ·cases d
  ·cases d
 ·split at d
  ·split at d
   ·cases d;exact .refl _
   ·split at d<;>first|(cases d;done)|(cases d;exact .refl _)
   ·cases d;exact .refl _
   ·split at d<;>first|(cases d;done)|(cases d;exact .refl _)
   ·cases d
  ·cases d
 ·split at d
  ·split at d
   ·split at d
    ·obtain⟨_,h2⟩:=To d
     split at h2
     ·split at h2
      ·split at h2
       ·rename_i hw;cases h2;exact RF hw
       ·cases h2
      ·cases h2
     ·cases h2
    ·cases d
   ·cases d
  ·cases d
 ·split at d
  ·split at d
   ·obtain⟨_,h2⟩:=Ap d
    split at h2
    ·rename_i j
     split at h2
     ·cases h2;exact .put j _
     ·cases h2;exact .put j _
     ·cases h2
    ·cases h2
   ·cases d
  ·cases d
 ·split at d<;>first|(cases d;done)|(cases d;exact .refl _)
 ·split at d<;>first|(cases d;done)|(cases d;exact .refl _)
 ·cases d
theorem Bsv{op:Op}(d:Dz T tm op h=some (v,h')):AWf h h':=by
 unfold Dz at d;split at d
 ·
  split at d
  ·split at d
   ·split at d
    ·split at d<;>first|(cases d;done)|(cases d;exact .refl _)
    ·cases d
   ·split at d<;>first|(cases d;done)|(cases d;exact .refl _)
   ·cases d
  ·cases d
 ·
  split at d
  ·obtain⟨_,h2⟩:=Ap d
   obtain⟨_,h2⟩:=Ap h2;split at h2
   ·rename_i hw;cases h2;exact RF hw
   ·cases h2
  ·cases d
 ·split at d<;>first|(cases d;done)|(cases d;exact .new _ _)
 ·split at d
  ·obtain⟨_,h2⟩:=Ap d;cases h2;exact .new _ _
  ·cases d
 ·split at d
  ·exact Bgr d
  ·cases d
 ·split at d
  ·split at d
   ·obtain⟨_,h2⟩:=Ap d
    split at h2
    ·cases h2;exact .new _ _
    ·cases h2
   ·cases d
  ·cases d
 ·split at d
  ·split at d
   ·obtain⟨_,h2⟩:=Ap d
    obtain⟨_,h2⟩:=Ap h2;cases h2;exact .new _ _
   ·cases d
  ·cases d
 ·cases d;exact .new _ _
 ·split at d
  ·split at d
   ·obtain⟨_,h2⟩:=Ap d;cases h2;exact .new _ _
   ·cases d
  ·cases d
 ·split at d
  ·obtain⟨_,h2⟩:=Ap d
   split at h2
   ·split at h2
    ·cases h2;exact .refl _
    ·split at h2<;>first|(cases h2;done)|(cases h2;exact .refl _)
    ·cases h2
   ·cases h2
  ·cases d
 ·split at d
  ·obtain⟨_,h2⟩:=Ap d
   split at h2
   ·rename_i j
    split at h2
    ·cases h2;exact .put j _
    ·cases h2;exact .put j _
    ·cases h2
   ·cases h2
  ·cases d
 ·split at d
  ·split at d
   ·split at d
    ·rename_i j _
     split at d
     ·rw[Bq]at d
      split at d
      ·cases d;exact .put j _
      ·cases d;exact .refl _
     ·cases d
    ·cases d
   ·split at d
    ·rename_i j _
     split at d
     ·cases d;exact .put j _
     ·cases d;exact .refl _
    ·cases d
   ·cases d
  ·cases d
 ·cases d
def Wc(c:Ah):Prop:=∀g args h v h',c g args h=some (v,h')->AWf h h'
section
variable{call:Ah}(hC:Wc call)(hR:Wc round)
include hC hR
theorem RG{op:Op}(d:aop T call round tm op h=some (v,h')):AWf h h':=by
 unfold aop at d;rw[Bq]at d;split at d
 ·split at d<;>first|(cases d;done)|(cases d;exact .refl _)
 ·split at d
  ·split at d
   ·exact hC _ _ _ _ _ d
   ·exact hR _ _ _ _ _ d
   ·cases d
  ·exact Bsv d
theorem yE{ops:List Oper}:∀{l:List Oper} {tm j:Ba} {h h':Ab},jz T call round n ops l tm h=some (j,h')->AWf h h'
 | [],_,_,_,_,d=>by cases d;exact .refl _
 | ⟨dst,op,ty,ps,u,g⟩::r,tm,j,h,h',d=>by
  simp only[jz]at d;rw[Bq]at d;split at d
  ·split at d
   ·rename_i h1
    exact(RG hC hR h1).trans (yE d)
   ·cases d
  ·exact yE d
end
end Go.Ev
