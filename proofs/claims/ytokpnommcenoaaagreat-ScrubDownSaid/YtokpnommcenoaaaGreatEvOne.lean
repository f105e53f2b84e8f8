import GoSem.Step
import Derived.Control
import Derived.Calls
import Derived.Laws.CopyRow
import Derived.Great.FillDense
set_option linter.all false
namespace Go.Ev
def aA:=@decide_false
def aB:=@decide_true
def aC:=@not_true_eq_false
def aD:=@Nat.le_refl
def aE.{u}:=@List.mem_of_mem_drop.{u}
def aF:=@not_false_eq_true
def aG.{u}:=@List.length_append.{u}
def aH.{u}:=@List.getElem?_eq_getElem.{u}
def aI:=@Result.andThen_ok
def aJ:=@decide_eq_true
def aK:=@decide_eq_false
def aL:=@Nat.eq_of_beq_eq_true
def aM.{u}:=@if_neg.{u}
def aN:=@Nat.lt_of_lt_of_le
def aO:=@Nat.ble_eq_true_of_le
def aP.{u}:=@List.mem_singleton.{u}
def aQ.{u}:=@if_pos.{u}
def aR:=@Nat.lt_succ_self
def aS:=@Sem.run_pure
def aT.{u}:=@List.mem_cons_of_mem.{u}
def aU.{u}:=@List.length_drop.{u}
def aV.{u}:=@List.mem_cons_self.{u}
def aW:=@Bool.false_eq_true
def aX:=@Int.ofNat_eq_natCast
def aY.{u}:=@if_false.{u}
def aZ:=@Int.eq_ofNat_of_zero_le
def ak:=@Bool.false_and
def av.{u}:=@List.getElem_mem.{u}
def bA.{u,v}:=@List.getElem?_map.{u,v}
def bB:=@Nat.le_of_ble_eq_true
def bD:=@Bool.true_and
def bF:=@Nat.zero_add
def bG:=@Int.toNat_natCast
def bH.{u}:=@List.length_take.{u}
def bI.{u}:=@if_true.{u}
def bJ.{u}:=@List.getElem?_eq_some_iff.{u}
def bK.{u}:=@List.length_cons.{u}
def bL:=@Bool.and_eq_true
def bM:=@decide_eq_true_eq
def bN.{u}:=@List.getElem?_cons_zero.{u}
def bO.{u}:=@List.mem_of_mem_take.{u}
def bP.{u}:=@List.mem_append.{u}
def bQ:=@Nat.le_trans
def bR.{u}:=@List.take_of_length_le.{u}
def bS:=@Nat.lt_irrefl
def bT.{u}:=@List.length_replicate.{u}
def bU.{u}:=@List.getElem?_toArray.{u}
def bV.{u}:=@List.length_set.{u}
def bW.{u}:=@List.mem_cons.{u}
def bX.{u}:=@List.length_eq_zero_iff.{u}
def bY.{u}:=@List.getElem?_append_right.{u}
def bZ.{u,v}:=@List.length_map.{u,v}
def bc.{u}:=@List.eq_of_mem_replicate.{u}
def bh.{u}:=@List.getElem?_append_left.{u}
def bk:=@Nat.mul_one
def bm.{u,v}:=@List.map_append.{u,v}
def br.{u}:=@List.flatten_cons.{u}
def b9.{u}:=@List.append_assoc.{u}
def cC.{u}:=@List.getElem?_cons_succ.{u}
def cD.{u}:=@List.drop_drop.{u}
def cF.{u}:=@List.getElem?_eq_none.{u}
def cI:=@Nat.beq_refl
def cJ:=@step_lone_go
def cK.{u}:=@Array.getElem?_toList.{u}
def cL.{u}:=@List.take_length.{u}
def cM.{u}:=@Array.getElem?_eq_some_iff.{u}
def cN.{u}:=@Array.getElem?_eq_getElem.{u}
def cO:=@of_decide_eq_true
def cP.{u}:=@Option.some.injEq.{u}
def cQ:=@List.getElem?_range
def cR.{u,v}:=@List.map_cons.{u,v}
def cS.{u}:=@List.append_nil.{u}
def cT.{u}:=@Ne.symm.{u}
def cU:=@Nat.zero_le
def cV.{u}:=@List.nodup_cons.{u}
def cW.{u}:=@List.size_toArray.{u}
def cX.{u}:=@List.getElem?_drop.{u}
def cY.{u,v}:=@List.mem_map.{u,v}
def cZ.{u,v}:=@List.map_congr_left.{u,v}
def cj.{u}:=@List.flatten_append.{u}
def cm:=@decide_eq_false_iff_not
def cn:=@Nat.not_lt_zero
def cp:=@Bool.not_false
def cq:=@Int.negSucc_eq
def cr.{u}:=@Array.mem_toList_iff.{u}
def ct.{u}:=@List.drop_of_length_le.{u}
def cv:=@Nat.ble_eq
def cy.{u}:=@List.take_succ_eq_append_getElem.{u}
def cz:=@Nat.add_zero
def dE.{u}:=@List.drop_zero.{u}
def dF.{u}:=@List.nodup_nil.{u}
def dG.{u}:=@List.drop_left.{u}
def dH.{u}:=@List.mem_or_eq_of_mem_set.{u}
def dI.{u}:=@List.drop_eq_getElem_cons.{u}
def dJ:=@List.range_succ
def dK.{u}:=@List.take_append_of_le_length.{u}
def dL:=@Nat.lt_or_ge
def dM.{u}:=@List.take_left.{u}
def dN.{u}:=@List.nil_append.{u}
def dO.{u}:=@List.mem_of_getElem?.{u}
def dP.{u}:=@List.all_eq_true.{u}
def dQ:=@Nat.zero_testBit
def dR.{u}:=@Array.ext'.{u}
def dS.{u}:=@List.toList_toArray.{u}
def dU:=@Nat.pow_succ
def dV.{u,v}:=@Option.map_some.{u,v}
def dW:=@Nat.min_eq_left
def dX:=@decide_eq_true_iff
def dY.{u}:=@List.getElem?_take.{u}
def dZ:=@Nat.xor_lt_two_pow
def dh:=@Nat.lt_succ_iff_lt_or_eq
def eA:=@Int.mul_le_mul_of_nonneg_left
def eB.{u}:=@List.eq_nil_of_length_eq_zero.{u}
def eC.{u}:=@Array.toArray_toList.{u}
def eD:=@Bool.and_false
def eE.{u}:=@List.ext_getElem?.{u}
def eF.{u}:=@List.replicate_succ.{u}
def eG.{u}:=@Array.getD_eq_getD_getElem?.{u}
def eH:=@Bool.not_true
def eI.{u}:=@List.filter_append.{u}
def eJ.{u}:=@List.length_filter_le.{u}
def eK.{u}:=@List.set_append_right.{u}
def eL:=@Addr.add_lit
def eO:=@Nat.pow_le_pow_right
def eP:=@List.length_range
def eQ.{u}:=@List.mem_filter.{u}
def eR.{u,v}:=@Prod.mk.injEq.{u,v}
def eS:=@decide_eq_decide
def eT.{u}:=@List.drop_append_of_le_length.{u}
def eU:=@List.mem_range
def eV:=@Nat.div_div_eq_div_mul
def eW.{u}:=@Array.getElem?_eq_none.{u}
def eX:=@Nat.and_one_is_mod
def eZ.{u}:=@Array.ext_getElem?.{u}
def eh:=@Nat.eq_zero_or_pos
def fB:=@Nat.succ_mul
def fC.{u}:=@List.length_nil.{u}
def fD:=@Bool.eq_iff_iff
def fF.{u}:=@List.mem_iff_getElem?.{u}
def fG:=@Int.fdiv_eq_ediv_of_nonneg
def fH:=@Nat.div_lt_of_lt_mul
def fI:=@Nat.shiftRight_eq_div_pow
def fJ.{u}:=@List.filter_cons.{u}
def fK:=@Nat.mod_eq_of_lt
def fL:=@Nat.le_succ
def fM:=@Int.toNat_of_nonneg
def fN.{u}:=@List.take_succ_cons.{u}
def fO:=@Nat.add_mul
def fP:=@run_program
def fQ:=@Nat.zero_mul
def fR:=@Nat.sub_self
def fS:=@Nat.mul_comm
def fT.{u,v}:=@List.map_replicate.{u,v}
def fU.{u}:=@Option.some.inj.{u}
def fV:=@Go.setRow_other
def fW:=@Bool.true_eq_false
def fX:=@Nat.add_sub_cancel
def fY:=@Int.le_refl
def fZ:=@Nat.min_def
def fm:=@Nat.mul_le_mul
def gA:=@Go.setRow_heap
def gE:=@false_and
def gF:=@true_and
variable {b:Bool}{a x:Operand}{i n off dflt:Nat}{p q:Nat->Prop}{ρ:Operand->Value}{k k':IntKind}{op:BinOp}{t:TypeId}{w':World}{α:Type}{P:Program}
noncomputable section
inductive Tr (α:Type) where
 | nil
 | node (l:Tr α) (v:Option α) (r:Tr α)
noncomputable def Ax {α:Type}(b:Bool)(x y:α):α:=@Bool.rec (fun _=>α) y x b
noncomputable def Tr.get {α:Type}(t:Tr α):Nat->Option α:=
 @Tr.rec α (fun _=>Nat->Option α) (fun _=>none)
  (fun _ v _ d e i=>@Bool.rec (fun _=>Option α) (@Bool.rec (fun _=>Option α) (e (Nat.pred (Nat.div i 2))) (d (Nat.div i 2)) (Nat.beq (Nat.land i 1) 1)) v (Nat.beq i 0)) t
noncomputable def Tr.lf {α:Type}(x:Option α)(r:Tr α)(t:Tr α):Tr α:=@Tr.rec α (fun _=>Tr α) .nil (fun a b c _ _=>.node (.node a b c) x r) t
noncomputable def Tr.rt {α:Type}(l:Tr α)(x:Option α)(t:Tr α):Tr α:=@Tr.rec α (fun _=>Tr α) .nil (fun a b c _ _=>.node l x (.node a b c)) t
noncomputable def Tr.set {α:Type}(n:Nat):Tr α->Nat->Option α->Tr α:=
 @Nat.rec (fun _=>Tr α->Nat->Option α->Tr α) (fun t _ _=>t)
  (fun _ d t i v=>@Tr.rec α (fun _=>Tr α)
   (@Bool.rec (fun _=>Tr α) (@Bool.rec (fun _=>Tr α) (Tr.rt .nil none (d .nil (Nat.pred (Nat.div i 2)) v)) (Tr.lf none .nil (d .nil (Nat.div i 2) v)) (Nat.beq (Nat.land i 1) 1)) (.node .nil v .nil) (Nat.beq i 0))
   (fun l x r _ _=>@Bool.rec (fun _=>Tr α) (@Bool.rec (fun _=>Tr α) (Tr.rt l x (d r (Nat.pred (Nat.div i 2)) v)) (Tr.lf x r (d l (Nat.div i 2) v)) (Nat.beq (Nat.land i 1) 1)) (.node l v r) (Nat.beq i 0)) t) n
noncomputable def Tr.put {α:Type}(t:Tr α)(i:Nat)(v:Option α):Tr α:=Tr.set (Nat.succ (Nat.log2 (Nat.succ i))) t i v
inductive EV where
 | int (k:IntKind) (n:Int)
 | bool (b:Bool)
 | str (s:ByteArray)
 | ptr (i off:Nat)
 | Bu
 | slice (i off len room:Nat) (op:Bool)
 | tail (i off poff:Nat)
 | Al
 | odd (a:Addr)
 | map (i:Nat)
 | Alq
 | chan (i:Nat)
 | Aev
 | func (f:Nat) (first captured:List EV)
 | U1 (l:Nat)
 | Ahu
 | Ab9
 | agg (l:List EV)
 | tuple (l:List EV)
 deriving Inhabited
def EV.cells:EV->List EV
 | .agg l=>l
 | v=>[v]
def EV.plain:EV->Bool
 | .tuple _=>false
 | _=>true
inductive By where
 | cells (l:List EV) (elem:TypeId)
 | vec (l:List EV) (elem:TypeId) (size:Nat)
 | map (es:List (EV × EV))
 | chan (cap:Nat) (buf:List EV)
 | loop (state:LoopState) (pending:Option Code) (fn:FuncId) (n:Nat) (tmps:Tr EV) (params:List Tmp) (assign body:Code) (defers:Nat)
 | deferred (open_:Bool)
 | view (ws:List (Nat × List EV)) (r:Obj)
structure Ab where
 t:Tr By
 next:Nat
 mw:Nat
def Ab.get:Ab->Nat->Option By
 | ⟨t,_,_⟩,i=>t.get i
def Ab.put:Ab->Nat->By->Ab
 | ⟨t,n,m⟩,i,o=>⟨t.put i (some o),n,Ax (Nat.ble i m) i m⟩
def Ab.del:Ab->Nat->Ab
 | ⟨t,n,m⟩,i=>⟨t.put i none,n,Ax (Nat.ble i m) i m⟩
def Ab.new:Ab->By->Ab
 | ⟨t,n,m⟩,o=>⟨t.put n (some o),Nat.succ n,m⟩
structure Ajp where
 fn:Nat
 n:Nat
 tmps:Tr EV
 todo:List Item
 defers:List Nat
 ret:Bool
 Dt:Option Nat
structure He where
 fr:Ajp
 h:Ab
structure Hh where
 fn:Nat->Option Func
 T8:Nat->Option TypeDesc
 size:Nat->Option Nat
 zero:Nat->Option (List EV)
 agg:Nat->Option Bool
 eqs:Nat->Option (List Nat)
 key:Nat->Bool
abbrev Ai:=Nat->List EV->Ab->Option (EV × Ab)
def Bid:Value->Option EV
 | .int k n=>some (.int k n)
 | .bool b=>some (.bool b)
 | .string s=>some (.str s)
 | .pointer none=>some .Bu
 | .slice none 0 0=>some .Al
 | .map none=>some .Alq
 | .chan none=>some .Aev
 | .nilFunc=>some .Ahu
 | .nilIface=>some .Ab9
 | _=>none
def Bg5:List Value->Option (List EV)
 | []=>some []
 | v::r=>match Bid v with
  | some x=>match Bg5 r with
   | some y=>some (x::y)
   | none=>none
  | none=>none
def ofV:Value->Option EV
 | .agg cs=>match Bg5 cs.toList with|some l=>some (.agg l)|none=>none
 | .tuple cs=>match cs.toList with | []=>some (.tuple [])|_=>none
 | v=>Bid v
abbrev Bb:=Tr EV
def tmp(tm:Bb)(t:Nat):EV:=match tm.get t with|some v=>v|none=>.tuple []
def Cj(tm:Bb):Operand->Option EV
 | .tmp t=>some (match tm.get t with|some v=>v|none=>.tuple [])
 | .const v=>ofV v
 | .global _=>none
 | .func f=>some (.func f [] [])
def Mf(tm:Bb):List Operand->Option (List EV)
 | []=>some []
 | x::r=>match Cj tm x with
  | some a=>match Mf tm r with
   | some b=>some (a::b)
   | none=>none
  | none=>none
def Po(n:Nat)(tm:Bb)(d:Option Tmp)(v:EV):Bb:=
 match d with
 | none=>tm
 | some d=>Ax (Nat.ble (Nat.succ d) n) (tm.put d (some v)) tm
def len(l:List EV):Nat:=match l with | []=>0|_::r=>Nat.succ (len r)
def Zz:List EV->Nat->List EV
 | [],_=>[]
 | a::r,n=>Ax (Nat.beq n 0) (a::r) (Zz r (Nat.pred n))
def takeN:List EV->Nat->Option (List EV)
 | [],n=>Ax (Nat.beq n 0) (some []) none
 | a::r,n=>Ax (Nat.beq n 0) (some []) (match takeN r (Nat.pred n)with|some x=>some (a::x)|none=>none)
def Jf:List EV->List EV->Option (List EV)
 | l,[]=>some l
 | a::r,v::vs=>match Jf r vs with|some x=>some (v::x)|none=>none
 | [],_::_=>none
def Fm:List EV->Nat->List EV->Option (List EV)
 | [],off,vs=>Ax (Nat.beq off 0) (Jf [] vs) none
 | a::r,off,vs=>Ax (Nat.beq off 0) (Jf (a::r) vs) (match Fm r (Nat.pred off) vs with|some x=>some (a::x)|none=>none)
def Awm(ws:List (Nat × List EV))(off:Nat):Option (Nat × List EV):=
 match ws with
 | []=>none
 | (o,l)::r=>Ax (Ax (Nat.ble o off) (Nat.ble (Nat.succ (Nat.sub off o)) (len l)) false) (some (o,l)) (Awm r off)
def Iw(h:Ab)(i off n:Nat):Option (List EV):=
 match h.get i with
 | some (.cells l _)=>takeN (Zz l off) n
 | some (.vec l _ _)=>takeN (Zz l off) n
 | some (.view ws _)=>match Awm ws off with|some (o,l)=>takeN (Zz l (Nat.sub off o)) n|none=>none
 | _=>none
def Mc(h:Ab)(i off:Nat)(vs:List EV):Option Ab:=
 match h.get i with
 | some (.cells l t)=>match Fm l off vs with|some l'=>some (h.put i (.cells l' t))|none=>none
 | some (.vec l t s)=>match Fm l off vs with|some l'=>some (h.put i (.vec l' t s))|none=>none
 | _=>none
def lid:IntKind->Nat
 | .u8=>256 | .u16=>65536 | .u32=>4294967296 | .u64=>18446744073709551616 | .i8=>128 | .i16=>32768 | .i32=>2147483648 | .i64=>9223372036854775808
def floor:IntKind->Nat
 | .i8=>128 | .i16=>32768 | .i32=>2147483648 | .i64=>9223372036854775808|_=>0
def Cx(k:IntKind)(n:Int):Int:=
 match n with
 | .ofNat m=>Ax (Nat.ble (Nat.succ m) (lid k)) (.ofNat m) (k.wrap (.ofNat m))
 | .negSucc m=>Ax (Nat.ble (Nat.succ m) (floor k)) (.negSucc m) (k.wrap (.negSucc m))
def O2:IntKind->Nat
 | .u8=>0 | .u16=>1 | .u32=>2 | .u64=>3 | .i8=>4 | .i16=>5 | .i32=>6 | .i64=>7
def ltB:Int->Int->Bool
 | .ofNat a,.ofNat b=>Nat.ble (Nat.succ a) b
 | .ofNat _,.negSucc _=>false
 | .negSucc _,.ofNat _=>true
 | .negSucc a,.negSucc b=>Nat.ble (Nat.succ b) a
def eqB:Int->Int->Bool
 | .ofNat a,.ofNat b=>Nat.beq a b
 | .negSucc a,.negSucc b=>Nat.beq a b
 | _,_=>false
def Bj7:List UInt8->List UInt8->Bool
 | [],[]=>true
 | a::r,b::s=>Ax (Nat.beq a.toNat b.toNat) (Bj7 r s) false
 | _,_=>false
def Agv:EV->EV->Option Bool
 | .int k a,.int k' b=>Ax (Nat.beq (O2 k) (O2 k')) (some (eqB a b)) none
 | .str a,.str b=>some (Bj7 a.data.toList b.data.toList)
 | .bool a,.bool b=>some (Ax a b (Ax b false true))
 | _,_=>none
def Ey:List EV->List EV->Option Bool
 | [],[]=>some true
 | a::r,b::s=>match Agv a b with
  | some true=>Ey r s
  | some false=>match Ey r s with|some _=>some false|none=>none
  | none=>none
 | _,_=>none
def shaped:List Nat->List EV->Bool
 | [],[]=>true
 | b::s,.int _ _::l=>Ax (Nat.beq b 0) (shaped s l) false
 | b::s,.bool _::l=>Ax (Nat.beq b 1) (shaped s l) false
 | b::s,.str _::l=>Ax (Nat.beq b 2) (shaped s l) false
 | _,_=>false
def At4(T:Hh)(t:TypeId):EV->EV->Option Bool
 | .agg a,.agg b=>match T.eqs t with|some sh=>Ax (shaped sh a) (Ey a b) none|none=>none
 | .bool a,.bool b=>match T.T8 t with
  | some .bool=>some (Ax a b (Ax b false true))
  | _=>none
 | .Bu,.Bu=>match T.T8 t with|some (.pointer _)=>some true|_=>none
 | .Bu,.ptr _ _=>match T.T8 t with|some (.pointer _)=>some false|_=>none
 | .ptr _ _,.Bu=>match T.T8 t with|some (.pointer _)=>some false|_=>none
 | .ptr i o,.ptr j p=>match T.T8 t with|some (.pointer e)=>(match T.size e with|some _=>Ax (Nat.beq i j) (Ax (Nat.beq o p) (some true) none) none|none=>none)|_=>none
 | .Al,.Al=>match T.T8 t with|some (.slice _)=>some true|_=>none
 | .slice ..,.Al=>match T.T8 t with|some (.slice _)=>some false|_=>none
 | .tail ..,.Al=>match T.T8 t with|some (.slice _)=>some false|_=>none
 | _,_=>none
def Bjb(op:BinOp)(k:IntKind)(a b:Int):Option EV:=
 match op with
 | .add=>some (.int k (Cx k (Int.add a b)))
 | .sub=>some (.int k (Cx k (Int.sub a b)))
 | .mul=>some (.int k (Cx k (Int.mul a b)))
 | .quo=>Ax (eqB b 0) none (some (.int k (Cx k (a.tdiv b))))
 | .rem=>Ax (eqB b 0) none (some (.int k (a.tmod b)))
 | .and=>match a,b with | .ofNat a,.ofNat b=>some (.int k (Cx k (.ofNat (Nat.land a b))))|_,_=>none
 | .or=>match a,b with | .ofNat a,.ofNat b=>some (.int k (Cx k (.ofNat (Nat.lor a b))))|_,_=>none
 | .xor=>match a,b with | .ofNat a,.ofNat b=>some (.int k (Cx k (.ofNat (Nat.xor a b))))|_,_=>none
 | .lss=>some (.bool (ltB a b))
 | .leq=>some (.bool (Ax (ltB b a) false true))
 | .gtr=>some (.bool (ltB b a))
 | .geq=>some (.bool (Ax (ltB a b) false true))
 | .eql=>some (.bool (eqB a b))
 | .neq=>some (.bool (Ax (eqB a b) false true))
 | _=>none
def A58(op:BinOp)(k:IntKind)(a:Int)(b:Nat):Option EV:=
 match op with
 | .shl=>some (.int k (Cx k (Int.mul a (.ofNat (Nat.pow 2 (Ax (Nat.ble b k.bits) b k.bits))))))
 | .shr=>match a with
  | .ofNat a=>some (.int k (.ofNat (Nat.shiftRight a (Ax (Nat.ble b k.bits) b k.bits))))
  | .negSucc _=>some (.int k (a.fdiv (.ofNat (Nat.pow 2 (Ax (Nat.ble b k.bits) b k.bits)))))
 | _=>none
def Az1:BinOp->Bool
 | .shl=>true
 | .shr=>true
 | _=>false
def bin(T:Hh)(op:BinOp)(t:TypeId)(x y:EV):Option EV:=
 match x,y with
 | .int k a,.int k' b=>Ax (Az1 op) (match b with | .ofNat b=>A58 op k a b | .negSucc _=>none)
  (Ax (Nat.beq (O2 k) (O2 k')) (Bjb op k a b) none)
 | x,y=>match op with
  | .eql=>match At4 T t x y with|some b=>some (.bool b)|none=>none
  | .neq=>match At4 T t x y with|some b=>some (.bool (Ax b false true))|none=>none
  | _=>none
def fill(place:Nat->Option (Nat × Nat))(cells:List EV):List (Nat × EV)->Option (List EV)
 | []=>some cells
 | (i,v)::rest=>
  match place i with
  | none=>none
  | some (off,size)=>Ax (v.plain) (Ax (Nat.beq (len v.cells) size) (match Fm cells off v.cells with
   | some c=>fill place c rest
   | none=>none) none) none
def Zo(tm:Bb):List (Nat × Operand)->Option (List (Nat × EV))
 | []=>some []
 | (i,x)::r=>match Cj tm x with
  | some a=>match Zo tm r with
   | some b=>some ((i,a)::b)
   | none=>none
  | none=>none
def rep(l:List EV):Nat->List EV
 | 0=>[]
 | n+1=>l++rep l n
def bound(x:Option EV)(hi dflt:Nat):Option Nat:=
 match x with
 | none=>some dflt
 | some (.int _ (.ofNat n))=>Ax (Nat.ble n hi) (some n) none
 | _=>none
def slc(x:EV)(size:Nat)(lo hi d:Option EV):Option EV:=
 match x with
 | .slice i off len room op=>
  match d with
  | none=>
   match bound hi room len with
   | none=>none
   | some h=>match bound lo h 0 with
    | none=>none
    | some l=>
     Ax op
      (Ax (Nat.beq l 0) (some (.slice i off h room true))
       (Ax (Nat.ble (Nat.succ l) room) (some (.slice i (Nat.add off (Nat.mul l size)) (Nat.sub h l) (Nat.sub room l) true))
        (Ax (Nat.beq l room) (Ax (Nat.beq h l) (some (.tail i (Nat.add off (Nat.mul l size)) off)) none) none)))
      (Ax (Nat.ble l room) (some (.slice i (Ax (Nat.beq room l) off (Nat.add off (Nat.mul l size))) (Nat.sub h l) (Nat.sub room l) false)) none)
  | some _=>
   match bound d room 0,hi with
   | some m,some _=>match bound hi m 0 with
    | none=>none
    | some h=>match bound lo h 0 with
     | none=>none
     | some l=>some (.slice i (Ax (Nat.beq m l) off (Nat.add off (Nat.mul l size))) (Nat.sub h l) (Nat.sub m l) false)
   | _,_=>none
 | .Al=>
  match d with
  | none=>
   match bound hi 0 0 with
   | none=>none
   | some h=>match bound lo h 0 with
    | none=>none
    | some _=>some .Al
  | some _=>none
 | _=>none
def Abl(tm:Bb):Option Operand->Option (Option EV)
 | none=>some none
 | some x=>match Cj tm x with
  | some v=>some (some v)
  | none=>none
def lenOf:EV->Option Nat
 | .Al=>some 0
 | .slice _ _ n _ _=>some n
 | .tail ..=>some 0
 | .odd _=>some 0
 | _=>none
def cellsOf(h:Ab)(size n:Nat):EV->Option (List EV)
 | .Al=>Ax (Nat.beq n 0) (some []) none
 | .slice i off _ _ _=>Ax (Nat.beq n 0) (some []) (Iw h i off (Nat.mul n size))
 | .tail ..=>Ax (Nat.beq n 0) (some []) none
 | _=>none
def append(T:Hh)(st:TypeId)(s x:EV)(h:Ab):Option (EV × Ab):=
 match T.T8 st with
 | some (.slice e)=>match T.size e,T.zero e with
  | some size,some _=>match lenOf x with
   | some n=>Ax (Nat.beq n 0)
    (match s with
     | .slice _ _ d room _=>Ax (Nat.ble d room) (some (s,h)) none
     | .Al=>some (s,h)
     | _=>none)
    (Ax (Nat.ble n 65536) (match cellsOf h size n x with
    | some new=>
     (match s with
     | .Al=>some (.slice h.next 0 n n true,h.new (.vec new e size))
     | .slice i off d room op=>Ax (Nat.ble d 1048576) (match cellsOf h size d s with
      | some Cv=>
       Ax op
        (Ax (Nat.beq off 0) (Ax (Nat.beq room d) (match h.get i with
         | some (.vec l e' s')=>Ax (Nat.beq (len l) (Nat.mul d size)) (Ax (Nat.beq s' size) (Ax (Nat.beq e' e)
          (some (.slice h.next 0 (Nat.add d n) (Nat.add d n) true,(h.del i).new (.vec (Cv++new) e size))) none) none) none
         | _=>none) none) none)
        (Ax (Nat.ble (Nat.add d n) room) none (some (.slice h.next 0 (Nat.add d n) (Nat.add d n) true,h.new (.vec (Cv++new) e size))))
      | none=>none) none
     | _=>none)
    | none=>none) none)
   | none=>none
  | _,_=>none
 | _=>none
def Axg:EV->EV->Option Bool
 | .agg a,.agg b=>Ey a b
 | .int k a,.int k' b=>Ax (Nat.beq (O2 k) (O2 k')) (some (eqB a b)) none
 | _,_=>none
def Om(T:Hh)(t:TypeId):EV->Bool
 | .agg a=>Ax (T.key t) (match T.eqs t with
  | some sh=>Ax (shaped sh a) (match Ey a a with|some _=>true|none=>false) false
  | none=>false) false
 | .int k _=>match T.T8 t with
  | some (.int k')=>Nat.beq (O2 k) (O2 k')
  | _=>false
 | _=>false
def Hn(k:EV):List (EV × EV)->Nat->Option (Option (Nat × EV))
 | [],_=>some none
 | (a,b)::r,i=>match Axg k a with
  | some true=>some (some (i,b))
  | some false=>Hn k r (Nat.succ i)
  | none=>none
def Ac4(d:Bool)(k:IntKind)(a:Int):List EV->Option EV
 | []=>some (.int k a)
 | .int _ b::r=>Ac4 d k (Ax (Ax d (ltB a b) (ltB b a)) b a) r
 | _=>none
def Br2(l:List UInt8):Nat:=match l with | []=>0|_::r=>Nat.succ (Br2 r)
def builtin(T:Hh)(b:Builtin)(y:Array TypeId)(args:List EV)(h:Ab):Option (EV × Ab):=
 match b,args with
 | .append,[s,x]=>match y.toList with | [t,u]=>(match T.T8 u with|some (.slice _)=>append T t s x h|_=>none)|_=>none
 | .len,[x]=>match y.toList with
  | [t]=>match T.T8 t,x with
   | some (.array n _),_=>some (.int .i64 (.ofNat n),h)
   | some (.slice _),x=>match lenOf x with|some n=>some (.int .i64 (.ofNat n),h)|none=>none
   | some .string,.str s=>some (.int .i64 (.ofNat (Br2 s.data.toList)),h)
   | some (.chan ..),.chan i=>match h.get i with|some (.chan _ buf)=>some (.int .i64 (.ofNat (len buf)),h)|_=>none
   | _,_=>none
  | _=>none
 | .copy,[d,s]=>match y.toList with
  | [t,u]=>match T.T8 t,T.T8 u with
   | some (.slice e),some (.slice _)=>match T.size e,lenOf d,lenOf s with
    | some size,some dn,some A=>
     let n:=Ax (Nat.ble A dn) A dn
     Ax (Nat.beq n 0) none (match cellsOf h size n s with
     | some cs=>(match d with
      | .slice i off _ _ _=>match Mc h i off cs with|some h'=>some (.int .i64 (.ofNat n),h')|none=>none
      | _=>none)
     | none=>none)
    | _,_,_=>none
   | _,_=>none
  | _=>none
 | .delete,[m,k]=>match y.toList with
  | t::_=>match T.T8 t,m with
   | some (.map B _),.map i=>Ax (Om T B k) (match h.get i with
    | some (.map es)=>match Hn k es 0 with
     | some (some (j,_))=>some (.tuple [],h.put i (.map (es.eraseIdx j)))
     | some none=>some (.tuple [],h.put i (.map es))
     | none=>none
    | _=>none) none
   | _,_=>none
  | _=>none
 | .min,.int k a::l=>match Ac4 false k a l with|some v=>some (v,h)|none=>none
 | .max,.int k a::l=>match Ac4 true k a l with|some v=>some (v,h)|none=>none
 | _,_=>none
def part(T:Hh)(t:TypeId)(cs:List EV)(off:Nat):Option EV:=
 match T.agg t with
 | some true=>(match T.size t with
  | some n=>match takeN (Zz cs off) n with|some l=>some (.agg l)|none=>none
  | none=>none)
 | some false=>(match Zz cs off with|v::_=>some v | []=>none)
 | none=>none
def A6i(l:List Field)(i:Nat):Option Field:=
 match l with
 | []=>none
 | a::r=>Ax (Nat.beq i 0) (some a) (A6i r (Nat.pred i))
def zeroOf(T:Hh)(t:TypeId):Option EV:=
 match T.zero t with
 | some z=>match T.agg t with
  | some true=>some (.agg z)
  | some false=>(match z with | [v]=>some v|_=>none)
  | none=>none
 | none=>none
def placesOf(T:Hh):List Field->Option (List (Nat × Nat))
 | []=>some []
 | f::r=>match T.size f.type with
  | some n=>match placesOf T r with
   | some l=>some ((f.offset,n)::l)
   | none=>none
  | none=>none
def A36(l:List (Nat × Nat))(i:Nat):Option (Nat × Nat):=
 match l with
 | []=>none
 | a::r=>Ax (Nat.beq i 0) (some a) (A36 r (Nat.pred i))
def Bim(l:List UInt8)(i:Nat):Option UInt8:=
 match l with
 | []=>none
 | a::r=>Ax (Nat.beq i 0) (some a) (Bim r (Nat.pred i))
def E1(T:Hh)(tm:Bb)(op:Op):Option EV:=
 match op with
 | .move x=>Cj tm x
 | .assign x=>Cj tm x
 | .pick c a b=>match Cj tm c with
  | some (.bool true)=>Cj tm a
  | some (.bool false)=>Cj tm b
  | _=>none
 | .binOp op t x y _=>match Cj tm x with
  | some a=>match Cj tm y with
   | some b=>bin T op t a b
   | none=>none
  | none=>none
 | .unOp .not _ x=>match Cj tm x with
  | some (.bool b)=>some (.bool (Ax b false true))
  | _=>none
 | .unOp .neg _ x=>match Cj tm x with
  | some (.int k n)=>some (.int k (Cx k (Int.sub 0 n)))
  | _=>none
 | .nilCheck x=>match Cj tm x with
  | some (.ptr i o)=>some (.ptr i o)
  | _=>none
 | .fieldAddr s x f=>match Cj tm x with
  | some (.ptr i off)=>match T.T8 s with
   | some (.struct fields)=>match A6i fields.toList f with
    | some fd=>match T.size fd.type with
     | some n=>Ax (Nat.beq n 0) none (some (.ptr i (Nat.add off fd.offset)))
     | none=>none
    | none=>none
   | _=>none
  | _=>none
 | .indexAddr t x ix=>match Cj tm ix with
  | some (.int _ (.ofNat n))=>match T.T8 t,Cj tm x with
   | some (.array len e),some (.ptr i off)=>match T.size e with
    | some s=>Ax (Nat.ble (Nat.succ n) len) (some (.ptr i (Nat.add off (Nat.mul n s)))) none
    | none=>none
   | some (.slice e),some (.slice i off len _ _)=>match T.size e with
    | some s=>Ax (Nat.ble (Nat.succ n) len) (some (.ptr i (Nat.add off (Nat.mul n s)))) none
    | none=>none
   | _,_=>none
  | _=>none
 | .index t x ix=>match Cj tm ix with
  | some (.int _ (.ofNat n))=>match T.T8 t,Cj tm x with
   | some (.array len e),some (.agg cs)=>match T.size e with
    | some s=>Ax (Nat.ble (Nat.succ n) len) (part T e cs (Nat.mul n s)) none
    | none=>none
   | some .string,some (.str s)=>match Bim s.data.toList n with
    | some b=>some (.int .u8 (.ofNat b.toNat))
    | none=>none
   | _,_=>none
  | _=>none
 | .field t x f=>match T.T8 t,Cj tm x with
  | some (.struct fields),some (.agg cs)=>match A6i fields.toList f with
   | some fd=>part T fd.type cs fd.offset
   | none=>none
  | _,_=>none
 | .convert src dst x=>match T.T8 src,T.T8 dst,Cj tm x with
  | some _,some (.int k),some (.int _ n)=>some (.int k (Cx k n))
  | _,_,_=>none
 | .extract x ix=>match Cj tm x with
  | some (.tuple l)=>match Zz l ix with|v::_=>some v | []=>none
  | _=>none
 | .slice t x lo hi d=>
  match Abl tm lo,Abl tm hi,Abl tm d with
  | some lo,some hi,some d=>match T.T8 t,Cj tm x with
   | some (.array n e),some (.ptr i off)=>match T.size e with
    | some s=>slc (.slice i off n n false) s lo hi d
    | none=>none
   | some (.slice e),some v=>match T.size e with
    | some s=>slc v s lo hi d
    | none=>none
   | _,_=>none
  | _,_,_=>none
 | .build t ps=>match T.zero t,Zo tm ps.toList,T.T8 t with
  | some z,some l,some (.struct fields)=>match placesOf T fields.toList with
   | some ps=>match fill (A36 ps) z l with
    | some c=>some (.agg c)
    | none=>none
   | none=>none
  | some z,some l,some (.array _ e)=>match T.size e with
   | some s=>match fill (fun i=>some (Nat.mul i s,s)) z l with
    | some c=>some (.agg c)
    | none=>none
   | none=>none
  | _,_,_=>none
 | .makeFunc (.func f) first captured=>match Mf tm first.toList,Mf tm captured.toList with
  | some a,some b=>some (.func f a b)
  | _,_=>none
 | .sliceToArrayPointer t x=>match T.T8 t,Cj tm x with
  | some (.array n _),some (.slice i off len _ _)=>Ax (Nat.ble n len) (some (.ptr i off)) none
  | _,_=>none
 | _=>none
def isV:Op->Bool
 | .move _=>true | .assign _=>true | .pick ..=>true | .binOp ..=>true | .unOp ..=>true | .nilCheck _=>true | .fieldAddr ..=>true | .indexAddr ..=>true | .index ..=>true
 | .field ..=>true | .convert ..=>true | .extract ..=>true | .slice ..=>true | .build ..=>true | .makeFunc ..=>true | .sliceToArrayPointer ..=>true
 | _=>false
def Du(T:Hh)(tm:Bb)(op:Op)(h:Ab):Option (EV × Ab):=
 match op with
 | .load t a=>match Cj tm a with
  | some (.ptr i off)=>match T.agg t with
   | some true=>(match T.size t with
    | some n=>match Iw h i off n with|some l=>some (.agg l,h)|none=>none
    | none=>none)
   | some false=>(match Iw h i off 1 with|some [v]=>some (v,h)|_=>none)
   | none=>none
  | _=>none
 | .store t a x=>match Cj tm a,Cj tm x,T.size t with
  | some (.ptr i off),some v,some n=>Ax (v.plain) (Ax (Nat.beq (len v.cells) n)
   (match Mc h i off v.cells with|some h'=>some (.tuple [],h')|none=>none) none) none
  | _,_,_=>none
 | .alloc t=>match T.zero t with
  | some z=>some (.ptr h.next 0,h.new (.cells z t))
  | none=>none
 | .box t x=>match Cj tm x with
  | some v=>Ax v.plain (some (.ptr h.next 0,h.new (.cells v.cells t))) none
  | none=>none
 | .call { callee:=.builtin b,args,argTypes }=>match Mf tm args.toList with
  | some as=>builtin T b argTypes as h
  | none=>none
 | .buildSlice t n ps=>match T.T8 t,Zo tm ps.toList with
  | some (.slice e),some l=>match T.size e,T.zero e with
   | some s,some z=>Ax (Nat.ble (Nat.mul n s) 65536) (match fill (fun i=>some (Nat.mul i s,s)) (rep z n) l with
    | some c=>some (.slice h.next 0 n n false,h.new (.cells c e))
    | none=>none) none
   | _,_=>none
  | _,_=>none
 | .makeSlice t l c=>match T.T8 t,Cj tm l,Cj tm c with
  | some (.slice e),some (.int _ (.ofNat n)),some (.int _ (.ofNat m))=>match T.zero e with
   | some z=>Ax (Nat.ble n m) (Ax (Nat.ble m 65536) (some (.slice h.next 0 n m false,h.new (.cells (rep z m) e))) none) none
   | none=>none
  | _,_,_=>none
 | .makeMap _ none=>some (.map h.next,h.new (.map []))
 | .makeChan t s=>match T.T8 t,Cj tm s with
  | some (.chan _ e),some (.int _ (.ofNat n))=>match T.size e with
   | some _=>Ax (Nat.ble n 65536) (some (.chan h.next,h.new (.chan n []))) none
   | none=>none
  | _,_=>none
 | .lookup t x k ok=>match T.T8 t,Cj tm x,Cj tm k with
  | some (.map y e),some (.map i),some d=>Ax (Om T y d) (match h.get i with
   | some (.map es)=>match Hn d es 0 with
    | some (some (_,v))=>some (Ax ok (.tuple [v,.bool true]) v,h)
    | some none=>match zeroOf T e with
     | some u=>some (Ax ok (.tuple [u,.bool false]) u,h)
     | none=>none
    | none=>none
   | _=>none) none
  | _,_,_=>none
 | .mapUpdate t m k x=>match T.T8 t,Cj tm m,Cj tm k,Cj tm x with
  | some (.map y _),some (.map i),some d,some v=>Ax (Om T y d) (match h.get i with
   | some (.map es)=>match Hn d es 0 with
    | some (some (j,_))=>some (.tuple [],h.put i (.map (es.set j (d,v))))
    | some none=>some (.tuple [],h.put i (.map (es++[(d,v)])))
    | none=>none
   | _=>none) none
  | _,_,_,_=>none
 | .select cs false=>match cs.toList with
  | [c]=>match Cj tm c.chan,c.send with
   | some (.chan i),some x=>match h.get i,Cj tm x with
    | some (.chan cap buf),some v=>match zeroOf T c.elem with
     | some _=>Ax (Nat.ble (Nat.succ (len buf)) cap) (some (.tuple [.int .i64 0,.bool false],h.put i (.chan cap (buf++[v]))))
      (some (.tuple [.int .i64 (-1),.bool false],h))
     | none=>none
    | _,_=>none
   | some (.chan i),none=>match h.get i,zeroOf T c.elem with
    | some (.chan cap buf),some u=>
     match buf with
     | v::r=>some (.tuple [.int .i64 0,.bool true,v],h.put i (.chan cap r))
     | []=>some (.tuple [.int .i64 (-1),.bool false,u],h)
    | _,_=>none
   | _,_=>none
  | _=>none
 | _=>none
def setArgs:List EV->Nat->Tr EV->Tr EV
 | [],_,t=>t
 | v::r,i,t=>setArgs r (Nat.succ i) (t.put i (some v))
def Wz:List Tmp->List EV->Nat->Tr EV->Option (Tr EV)
 | [],[],_,t=>some t
 | p::r,v::s,n,t=>Wz r s n (Ax (Nat.ble (Nat.succ p) n) (t.put p (some v)) t)
 | _,_,_,_=>none
def enter(T:Hh)(f:Nat)(args:List EV):Option Ajp:=
 match T.fn f with
 | some { ntmps:=n,body:=some c,.. }=>Ax (Nat.ble (len args) n) (some ⟨f,n,setArgs args 0 .nil,[.code c],[],false,none⟩) none
 | _=>none
def Azs(l:List Oper)(i:Nat):Option Oper:=
 match l with
 | []=>none
 | a::r=>Ax (Nat.beq i 0) (some a) (Azs r (Nat.pred i))
def yielded(ops:List Oper)(tm:Bb)(j:Nat):Option Bool:=
 match Azs ops j with
 | some o=>match o.dst with
  | some d=>match tm.get d with
   | some (.bool b)=>some b
   | _=>none
  | none=>none
 | none=>none
def wanted(ops:List Oper)(tm:Bb)(g:Option (Nat × Bool)):Bool:=
 match g with
 | none=>true
 | some (j,want)=>match yielded ops tm j with|some b=>Ax b want (Ax want false true)|none=>false
def aop(T:Hh)(call round:Ai)(tm:Bb)(op:Op)(h:Ab):Option (EV × Ab):=
 Ax (isV op) (match E1 T tm op with|some v=>some (v,h)|none=>none)
  (match op with
  | .call { callee:=.value f,args,.. }=>match Cj tm f,Mf tm args.toList with
   | some (.func g first captured),some as=>call g (first++(as++captured)) h
   | some (.U1 l),some as=>round l as h
   | _,_=>none
  | op=>Du T tm op h)
def Ar9(T:Hh)(call round:Ai)(n:Nat)(ops:List Oper):List Oper->Bb->Ab->Option (Bb × Ab)
 | [],tm,h=>some (tm,h)
 | ⟨dst,op,_,_,_,g⟩::r,tm,h=>Ax (wanted ops tm g)
  (match aop T call round tm op h with
   | some (v,h')=>Ar9 T call round n ops r (Po n tm dst v) h'
   | none=>none)
  (Ar9 T call round n ops r (Po n tm dst (.tuple [])) h)
inductive Cls where
 | val|load|new|pur|sto|big
def Aw2:Op->Bool
 | .call { callee:=.builtin .len,.. }=>true
 | .call { callee:=.builtin .min,.. }=>true
 | .call { callee:=.builtin .max,.. }=>true
 | _=>false
def cls:Op->Cls
 | .load ..=>.load
 | .store ..=>.sto
 | .alloc _=>.new | .box ..=>.new | .buildSlice ..=>.new | .makeSlice ..=>.new | .makeMap ..=>.new | .makeChan ..=>.new
 | op=>Ax (isV op) .val (Ax (Aw2 op) .pur .big)
def Acb(e:Edge):Bool:=
 match e.ground with
 | .textOnly _=>false
 | .gcOnly _=>false
 | _=>true
def Aj1(bs:Tr Nat):List Edge->Nat->Nat
 | [],x=>x
 | e::r,x=>Aj1 bs r (Ax (Acb e) (Nat.lor x (Nat.lor (Nat.shiftLeft 1 e.on) (match bs.get e.on with|some y=>y|none=>0))) x)
def Ov:List Oper->Nat->Tr Nat->Tr Nat
 | [],_,bs=>bs
 | o::r,i,bs=>Ov r (Nat.succ i) (bs.put i (some (Aj1 bs o.after.toList 0)))
def Ae2:List Operand->Nat->Nat
 | [],x=>x
 | .tmp t::r,x=>Ae2 r (Nat.lor x (Nat.shiftLeft 1 t))
 | _::r,x=>Ae2 r x
def Ahz(o:Oper):Nat:=match o.dst with|some d=>Nat.shiftLeft 1 d|none=>0
def Aaa(ops:List Oper)(o:Oper):Nat:=
 Nat.lor (Ae2 o.op.operands.toList 0) (match o.guard with|some (j,_)=>(match Azs ops j with|some g=>Ahz g|none=>0)|none=>0)
def A6b(j d l e l' b:Nat):Bool:=
 Ax (Nat.beq (Nat.land b (Nat.shiftLeft 1 j)) 0) (Nat.beq (Nat.lor (Nat.land d (Nat.lor e l')) (Nat.land l e)) 0) true
def Awc(e l' b:Nat):List (Nat × Nat)->Nat->Bool
 | [],_=>true
 | (d,l)::r,j=>Ax (A6b j d l e l' b) (Awc e l' b r (Nat.succ j)) false
def Amo(ops:List Oper)(bs:Tr Nat):List Oper->Nat->List (Nat × Nat)->Bool
 | [],_,_=>true
 | o::r,i,ms=>match bs.get i with
  | some b=>Ax (Awc (Ahz o) (Aaa ops o) b ms 0) (Amo ops bs r (Nat.succ i) (ms++[(Ahz o,Aaa ops o)])) false
  | none=>false
def within(x b:Nat):Bool:=Nat.beq (Nat.land x b) x
def X7(b q:Nat):List (Nat × Nat)->Bool
 | []=>true
 | (m,w)::r=>Ax (Ax (within m b) true (Nat.ble (Nat.succ q) w)) (X7 b q r) false
def Te(b w:Nat):List (Nat × Nat)->Bool
 | []=>true
 | (m,q)::r=>Ax (Ax (within m b) true (Nat.ble (Nat.succ q) w)) (Te b w r) false
def loose(b:Nat):List (Nat × Nat)->List Nat
 | []=>[]
 | (m,q)::r=>Ax (within m b) (loose b r) (q::loose b r)
def Acx(t:Tr By):List Nat->Tr By
 | []=>t
 | q::r=>(Acx t r).put q none
def Ac3(t d:Tr By):List Nat->Tr By
 | []=>d
 | q::r=>(Ac3 t d r).put q (t.get q)
structure DSt where
 tm:Bb
 h:Ab
 bg:Nat
 nw:List (Nat × Nat)
 Cz:List (Nat × Nat)
 lou:List (Nat × Nat)
 st:List (Nat × Nat)
def E7(b q:Nat):List (Nat × Nat)->Bool
 | []=>true
 | (m,r)::l=>Ax (Ax (within m b) true (Ax (Nat.beq q r) false true)) (E7 b q l) false
def Ay2(b:Nat):List (Nat × Nat)->Bool
 | []=>true
 | (m,_)::l=>Ax (within m b) (Ay2 b l) false
def A2p(q:Nat):List Nat->Bool
 | []=>true
 | r::l=>Ax (Nat.beq q r) false (A2p q l)
def Wx(T:Hh)(call round:Ai)(n:Nat)(ops:List Oper)(bs:Tr Nat)(base:Nat)(o:Oper)(i:Nat)(s:DSt):Option DSt:=
 match o,s with
 | ⟨dst,op,_,_,_,g⟩,⟨tm,h,bg,nw,Cz,lou,st⟩=>Ax (wanted ops tm g)
  (match bs.get i with
  | none=>none
  | some b=>match cls op with
   | .val=>match E1 T tm op with
    | some v=>some ⟨Po n tm dst v,h,bg,nw,Cz,lou,st⟩
    | none=>none
   | .load=>match op with
    | .load t x=>match Cj tm x with
     | some (.ptr q _)=>
      Ax (Ax (E7 b q st) (Ax (Nat.ble (Nat.succ q) base) (X7 b q lou) (Ax (within bg b) (match loose b nw with | []=>true|_=>false) false)) false) (match Du T tm (.load t x) h with
      | some (v,_)=>some ⟨Po n tm dst v,h,bg,nw,(Nat.shiftLeft 1 i,q)::Cz,lou,st⟩
      | none=>none) none
     | _=>none
    | _=>none
   | .new=>match Du T tm op h with
    | some (v,h')=>some ⟨Po n tm dst v,h',bg,(Nat.shiftLeft 1 i,h.next)::nw,Cz,lou,st⟩
    | none=>none
   | .sto=>match op with
    | .store t a x=>match Cj tm a with
     | some (.ptr q _)=>
      Ax (Ax (within bg b) (Ax (E7 b q st) (Ax (E7 b q Cz) (A2p q (loose b nw)) false) false) false) (match Du T tm (.store t a x) h with
      | some (v,h')=>some ⟨Po n tm dst v,h',bg,nw,Cz,lou,(Nat.shiftLeft 1 i,q)::st⟩
      | none=>none) none
     | _=>none
    | _=>none
   | .pur=>match Du T tm op ⟨.nil,h.next,h.next⟩with
    | some (v,_)=>some ⟨Po n tm dst v,h,bg,nw,Cz,lou,st⟩
    | none=>none
   | .big=>Ax (Ax (within bg b) (Ay2 b st) false) (match h with
    | ⟨t,nx,mw⟩=>match aop T call round tm op ⟨Acx t (loose b nw),nx,nx⟩with
     | some (v,⟨e,d,mw'⟩)=>
      Ax (Nat.ble nx mw')
       (some ⟨Po n tm dst v,⟨Ac3 t e (loose b nw),d,mw⟩,Nat.lor bg (Nat.shiftLeft 1 i),nw,Cz,lou,st⟩)
       (Ax (Te b mw' Cz)
        (some ⟨Po n tm dst v,⟨Ac3 t e (loose b nw),d,Ax (Nat.ble mw mw') mw mw'⟩,Nat.lor bg (Nat.shiftLeft 1 i),nw,Cz,(Nat.shiftLeft 1 i,mw')::lou,st⟩)
        none)
     | none=>none) none)
  (some ⟨Po n tm dst (.tuple []),h,bg,nw,Cz,lou,st⟩)
def Ta(T:Hh)(call round:Ai)(n:Nat)(ops:List Oper)(bs:Tr Nat)(base:Nat):List Oper->Nat->DSt->Option DSt
 | [],_,s=>some s
 | o::r,i,s=>match Wx T call round n ops bs base o i s with
  | some s'=>Ta T call round n ops bs base r (Nat.succ i) s'
  | none=>none
def Bez(i:Nat):List Edge->Bool
 | []=>true
 | e::r=>Ax (Ax (Acb e) (Nat.ble (Nat.succ e.on) i) true) (Bez i r) false
def Ao5:List Oper->Nat->Bool
 | [],_=>true
 | o::r,i=>Ax (Bez i o.after.toList) (Ao5 r (Nat.succ i)) false
def Asc(T:Hh)(call round:Ai)(n:Nat)(ops:List Oper)(tm:Bb)(h:Ab):Option (Bb × Ab):=
 Ax (Ao5 ops 0) (Ax (Amo ops (Ov ops 0 .nil) ops 0 []) (match Ta T call round n ops (Ov ops 0 .nil) h.next ops 0 ⟨tm,h,0,[],[],[],[]⟩with
  | some ⟨d,h',_,_,_,_,_⟩=>some (d,h')
  | none=>none) none) none
def Mo(T:Hh)(tm:Bb)(h:Ab):List ResultVar->Option (List EV)
 | []=>some []
 | .tmp t::r=>match Mo T tm h r with|some l=>some (tmp tm t::l)|none=>none
 | .cell a t::r=>match tmp tm a,Mo T tm h r,T.size t with
  | .ptr i off,some l,some n=>match Iw h i off n with
   | some cs=>match T.agg t with
    | some true=>some (.agg cs::l)
    | some false=>(match cs with | [v]=>some (v::l)|_=>none)
    | none=>none
   | none=>none
  | _,_,_=>none
inductive AR where
 | go (s:He)
 | done (v:EV) (h:Ab)
 | fail
def leave(fn n:Nat)(tm:Bb)(todo:List Item)(defers:List Nat)(Dt:Option Nat)(h:Ab)(jump:Option Code):AR:=
 match Dt with
 | none=>match jump with
  | none=>.go ⟨⟨fn,n,tm,todo,defers,true,Dt⟩,h⟩
  | some .ret=>.go ⟨⟨fn,n,tm,todo,defers,true,Dt⟩,h⟩
  | some _=>.fail
 | some l=>match h.get l with
  | some (.loop _ _ f n tm ps asg body d)=>
   match jump with
   | none=>.done (.bool true) (h.put l (.loop .ready none f n tm ps asg body d))
   | some c=>.done (.bool false) (h.put l (.loop .done (some c) f n tm ps asg body d))
  | _=>.fail
def behind(fn n:Nat)(tm:Bb)(defers:List Nat)(Dt:Option Nat)(l:Nat)(k:List Item)(r:Option (EV × Ab)):AR:=
 match r with
 | none=>.fail
 | some (_,h)=>match h.get l with
  | some (.loop st p f j e ps asg body d)=>match st with
   | .busy=>.fail
   | _=>.go ⟨⟨fn,n,tm,(match p with|some c=>.code c::k|none=>k),defers,false,Dt⟩,h.put l (.loop .exhausted p f j e ps asg body d)⟩
  | _=>.fail
def Cq(T:Hh)(call round:Ai):He->AR
 | ⟨⟨fn,n,tm,todo,defers,true,Dt⟩,h⟩=>match defers with
  | d::ds=>match h.get d with
   | some (.deferred true)=>.go ⟨⟨fn,n,tm,todo,ds,true,Dt⟩,h.put d (.deferred false)⟩
   | _=>.fail
  | []=>match T.fn fn with
   | some f=>match Mo T tm h f.results.toList with
    | some [v]=>.done v h
    | some l=>.done (.tuple l) h
    | none=>.fail
   | none=>.fail
 | ⟨⟨fn,n,tm,todo,defers,false,Dt⟩,h⟩=>
  match todo with
  | []=>leave fn n tm todo defers Dt h none
  | .code c::k=>match c with
   | .region _ ops false=>match Ar9 T call round n ops.toList ops.toList tm h with
    | some (e,h')=>.go ⟨⟨fn,n,e,k,defers,false,Dt⟩,h'⟩
    | none=>.fail
   | .region _ ops true=>match Asc T call round n ops.toList tm h with
    | some (e,h')=>.go ⟨⟨fn,n,e,k,defers,false,Dt⟩,h'⟩
    | none=>.fail
   | .seq a b=>.go ⟨⟨fn,n,tm,.code a :: .code b::k,defers,false,Dt⟩,h⟩
   | .skip=>.go ⟨⟨fn,n,tm,k,defers,false,Dt⟩,h⟩
   | .cond c a b=>match Cj tm c with
    | some (.bool true)=>.go ⟨⟨fn,n,tm,.code a::k,defers,false,Dt⟩,h⟩
    | some (.bool false)=>.go ⟨⟨fn,n,tm,.code b::k,defers,false,Dt⟩,h⟩
    | _=>.fail
   | .block id c=>.go ⟨⟨fn,n,tm,.code c :: .inBlock id::k,defers,false,Dt⟩,h⟩
   | .loop c=>.go ⟨⟨fn,n,tm,.code c :: .inLoop c::k,defers,false,Dt⟩,h⟩
   | .label _=>.go ⟨⟨fn,n,tm,k,defers,false,Dt⟩,h⟩
   | .exit id=>match exitTo id k with
    | some k'=>.go ⟨⟨fn,n,tm,k',defers,false,Dt⟩,h⟩
    | none=>leave fn n tm todo defers Dt h (some (.exit id))
   | .ret=>leave fn n tm todo defers Dt h (some .ret)
   | .rangeFunc f params asg body=>
    match Cj tm f with
    | some (.func g first captured)=>
     match Dt with
     | none=>
      behind fn n tm (h.next::defers) Dt (Nat.succ h.next) k (call g (first++(.U1 (Nat.succ h.next)::captured)) ((h.new (.deferred true)).new (.loop .ready none fn n tm params.toList asg body h.next)))
     | some l0=>match h.get l0 with
      | some (.loop _ _ _ _ _ _ _ _ d)=>
       behind fn n tm defers Dt h.next k (call g (first++(.U1 h.next::captured)) (h.new (.loop .ready none fn n tm params.toList asg body d)))
      | _=>.fail
    | _=>.fail
   | _=>.fail
  | .inBlock _::k=>.go ⟨⟨fn,n,tm,k,defers,false,Dt⟩,h⟩
  | .inLoop c::k=>.go ⟨⟨fn,n,tm,.code c :: .inLoop c::k,defers,false,Dt⟩,h⟩
  | .beginRound::k=>match Dt with
   | some l=>match h.get l with
    | some (.loop .ready p f j e ps asg body d)=>.go ⟨⟨fn,n,tm,k,defers,false,Dt⟩,h.put l (.loop .busy p f j e ps asg body d)⟩
    | _=>.fail
   | none=>.fail
  | _=>.fail
def Alw(l:Nat)(args:List EV)(h:Ab):Option Ajp:=
 match h.get l with
 | some (.loop _ _ f n tm ps asg body _)=>match Wz ps args n tm with
  | some d=>some ⟨f,n,d,[.code asg,.beginRound,.code body],[],false,some l⟩
  | none=>none
 | _=>none
end
variable {h h' h1 h2:Ab}{v:EV}{tm:Bb}{vs:List EV}{hi lo:Option EV}{o o':By}{ws:List (Nat × List EV)}{T:Hh}
section
section Ax
@[simp] theorem Aj(x y:α):Ax true x y=x:=rfl
@[simp] theorem Bc(x y:α):Ax false x y=y:=rfl
theorem Bn(b:Bool)(x y:α):Ax b x y=if b=true then x else y:=by cases b<;>rfl
theorem Aq{x:Option α}{r:α}(h:Ax b x none=some r):b=true/\x=some r:=by cases b<;>simp_all [Bn]
theorem Tw{x:Option α}{r:α}(h:Ax b none x=some r):b=false/\x=some r:=by cases b<;>simp_all [Bn]
end Ax
theorem X0 {a b:Nat}(h:a<=b):Nat.ble a b=true:=aO h
theorem Aap {a b:Nat}(h:¬a<=b):Nat.ble a b=false:=Bool.eq_false_iff.2 fun e=>h (bB e)
theorem beq_false {a b:Nat}(h:a≠b):Nat.beq a b=false:=Bool.eq_false_iff.2 fun e=>h (aL e)
section tree
theorem Tr.get_nil(i:Nat):(Tr.nil:Tr α).get i=none:=rfl
theorem Tr.Su(l r:Tr α)(v:Option α)(i:Nat):(Tr.node l v r).get i=if i=0 then v else if i%2=1 then l.get (i/2)else r.get (i/2-1):=by
 have e:(Tr.node l v r).get i=Ax (Nat.beq i 0) v (Ax (Nat.beq (Nat.land i 1) 1) (l.get (Nat.div i 2)) (r.get (Nat.pred (Nat.div i 2)))):=rfl;have e2:Nat.land i 1=i%2:=eX i;rw[e,Bn,Bn,e2];simp only[Nat.beq_eq];rfl
theorem Tr.set_nil(n i:Nat)(v:Option α):Tr.set (n+1) (.nil:Tr α) i v =
 Ax (Nat.beq i 0) (.node .nil v .nil) (Ax (Nat.beq (Nat.land i 1) 1) (Tr.lf none .nil (Tr.set n .nil (Nat.div i 2) v)) (Tr.rt .nil none (Tr.set n .nil (Nat.pred (Nat.div i 2)) v))):=rfl
theorem Tr.Agp(n i:Nat)(l r:Tr α)(x v:Option α):Tr.set (n+1) (.node l x r) i v =
 Ax (Nat.beq i 0) (.node l v r) (Ax (Nat.beq (Nat.land i 1) 1) (Tr.lf x r (Tr.set n l (Nat.div i 2) v)) (Tr.rt l x (Tr.set n r (Nat.pred (Nat.div i 2)) v))):=rfl
theorem Tr.Bfg(x:Option α)(r a c:Tr α)(b:Option α):Tr.lf x r (.node a b c)=.node (.node a b c) x r:=rfl
theorem Tr.Bf2(x:Option α)(l a c:Tr α)(b:Option α):Tr.rt l x (.node a b c)=.node l x (.node a b c):=rfl
theorem Tr.Th:∀(n:Nat) (t:Tr α) (i:Nat) (v:Option α),i+1<2^n->∃a b c,Tr.set n t i v=.node a b c
 | 0,_,i,_,h=>by simp at h
 | n+1,t,i,v,h=>by
  have e2:Nat.land i 1=i%2:=eX i;rw[dU]at h;by_cases h0:i=0
  ·subst h0
   cases t with
   | nil=>exact⟨_,_,_,rfl⟩
   | node l x r=>exact⟨_,_,_,rfl⟩
  ·have b0:Nat.beq i 0=false:=by cases hb:Nat.beq i 0 with|false=>rfl|true=>exact absurd (aL hb) h0
   by_cases h1:i%2=1
   ·have b1:Nat.beq (i%2) 1=true:=by rw[h1];rfl
    cases t with
    | nil=>
     obtain⟨a,b,c,e⟩:=Tr.Th n (.nil:Tr α) (i/2) v (by omega);exact⟨_,_,_,by rw[Tr.set_nil,b0,Bc,e2,b1,Aj];exact congrArg (Tr.lf none .nil) e⟩
    | node l x r=>
     obtain⟨a,b,c,e⟩:=Tr.Th n l (i/2) v (by omega);exact⟨_,_,_,by rw[Tr.Agp,b0,Bc,e2,b1,Aj];exact congrArg (Tr.lf x r) e⟩
   ·have b1:Nat.beq (i%2) 1=false:=by cases hb:Nat.beq (i%2) 1 with|false=>rfl|true=>exact absurd (aL hb) h1
    cases t with
    | nil=>
     obtain⟨a,b,c,e⟩:=Tr.Th n (.nil:Tr α) (i/2-1) v (by omega);exact⟨_,_,_,by rw[Tr.set_nil,b0,Bc,e2,b1,Bc];exact congrArg (Tr.rt .nil none) e⟩
    | node l x r=>
     obtain⟨a,b,c,e⟩:=Tr.Th n r (i/2-1) v (by omega);exact⟨_,_,_,by rw[Tr.Agp,b0,Bc,e2,b1,Bc];exact congrArg (Tr.rt l x) e⟩
theorem Tr.Aw3:∀(n:Nat) (t:Tr α) (i:Nat) (v:Option α) (j:Nat),i+1<2^n->(Tr.set n t i v).get j=if i=j then v else t.get j
 | 0,_,i,_,_,h=>by simp at h
 | n+1,t,i,v,j,h=>by
  have e2:Nat.land i 1=i%2:=eX i;rw[dU]at h;by_cases h0:i=0
  ·subst h0
   cases t with
   | nil=>
    rw[Tr.set_nil,show Nat.beq 0 0=true from rfl,Aj,Tr.Su];by_cases hj:j=0
    ·simp[hj]
    ·rw[aM hj,aM (cT hj)];simp only[Tr.get_nil,ite_self]
   | node l x r=>
    rw[Tr.Agp,show Nat.beq 0 0=true from rfl,Aj,Tr.Su,Tr.Su];by_cases hj:j=0
    ·simp[hj]
    ·rw[aM hj,aM (cT hj),aM hj]
  ·have b0:Nat.beq i 0=false:=by cases hb:Nat.beq i 0 with|false=>rfl|true=>exact absurd (aL hb) h0
   by_cases h1:i%2=1
   ·have b1:Nat.beq (i%2) 1=true:=by rw[h1];rfl
    have hs:i/2+1<2^n:=by omega
    cases t with
    | nil=>
     obtain⟨a,b,c,e⟩:=Tr.Th n (.nil:Tr α) (i/2) v hs;have m:=Tr.Aw3 n (.nil:Tr α) (i/2) v (j/2) hs;rw[e]at m;have e':Tr.set n (.nil:Tr α) (Nat.div i 2) v=.node a b c:=e;rw[Tr.set_nil,b0,Bc,e2,b1,Aj,e',Tr.Bfg,Tr.Su];by_cases hj:j=0
     ·subst hj;simp[h0,Tr.get_nil]
     ·rw[aM hj]
      by_cases d:j%2=1
      ·rw[aQ d,m]
       by_cases he:i=j
       ·subst he;simp
       ·rw[aM he,aM (by omega)];rfl
      ·rw[aM d,aM (by rintro rfl;exact d h1)];rfl
    | node l x r=>
     obtain⟨a,b,c,e⟩:=Tr.Th n l (i/2) v hs;have m:=Tr.Aw3 n l (i/2) v (j/2) hs;rw[e]at m;have e':Tr.set n l (Nat.div i 2) v=.node a b c:=e;rw[Tr.Agp,b0,Bc,e2,b1,Aj,e',Tr.Bfg,Tr.Su,Tr.Su l r x j];by_cases hj:j=0
     ·subst hj;simp[h0]
     ·rw[aM hj,aM hj]
      by_cases d:j%2=1
      ·rw[aQ d,aQ d,m]
       by_cases he:i=j
       ·subst he;simp
       ·rw[aM he,aM (by omega)]
      ·rw[aM d,aM d,aM (by rintro rfl;exact d h1)]
   ·have b1:Nat.beq (i%2) 1=false:=by cases hb:Nat.beq (i%2) 1 with|false=>rfl|true=>exact absurd (aL hb) h1
    have hs:i/2-1+1<2^n:=by omega
    cases t with
    | nil=>
     obtain⟨a,b,c,e⟩:=Tr.Th n (.nil:Tr α) (i/2-1) v hs;have m:=Tr.Aw3 n (.nil:Tr α) (i/2-1) v (j/2-1) hs;rw[e]at m;have e':Tr.set n (.nil:Tr α) (Nat.pred (Nat.div i 2)) v=.node a b c:=e;rw[Tr.set_nil,b0,Bc,e2,b1,Bc,e',Tr.Bf2,Tr.Su];by_cases hj:j=0
     ·subst hj;simp[h0,Tr.get_nil]
     ·rw[aM hj]
      by_cases d:j%2=1
      ·rw[aQ d,aM (by rintro rfl;exact h1 d)];rfl
      ·rw[aM d,m]
       by_cases he:i=j
       ·subst he;simp
       ·rw[aM he,aM (by omega)];rfl
    | node l x r=>
     obtain⟨a,b,c,e⟩:=Tr.Th n r (i/2-1) v hs;have m:=Tr.Aw3 n r (i/2-1) v (j/2-1) hs;rw[e]at m;have e':Tr.set n r (Nat.pred (Nat.div i 2)) v=.node a b c:=e;rw[Tr.Agp,b0,Bc,e2,b1,Bc,e',Tr.Bf2,Tr.Su,Tr.Su l r x j];by_cases hj:j=0
     ·subst hj;simp[h0]
     ·rw[aM hj,aM hj]
      by_cases d:j%2=1
      ·rw[aQ d,aQ d,aM (by rintro rfl;exact h1 d)]
      ·rw[aM d,aM d,m]
       by_cases he:i=j
       ·subst he;simp
       ·rw[aM he,aM (by omega)]
theorem Tr.get_put(t:Tr α)(i:Nat)(v:Option α)(j:Nat):(t.put i v).get j=if i=j then v else t.get j:=
 Tr.Aw3 _ t i v j Nat.lt_log2_self
theorem Tr.Ae(t:Tr α)(i:Nat)(v:Option α):(t.put i v).get i=v:=by rw[Tr.get_put,aQ rfl]
theorem Tr.Af(t:Tr α){j:Nat}(v:Option α)(h:i≠j):(t.put i v).get j=t.get j:=by rw[Tr.get_put,aM h]
end tree
structure Loc where
 b:Nat->Nat
 sp:Nat->Nat
mutual
def Cp(f:Loc):EV->Value
 | .int k n=>.int k n
 | .bool b=>.bool b
 | .str s=>.string s
 | .ptr i off=>.pointer (some ⟨f.b i,off,none⟩)
 | .Bu=>.pointer none
 | .slice i off len room op=>.slice (some ⟨f.b i,off,none⟩) len (if op=true then room+f.sp i else room)
 | .tail i off poff=>.slice (some ⟨f.b i,if f.sp i=0 then poff else off,none⟩) 0 (f.sp i)
 | .Al=>.slice none 0 0
 | .odd a=>.slice (some a) 0 0
 | .map i=>.map (some (f.b i))
 | .Alq=>.map none
 | .chan i=>.chan (some (f.b i))
 | .Aev=>.chan none
 | .func g a c=>.func (.func g) (Bp f a).toArray (Bp f c).toArray
 | .U1 l=>.func (.yield (f.b l)) #[] #[]
 | .Ahu=>.nilFunc
 | .Ab9=>.nilIface
 | .agg l=>.agg (Bp f l).toArray
 | .tuple l=>.tuple (Bp f l).toArray
def Bp(f:Loc):List EV->List Value
 | []=>[]
 | v::r=>Cp f v::Bp f r
end
theorem O6(f:Loc):∀l:List EV,Bp f l=l.map (Cp f)
 | []=>rfl
 | v::r=>by rw[Bp,O6 f r];rfl
theorem Cs(f:Loc)(l:List EV):(Bp f l).length=l.length:=by rw[O6,bZ]
theorem Sy(f:Loc)(a b:List EV):Bp f (a++b)=Bp f a++Bp f b:=by simp only[O6,bm]
def EV.one:EV->Bool
 | .agg _=>false
 | .tuple _=>false
 | _=>true
theorem A8r(f:Loc)(v:EV)(h:v.one=true):(Cp f v).oneCell'=true:=by
 cases v<;>first|rfl|(simp[EV.one]at h)
theorem Yg(f:Loc)(l:List EV)(h:∀v∈l,v.one=true):∀x∈Bp f l,x.oneCell'=true:=by
 intro x d;rw[O6,cY]at d;obtain⟨v,e,rfl⟩:=d;exact A8r f v (h v e)
mutual
def EV.ok(p:Nat->Prop):EV->Prop
 | .ptr i _=>p i
 | .slice i _ _ _ _=>p i
 | .tail i _ _=>p i
 | .map i=>p i
 | .chan i=>p i
 | .U1 l=>p l
 | .func _ a c=>EV.Tn p a/\EV.Tn p c
 | .agg l=>EV.Tn p l/\l.all EV.one=true
 | .tuple l=>EV.Tn p l
 | _=>True
def EV.Tn(p:Nat->Prop):List EV->Prop
 | []=>True
 | v::r=>EV.ok p v/\EV.Tn p r
end
theorem Ho(p:Nat->Prop):∀l:List EV,EV.Tn p l↔∀v∈l,v.ok p
 | []=>by simp[EV.Tn]
 | v::r=>by rw[EV.Tn,Ho p r];simp
def Loc.agree(p:Nat->Prop)(f g:Loc):Prop:=∀i,p i->f.b i=g.b i/\f.sp i=g.sp i
theorem Loc.Amq(p:Nat->Prop)(f:Loc):Loc.agree p f f:=fun _ _=>⟨rfl,rfl⟩
theorem Loc.agree.trans{f g h:Loc}(a:Loc.agree p f g)(b:Loc.agree p g h):Loc.agree p f h:=fun i hi=>⟨(a i hi).1.trans (b i hi).1,(a i hi).2.trans (b i hi).2⟩
theorem Loc.agree.mono{f g:Loc}(a:Loc.agree p f g)(h:∀i,q i->p i):Loc.agree q f g:=fun i hi=>a i (h i hi)
mutual
theorem Afc{f g:Loc}(d:Loc.agree p f g):∀v:EV,v.ok p->Cp f v=Cp g v
 | .int _ _,_=>rfl
 | .bool _,_=>rfl
 | .str _,_=>rfl
 | .ptr i off,h=>by simp only[Cp];rw[(d i h).1]
 | .Bu,_=>rfl
 | .slice i off len room op,h=>by simp only[Cp];rw[(d i h).1,(d i h).2]
 | .tail i off poff,h=>by simp only[Cp];rw[(d i h).1,(d i h).2]
 | .Al,_=>rfl
 | .odd _,_=>rfl
 | .map i,h=>by simp only[Cp];rw[(d i h).1]
 | .Alq,_=>rfl
 | .chan i,h=>by simp only[Cp];rw[(d i h).1]
 | .Aev,_=>rfl
 | .func a b c,h=>by simp only[Cp];rw[Fv d b h.1,Fv d c h.2]
 | .U1 l,h=>by simp only[Cp];rw[(d l h).1]
 | .Ahu,_=>rfl
 | .Ab9,_=>rfl
 | .agg l,h=>by simp only[Cp];rw[Fv d l h.1]
 | .tuple l,h=>by simp only[Cp];rw[Fv d l h]
theorem Fv{f g:Loc}(d:Loc.agree p f g):∀l:List EV,EV.Tn p l->Bp f l=Bp g l
 | [],_=>rfl
 | v::r,h=>by simp only[Bp];rw[Afc d v h.1,Fv d r h.2]
end
mutual
theorem EV.ok.mono(d:∀i,p i->q i):∀v:EV,v.ok p->v.ok q
 | .int _ _,_=>trivial
 | .bool _,_=>trivial
 | .str _,_=>trivial
 | .ptr i _,h=>d i h
 | .Bu,_=>trivial
 | .slice i _ _ _ _,h=>d i h
 | .tail i _ _,h=>d i h
 | .Al,_=>trivial
 | .odd _,_=>trivial
 | .map i,h=>d i h
 | .Alq,_=>trivial
 | .chan i,h=>d i h
 | .Aev,_=>trivial
 | .func _ b c,h=>⟨EV.Tn.mono d b h.1,EV.Tn.mono d c h.2⟩
 | .U1 l,h=>d l h
 | .Ahu,_=>trivial
 | .Ab9,_=>trivial
 | .agg l,h=>⟨EV.Tn.mono d l h.1,h.2⟩
 | .tuple l,h=>EV.Tn.mono d l h
theorem EV.Tn.mono(d:∀i,p i->q i):∀l:List EV,EV.Tn p l->EV.Tn q l
 | [],_=>trivial
 | v::r,h=>⟨EV.ok.mono d v h.1,EV.Tn.mono d r h.2⟩
end
theorem U5(h:v.ok p)(d:v.plain=true):EV.Tn p v.cells/\∀x∈v.cells,x.one=true:=by
 cases v with
 | tuple l=>simp[EV.plain]at d
 | agg l=>obtain⟨h1,h2⟩:=h;exact⟨h1,by simpa [EV.cells]using h2⟩
 | _=>exact⟨⟨h,trivial⟩,by simp[EV.cells,EV.one]⟩
theorem Ts(f:Loc)(v:EV):(Cp f v).cells=(Bp f v.cells).toArray:=by
 cases v<;>rfl
theorem Bak(f:Loc){v:Value}{x:EV}(h:Bid v=some x):Cp f x=v:=by
 unfold Bid at h;split at h<;>first|(cases h;rfl)|(cases h)
theorem Bgj(p:Nat->Prop){v:Value}{x:EV}(h:Bid v=some x):x.ok p/\x.one=true:=by
 unfold Bid at h;split at h<;>first|(cases h;exact⟨trivial,rfl⟩)|(cases h)
theorem A4z(f:Loc):∀{l:List Value} {xs:List EV},Bg5 l=some xs->Bp f xs=l
 | [],_,h=>by cases h;rfl
 | v::r,_,h=>by
  unfold Bg5 at h;split at h
  ·rename_i x d
   split at h
   ·rename_i y e
    cases h;rw[Bp,Bak f d,A4z f e]
   ·cases h
  ·cases h
theorem Bgh(p:Nat->Prop):∀{l:List Value} {xs:List EV},Bg5 l=some xs->EV.Tn p xs/\xs.all EV.one=true
 | [],_,h=>by cases h;exact⟨trivial,rfl⟩
 | v::r,_,h=>by
  unfold Bg5 at h;split at h
  ·rename_i x d
   split at h
   ·rename_i y e
    cases h;have h1:=Bgj p d;have h2:=Bgh p e;exact⟨⟨h1.1,h2.1⟩,by simp[h1.2];simpa using h2.2⟩
   ·cases h
  ·cases h
theorem Bgn(f:Loc){v:Value}{x:EV}(h:ofV v=some x):Cp f x=v:=by
 unfold ofV at h;split at h
 ·rename_i cs
  split at h
  ·rename_i l d
   cases h;rw[Cp,A4z f d]
  ·cases h
 ·rename_i cs
  split at h
  ·rename_i d
   cases h;rw[Cp,Bp];congr 1;apply dR;simpa using d.symm
  ·cases h
 ·exact Bak f h
theorem Bes(p:Nat->Prop){v:Value}{x:EV}(h:ofV v=some x):x.ok p:=by
 unfold ofV at h;split at h
 ·split at h
  ·rename_i l d
   cases h;exact Bgh p d
  ·cases h
 ·split at h
  ·cases h;trivial
  ·cases h
 ·exact(Bgj p h).1
noncomputable def Bh(f:Loc)(n:Nat)(tm:Bb):Array Value:=((List.range n).map fun t=>Cp f (tmp tm t)).toArray
structure Lh(p:Nat->Prop)(n:Nat)(tm:Bb):Prop where
 ok:∀t v,tm.get t=some v->v.ok p
 out:∀t,n<=t->tm.get t=none
theorem Lh.tmp(h:Lh p n tm)(t:Nat):(tmp tm t).ok p:=by
 unfold Go.Ev.tmp;split
 ·rename_i v d;exact h.ok t v d
 ·trivial
theorem Lh.mono(h:Lh p n tm)(d:∀i,p i->q i):Lh q n tm:=⟨fun t v e=>EV.ok.mono d v (h.ok t v e),h.out⟩
theorem A8w(f:Loc)(n:Nat)(tm:Bb):(Bh f n tm).size=n:=by simp[Bh]
theorem Afn(f:Loc)(n:Nat)(tm:Bb)(t:Nat):(Bh f n tm)[t]? = if t<n then some (Cp f (tmp tm t))else none:=by
 unfold Bh;simp only[bU,bA];by_cases h:t<n
 ·simp[h]
 ·simp[h,cF (l:=List.range n) (i:=t) (by simp;omega)]
theorem Ace(f:Loc)(h:Lh p n tm)(t:Nat):(Bh f n tm).getD t undef=Cp f (tmp tm t):=by
 rw[eG,Afn];by_cases d:t<n
 ·simp[d]
 ·have:tmp tm t=.tuple []:=by unfold tmp;rw[h.out t (by omega)]
  simp[d,this,Cp,Bp,undef]
theorem Bgp(n:Nat)(tm:Bb)(d:Nat)(v:EV)(t:Nat):tmp (Po n tm (some d) v) t=if d=t/\d<n then v else tmp tm t:=by
 unfold Po;by_cases hd:d<n
 ·simp only[show Nat.ble (Nat.succ d) n=true from X0 hd,Aj]
  unfold tmp;rw[Tr.get_put];by_cases e:d=t
  ·simp[e,e▸hd]
  ·simp[e]
 ·simp only[show Nat.ble (Nat.succ d) n=false from Aap hd,Bc]
  rw[aM (by omega)]
theorem A0q(f:Loc)(n:Nat)(tm:Bb)(d:Nat)(v:EV):(Bh f n tm).setIfInBounds d (Cp f v)=Bh f n (Po n tm (some d) v):=by
 apply eZ;intro t;rw[Afn,Array.getElem?_setIfInBounds,A8w,Afn,Bgp];by_cases hd:d=t
 ·subst hd
  by_cases e:d<n<;>simp[e]
 ·simp[hd]
theorem Lh.put(h:Lh p n tm)(d:Option Tmp)(y:v.ok p):Lh p n (Po n tm d v):=by
 cases d with
 | none=>exact h
 | some d=>
  unfold Po;by_cases hd:d<n
  ·simp only[show Nat.ble (Nat.succ d) n=true from X0 hd,Aj]
   refine⟨fun t x j=>?_,fun t u=>?_⟩
   ·rw[Tr.get_put]at j
    split at j
    ·cases j;exact y
    ·exact h.ok t x j
   ·have m:(d:Nat)≠t:=fun e=>by have h1:(d:Nat)<n:=hd;have h2:n<=t:=u;rw[<-e]at h2;exact absurd h1 (Nat.not_lt.2 h2)
    rw[Tr.Af _ _ m];exact h.out t u
  ·simp only[show Nat.ble (Nat.succ d) n=false from Aap hd,Bc]
   exact h
theorem K4{f g:Loc}(d:Loc.agree p f g)(h:Lh p n tm):Bh f n tm=Bh g n tm:=by
 unfold Bh;congr 1;apply cZ;intro t _;exact Afc d _ (h.tmp t)
structure Reads(f:Loc)(tm:Bb)(ρ:Operand->Value):Prop where
 tmp:∀t,ρ (.tmp t)=Cp f (tmp tm t)
 const:∀v,ρ (.const v)=v
 func:∀g,ρ (.func g)=.func (.func g) #[] #[]
theorem Bl {f:Loc}(d:Reads f tm ρ)(h:Cj tm x=some v):ρ x=Cp f v:=by
 cases x with
 | tmp t=>rw[d.tmp];simp only[Cj]at h;cases h;rfl
 | const c=>rw[d.const];exact(Bgn f h).symm
 | global g=>cases h
 | func g=>rw[d.func];cases h;rfl
theorem Ez(d:Lh p n tm)(h:Cj tm x=some v):v.ok p:=by
 cases x with
 | tmp t=>simp only[Cj]at h;cases h;exact d.tmp t
 | const c=>exact Bes p h
 | global g=>cases h
 | func g=>cases h;exact⟨trivial,trivial⟩
theorem Aak {f:Loc}(d:Reads f tm ρ):∀{xs:List Operand} {l:List EV},Mf tm xs=some l->xs.map ρ=Bp f l
 | [],_,h=>by cases h;rfl
 | x::r,_,h=>by
  unfold Mf at h;split at h
  ·rename_i a e
   split at h
   ·rename_i b hb
    cases h;rw[cR,Bl d e,Aak d hb,Bp]
   ·cases h
  ·cases h
theorem Akq(d:Lh p n tm):∀{xs:List Operand} {l:List EV},Mf tm xs=some l->EV.Tn p l
 | [],_,h=>by cases h;trivial
 | x::r,_,h=>by
  unfold Mf at h;split at h
  ·rename_i a e
   split at h
   ·rename_i b hb
    cases h;exact⟨Ez d e,Akq d hb⟩
   ·cases h
  ·cases h
theorem Amu {f:Loc}(d:Reads f tm ρ):∀{xs:List (Nat × Operand)} {l:List (Nat × EV)},Zo tm xs=some l->xs.map (fun(i,x)=>(i,ρ x))=l.map (fun(i,v)=>(i,Cp f v))
 | [],_,h=>by cases h;rfl
 | (i,x)::r,_,h=>by
  unfold Zo at h;split at h
  ·rename_i a e
   split at h
   ·rename_i b hb
    cases h;rw[cR,cR,Amu d hb];show(i,ρ x)::_=(i,Cp f a)::_;rw[Bl d e]
   ·cases h
  ·cases h
theorem Avk(e:Lh p n tm):∀{xs:List (Nat × Operand)} {l:List (Nat × EV)},Zo tm xs=some l->∀q∈l,q.2.ok p
 | [],_,h=>by cases h;simp
 | (i,x)::r,_,h=>by
  unfold Zo at h;split at h
  ·rename_i a j
   split at h
   ·rename_i b hb
    cases h;intro q d;rcases bW.1 d with rfl|d
    ·exact Ez e j
    ·exact Avk e hb q d
   ·cases h
  ·cases h
end
variable {f g:Loc}
section
theorem X8:∀l:List EV,len l=l.length
 | []=>rfl
 | _::r=>by rw[len,X8 r];rfl
theorem St:∀(l:List EV) (n:Nat),Zz l n=l.drop n
 | [],n=>by simp[Zz]
 | a::r,0=>rfl
 | a::r,n+1=>by
  have:Zz (a::r) (n+1)=Zz r n:=rfl;rw[this,St r n];rfl
theorem Afr:∀{l:List EV} {n:Nat} {x:List EV},takeN l n=some x->n<=l.length/\x=l.take n
 | [],0,x,h=>by cases h;exact⟨aD _,rfl⟩
 | [],n+1,x,h=>by cases h
 | a::r,0,x,h=>by cases h;exact⟨cU _,rfl⟩
 | a::r,n+1,x,h=>by
  have e:takeN (a::r) (n+1)=match takeN r n with|some x=>some (a::x)|none=>none:=rfl
  rw[e]at h;split at h
  ·rename_i y d
   cases h;obtain⟨h1,rfl⟩:=Afr d;exact⟨by simp;omega,rfl⟩
  ·cases h
theorem Alr:∀{l vs x:List EV},Jf l vs=some x->vs.length<=l.length/\x=vs++l.drop vs.length
 | l,[],x,h=>by
  have:Jf l []=some l:=by cases l<;>rfl
  rw[this]at h;cases h;exact⟨cU _,rfl⟩
 | [],v::vs,x,h=>by cases h
 | a::r,v::vs,x,h=>by
  have e:Jf (a::r) (v::vs)=match Jf r vs with|some x=>some (v::x)|none=>none:=rfl
  rw[e]at h;split at h
  ·rename_i y d
   cases h;obtain⟨h1,rfl⟩:=Alr d;exact⟨by simp;omega,rfl⟩
  ·cases h
theorem Xu:∀{l:List EV} {off:Nat} {vs x:List EV},Fm l off vs=some x->off+vs.length<=l.length/\x=l.take off++vs++l.drop (off+vs.length)
 | [],0,vs,x,h=>by
  have e:Fm [] 0 vs=Jf [] vs:=rfl;rw[e]at h;obtain⟨h1,rfl⟩:=Alr h;exact⟨by omega,by simp⟩
 | [],off+1,vs,x,h=>by cases h
 | a::r,0,vs,x,h=>by
  have e:Fm (a::r) 0 vs=Jf (a::r) vs:=rfl;rw[e]at h;obtain⟨h1,rfl⟩:=Alr h;exact⟨by omega,by simp⟩
 | a::r,off+1,vs,x,h=>by
  have e:Fm (a::r) (off+1) vs=match Fm r off vs with|some x=>some (a::x)|none=>none:=rfl
  rw[e]at h;split at h
  ·rename_i y d
   cases h;obtain⟨h1,rfl⟩:=Xu d;refine⟨by simp;omega,?_⟩;rw[show off+1+vs.length=(off+vs.length)+1 from by omega];simp
  ·cases h
theorem Atw {l:List EV}{x:List EV}(h:Fm l off vs=some x)(d:v∈x):v∈l\/v∈vs:=by
 obtain⟨h1,rfl⟩:=Xu h;simp only[bP]at d;rcases d with(d|d)|d
 ·exact .inl (bO d)
 ·exact .inr d
 ·exact .inl (aE d)
theorem A7w:∀(l:List Field) (i:Nat),A6i l i=l[i]?
 | [],i=>by simp[A6i]
 | a::r,0=>rfl
 | a::r,i+1=>by
  have:A6i (a::r) (i+1)=A6i r i:=rfl;rw[this,A7w r i];simp
theorem Az5:∀(l:List Oper) (i:Nat),Azs l i=l[i]?
 | [],i=>by simp[Azs]
 | a::r,0=>rfl
 | a::r,i+1=>by
  have:Azs (a::r) (i+1)=Azs r i:=rfl;rw[this,Az5 r i];simp
theorem Al3(l:List EV):∀n,(rep l n).length=n*l.length
 | 0=>by simp[rep]
 | n+1=>by rw[rep,aG,Al3 l n,fO];omega
theorem Av5 {l:List EV}:∀{n:Nat},v∈rep l n->v∈l
 | 0,h=>by simp[rep]at h
 | n+1,h=>by
  rw[rep,bP]at h;rcases h with h|h
  ·exact h
  ·exact Av5 h
theorem Bgi(l:List EV):∀(n i:Nat),i<n*l.length->(rep l n)[i]? = l[i%l.length]?
 | 0,i,h=>by simp at h
 | n+1,i,h=>by
  rw[rep];by_cases hi:i<l.length
  ·rw[bh hi,fK hi]
  ·rw[bY (by omega),Bgi l n (i-l.length) (by rw[fO]at h;omega)]
   rw[<-Nat.mod_eq_sub_mod (by omega)]
theorem Aqb(h:Nat.beq (O2 k) (O2 k')=true):k=k':=by
 cases k<;>cases k'<;>first|rfl|(cases h)
theorem A6l(k:IntKind)(hs:k.signed=false)(n:Int)(h0:0<=n)(h1:n<2^k.bits):k.wrap n=n:=by
 unfold IntKind.wrap;simp only[hs,ak,aW,aY];exact Int.emod_eq_of_lt h0 h1
theorem Ajv(k:IntKind)(hs:k.signed=true)(n M:Int)(j:(2:Int)^k.bits=2*M)(d:(2:Int)^(k.bits-1)=M)(h0 : -M<=n)(h1:n<M):k.wrap n=n:=by
 unfold IntKind.wrap;simp only[hs,bD,bM,j,d,ge_iff_le];by_cases m:0<=n
 ·rw[Int.emod_eq_of_lt m (by omega),aM (by omega)]
 ·have e:n%(2*M)=n+2*M:=by
   rw[<-Int.add_emod_right];exact Int.emod_eq_of_lt (by omega) (by omega)
  rw[e,aQ (by omega)];omega
theorem Ns(k:IntKind)(n:Int):Cx k n=k.wrap n:=by
 cases n with
 | ofNat m=>
  show Ax (Nat.ble (Nat.succ m) (lid k)) (Int.ofNat m) (k.wrap (Int.ofNat m))=_;rw[Bn];split
  ·rename_i h
   have h:=bB h;symm;cases k<;>simp only[lid]at h
   case u8=>exact A6l _ rfl _ (by simp) (by simp only[IntKind.bits,aX];omega)
   case u16=>exact A6l _ rfl _ (by simp) (by simp only[IntKind.bits,aX];omega)
   case u32=>exact A6l _ rfl _ (by simp) (by simp only[IntKind.bits,aX];omega)
   case u64=>exact A6l _ rfl _ (by simp) (by simp only[IntKind.bits,aX];omega)
   case i8=>exact Ajv _ rfl _ 128 rfl rfl (by simp only[aX];omega) (by simp only[aX];omega)
   case i16=>exact Ajv _ rfl _ 32768 rfl rfl (by simp only[aX];omega) (by simp only[aX];omega)
   case i32=>exact Ajv _ rfl _ 2147483648 rfl rfl (by simp only[aX];omega) (by simp only[aX];omega)
   case i64=>exact Ajv _ rfl _ 9223372036854775808 rfl rfl (by simp only[aX];omega) (by simp only[aX];omega)
  ·rfl
 | negSucc m=>
  show Ax (Nat.ble (Nat.succ m) (floor k)) (Int.negSucc m) (k.wrap (Int.negSucc m))=_;rw[Bn];split
  ·rename_i h
   have h:=bB h;symm;cases k<;>simp only[floor]at h
   case i8=>exact Ajv _ rfl _ 128 rfl rfl (by rw[cq];omega) (by rw[cq];omega)
   case i16=>exact Ajv _ rfl _ 32768 rfl rfl (by rw[cq];omega) (by rw[cq];omega)
   case i32=>exact Ajv _ rfl _ 2147483648 rfl rfl (by rw[cq];omega) (by rw[cq];omega)
   case i64=>exact Ajv _ rfl _ 9223372036854775808 rfl rfl (by rw[cq];omega) (by rw[cq];omega)
   all_goals exact absurd h (by omega)
  ·rfl
theorem Axx(a b:Int):ltB a b=decide (a<b):=by
 cases a<;>cases b<;>simp only[ltB]<;>(first
  | (rw[fD];simp only[cv,bM];simp only[aX,cq];omega)
  | (simp only[aX,cq];symm;first|(rw[cm];omega)|(rw[bM];omega)))
theorem Ajz(a b:Int):eqB a b=decide (a=b):=by
 cases a<;>cases b<;>simp only[eqB]<;>(first
  | (rw[fD];simp only[Nat.beq_eq,bM];simp only[aX,cq];omega)
  | (simp only[aX,cq];symm;rw[cm];omega))
theorem A2t(k:IntKind)(x:Nat):k.wrap ((x%2^k.bits:Nat):Int)=k.wrap (x:Int):=by
 unfold IntKind.wrap;have:((x%2^k.bits:Nat):Int)%(2^k.bits:Int)=(x:Int)%(2^k.bits:Int):=by
  rw[Int.natCast_emod];simp
 simp only[this]
theorem Bn8(k:IntKind)(a b:Nat):k.wrap (((BitVec.ofInt k.bits (Int.ofNat a)&&& BitVec.ofInt k.bits (Int.ofNat b)).toNat:Nat):Int)=k.wrap (Int.ofNat (Nat.land a b)):=by
 have:(BitVec.ofInt k.bits (Int.ofNat a)&&& BitVec.ofInt k.bits (Int.ofNat b)).toNat=(a&&& b)%2^k.bits:=by
  simp only[aX,BitVec.ofInt_natCast,BitVec.toNat_and,BitVec.toNat_ofNat];rw[Nat.and_mod_two_pow]
 rw[this,A2t];rfl
theorem Brg(k:IntKind)(a b:Nat):k.wrap (((BitVec.ofInt k.bits (Int.ofNat a)||| BitVec.ofInt k.bits (Int.ofNat b)).toNat:Nat):Int)=k.wrap (Int.ofNat (Nat.lor a b)):=by
 have:(BitVec.ofInt k.bits (Int.ofNat a)||| BitVec.ofInt k.bits (Int.ofNat b)).toNat=(a||| b)%2^k.bits:=by
  simp only[aX,BitVec.ofInt_natCast,BitVec.toNat_or,BitVec.toNat_ofNat];rw[Nat.or_mod_two_pow]
 rw[this,A2t];rfl
theorem Blt(k:IntKind)(a b:Nat):k.wrap (((BitVec.ofInt k.bits (Int.ofNat a) ^^^ BitVec.ofInt k.bits (Int.ofNat b)).toNat:Nat):Int)=k.wrap (Int.ofNat (Nat.xor a b)):=by
 have:(BitVec.ofInt k.bits (Int.ofNat a) ^^^ BitVec.ofInt k.bits (Int.ofNat b)).toNat=(a ^^^ b)%2^k.bits:=by
  simp only[aX,BitVec.ofInt_natCast,BitVec.toNat_xor,BitVec.toNat_ofNat];rw[Nat.xor_mod_two_pow]
 rw[this,A2t];rfl
section
variable(f:Loc)(w:World)
theorem Bks{a b:Int}(t:TypeId)(hs:Az1 op=false)(h:Bjb op k a b=some v):
 (binOp op t (.int k a) (.int k b)).run P w=.ok (Cp f v) w:=by
 cases op<;>simp only[Bjb]at h
 case add=>cases h;simp[binOp,Op.intArith,Cp,Ns];try rfl
 case sub=>cases h;simp[binOp,Op.intArith,Cp,Ns];try rfl
 case mul=>cases h;simp[binOp,Op.intArith,Cp,Ns];try rfl
 case quo=>
  obtain⟨h1,h2⟩:=Tw h;cases h2;rw[Ajz,cm]at h1;simp[binOp,Op.intDiv,Cp,Ns,h1]
 case rem=>
  obtain⟨h1,h2⟩:=Tw h;cases h2;rw[Ajz,cm]at h1;simp[binOp,Op.intDiv,Cp,h1]
 case and=>
  split at h
  ·cases h;simp only[binOp,ne_eq,aC,aY,Op.intBits,aS,Bn8,Cp,Ns]
  ·cases h
 case or=>
  split at h
  ·cases h;simp only[binOp,ne_eq,aC,aY,Op.intBits,aS,Brg,Cp,Ns]
  ·cases h
 case xor=>
  split at h
  ·cases h;simp only[binOp,ne_eq,aC,aY,Op.intBits,aS,Blt,Cp,Ns]
  ·cases h
 case lss=>cases h;simp only[binOp,ne_eq,aC,aY,Op.intCmp,aS,Cp,Axx]
 case gtr=>cases h;simp only[binOp,ne_eq,aC,aY,Op.intCmp,aS,Cp,Axx,gt_iff_lt]
 case eql=>
  cases h;simp only[binOp,ne_eq,aC,aY,Op.intCmp,aS,Cp,Ajz];congr 2
 case neq=>
  cases h;simp only[binOp,ne_eq,aC,aY,Op.intCmp,aS,Cp,Ajz,Bn];congr 2;by_cases e:a=b<;>simp[e]
 case leq=>
  cases h;simp only[binOp,ne_eq,aC,aY,Op.intCmp,aS,Cp,Axx,Bn];congr 2;by_cases e:b<a
  ·simp[e]
  ·simp[e,Int.not_lt.1 e]
 case geq=>
  cases h;simp only[binOp,ne_eq,aC,aY,Op.intCmp,aS,Cp,Axx,Bn];congr 2;by_cases e:a<b
  ·simp[e]
  ·simp[e,Int.not_lt.1 e]
 all_goals first|(cases h;done)|(simp[Az1]at hs;done)
theorem Bju{a:Int}{b:Nat}(t:TypeId)(h:A58 op k a b=some v):
 (binOp op t (.int k a) (.int k' (.ofNat b))).run P w=.ok (Cp f v) w:=by
 have hm:Ax (Nat.ble b k.bits) b k.bits=min b k.bits:=by
  rw[Bn];simp only[cv];split<;>omega
 have hb:¬(Int.ofNat b<0):=by simp
 cases op<;>simp only[A58]at h
 case shl=>
  cases h;simp only[binOp,Op.shift,hb,aY,aS,Cp,Ns,hm];congr 3
 case shr=>
  split at h
  ·cases h
   simp only[binOp,Op.shift,hb,aY,aS,Cp,hm];congr 2;simp only[aX,bG];have e:Nat.shiftRight=fun(a b:Nat)=>a >>> b:=rfl
   simp only[e];rw[fI,fG _ (by exact_mod_cast cU _)];simp
  ·cases h
   simp only[binOp,Op.shift,hb,aY,aS,Cp,hm];congr 2
 all_goals (cases h;done)
end
end
section
def Ax1:TypeDesc->Bool
 | .struct _=>true
 | .array _ _=>true
 | _=>false
structure Pe(P:Program)(T:Hh):Prop where
 mixed:P.follows .mixedOrders=true
 fn:∀g fn,T.fn g=some fn->P.funcs[g]? = some fn/\(fn.name == "runtime.NumGoroutine")=false
 T8:∀t d,T.T8 t=some d->P.underlying t=some d
 size:∀t n,T.size t=some n->∃i,P.info? t=some i/\i.size=n/\i.bytes<=1048576
 zero:∀t z,T.zero t=some z->∃i v x,P.info? t=some i/\i.zero=some v/\ofV v=some x/\x.plain=true/\z=x.cells/\i.size=z.length/\i.bytes<=1048576 /\
  (T.agg t=some true->x=.agg z)/\(T.agg t=some false->z = [x])
 agg:∀t b,T.agg t=some b->∃d,P.underlying t=some d/\Ax1 d=b
 eqs:∀t sh,T.eqs t=some sh->P.eqGuardType P.depth t=false/\∀(f:Loc) (w:World) (a b:List EV) (r:Bool),Ey a b=some r->shaped sh a=true ->
  (Op.equal t (.agg (Bp f a).toArray) (.agg (Bp f b).toArray)).run P w=.ok r w
 key:∀t,T.key t=true->(∃d,P.underlying t=some d/\Ax1 d=true)/\∀(f:Loc) (w:World) (e:Bool) (a:List EV) (sh:List Nat),T.eqs t=some sh->shaped sh a=true ->
  (Instr.checkKey e 10000 t (.agg (Bp f a).toArray)).run P w=.ok () w
section
variable(hT:Pe P T)(w:World)
include hT
theorem Dx{d:TypeDesc}(h:T.T8 t=some d):(underlying t).run P w=.ok d w:=by
 simp[underlying,hT.T8 t d h]
theorem Gg(h:T.size t=some n):(sizeOf t).run P w=.ok n w:=by
 obtain⟨i,h1,h2,_⟩:=hT.size t n h;simp[sizeOf,typeInfo,h1,h2]
theorem Arm(h:T.agg t=some b):(isAgg t).run P w=.ok b w:=by
 obtain⟨d,h1,h2⟩:=hT.agg t b h;subst h2;cases d<;>simp[isAgg,underlying,h1,Ax1]
theorem Bbr(f:Loc){cs:List EV}(h:part T t cs off=some v):(Go.part t (Bp f cs).toArray off).run P w=.ok (Cp f v) w:=by
 unfold part at h;split at h
 ·rename_i e
  split at h
  ·rename_i n m
   split at h
   ·rename_i l d
    cases h;obtain⟨h1,rfl⟩:=Afr d;rw[St]at h1⊢;simp only[Go.part,Sem.run_bind,Arm hT w e,aI,bI,Gg hT w m,aS,Cp];congr 2;apply dR;simp[O6,List.extract_eq_take_drop]
   ·cases h
  ·cases h
 ·rename_i e
  split at h
  ·rename_i x r d
   cases h;rw[St]at d;have:(Bp f cs).toArray[off]? = some (Cp f v):=by
    have h1:cs[off]? = some v:=by
     have:=cX (xs:=cs) (i:=off) (j:=0);rw[d]at this;simpa using this.symm
    simp[O6,h1]
   simp only[Go.part,Sem.run_bind,Arm hT w e,aI,aW,aY,this,aS]
  ·cases h
 ·cases h
end
theorem U9(b o n:Nat):(⟨b,o,none⟩:Addr).add n=⟨b,o+n,none⟩:=by
 unfold Addr.add;split
 ·rename_i h;subst h;rfl
 ·rfl
theorem Bev(cells vs:List Value)(off:Nat)(h:off+vs.length<=cells.length):
 vs.toArray.zipIdx.foldl (fun cs (x:Value × Nat)=>cs.setIfInBounds (off+x.2) x.1) cells.toArray=(cells.take off++vs++cells.drop (off+vs.length)).toArray:=by
 obtain⟨h1,h2⟩:=Great.foldl_set off vs 0 cells.toArray;have e:vs.toArray.zipIdx.foldl (fun cs (x:Value × Nat)=>cs.setIfInBounds (off+x.2) x.1) cells.toArray=(vs.zipIdx 0).foldl (fun cs (x:Value × Nat)=>cs.setIfInBounds (off+x.2) x.1) cells.toArray:=by
  simp
 rw[e];apply eZ;intro k;rw[h2 k];simp only[cz,cW,bU];by_cases c1:k<off
 ·rw[aM (by omega),b9,bh (by simp;omega),List.getElem?_take_of_lt c1]
 ·by_cases c2:k<off+vs.length
  ·rw[aQ (by omega),bh (by simp;omega),bY (by simp;omega)]
   congr 1;simp;omega
  ·rw[aM (by omega),bY (by simp;omega),cX]
   congr 1;simp;omega
theorem Apz(f:Loc)(l vs:List EV)(off:Nat):Bp f (l.take off++vs++l.drop (off+vs.length))=(Bp f l).take off++Bp f vs++(Bp f l).drop (off+(Bp f vs).length):=by
 simp[O6,List.map_take,List.map_drop]
theorem Avb(f:Loc)(place:Nat->Option (Nat × Nat))(d:Nat->Option (Nat × Nat))(u:∀i q,place i=some q->d i=some q):
 ∀{cells:List EV} {l:List (Nat × EV)} {c:List EV},fill place cells l=some c->Instr.fill d (Bp f cells).toArray (l.map fun(i,v)=>(i,Cp f v))=some (Bp f c).toArray
 | cells,[],c,h=>by cases h;rfl
 | cells,(i,v)::r,c,h=>by
  unfold fill at h;split at h
  ·cases h
  ·rename_i off size y
   obtain⟨_,h⟩:=Aq h;obtain⟨h1,h2⟩:=Aq h;split at h2
   ·rename_i x A
    rw[X8]at h1;have m:v.cells.length=size:=aL h1;obtain⟨C,h4⟩:=Xu A;simp only[cR,Instr.fill,u i _ y];have B:(Cp f v).cells=(Bp f v.cells).toArray:=Ts f v;rw[B];simp only[cW,Cs];rw[aM (by simp[m];omega)];have e:=Bev (Bp f cells) (Bp f v.cells) off (by simp only[Cs];omega);have e2:(fun(cs:Array Value) (x:Value × Nat)=>match x with|(c,j)=>cs.setIfInBounds (off+j) c)=fun cs x=>cs.setIfInBounds (off+x.2) x.1:=rfl
    rw[e2,e,<-Apz,<-h4];exact Avb f place d u h2
   ·cases h2
theorem Aqi(place:Nat->Option (Nat × Nat)){q:EV->Prop}:∀{cells:List EV} {l:List (Nat × EV)} {c:List EV},fill place cells l=some c->(∀v∈cells,q v)->(∀x∈l,∀v∈x.2.cells,q v)->∀v∈c,q v
 | cells,[],c,h,d,_=>by cases h;exact d
 | cells,(i,v)::r,c,h,d,e=>by
  unfold fill at h;split at h
  ·cases h
  ·obtain⟨_,h⟩:=Aq h
   obtain⟨h1,h2⟩:=Aq h;split at h2
   ·rename_i x j
    refine Aqi place h2 (fun u hu=>?_) (fun y m=>e y (by simp[m]));rcases Atw j hu with hu|hu
    ·exact d u hu
    ·exact e (i,v) (by simp) u hu
   ·cases h2
theorem Ama(place:Nat->Option (Nat × Nat)):∀{cells:List EV} {l:List (Nat × EV)} {c:List EV},fill place cells l=some c->∀q∈l,q.2.plain=true
 | cells,[],c,h=>by simp
 | cells,(i,v)::r,c,h=>by
  unfold fill at h;split at h
  ·cases h
  ·obtain⟨h0,h⟩:=Aq h
   obtain⟨h1,h2⟩:=Aq h;split at h2
   ·intro q d
    rcases bW.1 d with rfl|d
    ·exact h0
    ·exact Ama place h2 q d
   ·cases h2
theorem Arj:∀(a b:List UInt8),Bj7 a b=decide (a=b)
 | [],[]=>rfl
 | a::r,b::s=>by
  simp only[Bj7];rw[Bn,Arj r s];by_cases h:a=b
  ·subst h
   rw[aQ (by simp)];simp
  ·rw[aM]
   ·simp[h]
   ·intro e;exact h (UInt8.toNat_inj.1 (aL e))
 | [],_::_=>rfl
 | _::_,[]=>rfl
theorem Az7(a b:ByteArray):Bj7 a.data.toList b.data.toList=(a == b):=by
 obtain⟨⟨x⟩⟩:=a;obtain⟨⟨y⟩⟩:=b;show Bj7 x y=((⟨x⟩:Array UInt8) == ⟨y⟩);rw[Arj];simp only[List.beq_toArray];by_cases h:x=y
 ·subst h;simp
 ·have:(x == y)=false:=by simpa using h
  rw[this];simp[h]
theorem Bh8 {a b:ByteArray}(h:(a == b)=true):a=b:=by
 rw[<-Az7,Arj]at h;have:=cO h;cases a;cases b;simp only[ByteArray.mk.injEq];apply dR;exact this
section
variable(hT:Pe P T)(f:Loc)(w:World)
theorem Jd(op:BinOp)(t:TypeId)(x y:Operand)(a b:Value)(h1:∀c d,¬(a=.agg c/\b=.agg d))(h2:¬(a=.nilIface/\b=.nilIface)):(eqGuard op t x y a b).run P w=.ok () w:=by
 unfold eqGuard;cases op<;>simp<;>(split<;>first|rfl|(rename_i e1 e2;exact absurd ⟨rfl,rfl⟩ h2)|(rename_i c d;exact absurd ⟨rfl,rfl⟩ (h1 c d))|simp_all)
theorem A8v(op:BinOp)(t:TypeId)(x y:Operand)(c d:Array Value)(h:P.eqGuardType P.depth t=false):(eqGuard op t x y (.agg c) (.agg d)).run P w=.ok () w:=by
 unfold eqGuard;cases op<;>simp[h]
theorem A43(d:Nat)(t:TypeId)(a b:Bool)(hu:P.underlying t=some .bool):(Op.equalIn (d+1) t (.bool a) (.bool b)).run P w=.ok (a == b) w:=by
 simp[Op.equalIn,underlying,hu]
theorem Bk3(d:Nat)(t:TypeId)(a b:ByteArray)(hu:P.underlying t=some .string):(Op.equalIn (d+1) t (.string a) (.string b)).run P w=.ok (a == b) w:=by
 simp[Op.equalIn,underlying,hu]
theorem Bbs(d:Nat)(t:TypeId)(e:TypeId)(b:Option Addr)(hu:P.underlying t=some (.pointer e)):(Op.equalIn (d+1) t (.pointer none) (.pointer b)).run P w=.ok b.isNone w:=by
 simp[Op.equalIn,underlying,hu]
theorem Bmj(d:Nat)(t:TypeId)(e:TypeId)(b:Addr)(hu:P.underlying t=some (.pointer e)):(Op.equalIn (d+1) t (.pointer (some b)) (.pointer none)).run P w=.ok false w:=by
 simp[Op.equalIn,underlying,hu]
theorem Bif(d:Nat)(t:TypeId)(e:TypeId)(n:Nat)(b:Addr)(hu:P.underlying t=some (.pointer e))(hs:(sizeOf e).run P w=.ok n w):(Op.equalIn (d+1) t (.pointer (some b)) (.pointer (some b))).run P w=.ok true w:=by
 simp only[Op.equalIn,underlying,hu,Sem.run_bind,hs];simp only[Sem.run_bind,hs,aI,samePointer,sameAddr];simp[hu,hs,aI]
theorem Bib(d:Nat)(t:TypeId)(e:TypeId)(b:Option Addr)(n m:Nat)(hu:P.underlying t=some (.slice e)):(Op.equalIn (d+1) t (.slice none 0 0) (.slice b n m)).run P w=.ok b.isNone w:=by
 simp[Op.equalIn,underlying,hu]
theorem A0n(d:Nat)(t:TypeId)(e:TypeId)(b:Addr)(n m:Nat)(hu:P.underlying t=some (.slice e)):(Op.equalIn (d+1) t (.slice (some b) n m) (.slice none 0 0)).run P w=.ok false w:=by
 simp[Op.equalIn,underlying,hu]
include hT
theorem Bbu{a b:EV}{r:Bool}(h:At4 T t a b=some r):(Op.equal t (Cp f a) (Cp f b)).run P w=.ok r w /\
 (∀op x y,(eqGuard op t x y (Cp f a) (Cp f b)).run P w=.ok () w) /\
 binOp .eql t (Cp f a) (Cp f b)=(do pure (.bool (←Op.equal t (Cp f a) (Cp f b))))/\binOp .neq t (Cp f a) (Cp f b)=(do pure (.bool (!(←Op.equal t (Cp f a) (Cp f b))))):=by
 unfold At4 at h;split at h
 ·rename_i l l'
  split at h
  ·rename_i sh j
   obtain⟨m,h4⟩:=Aq h;obtain⟨e1,e2⟩:=hT.eqs t sh j;exact⟨e2 f w l l' r h4 m,fun op x y=>A8v w op t x y _ _ e1,rfl,rfl⟩
  ·cases h
 ·rename_i p q
  split at h
  ·rename_i hu
   cases h;refine⟨?_,fun op x y=>Jd w op t x y _ _ (by intro c d e;cases e.1) (by intro e;cases e.1),rfl,rfl⟩;refine(A43 w 9999 t p q (hT.T8 _ _ hu)).trans ?_;cases p<;>cases q<;>rfl
  ·cases h
 ·split at h
  ·rename_i hu
   cases h;exact⟨Bbs w 9999 t _ none (hT.T8 _ _ hu),fun op x y=>Jd w op t x y _ _ (by intro c d e;cases e.1) (by intro e;cases e.1),rfl,rfl⟩
  ·cases h
 ·split at h
  ·rename_i hu
   cases h;exact⟨Bbs w 9999 t _ (some _) (hT.T8 _ _ hu),fun op x y=>Jd w op t x y _ _ (by intro c d e;cases e.1) (by intro e;cases e.1),rfl,rfl⟩
  ·cases h
 ·split at h
  ·rename_i hu
   cases h;exact⟨Bmj w 9999 t _ _ (hT.T8 _ _ hu),fun op x y=>Jd w op t x y _ _ (by intro c d e;cases e.1) (by intro e;cases e.1),rfl,rfl⟩
  ·cases h
 ·split at h
  ·rename_i hu
   split at h
   ·rename_i n u
    obtain⟨h1,h2⟩:=Aq h;obtain⟨m,h4⟩:=Aq h2;cases h4;rw[aL h1,aL m];exact⟨Bif w 9999 t _ n _ (hT.T8 _ _ hu) (Gg hT w u),fun op x y=>Jd w op t x y _ _ (by intro c d e;cases e.1) (by intro e;cases e.1),rfl,rfl⟩
   ·cases h
  ·cases h
 ·split at h
  ·rename_i hu
   cases h;exact⟨Bib w 9999 t _ none 0 0 (hT.T8 _ _ hu),fun op x y=>Jd w op t x y _ _ (by intro c d e;cases e.1) (by intro e;cases e.1),rfl,rfl⟩
  ·cases h
 ·split at h
  ·rename_i hu
   cases h;exact⟨A0n w 9999 t _ _ _ _ (hT.T8 _ _ hu),fun op x y=>Jd w op t x y _ _ (by intro c d e;cases e.1) (by intro e;cases e.1),rfl,rfl⟩
  ·cases h
 ·split at h
  ·rename_i hu
   cases h;exact⟨A0n w 9999 t _ _ _ _ (hT.T8 _ _ hu),fun op x y=>Jd w op t x y _ _ (by intro c d e;cases e.1) (by intro e;cases e.1),rfl,rfl⟩
  ·cases h
 ·cases h
end
end
section
section
variable(hT:Pe P T)(f:Loc)(w:World)
include hT
theorem Bpu{a b:EV}(h:bin T op t a b=some v)(x y:Operand):
 (eqGuard op t x y (Cp f a) (Cp f b)).run P w=.ok () w/\(binOp op t (Cp f a) (Cp f b)).run P w=.ok (Cp f v) w:=by
 unfold bin at h;split at h
 ·rename_i k a k' b
  refine⟨Jd w op t x y _ _ (by intro c d e;cases e.1) (by intro e;cases e.1),?_⟩;rw[Bn]at h;split at h
  ·split at h
   ·exact Bju f w t h
   ·cases h
  ·rename_i hs
   obtain⟨h1,h2⟩:=Aq h;obtain rfl:=Aqb h1;exact Bks f w t (by simpa using hs) h2
 ·rename_i u
  split at h
  ·split at h
   ·rename_i r j
    cases h;obtain⟨h1,h2,m,_⟩:=Bbu hT f w j;refine⟨h2 _ x y,?_⟩;rw[m];simp[h1,Cp]
   ·cases h
  ·split at h
   ·rename_i r j
    cases h;obtain⟨h1,h2,_,m⟩:=Bbu hT f w j;refine⟨h2 _ x y,?_⟩;rw[m];simp[h1,Cp,Bn]
   ·cases h
  ·cases h
theorem All {x:Option EV}{hi:Nat}(h:bound x hi dflt=some n)(code:BoundsCode):
 (∀u,x=some u->(Instr.sliceBound (Cp f u) hi code).run P w=.ok n w)/\(x=none->n=dflt):=by
 cases x with
 | none=>cases h;exact⟨fun u hu=>(by cases hu),fun _=>rfl⟩
 | some u=>
  refine⟨fun e hu=>?_,fun hu=>(by cases hu)⟩;cases hu;unfold bound at h;split at h
  ·rename_i d;cases d
  ·rename_i k m d
   cases d;obtain⟨h1,h2⟩:=Aq h;cases h2;simp only[cv]at h1;simp only[Instr.sliceBound,Cp,asIntOf,Sem.run_bind,aS,aI];rw[aQ (by simp;omega)];simp
  ·cases h
theorem As8{len cap h l:Nat}(d:Bool)(h1:bound hi cap len=some h)(h2:bound lo h 0=some l):
 (Instr.sliceBounds d len cap (lo.map (Cp f)) (hi.map (Cp f)) none).run P w=.ok (l,h,cap) w:=by
 obtain⟨e,m⟩:=All hT f w h1 (if d=true then .sliceAcap else .sliceAlen);obtain⟨b1,b2⟩:=All hT f w h2 .sliceB;unfold Instr.sliceBounds;cases hi with
 | none=>
  obtain rfl:=m rfl;cases lo with
  | none=>obtain rfl:=b2 rfl;simp
  | some u=>simp[b1 u rfl]
 | some j=>
  cases lo with
  | none=>obtain rfl:=b2 rfl;simp[e j rfl]
  | some u=>simp[e j rfl,b1 u rfl]
theorem A8p {j:Option EV}{len cap room m h l:Nat}(e:Bool){y d:EV}(hm:j=some y)(C:hi=some d)(G:room<=cap)(h0:bound j room 0=some m)(h1:bound hi m 0=some h)(h2:bound lo h 0=some l):
 (Instr.sliceBounds e len cap (lo.map (Cp f)) (hi.map (Cp f)) (j.map (Cp f))).run P w=.ok (l,h,m) w:=by
 have A:bound j cap 0=some m:=by
  subst hm;unfold bound at h0⊢;split at h0
  ·rename_i D;cases D
  ·obtain⟨E,F⟩:=Aq h0
   cases F;simp only[cv]at E;rw[Bn,aQ (by simp only[cv];omega)]
  ·cases h0
 obtain⟨c1,_⟩:=All hT f w A (if e=true then .slice3Acap else .slice3Alen);obtain⟨B,_⟩:=All hT f w h1 .slice3B;obtain⟨b1,b2⟩:=All hT f w h2 .slice3C;subst hm C;unfold Instr.sliceBounds;cases lo with
 | none=>obtain rfl:=b2 rfl;simp[c1 y rfl,B d rfl]
 | some u=>simp[c1 y rfl,B d rfl,b1 u rfl]
omit hT in
theorem Bbt {x:Option EV}{hi:Nat}(hd:dflt<=hi)(h:bound x hi dflt=some n):n<=hi:=by
 unfold bound at h;split at h
 ·cases h;exact hd
 ·obtain⟨h1,h2⟩:=Aq h
  cases h2;simpa only[cv]using h1
 ·cases h
theorem Bfm {len room:Nat}{op:Bool}{size:Nat}{F:Option EV}(h:slc (.slice i off len room op) size lo hi F=some v)(d:Bool):
 ∃l j m,(Instr.sliceBounds d len (if op=true then room+f.sp i else room) (lo.map (Cp f)) (hi.map (Cp f)) (F.map (Cp f))).run P w=.ok (l,j,m) w /\
  Cp f v=.slice (some (if m=l then(⟨f.b i,off,none⟩:Addr)else(⟨f.b i,off,none⟩:Addr).add (l*size))) (j-l) (m-l):=by
 unfold slc at h;simp only[Nat.add_eq,Nat.mul_eq,Nat.sub_eq]at h;split at h
 ·split at h
  ·cases h
  ·rename_i j h1
   split at h
   ·cases h
   ·rename_i l h2
    rw[Bn]at h;split at h
    ·rename_i u
     subst u;have B:bound hi (room+f.sp i) len=some j:=by
      unfold bound at h1⊢;split at h1
      ·exact h1
      ·obtain⟨H,J⟩:=Aq h1
       cases J;simp only[cv]at H;rw[Bn,aQ (by simp only[cv];omega)]
      ·cases h1
     have hb:=As8 hT f w d B h2;refine⟨l,j,room+f.sp i,by simpa using hb,?_⟩;rw[Bn]at h;split at h
     ·rename_i h0
      have C:=aL h0;subst C;cases h;simp only[Cp,bI,fQ,Nat.sub_zero];congr 2;rw[U9];simp
     ·rw[Bn]at h
      split at h
      ·rename_i h0
       cases h;simp only[cv]at h0;rw[aM (by omega),U9];simp only[Cp,bI];congr 1;omega
      ·obtain⟨G,h4⟩:=Aq h
       have D:=aL G;subst D;obtain⟨K,L⟩:=Aq h4;cases L;have E:=aL K;subst E;simp only[Cp,fR,U9];congr 1
       ·by_cases y:f.sp i=0
        ·rw[aQ y,aQ (by omega)]
        ·rw[aM y,aM (by omega)]
       ·omega
    ·rename_i u
     obtain⟨G,h4⟩:=Aq h;cases h4;have A:op=false:=by simpa using u
     subst A;have hb:=As8 hT f w d h1 h2;refine⟨l,j,room,by simpa using hb,?_⟩;simp only[Cp,aW,aY];rw[Bn];congr 2;by_cases e:room=l
     ·rw[aQ (by rw[e];exact cI l),aQ e]
     ·rw[aM (by simpa using e),aM e,U9]
 ·rename_i M
  cases hm:bound (some M) room 0 with
  | none=>rw[hm]at h;cases h
  | some m=>
   rw[hm]at h;cases hi with
   | none=>cases h
   | some O=>
    simp only at h;split at h
    ·cases h
    ·rename_i j h1
     split at h
     ·cases h
     ·rename_i l h2
      cases h;have hb:=A8p hT f w (len:=len) d rfl rfl (cap:=if op=true then room+f.sp i else room) (room:=room) (by split<;>omega) hm h1 h2;refine⟨l,j,m,hb,?_⟩;simp only[Cp,aW,aY];rw[Bn];congr 2;by_cases e:m=l
      ·rw[aQ (by rw[e];exact cI l),aQ e]
      ·rw[aM (by simpa using e),aM e,U9]
end
end
section
theorem Bf5:∀(l:List (Nat × Nat)) (i:Nat),A36 l i=l[i]?
 | [],i=>by simp[A36]
 | a::r,0=>rfl
 | a::r,i+1=>by
  have:A36 (a::r) (i+1)=A36 r i:=rfl;rw[this,Bf5 r i];simp
theorem Be2:∀(l:List UInt8) (i:Nat),Bim l i=l[i]?
 | [],i=>by simp[Bim]
 | a::r,0=>rfl
 | a::r,i+1=>by
  have:Bim (a::r) (i+1)=Bim r i:=rfl;rw[this,Be2 r i];simp
theorem Agx(f:Loc)(l:List EV)(i:Nat):(Bp f l)[i]? = (l[i]?).map (Cp f):=by rw[O6,bA]
theorem Wi(d:Reads f tm ρ){x:Option Operand}{v:Option EV}(h:Abl tm x=some v):x.map ρ=v.map (Cp f):=by
 cases x with
 | none=>simp only[Abl]at h;cases h;rfl
 | some x=>
  simp only[Abl]at h;split at h
  ·rename_i a e
   cases h;simp[Bl d e]
  ·cases h
section
variable(hT:Pe P T)(f:Loc)(w:World)
include hT
theorem A1t:∀{l:List Field} {ps:List (Nat × Nat)},placesOf T l=some ps ->
 (l.mapM (m:=Sem) fun fd=>do pure (fd.offset,<-sizeOf fd.type)).run P w=.ok ps w
 | [],ps,h=>by cases h;rfl
 | fd::r,ps,h=>by
  unfold placesOf at h;split at h
  ·rename_i n d
   split at h
   ·rename_i q e
    cases h;rw[List.mapM_cons];have j:=A1t e;simp only[Sem.run_bind,Gg hT w d,aI,aS,j]
   ·cases h
  ·cases h
theorem Acf{z:List EV}(h:T.zero t=some z):∃x:EV,x.plain=true/\z=x.cells/\(zeroValue t).run P w=.ok (Cp f x) w /\
 (T.agg t=some true->x=.agg z)/\(T.agg t=some false->z = [x])/\(∀p,x.ok p)/\∃i,P.info? t=some i/\i.size=z.length/\i.bytes<=1048576:=by
 obtain⟨i,v,x,h1,h2,d,h4,e,j,m,u,y⟩:=hT.zero t z h;refine⟨x,h4,e,?_,u,y,fun p=>Bes p d,i,h1,j,m⟩;rw[Bgn f d];simp[zeroValue,typeInfo,h1,h2]
theorem Bnh(A:Reads f tm ρ){o:Oper}(h:E1 T tm o.op=some v):
 (execOp ρ o).run P w=.ok (.value (Cp f v)) w:=by
 obtain⟨dst,op,type,after,pos,guard⟩:=o;simp only at h;cases op with
 | move x=>simp only[E1]at h;simp[execOp,Bl A h]
 | assign x=>simp only[E1]at h;simp[execOp,Bl A h]
 | pick c a b=>
  simp only[E1]at h;split at h
  ·rename_i G;simp[execOp,Bl A G,Bl A h,Cp,asBool]
  ·rename_i G;simp[execOp,Bl A G,Bl A h,Cp,asBool]
  ·cases h
 | binOp op t x y c=>
  simp only[E1]at h;split at h
  ·rename_i a V
   split at h
   ·rename_i b hb
    obtain⟨h1,h2⟩:=Bpu hT f w h x y;simp[execOp,Bl A V,Bl A hb,h1,h2]
   ·cases h
  ·cases h
 | unOp op t x=>
  cases op with
  | not=>
   simp only[E1]at h;split at h
   ·rename_i b B
    cases h;cases b<;>simp[execOp,Bl A B,Cp,Op.unary]
   ·cases h
  | neg=>
   simp only[E1]at h;split at h
   ·rename_i k n B
    cases h;simp only[execOp,Bl A B,Cp,Op.unary,Op.intArith,Ns,Sem.run_bind,aS,aI];rfl
   ·cases h
  | _=>simp[E1]at h
 | nilCheck x=>
  simp only[E1]at h;split at h
  ·rename_i i off B
   cases h;simp[execOp,Bl A B,Cp]
  ·cases h
 | fieldAddr s x W=>
  simp only[E1]at h;split at h
  ·rename_i i off B
   split at h
   ·rename_i fields hu
    split at h
    ·rename_i fd S
     split at h
     ·rename_i n hn
      obtain⟨h1,h2⟩:=Tw h;cases h2;rw[A7w]at S;have H:fields[W]? = some fd:=by simpa using S
      have U:n≠0:=by intro e;subst e;cases h1
      simp[execOp,Instr.fieldAt,Bl A B,Dx hT w hu,H,Cp,Instr.sureAddr,fieldPlace,Gg hT w hn,U,U9]
     ·cases h
    ·cases h
   ·cases h
  ·cases h
 | indexAddr t x ix=>
  simp only[E1]at h;split at h
  ·rename_i k n C
   split at h
   ·rename_i len e i off hu B
    split at h
    ·rename_i s hs
     obtain⟨h1,h2⟩:=Aq h;cases h2;simp only[cv]at h1;have F:(n:Int)<len:=by omega
     simp[execOp,Instr.indexAt,Bl A C,Bl A B,Cp,asIntOf,Dx hT w hu,Instr.sureAddr,Gg hT w hs,U9];exact fun hle=>absurd hle (by omega)
    ·cases h
   ·rename_i e i off len r op hu B
    split at h
    ·rename_i s hs
     obtain⟨h1,h2⟩:=Aq h;cases h2;simp only[cv]at h1;have F:(n:Int)<len:=by omega
     simp[execOp,Instr.indexAt,Bl A C,Bl A B,Cp,asIntOf,Dx hT w hu,Gg hT w hs,U9];exact fun hle=>absurd hle (by omega)
    ·cases h
   ·cases h
  ·cases h
 | index t x ix=>
  simp only[E1]at h;split at h
  ·rename_i k n C
   split at h
   ·rename_i len e cs hu B
    split at h
    ·rename_i s hs
     obtain⟨h1,h2⟩:=Aq h;simp only[cv]at h1;have F:(n:Int)<len:=by omega
     have M:=Bbr hT w f h2;simp only[Nat.mul_eq]at M;simp[execOp,Instr.index,Bl A C,Bl A B,Cp,asIntOf,Dx hT w hu,Gg hT w hs,M];exact fun hle=>absurd hle (by omega)
    ·cases h
   ·rename_i s hu B
    split at h
    ·rename_i b hb
     cases h;rw[Be2]at hb;have X:s[n]? = some b:=by
      have e:s.data[n]? = some b:=by simpa using hb
      rw[<-e];rfl
     simp[execOp,Instr.index,Bl A C,Bl A B,Cp,asIntOf,Dx hT w hu,X]
    ·cases h
   ·cases h
  ·cases h
 | field t x W=>
  simp only[E1]at h;split at h
  ·rename_i fields cs hu B
   split at h
   ·rename_i fd S
    rw[A7w]at S;have H:fields[W]? = some fd:=by simpa using S
    have M:=Bbr hT w f h;simp[execOp,Instr.field,Bl A B,Cp,Dx hT w hu,H,asAgg,M]
   ·cases h
  ·cases h
 | convert src d x=>
  simp only[E1]at h;split at h
  ·rename_i ud k k' n hs hd B
   cases h;simp only[execOp,Go.convert,Bl A B,Cp,Sem.run_bind,Dx hT w hs,Dx hT w hd,aI,Conv.intToInt,aS,Ns]
  ·cases h
 | extract x ix=>
  simp only[E1]at h;split at h
  ·rename_i l B
   split at h
   ·rename_i u r O
    cases h;rw[St]at O;have h1:l[ix]? = some v:=by
     have:=cX (xs:=l) (i:=ix) (j:=0);rw[O]at this;simpa using this.symm
    simp[execOp,Instr.extract,Bl A B,Cp,Agx,h1]
   ·cases h
  ·cases h
 | slice t x lo hi mx=>
  simp only[E1]at h;split at h
  ·rename_i ae af Y J K D
   split at h
   ·rename_i n e i off hu B
    split at h
    ·rename_i s hs
     obtain⟨l,Z,m,h1,h2⟩:=Bfm hT f w h false;simp only[aW,aY]at h1;simp[execOp,Instr.sliceAt,Dx hT w hu,Bl A B,Wi A J,Wi A K,Wi A D,Cp,Instr.sureAddr,h1,Gg hT w hs,h2]
    ·cases h
   ·rename_i e x' hu B
    split at h
    ·rename_i s hs
     cases x' with
     | slice i off len room op=>
      obtain⟨l,Z,m,h1,h2⟩:=Bfm hT f w h true;simp[execOp,Instr.sliceAt,Instr.slice,Dx hT w hu,Bl A B,Wi A J,Wi A K,Wi A D,Cp,h1,Gg hT w hs,h2];split<;>rfl
     | Al=>
      unfold slc at h;cases Y with
      | some _=>cases h
      | none=>
       simp only at h;split at h
       ·cases h
       ·rename_i Z h1
        split at h
        ·cases h
        ·rename_i l h2
         cases h;have e1:Z=0:=Nat.le_zero.1 (Bbt (aD _) h1);subst e1;have e2:l=0:=Nat.le_zero.1 (Bbt (aD _) h2);subst e2;have hb:=As8 hT f w true h1 h2;have hm:mx=none:=by
          cases mx with
          | none=>rfl
          | some o=>simp only[Abl]at D;split at D<;>cases D
         subst hm;simp[execOp,Instr.sliceAt,Instr.slice,Dx hT w hu,Bl A B,Wi A J,Wi A K,Cp,hb,Gg hT w hs]
     | _=>simp[slc]at h
    ·cases h
   ·cases h
  ·cases h
 | build t ps=>
  simp only[E1]at h;split at h
  ·rename_i z l fields U O hu
   split at h
   ·rename_i pl aa
    split at h
    ·rename_i c G
     cases h;obtain⟨x,_,e1,e2,_⟩:=Acf hT f w U;have M:(fields.mapM (m:=Sem) fun fd=>do pure (fd.offset,<-sizeOf fd.type)).run P w=.ok pl.toArray w:=by
      have e:fields=fields.toList.toArray:=by simp
      rw[e,List.mapM_toArray];have Q:=A1t hT w aa;simp only[map_eq_pure_bind,Sem.run_bind,Q,aI,aS]
     have E:=Avb f (A36 pl) (fun i=>pl.toArray[i]?) (fun i q Q=>by rw[Bf5]at Q;simpa using Q) G;have L:(ps.map fun(i,x)=>(i,ρ x)).toList=l.map fun(i,v)=>(i,Cp f v):=by
      rw[Array.toList_map,Amu A O]
     rw[e1]at E;simp only[execOp,Instr.build,Sem.run_bind,e2,aI,Dx hT w hu,M,Ts,L,E,aS,Cp]
    ·cases h
   ·cases h
  ·rename_i z l n e U O hu
   split at h
   ·rename_i s hs
    split at h
    ·rename_i c G
     cases h;obtain⟨x,_,e1,e2,_⟩:=Acf hT f w U;have E:=Avb f (fun i=>some (Nat.mul i s,s)) (fun i=>some (i*s,s)) (fun i q Q=>Q) G;have L:(ps.map fun(i,x)=>(i,ρ x)).toList=l.map fun(i,v)=>(i,Cp f v):=by
      rw[Array.toList_map,Amu A O]
     rw[e1]at E;simp only[execOp,Instr.build,Sem.run_bind,e2,aI,Dx hT w hu,Gg hT w hs,Ts,L,E,aS,Cp]
    ·cases h
   ·cases h
  ·cases h
 | makeFunc fn first captured=>
  cases fn with
  | func g=>
   simp only[E1]at h;split at h
   ·rename_i a b V hb
    cases h;have h1:first.map ρ=(Bp f a).toArray:=by apply dR;simp[Aak A V]
    have h2:captured.map ρ=(Bp f b).toArray:=by apply dR;simp[Aak A hb]
    simp[execOp,Instr.makeFunc,Cp,h1,h2]
   ·cases h
  | _=>simp[E1]at h
 | sliceToArrayPointer t x=>
  simp only[E1]at h;split at h
  ·rename_i n e i off len room op hu B
   obtain⟨h1,h2⟩:=Aq h;cases h2;simp only[cv]at h1;have F:¬len<n:=by omega
   simp[execOp,Instr.arrayAt,Dx hT w hu,Bl A B,Cp,F]
  ·cases h
 | _=>simp[E1]at h
end
end
theorem Ab.get_put(h:Ab)(i:Nat)(o:By)(j:Nat):(h.put i o).get j=if i=j then some o else h.get j:=by
 obtain⟨t,n,m⟩:=h;exact Tr.get_put t i (some o) j
theorem Ab.Aa1(h:Ab)(i j:Nat):(h.del i).get j=if i=j then none else h.get j:=by
 obtain⟨t,n,m⟩:=h;exact Tr.get_put t i none j
theorem Ab.Lb(h:Ab)(o:By)(j:Nat):(h.new o).get j=if h.next=j then some o else h.get j:=by
 obtain⟨t,n,m⟩:=h;exact Tr.get_put t n (some o) j
theorem Ab.Qg(h:Ab)(i:Nat)(o:By):(h.put i o).next=h.next:=rfl
theorem Ab.Aqt(h:Ab)(i:Nat):(h.del i).next=h.next:=rfl
theorem Ab.Di(h:Ab)(o:By):(h.new o).next=h.next+1:=rfl
theorem Ab.Apc(h:Ab)(i:Nat)(o:By):(h.put i o).mw=min i h.mw:=by
 obtain⟨t,n,m⟩:=h;show Ax (Nat.ble i m) i m=min i m;rw[Bn];by_cases hi:i<=m
 ·rw[aQ (X0 hi)];omega
 ·rw[aM (by rw[Aap hi];simp)];omega
theorem Ab.A2u(h:Ab)(i:Nat):(h.del i).mw=min i h.mw:=Ab.Apc h i (.deferred true)
theorem Ab.Bsi(h:Ab)(o:By):(h.new o).mw=h.mw:=rfl
def By.ok(p:Nat->Prop):By->Prop
 | .cells l _=>EV.Tn p l/\l.all EV.one=true
 | .vec l _ _=>EV.Tn p l/\l.all EV.one=true
 | .map es=>∀e∈es,e.1.ok p/\e.2.ok p
 | .chan _ buf=>EV.Tn p buf
 | .loop _ _ _ n tm _ _ _ d=>Lh p n tm/\p d
 | .deferred _=>True
 | .view ws _=>∀x∈ws,EV.Tn p x.2/\x.2.all EV.one=true
theorem By.ok.mono(j:∀i,p i->q i)(h:o.ok p):o.ok q:=by
 cases o with
 | cells l t=>exact⟨EV.Tn.mono j l h.1,h.2⟩
 | vec l t s=>exact⟨EV.Tn.mono j l h.1,h.2⟩
 | map es=>exact fun e he=>⟨EV.ok.mono j _ (h e he).1,EV.ok.mono j _ (h e he).2⟩
 | chan c buf=>exact EV.Tn.mono j buf h
 | loop st u fn n tm ps asg body d=>exact⟨Lh.mono h.1 j,j d h.2⟩
 | deferred b=>trivial
 | view ws _=>exact fun x m=>⟨EV.Tn.mono j x.2 (h x m).1,(h x m).2⟩
def Q7(f:Loc)(i:Nat):By->Obj->Prop
 | .cells l e,r=>r=.cells (Bp f l).toArray e (0,0)
 | .vec l e s,r=>∃more:List Value,r=.cells (Bp f l++more).toArray e (0,0)/\more.length=f.sp i*s
 | .map es,r=>∃m clock,r=.map m clock/\m.toList.map (fun e=>(e.key,e.val))=es.map (fun e=>(Cp f e.1,Cp f e.2))
 | .chan cap buf,r=>∃s c,r=.chan cap (Bp f buf).toArray false s c false
 | .loop st p fn n tm ps asg body d,r=>r=.loop ⟨st,p,fn,Bh f n tm,ps.toArray,asg,body,f.b d⟩
 | .deferred op,r=>r=.deferred (if op=true then some []else none)
 | .view ws r0,r=>r=r0/\∃arr e fr,r=.cells arr e fr/\∀x∈ws,∀(j:Nat) v,x.2[j]? = some v->arr[x.1+j]? = some (Cp f v)
theorem Q7.congr(m:Loc.agree p f g)(hi:p i)(u:o.ok p){r:Obj}(h:Q7 f i o r):Q7 g i o r:=by
 cases o with
 | cells l t=>simp only[Q7]at h⊢;rw[h,Fv m l u.1]
 | vec l t s=>simp only[Q7]at h⊢;obtain⟨more,h1,h2⟩:=h;exact⟨more,by rw[h1,Fv m l u.1],by rw[h2,(m i hi).2]⟩
 | map es=>
  obtain⟨y,clock,h1,h2⟩:=h;refine⟨y,clock,h1,?_⟩;rw[h2];apply cZ;intro e he;rw[Afc m _ (u e he).1,Afc m _ (u e he).2]
 | chan c buf=>obtain⟨s,B,h1⟩:=h;exact⟨s,B,by rw[h1,Fv m buf u]⟩
 | loop st C fn n tm ps asg body d=>simp only[Q7]at h⊢;rw[h,K4 m u.1,(m d u.2).1]
 | deferred b=>exact h
 | view ws r0=>
  obtain⟨h0,arr,e,fr,h1,h2⟩:=h;exact⟨h0,arr,e,fr,h1,fun x A j v hj=>by rw[<-Afc m v ((Ho p x.2).1 (u x A).1 v (dO hj))];exact h2 x A j v hj⟩
structure Tk(p:Nat->Prop)(h:Ab):Prop where
 lt:∀i,p i->i<h.next
 get:∀i o,h.get i=some o->p i/\o.ok p
structure Tz(f:Loc)(h:Ab)(w:World):Prop where
 obj:∀i o,h.get i=some o->∃r,w.heap[f.b i]? = some r/\Q7 f i o r
 inj:∀i j o o',h.get i=some o->h.get j=some o'->f.b i=f.b j->i=j
theorem Tz.sub{w:World}(u:Tz f h w)(hs:∀i o,h'.get i=some o->h.get i=some o):Tz f h' w where
 obj i o d:=u.obj i o (hs i o d)
 inj i j o o' d m e:=u.inj i j o o' (hs i o d) (hs j o' m) e
theorem Tz.lt{w:World}(d:Tz f h w)(e:h.get i=some o):f.b i<w.heap.size:=by
 obtain⟨r,h1,_⟩:=d.obj i o e;exact(cM.1 h1).1
def grow(p:Nat->Prop)(h h':Ab)(i:Nat):Prop:=p i\/(h.next<=i/\i<h'.next)
theorem Ju(p:Nat->Prop)(h h':Ab)(e:h'.next=h.next):grow p h h'=p:=by
 funext i;exact propext ⟨fun x=>x.elim id (fun⟨a,b⟩=>absurd b (by omega)),.inl⟩
theorem Afb(p:Nat->Prop)(a:h.next<=h1.next)(b:h1.next<=h2.next):grow (grow p h h1) h1 h2=grow p h h2:=by
 funext i;apply propext;constructor
 ·rintro((x|x)|x)
  ·exact .inl x
  ·exact .inr (by omega)
  ·exact .inr (by omega)
 ·rintro(x|x)
  ·exact .inl (.inl x)
  ·by_cases c:i<h1.next
   ·exact .inl (.inr ⟨x.1,c⟩)
   ·exact .inr (by omega)
structure Wf(p:Nat->Prop)(h h':Ab):Prop where
 next:h.next<=h'.next
 mw:h'.mw<=h.mw
 same:∀i,i<h'.mw->i<h.next->h'.get i=h.get i
 live:∀i o,h'.get i=some o->(∃o',h.get i=some o')\/h.next<=i
 hok:Tk (grow p h h') h'
structure Move(p:Nat->Prop)(f:Loc)(h:Ab)(w:World)(f':Loc)(h':Ab)(w':World):Prop where
 agree:Loc.agree p f f'
 rep:Tz f' h' w'
 kept:∀b,b<w.heap.size->(∀i o,h.get i=some o->f.b i≠b)->w'.heap[b]? = w.heap[b]?
 size:w.heap.size<=w'.heap.size
 tape:w'.tape=w.tape
 os:w'.os=w.os
 output:w'.output=w.output
 own:∀i o,h'.get i=some o->w.heap.size<=f'.b i\/∃j o',h.get j=some o'/\f'.b i=f.b j
theorem Wf.refl(d:Tk p h):Wf p h h where
 next:=aD _
 mw:=aD _
 same _ _ _:=rfl
 live i o e:=.inl ⟨o,e⟩
 hok:=by rw[Ju p h h rfl];exact d
theorem Wf.trans(a:Wf p h h1)(b:Wf (grow p h h1) h1 h2):Wf p h h2 where
 next:=bQ a.next b.next
 mw:=bQ b.mw a.mw
 same i x y:=by rw[b.same i x (by have:=a.next;omega),a.same i (by have:=b.mw;omega) y]
 live i o e:=by
  rcases b.live i o e with⟨o',d⟩|hi
  ·exact a.live i o' d
  ·exact .inr (by have:=a.next;omega)
 hok:=by rw[<-Afb p a.next b.next];exact b.hok
theorem Move.refl{w:World}(d:Tz f h w):Move p f h w f h w where
 agree:=Loc.Amq p f
 rep:=d
 kept _ _ _:=rfl
 size:=aD _
 tape:=rfl
 os:=rfl
 output:=rfl
 own i o e:=.inr ⟨i,o,e,rfl⟩
theorem Move.trans{f1 f2:Loc}{w w1 w2:World}(a:Move p f h w f1 h1 w1)
 (b:Move (grow p h h1) f1 h1 w1 f2 h2 w2):Move p f h w f2 h2 w2 where
 agree:=a.agree.trans (b.agree.mono fun i hi=>.inl hi)
 rep:=b.rep
 kept x A B:=by
  rw[b.kept x (aN A a.size) ?_,a.kept x A B];intro i o u e;rcases a.own i o u with hi|⟨j,o',d,hj⟩
  ·omega
  ·exact B j o' d (hj▸e)
 size:=bQ a.size b.size
 tape:=b.tape.trans a.tape
 os:=b.os.trans a.os
 output:=b.output.trans a.output
 own i o u:=by
  rcases b.own i o u with hi|⟨j,o',d,hj⟩
  ·exact .inl (bQ a.size hi)
  ·rcases a.own j o' d with hi|⟨k,y,m,C⟩
   ·exact .inl (hj▸hi)
   ·exact .inr ⟨k,y,m,hj.trans C⟩
theorem Wf.put(d:Tk p h)(hi:h.get i=some o)(m:o'.ok p):Wf p h (h.put i o') where
 next:=aD _
 mw:=by rw[Ab.Apc];omega
 same j x _:=by rw[Ab.Apc]at x;rw[Ab.get_put,aM (by omega)]
 live j q hj:=by
  rw[Ab.get_put]at hj;split at hj
  ·rename_i e;subst e;exact .inl ⟨o,hi⟩
  ·exact .inl ⟨q,hj⟩
 hok:=by
  rw[Ju p h (h.put i o') rfl];refine⟨d.lt,fun j q hj=>?_⟩;rw[Ab.get_put]at hj;split at hj
  ·rename_i e;subst e;cases hj;exact⟨(d.get i o hi).1,m⟩
  ·exact d.get j q hj
theorem Move.put{w:World}(d:Tz f h w)(hi:h.get i=some o)
 {r:Obj} (h1:w'.heap[f.b i]? = some r) (h2:Q7 f i o' r) (A:∀b,b≠f.b i->w'.heap[b]? = w.heap[b]?) (h4:w'.heap.size=w.heap.size)
 (B:w'.tape=w.tape) (C:w'.os=w.os) (D:w'.output=w.output):Move p f h w f (h.put i o') w' where
 agree:=Loc.Amq p f
 rep:=by
  refine⟨fun j q hj=>?_,fun j k q q' hj m e=>?_⟩
  ·rw[Ab.get_put]at hj
   split at hj
   ·rename_i e;subst e;cases hj;exact⟨r,h1,h2⟩
   ·rename_i e
    obtain⟨E,a,b⟩:=d.obj j q hj;refine⟨E,?_,b⟩;rw[A _ ?_]
    ·exact a
    ·intro e';exact e (d.inj j i q o hj hi e').symm
  ·have u:∃q,h.get j=some q:=by
    rw[Ab.get_put]at hj;split at hj
    ·rename_i e;exact⟨o,e▸hi⟩
    ·exact⟨q,hj⟩
   have y:∃q,h.get k=some q:=by
    rw[Ab.get_put]at m;split at m
    ·rename_i e;exact⟨o,e▸hi⟩
    ·exact⟨q',m⟩
   obtain⟨a,F⟩:=u;obtain⟨b,hb⟩:=y;exact d.inj j k a b F hb e
 kept b _ G:=A b (fun e=>G i o hi e.symm)
 size:=by omega
 tape:=B
 os:=C
 output:=D
 own j q hj:=by
  rw[Ab.get_put]at hj;split at hj
  ·rename_i e;subst e;exact .inr ⟨i,o,hi,rfl⟩
  ·exact .inr ⟨j,q,hj,rfl⟩
def Loc.set(f:Loc)(i b sp:Nat):Loc:=⟨fun j=>if j=i then b else f.b j,fun j=>if j=i then sp else f.sp j⟩
theorem Loc.Xr(f:Loc)(i b sp:Nat):(f.set i b sp).b i=b:=aQ rfl
theorem Loc.Ao3(f:Loc)(i b sp:Nat):(f.set i b sp).sp i=sp:=aQ rfl
theorem Loc.Uu(f:Loc){j:Nat}(b sp:Nat)(h:j≠i):(f.set i b sp).b j=f.b j/\(f.set i b sp).sp j=f.sp j:=⟨aM h,aM h⟩
theorem Loc.Mr(f:Loc)(b sp:Nat)(h:¬p i):Loc.agree p f (f.set i b sp):=fun j hj=>
 have e:j≠i:=fun e=>h (e▸hj)
 ⟨(f.Uu b sp e).1.symm,(f.Uu b sp e).2.symm⟩
theorem Tk.fresh(d:Tk p h):¬p h.next:=fun x=>absurd (d.lt _ x) (by omega)
theorem Tk.Afh(d:Tk p h)(hi:h.get i=some o):i≠h.next:=fun e=>d.fresh (e▸(d.get i o hi).1)
theorem Wf.new(d:Tk p h)(m:o.ok (grow p h (h.new o))):Wf p h (h.new o) where
 next:=by rw[Ab.Di];omega
 mw:=aD _
 same j x y:=by rw[Ab.Lb,aM (by omega)]
 live j q hj:=by
  rw[Ab.Lb]at hj;split at hj
  ·rename_i e;exact .inr (by omega)
  ·exact .inl ⟨q,hj⟩
 hok:=by
  refine⟨fun j hj=>?_,fun j q hj=>?_⟩
  ·rcases hj with hj|hj
   ·have:=d.lt j hj;rw[Ab.Di];omega
   ·exact hj.2
  ·rw[Ab.Lb]at hj
   split at hj
   ·rename_i e;cases hj;exact⟨.inr (by rw[Ab.Di];omega),m⟩
   ·exact⟨.inl (d.get j q hj).1,By.ok.mono (fun i hi=>.inl hi) (d.get j q hj).2⟩
theorem Move.new{w:World}(d:Tk p h)(u:Tz f h w)(sp:Nat)
 {r:Obj} (h1:w'.heap=w.heap.push r) (h2:Q7 (f.set h.next w.heap.size sp) h.next o r)
 (y:w'.tape=w.tape) (A:w'.os=w.os) (B:w'.output=w.output):Move p f h w (f.set h.next w.heap.size sp) (h.new o) w' where
 agree:=f.Mr _ _ d.fresh
 rep:=by
  refine⟨fun j q hj=>?_,fun j k q q' hj m e=>?_⟩
  ·rw[Ab.Lb]at hj
   split at hj
   ·rename_i e;subst e;cases hj;exact⟨r,by rw[Loc.Xr,h1];simp,h2⟩
   ·obtain⟨C,a,b⟩:=u.obj j q hj
    have E:=u.lt hj;obtain⟨D,hok⟩:=d.get j q hj;refine⟨C,?_,b.congr (f.Mr _ _ d.fresh) D hok⟩;rw[(f.Uu _ _ (d.Afh hj)).1,h1,Array.getElem?_push,aM (by omega)];exact a
  ·rw[Ab.Lb]at hj m
   split at hj
   ·rename_i e1
    split at m
    ·rename_i e2;omega
    ·subst e1
     rw[Loc.Xr,(f.Uu _ _ (d.Afh m)).1]at e;have:=u.lt m;omega
   ·split at m
    ·rename_i e2
     subst e2;rw[Loc.Xr,(f.Uu _ _ (d.Afh hj)).1]at e;have:=u.lt hj;omega
    ·rw[(f.Uu _ _ (d.Afh hj)).1,(f.Uu _ _ (d.Afh m)).1]at e
     exact u.inj j k q q' hj m e
 kept b hb _:=by rw[h1,Array.getElem?_push,aM (by omega)]
 size:=by rw[h1];simp
 tape:=y
 os:=A
 output:=B
 own j q hj:=by
  rw[Ab.Lb]at hj;split at hj
  ·rename_i e;subst e;rw[Loc.Xr];exact .inl (aD _)
  ·exact .inr ⟨j,q,hj,(f.Uu _ _ (d.Afh hj)).1⟩
theorem Tk.del(d:Tk p h)(i:Nat):Tk p (h.del i):=
 ⟨d.lt,fun j q hj=>by rw[Ab.Aa1]at hj;split at hj;cases hj;exact d.get j q hj⟩
theorem Wf.del(d:Tk p h)(i:Nat):Wf p h (h.del i) where
 next:=aD _
 mw:=by rw[Ab.A2u];omega
 same j x _:=by rw[Ab.A2u]at x;rw[Ab.Aa1,aM (by omega)]
 live j q hj:=by
  rw[Ab.Aa1]at hj;split at hj
  ·cases hj
  ·exact .inl ⟨q,hj⟩
 hok:=by rw[Ju p h (h.del i) rfl];exact d.del i
theorem Amb:∀j o,(h.del i).get j=some o->h.get j=some o:=by
 intro j o hj;rw[Ab.Aa1]at hj;split at hj
 ·cases hj
 ·exact hj
theorem Wf.A2x(d:Tk p h)(i:Nat)(j:o.ok (grow p h (h.new o))):Wf p h ((h.del i).new o):=by
 have a:=Wf.del d i;have e:grow p h (h.del i)=p:=Ju p h (h.del i) rfl;have b:Wf (grow p h (h.del i)) (h.del i) ((h.del i).new o):=by
  rw[e];exact Wf.new (d.del i) j
 exact a.trans b
theorem Move.A2x{w:World}(u:Tk p h)(d:Tz f h w)(hi:h.get i=some o)(sp:Nat)
 {r:Obj} (h1:w'.heap[f.b i]? = some r) (h2:Q7 (f.set h.next (f.b i) sp) h.next o' r) (y:∀b,b≠f.b i->w'.heap[b]? = w.heap[b]?) (h4:w'.heap.size=w.heap.size)
 (B:w'.tape=w.tape) (C:w'.os=w.os) (D:w'.output=w.output):Move p f h w (f.set h.next (f.b i) sp) ((h.del i).new o') w' where
 agree:=f.Mr _ _ u.fresh
 rep:=by
  have key:∀j q,((h.del i).new o').get j=some q->(j=h.next/\q=o')\/(j≠i/\j≠h.next/\h.get j=some q):=by
   intro j q hj;rw[Ab.Lb]at hj;split at hj
   ·rename_i e;cases hj;exact .inl ⟨e.symm,rfl⟩
   ·rename_i e
    rw[Ab.Aa1]at hj;split at hj
    ·cases hj
    ·rename_i e';exact .inr ⟨fun x=>e' x.symm,fun x=>e x.symm,hj⟩
  refine⟨fun j q hj=>?_,fun j k q q' hj A e=>?_⟩
  ·rcases key j q hj with⟨rfl,rfl⟩|⟨c1,c2,c3⟩
   ·exact⟨r,by rw[Loc.Xr];exact h1,h2⟩
   ·obtain⟨E,a,b⟩:=d.obj j q c3
    obtain⟨F,hok⟩:=u.get j q c3;refine⟨E,?_,b.congr (f.Mr _ _ u.fresh) F hok⟩;rw[(f.Uu _ _ c2).1,y _ (fun e=>c1 (d.inj j i q o c3 hi e))];exact a
  ·rcases key j q hj with⟨rfl,rfl⟩|⟨c1,c2,c3⟩
   ·rcases key k q' A with⟨rfl,rfl⟩|⟨d1,d2,d3⟩
    ·rfl
    ·rw[Loc.Xr,(f.Uu _ _ d2).1]at e
     exact absurd (d.inj i k o q' hi d3 e).symm d1
   ·rcases key k q' A with⟨rfl,rfl⟩|⟨d1,d2,d3⟩
    ·rw[Loc.Xr,(f.Uu _ _ c2).1]at e
     exact absurd (d.inj j i q o c3 hi e) c1
    ·rw[(f.Uu _ _ c2).1,(f.Uu _ _ d2).1]at e
     exact d.inj j k q q' c3 d3 e
 kept b _ G:=y b (fun e=>G i o hi e.symm)
 size:=by omega
 tape:=B
 os:=C
 output:=D
 own j q hj:=by
  rw[Ab.Lb]at hj;split at hj
  ·rename_i e;rw[show j=h.next from e.symm,Loc.Xr];exact .inr ⟨i,o,hi,rfl⟩
  ·have m:=Amb j q hj
   exact .inr ⟨j,q,m,(f.Uu _ _ (u.Afh m)).1⟩
theorem Move.Br7{w:World}(d:Tk p h)(m:Tz f h w)(i:Nat)(sp:Nat)
 {r:Obj} (h1:w'.heap=w.heap.push r) (h2:Q7 (f.set h.next w.heap.size sp) h.next o r)
 (u:w'.tape=w.tape) (y:w'.os=w.os) (A:w'.output=w.output):Move p f h w (f.set h.next w.heap.size sp) ((h.del i).new o) w':=by
 have a:=Move.new (d.del i) (m.sub Amb) (o:=o) sp h1 h2 u y A;exact⟨a.agree,a.rep,fun b hb B=>a.kept b hb (fun j q hj=>B j q (Amb j q hj)),a.size,a.tape,a.os,a.output,
  fun j q hj=>(a.own j q hj).imp id (fun⟨k,q',C,e⟩=>⟨k,q',Amb k q' C,e⟩)⟩
def Apn(P:Program)(s:Sem Next)(p:Nat->Prop)(f:Loc)(h:Ab)(w:World)(v:EV)(h':Ab):Prop:=
 ∃f' w' N,s.run P w=.ok N w'/\(N=.value (Cp f' v)\/(N=.skip/\v=.tuple []))/\Move p f h w f' h' w'/\Wf p h h'/\v.ok (grow p h h')
theorem S7{l:List EV}(d:EV.Tn p l):EV.Tn (grow p h h') l:=EV.Tn.mono (fun _ hi=>.inl hi) l d
theorem A99{l:List EV}(d:EV.Tn p l)(off n:Nat):EV.Tn p ((l.drop off).take n):=
 (Ho p _).2 fun v e=>(Ho p _).1 d v (aE (bO e))
theorem Aas{a b:List EV}(d:EV.Tn p a)(hb:EV.Tn p b):EV.Tn p (a++b):=
 (Ho p _).2 fun v e=>(bP.1 e).elim ((Ho p _).1 d v) ((Ho p _).1 hb v)
theorem A9c {l:List EV}(d:l.all EV.one=true)(off n:Nat):((l.drop off).take n).all EV.one=true:=by
 rw[dP]at d⊢;exact fun v e=>d v (aE (bO e))
theorem Bc8 {a b:List EV}(d:a.all EV.one=true)(hb:b.all EV.one=true):(a++b).all EV.one=true:=by
 rw[List.all_append,d,hb];rfl
theorem A0j{l x:List EV}(h:Fm l off vs=some x)(d:EV.Tn p l)(e:EV.Tn p vs):EV.Tn p x:=
 (Ho p _).2 fun v j=>(Atw h j).elim ((Ho p _).1 d v) ((Ho p _).1 e v)
theorem A2q {l x:List EV}(h:Fm l off vs=some x)(d:l.all EV.one=true)(e:vs.all EV.one=true):x.all EV.one=true:=by
 rw[dP]at *;exact fun v j=>(Atw h j).elim (d v) (e v)
theorem setRow_other(w:World)(g:Nat)(cs:Array Value)(b:Nat)(hb:b≠g):(w.setRow g cs).heap[b]? = w.heap[b]?:=by
 simp only[World.setRow,Array.getElem?_modify];rw[aM (cT hb)]
theorem setRow_size(w:World)(g:Nat)(cs:Array Value):(w.setRow g cs).heap.size=w.heap.size:=by simp[World.setRow]
section
variable{w:World}
theorem Bdu{o:Nat}{l:List EV}(e:Awm ws off=some (o,l)):(o,l)∈ws/\o<=off:=by
 induction ws with
 | nil=>cases e
 | cons x r d=>
  obtain⟨o',l'⟩:=x;unfold Awm at e;cases h1:Nat.ble o' off with
  | false=>rw[h1]at e;exact⟨aT _ (d e).1,(d e).2⟩
  | true=>
   rw[h1,Aj]at e;cases h2:Nat.ble (Nat.succ (Nat.sub off o')) (len l')with
   | false=>rw[h2]at e;exact⟨aT _ (d e).1,(d e).2⟩
   | true=>rw[h2]at e;cases e;exact⟨aV ..,bB h1⟩
theorem Amk(B:Tk p h)(C:Tz f h w){l:List EV}(d:Iw h i off n=some l):
 (loadCells ⟨f.b i,off,none⟩ n).run P w=.ok (Bp f l).toArray w/\EV.Tn p l/\l.all EV.one=true/\l.length=n /\
  ∀j v,l[j]? = some v->w.cell? ⟨f.b i,off+j,none⟩=some (Cp f v):=by
 have key:∀(L:List EV) (arr:Array Value) (e:TypeId) (fr:Nat × Nat) (o:Nat),w.heap[f.b i]? = some (.cells arr e fr)->o<=off->(∀(j:Nat) v,L[j]? = some v->arr[o+j]? = some (Cp f v))->EV.Tn p L->L.all EV.one=true ->
  takeN (Zz L (off-o)) n=some l->(loadCells ⟨f.b i,off,none⟩ n).run P w=.ok (Bp f l).toArray w/\EV.Tn p l/\l.all EV.one=true/\l.length=n /\
  ∀j v,l[j]? = some v->w.cell? ⟨f.b i,off+j,none⟩=some (Cp f v):=by
  intro L arr e fr o h1 K h2 y h4 D;obtain⟨E,A⟩:=Afr D;rw[St]at E A;have hlen:l.length=n:=by rw[A,bH];omega
  have G:∀j v,l[j]? = some v->w.cell? ⟨f.b i,off+j,none⟩=some (Cp f v):=by
   intro j v hj;rw[A,dY]at hj;split at hj
   ·rw[cX]at hj
    simp only[World.cell?,h1];have:=h2 _ _ hj;rw[show o+(off-o+j)=off+j by omega]at this;simpa using this
   ·cases hj
  refine⟨?_,A▸A99 y (off-o) n,A▸A9c h4 (off-o) n,hlen,G⟩;have H:(Bp f l).length=n:=by rw[Cs,hlen]
  rw[<-H];apply run_loadCells_list;intro j v hj;rw[Agx]at hj;cases F:l[j]? with
  | none=>rw[F]at hj;cases hj
  | some u=>
   rw[F]at hj;cases hj;rw[U9];exact G j u F
 unfold Iw at d;split at d
 ·rename_i L e m
  obtain⟨r,h1,h2⟩:=C.obj i _ m;obtain⟨_,y,h4⟩:=B.get i _ m;simp only[Q7]at h2;subst h2;exact key L _ e (0,0) 0 h1 (cU _) (fun j v hj=>by simp[Agx,hj]) y h4 d
 ·rename_i L e s m
  obtain⟨r,h1,more,h2,_⟩:=C.obj i _ m;obtain⟨_,y,h4⟩:=B.get i _ m;subst h2;refine key L _ e (0,0) 0 h1 (cU _) (fun j v hj=>?_) y h4 d;rw[bF];have:j<(Bp f L).length:=by rw[Cs];exact(bJ.1 hj).1
  simp only[bU];rw[bh this,Agx,hj];rfl
 ·rename_i ws r0 m
  split at d
  ·rename_i o L hw
   obtain⟨hm,D⟩:=Bdu hw;obtain⟨r,h1,_,arr,e,fr,h2,E⟩:=C.obj i _ m;obtain⟨_,J⟩:=B.get i _ m;obtain⟨y,h4⟩:=J _ hm;subst h2;exact key L _ e fr o h1 D (E _ hm) y h4 d
  ·cases d
 ·cases d
theorem Ayl(A:Tk p h)(B:Tz f h w)(j:Mc h i off vs=some h')(E:EV.Tn p vs)(h1:vs.all EV.one=true):
 ∃w',(storeCells ⟨f.b i,off,none⟩ (Bp f vs)).run P w=.ok () w'/\Move p f h w f h' w'/\Wf p h h':=by
 have u:∀v∈Bp f vs,v.oneCell'=true:=Yg f vs (by simpa using h1);unfold Mc at j;split at j
 ·rename_i L e m
  obtain⟨r,y,C⟩:=B.obj i _ m;obtain⟨_,a3,a4⟩:=A.get i _ m;simp only[Q7]at C;subst C;split at j
  ·rename_i D hs
   cases j;obtain⟨b1,b2⟩:=Xu hs;have d:=run_storeCells_at (P:=P) (f.b i) off e (Bp f vs) 0 (Bp f L).toArray w y (by simp only[Cs,cW];omega) u;refine⟨_,d,?_,Wf.put A m ⟨A0j hs a3 E,A2q hs a4 h1⟩⟩;refine Move.put B m (r:=.cells (Bp f D).toArray e (0,0)) ?_ rfl (fun b hb=>setRow_other _ _ _ _ hb) (setRow_size _ _ _) rfl rfl rfl;rw[setRow_heap w (f.b i) _ _ e (0,0) y,b2,Apz];simp
  ·cases j
 ·rename_i L e s m
  obtain⟨r,y,more,C,F⟩:=B.obj i _ m;obtain⟨_,a3,a4⟩:=A.get i _ m;subst C;split at j
  ·rename_i D hs
   cases j;obtain⟨b1,b2⟩:=Xu hs;have d:=run_storeCells_at (P:=P) (f.b i) off e (Bp f vs) 0 (Bp f L++more).toArray w y (by simp only[Cs,cW,aG];omega) u;refine⟨_,d,?_,Wf.put A m ⟨A0j hs a3 E,A2q hs a4 h1⟩⟩;refine Move.put B m (r:=.cells (Bp f D++more).toArray e (0,0)) ?_ ⟨more,rfl,F⟩ (fun b hb=>setRow_other _ _ _ _ hb) (setRow_size _ _ _) rfl rfl rfl;rw[setRow_heap w (f.b i) _ _ e (0,0) y,b2,Apz];simp only[dS,cz];rw[dK (by rw[Cs];omega),eT (by simp only[Cs];omega)];simp
  ·cases j
 ·cases j
variable (hT:Pe P T)
include hT
theorem Bn2(m:Reads f tm ρ)(y:Tk p h)(A:Tz f h w)
 {o:Oper} (B:o.op=.load t a) (d:Du T tm (.load t a) h=some (v,h')) :
 h'=h/\v.ok p/\(execOp ρ o).run P w=.ok (.value (Cp f v)) w:=by
 simp only[Du]at d;split at d
 ·rename_i i off C
  split at d
  ·rename_i e
   split at d
   ·rename_i n G
    split at d
    ·rename_i l j
     cases d;obtain⟨h1,h2,D,h4,E⟩:=Amk (P:=P) y A j;refine⟨rfl,⟨h2,D⟩,?_⟩;simp only[execOp,B,Instr.loadAt,Bl m C,Cp,Instr.sureAddr,loadVar,Sem.run_bind,aS,aI,Arm hT w e,Gg hT w G,h1,bI]
    ·cases d
   ·cases d
  ·rename_i e
   split at d
   ·rename_i u j
    cases d;obtain⟨h1,h2,D,h4,E⟩:=Amk (P:=P) y A j;refine⟨rfl,h2.1,?_⟩;have F:=E 0 v rfl;simp only[execOp,B,Instr.loadAt,Bl m C,Cp,Instr.sureAddr,loadVar,Sem.run_bind,aS,aI,Arm hT w e,run_load,aW,aY];simp only[cz]at F;rw[F];rfl
   ·cases d
  ·cases d
 ·cases d
theorem Bjf(j:Reads f tm ρ)(C:Lh p n tm)(D:Tk p h)(E:Tz f h w)
 {o:Oper} (F:o.op=.store t a x) (d:Du T tm (.store t a x) h=some (v,h')) :
 Apn P (execOp ρ o) p f h w v h':=by
 simp only[Du]at d;split at d
 ·rename_i i off u m G y A
  obtain⟨h1,h2⟩:=Aq d;obtain⟨B,h4⟩:=Aq h2;split at h4
  ·rename_i H hw
   cases h4;rw[X8]at B;have e:=aL B;obtain⟨c1,c2⟩:=U5 (Ez C y) h1;obtain⟨w',J,K,L⟩:=Ayl (P:=P) D E hw c1 (by simpa using c2);refine⟨f,w',.skip,?_,.inr ⟨rfl,rfl⟩,K,L,trivial⟩;simp only[execOp,F,Instr.storeAt,Bl j G,Bl j y,Instr.sureAddr,storeVar,Sem.run_bind,aS,aI,Gg hT w A];simp only[Cp,aS,aI,Ts,Sem.run_bind,Gg hT w A];simp[e,J,Cs]
  ·cases h4
 ·cases d
omit hT in
theorem Aml(d:Tk p h)(m:Tz f h w)(e:TypeId){l:List EV}(j:EV.Tn p l)(h1:l.all EV.one=true):
 ∃f' w',(newRow e (Bp f l).toArray).run P w=.ok ⟨f'.b h.next,0,none⟩ w'/\Move p f h w f' (h.new (.cells l e)) w'/\Wf p h (h.new (.cells l e))/\grow p h (h.new (.cells l e)) h.next:=by
 refine⟨f.set h.next w.heap.size 0,{ w with heap:=w.heap.push (.cells (Bp f l).toArray e) },?_,?_,Wf.new d ⟨S7 j,h1⟩,.inr ⟨aD _,by rw[Ab.Di];omega⟩⟩
 ·rw[Loc.Xr];rfl
 ·refine Move.new d m 0 rfl ?_ rfl rfl rfl
  simp only[Q7];rw[Fv (f.Mr _ _ d.fresh) l j]
theorem Bhx(j:Tk p h)(m:Tz f h w)
 {o:Oper} (u:o.op=.alloc t) (d:Du T tm (.alloc t) h=some (v,h')) :
 Apn P (execOp ρ o) p f h w v h':=by
 simp only[Du]at d;split at d
 ·rename_i z y
  cases d;obtain⟨x,A,e,B,_,_,C,_⟩:=Acf hT f w y;obtain⟨c1,c2⟩:=U5 (C p) A;rw[<-e]at c1 c2;obtain⟨f',w',D,E,F,G⟩:=Aml (P:=P) j m t c1 (by simpa using c2);refine⟨f',w',_,?_,.inl rfl,E,F,G⟩;simp only[execOp,u,Instr.alloc,Sem.run_bind,B,aI,newVar,Ts,<-e,D,aS,Cp]
 ·cases d
omit hT in
theorem Bqw(e:Reads f tm ρ)(j:Lh p n tm)(m:Tk p h)(y:Tz f h w)
 {o:Oper} (A:o.op=.box t x) (d:Du T tm (.box t x) h=some (v,h')) :
 Apn P (execOp ρ o) p f h w v h':=by
 simp only[Du]at d;split at d
 ·rename_i u hu
  obtain⟨h1,h2⟩:=Aq d;cases h2;obtain⟨c1,c2⟩:=U5 (Ez j hu) h1;obtain⟨f',w',B,C,D,E⟩:=Aml (P:=P) m y t c1 (by simpa using c2);refine⟨f',w',_,?_,.inl rfl,C,D,E⟩;simp only[execOp,A,Instr.box,Bl e hu,Sem.run_bind,aI,newVar,Ts,B,aS,Cp]
 ·cases d
omit hT in
theorem Ba7(f:Loc)(z:List EV)(m:Nat)(j:m*z.length≠0):
 (Array.range (m*z.length)).map (fun i=>(Bp f z).toArray[i%(Bp f z).toArray.size]!)=(Bp f (rep z m)).toArray:=by
 apply eZ;intro i;simp only[Array.getElem?_map,bU,Agx,cW,Cs];by_cases hi:i<m*z.length
 ·rw[Bgi z m i hi]
  have d:i%z.length<z.length:=Nat.mod_lt _ (by rcases eh z.length with e|e;(simp[e]at j);exact e);simp[hi,Agx,d,aH d]
 ·have:(rep z m)[i]? = none:=cF (by rw[Al3];omega)
  simp[this];omega
theorem A3a {n:Nat}(E:Reads f tm ρ)(G:Tk p h)(H:Tz f h w)
 {o:Oper} {y:Operand} (J:o.op=.makeSlice t x y) (d:Du T tm (.makeSlice t x y) h=some (v,h')) :
 Apn P (execOp ρ o) p f h w v h':=by
 simp only[Du]at d;split at d
 ·rename_i e k a k' b hu K L
  split at d
  ·rename_i z M
   obtain⟨h1,h2⟩:=Aq d;obtain⟨B,h4⟩:=Aq h2;cases h4;simp only[cv]at h1 B;obtain⟨u,O,F,Q,_,_,S,i,i1,i2,i3⟩:=Acf hT f w M;obtain⟨c1,c2⟩:=U5 (S p) O;rw[<-F]at c1 c2;have d1:EV.Tn p (rep z b):=(Ho p _).2 fun v C=>(Ho p _).1 c1 v (Av5 C)
   have d2:(rep z b).all EV.one=true:=by rw[dP];exact fun v C=>c2 v (Av5 C)
   obtain⟨f',w',D,U,V,W⟩:=Aml (P:=P) G H e d1 d2;refine⟨f',w',_,?_,.inl rfl,U,V,W⟩;have X:IntKind.i64.wrap (Int.ofNat a)=a:=Ajv .i64 rfl _ 9223372036854775808 rfl rfl (by simp only[aX];omega) (by simp only[aX];omega);have wb:IntKind.i64.wrap (Int.ofNat b)=b:=Ajv .i64 rfl _ 9223372036854775808 rfl rfl (by simp only[aX];omega) (by simp only[aX];omega);have A:¬((2:Int)^48<(i.bytes:Int)*b):=by
    have:i.bytes*b<=1048576*65536:=fm i3 B;have e:((i.bytes*b:Nat):Int)=(i.bytes:Int)*b:=by simp
    omega
   have m:¬(roomBytes<b*i.bytes):=by
    have:b*i.bytes<=65536*1048576:=fm B i3;unfold roomBytes;omega
   simp only[execOp,J,Instr.makeSlice,Bl E K,Bl E L,Cp,Sem.run_bind,Dx hT w hu,aI,asInt,aS];have Y:(decide ((b:Int)<0)||decide ((i.bytes:Int)*b>2^48)||decide ((a:Int)<0)||decide ((a:Int)>b))=false:=by
    simp only[Bool.or_eq_false_iff,cm];exact⟨⟨⟨by omega,A⟩,by omega⟩,by omega⟩
   simp only[typeInfo,asIntOf,Sem.run_bind,fP,i1,aI,aS,X,wb];rw[Y];simp only[aW,aY,askRoom,bG,Sem.run_bind,gt_iff_lt,m,aS,aI,sizeOf,typeInfo,fP,i1,i2];by_cases j:b*z.length=0
   ·have Z:rep z b = []:=bX.1 (by rw[Al3];exact j)
    rw[Z]at D;have e0:∀g:Nat->Value,Array.map g (Array.range 0)=(Bp f []).toArray:=fun g=>by simp[Bp]
    simp only[j,bI,Sem.run_bind,aS,aI];rw[e0,D];simp
   ·rw[aM j]
    simp only[Sem.run_bind,Q,aS,aI,Ts,<-F];rw[Ba7 f z b j,D];simp
  ·cases d
 ·cases d
end
end Go.Ev
