import Derived.Test.YtokpnommcenoaaaGreatEvTwo
import Derived.Orders
set_option linter.unusedVariables false
set_option linter.unusedSimpArgs false
set_option linter.unusedSectionVars false
namespace Go.Ev
section
variable {tm tm':Ag}
theorem Jn:∀ {l:List Operand},(∀ x ∈ l,Bb tm x=Bb tm' x)->Fx tm l=Fx tm' l
 | [],_=>rfl
 | x::r,h=>by simp only[Fx];rw[h x List.mem_cons_self,Jn fun y hy=>h y (List.mem_cons_of_mem _ hy)]
theorem Qk:∀ {l:List (Nat × Operand)},(∀ x ∈ l,Bb tm x.2=Bb tm' x.2)->Jk tm l=Jk tm' l
 | [],_=>rfl
 | (i,x)::r,h=>by simp only[Jk];rw[h (i,x) List.mem_cons_self,Qk fun y hy=>h y (List.mem_cons_of_mem _ hy)]
theorem Pv {x:Option Operand}(h:∀ y,x=some y->Bb tm y=Bb tm' y):Iq tm x=Iq tm' x:=by
 cases x with
 | none=>rfl
 | some y=>simp only[Iq];rw[h y rfl]
theorem Aes {T:Cr}{op:Op}(h:∀ x ∈ op.operands,Bb tm x=Bb tm' x):B8 T tm op=B8 T tm' op:=by
 cases op with
 | build t ps=>
  have:Jk tm ps.toList=Jk tm' ps.toList:=Qk fun x hx=>h x.2 (by
   simp only[Op.operands,List.mem_toArray,List.mem_map];exact⟨x,hx,rfl⟩)
  simp only[B8,this]
 | makeFunc fn a b=>
  have h1:Fx tm a.toList=Fx tm' a.toList:=Jn fun x hx=>h x (by simp only[Op.operands,Array.mem_append];exact .inl (Array.mem_toList_iff.1 hx))
  have h2:Fx tm b.toList=Fx tm' b.toList:=Jn fun x hx=>h x (by simp only[Op.operands,Array.mem_append];exact .inr (Array.mem_toList_iff.1 hx))
  cases fn <;> simp only[B8,h1,h2]
 | slice t x lo hi mx=>
  have h0:Bb tm x=Bb tm' x:=h x (by simp[Op.operands])
  have h1:Iq tm lo=Iq tm' lo:=Pv fun y hy=>h y (by subst hy;simp[Op.operands])
  have h2:Iq tm hi=Iq tm' hi:=Pv fun y hy=>h y (by subst hy;simp[Op.operands])
  have h3:Iq tm mx=Iq tm' mx:=Pv fun y hy=>h y (by subst hy;simp[Op.operands])
  simp only[B8,h0,h1,h2,h3]
 | unOp u t x=>
  have h0:Bb tm x=Bb tm' x:=h x (by simp[Op.operands])
  cases u <;> simp only[B8,h0]
 | pick c a b=>simp only[B8,h c (by simp[Op.operands]),h a (by simp[Op.operands]),h b (by simp[Op.operands])]
 | binOp op t x y u=>simp only[B8,h x (by simp[Op.operands]),h y (by simp[Op.operands])]
 | indexAddr t x y=>simp only[B8,h x (by simp[Op.operands]),h y (by simp[Op.operands])]
 | index t x y=>simp only[B8,h x (by simp[Op.operands]),h y (by simp[Op.operands])]
 | move x=>simp only[B8,h x (by simp[Op.operands])]
 | assign x=>simp only[B8,h x (by simp[Op.operands])]
 | nilCheck x=>simp only[B8,h x (by simp[Op.operands])]
 | fieldAddr s x fi=>simp only[B8,h x (by simp[Op.operands])]
 | field s x fi=>simp only[B8,h x (by simp[Op.operands])]
 | convert s d x=>simp only[B8,h x (by simp[Op.operands])]
 | extract x ix=>simp only[B8,h x (by simp[Op.operands])]
 | sliceToArrayPointer t x=>simp only[B8,h x (by simp[Op.operands])]
 | _=>rfl
theorem Afi {T:Cr}{op:Op}{hp:Ac}(h:∀ x ∈ op.operands,Bb tm x=Bb tm' x):Bq T tm op hp=Bq T tm' op hp:=by
 cases op with
 | buildSlice t m ps=>
  have:Jk tm ps.toList=Jk tm' ps.toList:=Qk fun x hx=>h x.2 (by
   simp only[Op.operands,List.mem_toArray,List.mem_map];exact⟨x,hx,rfl⟩)
  simp only[Bq,this]
 | call c=>
  obtain⟨callee,args,ats⟩:=c
  cases callee with
  | builtin b=>
   have h1:Fx tm args.toList=Fx tm' args.toList:=Jn fun x hx=>h x (by simp only[Op.operands,Call.operands,Array.mem_append];exact .inr (Array.mem_toList_iff.1 hx))
   simp only[Bq,h1]
  | _=>rfl
 | select cs bl=>
  cases bl with
  | true=>rfl
  | false=>
   simp only[Bq]
   split
   ·rename_i c hc
    have hmem:c ∈ cs:=Array.mem_toList_iff.1 (by rw[hc];exact List.mem_cons_self)
    have h1:Bb tm c.chan=Bb tm' c.chan:=h c.chan (by
     simp only[Op.operands,Array.mem_flatMap]
     exact⟨c,hmem,by simp⟩)
    have h2:∀ y,c.send=some y->Bb tm y=Bb tm' y:=fun y hy=>h y (by
     simp only[Op.operands,Array.mem_flatMap]
     exact⟨c,hmem,by simp[hy]⟩)
    rw[h1]
    cases hs:c.send with
    | none=>
     cases Bb tm' c.chan with
     | none=>rfl
     | some v=>cases v <;> rfl
    | some y=>
     cases Bb tm' c.chan with
     | none=>rfl
     | some v=>cases v <;> first|rfl|(simp only[h2 y hs])
   ·rfl
 | makeMap t r=>cases r <;> rfl
 | load t x=>simp only[Bq,h x (by simp[Op.operands])]
 | store t a x=>simp only[Bq,h a (by simp[Op.operands]),h x (by simp[Op.operands])]
 | alloc t=>rfl
 | box t x=>simp only[Bq,h x (by simp[Op.operands])]
 | makeSlice t a x=>simp only[Bq,h a (by simp[Op.operands]),h x (by simp[Op.operands])]
 | makeChan t x=>simp only[Bq,h x (by simp[Op.operands])]
 | lookup t a x ok=>simp only[Bq,h a (by simp[Op.operands]),h x (by simp[Op.operands])]
 | mapUpdate t a x y=>simp only[Bq,h a (by simp[Op.operands]),h x (by simp[Op.operands]),h y (by simp[Op.operands])]
 | _=>rfl
theorem Ahu {T:Cr}{call round:Ae}{op:Op}{hp:Ac}(h:∀ x ∈ op.operands,Bb tm x=Bb tm' x):Oy T call round tm op hp=Oy T call round tm' op hp:=by
 unfold Oy
 rw[Aes h]
 congr 1
 split
 ·rename_i f args ats
  have h0:Bb tm f=Bb tm' f:=h f (by simp[Op.operands,Call.operands])
  have h1:Fx tm args.toList=Fx tm' args.toList:=Jn fun x hx=>h x (by simp only[Op.operands,Call.operands,Array.mem_append];exact .inr (Array.mem_toList_iff.1 hx))
  rw[h0,h1]
 ·exact Afi h
end
theorem Ads {ρ ρ':Operand->Value}(o:Oper)(hsel:∀ cs b,o.op=.select cs b->∃ c,cs = #[c])(h:∀ x ∈ o.op.operands,ρ x=ρ' x):execOp ρ o=execOp ρ' o:=by
 by_cases hs:∃ cs b,o.op=.select cs b
 ·obtain⟨cs,b,ho⟩:=hs
  obtain⟨c,rfl⟩:=hsel cs b ho
  rw[ho]at h
  have h1:ρ c.chan=ρ' c.chan:=h _ (by simp[Op.operands])
  have h2:c.send.map ρ=c.send.map ρ':=by
   cases hs:c.send with
   | none=>rfl
   | some y=>simp only[Option.map_some];rw[h y (by simp[Op.operands,hs])]
  simp only[execOp,ho]
  simp[h1,h2]
 ·exact execOp_congr o (fun cs b e=>hs ⟨cs,b,e⟩) h
noncomputable def Kh(tm:Ag):List Operand->Ag
 | []=>.nil
 | .tmp t::r=>(Kh tm r).put t (tm.get t)
 | _::r=>Kh tm r
open Classical in
theorem Iy(tm:Ag):∀ (l:List Operand) (t:Nat),(Kh tm l).get t=if .tmp t ∈ l then tm.get t else none
 | [],t=>by simp[Kh,Tr.get_nil]
 | .tmp u::r,t=>by
  simp only[Kh,Tr.get_put,Iy tm r t,List.mem_cons,Operand.tmp.injEq]
  by_cases h:u=t
  ·subst h;simp
  ·rw[if_neg h];simp[Ne.symm h]
 | .const v::r,t=>by simp only[Kh,Iy tm r t,List.mem_cons,reduceCtorEq,false_or]
 | .global v::r,t=>by simp only[Kh,Iy tm r t,List.mem_cons,reduceCtorEq,false_or]
 | .func v::r,t=>by simp only[Kh,Iy tm r t,List.mem_cons,reduceCtorEq,false_or]
theorem Aet(tm:Ag){l:List Operand}{x:Operand}(hx:x ∈ l):Bb (Kh tm l) x=Bb tm x:=by
 cases x with
 | tmp t=>simp only[Bb];rw[Iy,if_pos hx]
 | const v=>rfl
 | global v=>rfl
 | func v=>rfl
theorem An9 {p:Nat->Prop}{n:Nat}{tm:Ag}{l:List Operand}(h:∀ t,.tmp t ∈ l->∀ v,tm.get t=some v->v.ok p)(ho:∀ t,n<=t->tm.get t=none):Ec p n (Kh tm l) where
 ok t v hv:=by
  rw[Iy]at hv
  split at hv
  ·rename_i hm;exact h t hm v hv
  ·cases hv
 out t ht:=by
  rw[Iy]
  split
  ·exact ho t ht
  ·rfl
theorem Apu {T:Cr}{tm:Ag}{t:TypeId}{x:Operand}{h:Ac}{v:EV}{h':Ac}{q off:Nat}(hx:Bb tm x=some (.ptr q off))(hop:Bq T tm (.load t x) h=some (v,h')):
 ∃ o,h.get q=some o/\∀ h2:Ac,h2.get q=some o->Bq T tm (.load t x) h2=some (v,h2):=by
 have Kr:∀ n l,Em h q off n=some l->∃ o,h.get q=some o/\∀ h2:Ac,h2.get q=some o->Em h2 q off n=some l:=by
  intro n l hl
  cases hg:h.get q with
  | none=>simp[Em,hg]at hl
  | some o=>exact⟨o,rfl,fun h2 e=>by unfold Em at hl ⊢;rw[e];rw[hg]at hl;exact hl⟩
 simp only[Bq,hx]at hop ⊢
 split at hop
 ·rename_i ha
  split at hop
  ·rename_i n hn
   split at hop
   ·rename_i l hl
    cases hop
    obtain⟨o,h1,h2⟩:=Kr n l hl
    exact⟨o,h1,fun hh e=>by simp only[h2 hh e]⟩
   ·cases hop
  ·cases hop
 ·rename_i ha
  split at hop
  ·rename_i l hl
   cases hop
   obtain⟨o,h1,h2⟩:=Kr 1 _ hl
   exact⟨o,h1,fun hh e=>by simp only[h2 hh e]⟩
  ·cases hop
 ·cases hop
theorem Ans {T:Cr}{tm:Ag}{t:TypeId}{a x:Operand}{h:Ac}{v:EV}{h':Ac}{q off:Nat}(ha:Bb tm a=some (.ptr q off))(hop:Bq T tm (.store t a x) h=some (v,h')):
 ∃ o o',h.get q=some o/\h'=h.put q o'/\∀ h2:Ac,h2.get q=some o->Bq T tm (.store t a x) h2=some (v,h2.put q o'):=by
 have hw:∀ vs h',F9 h q off vs=some h'->∃ o o',h.get q=some o/\h'=h.put q o'/\∀ h2:Ac,h2.get q=some o->F9 h2 q off vs=some (h2.put q o'):=by
  intro vs h' hl
  unfold F9 at hl
  split at hl
  ·rename_i l t' hg
   split at hl
   ·rename_i l' hs
    cases hl
    exact⟨_,_,hg,rfl,fun h2 e=>by unfold F9;rw[e];simp only[hs]⟩
   ·cases hl
  ·rename_i l t' sz hg
   split at hl
   ·rename_i l' hs
    cases hl
    exact⟨_,_,hg,rfl,fun h2 e=>by unfold F9;rw[e];simp only[hs]⟩
   ·cases hl
  ·cases hl
 simp only[Bq,ha]at hop ⊢
 split at hop
 ·rename_i i' off' v' n' e1 e2 e3
  cases e1
  obtain⟨c1,hop⟩:=Ah hop
  obtain⟨c2,hop⟩:=Ah hop
  split at hop
  ·rename_i h1 hw1
   cases hop
   obtain⟨o,o',g1,g2,g3⟩:=hw _ _ hw1
   refine⟨o,o',g1,g2,fun h2 e=>?_⟩
   simp only[c1,c2,Ak,g3 h2 e]
  ·cases hop
 ·cases hop
theorem Vk {op:Op}(h:Tt op=true):∃ b args ats,op=.call { callee:=.builtin b,args,argTypes:=ats }/\(b=.len\/b=.min\/b=.max):=by
 cases op with
 | call c=>
  obtain⟨callee,args,ats⟩:=c
  cases callee with
  | builtin b=>cases b <;> first|(cases h;done)|exact⟨_,_,_,rfl,by simp⟩
  | _=>cases h
 | _=>cases h
theorem Anh {T:Cr}{tm:Ag}{op:Op}(hp:Tt op=true){h:Ac}{v:EV}{h':Ac}(hop:Bq T tm op h=some (v,h')):h'=h:=by
 obtain⟨b,args,ats,rfl,hb⟩:=Vk hp
 simp only[Bq]at hop
 split at hop
 ·rename_i as has
  rcases hb with rfl|rfl|rfl
  ·match as,hop with
   | [x],hop=>
    simp only[builtin]at hop
    repeat' split at hop
    all_goals first|(cases hop;done)|(cases hop;rfl)
   | [],hop=>cases hop
   | _::_::_,hop=>cases hop
  ·match as,hop with
   | x::l,hop=>
    cases x <;> first|(cases hop;done)|skip
    simp only[builtin]at hop
    split at hop
    ·cases hop;rfl
    ·cases hop
   | [],hop=>cases hop
  ·match as,hop with
   | x::l,hop=>
    cases x <;> first|(cases hop;done)|skip
    simp only[builtin]at hop
    split at hop
    ·cases hop;rfl
    ·cases hop
   | [],hop=>cases hop
 ·cases hop
theorem Sv {T:Cr}{call round:Ae}{tm:Ag}{op:Op}{h:Ac}(hp:Tt op=true):Oy T call round tm op h=Bq T tm op h:=by
 obtain⟨b,args,ats,rfl,hb⟩:=Vk hp
 rfl
theorem Qg(b c:Bool):Al b Cls.val (Al c .pur .Lw) ≠ .new/\Al b Cls.val (Al c .pur .Lw) ≠ .load/\Al b Cls.val (Al c .pur .Lw) ≠ .Nl:=by
 cases b <;> cases c <;> exact⟨fun h=>(by cases h),fun h=>(by cases h),fun h=>(by cases h)⟩
theorem Abq {op:Op}(h:cls op=.new):(∃ t,op=.alloc t)\/(∃ t x,op=.box t x)\/(∃ t n ps,op=.buildSlice t n ps)\/(∃ t a b,op=.makeSlice t a b)\/(∃ t r,op=.makeMap t r)\/(∃ t x,op=.makeChan t x):=by
 cases op <;> first
  | (rename_i c;exact absurd (show Al false Cls.val (Al (Tt (.call c)) .pur .Lw)=.new from h) (Qg _ _).1)
  | exact absurd h (Qg _ _).1
  | (cases h;done)
  | exact .inl ⟨_,rfl⟩|exact .inr (.inl ⟨_,_,rfl⟩)|exact .inr (.inr (.inl ⟨_,_,_,rfl⟩))|exact .inr (.inr (.inr (.inl ⟨_,_,_,rfl⟩)))
  | exact .inr (.inr (.inr (.inr (.inl ⟨_,_,rfl⟩))))|exact .inr (.inr (.inr (.inr (.inr ⟨_,_,rfl⟩))))
theorem Atv {T:Cr}{tm:Ag}{op:Op}(hc:cls op=.new){h:Ac}{v:EV}{h':Ac}(hop:Bq T tm op h=some (v,h')):
 ∃ o,h'=h.new o/\∀ h2:Ac,h2.next=h.next->Bq T tm op h2=some (v,h2.new o):=by
 rcases Abq hc with ⟨t,rfl⟩|⟨t,x,rfl⟩|⟨t,n,ps,rfl⟩|⟨t,a,b,rfl⟩|⟨t,r,rfl⟩|⟨t,x,rfl⟩
 ·simp only[Bq]at hop ⊢
  split at hop
  ·cases hop;exact⟨_,rfl,fun h2 e=>by rw[e]⟩
  ·cases hop
 ·simp only[Bq]at hop ⊢
  split at hop
  ·obtain⟨h1,h3⟩:=Ah hop
   cases h3;exact⟨_,rfl,fun h2 e=>by rw[h1,e];rfl⟩
  ·cases hop
 ·simp only[Bq]at hop ⊢
  split at hop
  ·split at hop
   ·obtain⟨h1,h3⟩:=Ah hop
    split at h3
    ·rename_i hf
     cases h3;exact⟨_,rfl,fun h2 e=>by rw[h1,e];rfl⟩
    ·cases h3
   ·cases hop
  ·cases hop
 ·simp only[Bq]at hop ⊢
  split at hop
  ·split at hop
   ·obtain⟨h1,h3⟩:=Ah hop
    obtain⟨h4,h5⟩:=Ah h3
    cases h5;exact⟨_,rfl,fun h2 e=>by rw[h1,h4,e];rfl⟩
   ·cases hop
  ·cases hop
 ·cases r with
  | none=>cases hop;exact⟨_,rfl,fun h2 e=>by simp only[Bq,e]⟩
  | some r=>cases hop
 ·simp only[Bq]at hop ⊢
  split at hop
  ·split at hop
   ·obtain⟨h1,h3⟩:=Ah hop
    cases h3;exact⟨_,rfl,fun h2 e=>by rw[h1,e];rfl⟩
   ·cases hop
  ·cases hop
end Go.Ev

namespace Go.Ev
theorem Da(i j:Nat):(Nat.shiftLeft 1 i).testBit j=decide (i=j):=by
 have:Nat.shiftLeft 1 i=2 ^ i:=by
  have:=Nat.one_shiftLeft i
  exact this
 rw[this,Nat.testBit_two_pow]
theorem Ex(a b j:Nat):(Nat.lor a b).testBit j=(a.testBit j || b.testBit j):=Nat.testBit_or a b j
theorem N1(a b j:Nat):(Nat.land a b).testBit j=(a.testBit j && b.testBit j):=Nat.testBit_and a b j
theorem Qj {x b:Nat}(h:within x b=true){j:Nat}(hj:x.testBit j=true):b.testBit j=true:=by
 have e:Nat.land x b=x:=Nat.eq_of_beq_eq_true h
 rw[<-e,N1]at hj
 simpa using (Bool.and_eq_true_iff.1 hj).2
theorem Aa8 {i b:Nat}(h:b.testBit i=false):within (Nat.shiftLeft 1 i) b=false:=by
 cases hw:within (Nat.shiftLeft 1 i) b with
 | false=>rfl
 | true=>rw[Qj hw (j:=i) (by rw[Da];simp)]at h;cases h
theorem Zx {x y:Nat}(h:Nat.land x y=0){t:Nat}(hx:x.testBit t=true):y.testBit t=false:=by
 have:(Nat.land x y).testBit t=false:=by rw[h];exact Nat.zero_testBit t
 rw[N1,hx]at this
 simpa using this
theorem An6 {x y:Nat}(h:Nat.lor x y=0):x=0/\y=0:=by
 have h1:∀ t,x.testBit t=false/\y.testBit t=false:=by
  intro t
  have:(Nat.lor x y).testBit t=false:=by rw[h];exact Nat.zero_testBit t
  rw[Ex]at this
  simpa using this
 exact⟨Nat.eq_of_testBit_eq fun t=>by rw[(h1 t).1,Nat.zero_testBit],Nat.eq_of_testBit_eq fun t=>by rw[(h1 t).2,Nat.zero_testBit]⟩
theorem Rz(bs:Tr Nat):∀ (l:List Edge) (x:Nat) (j:Nat),(Ng bs l x).testBit j=true ->
 x.testBit j=true\/∃ e ∈ l,Je e=true/\(j=e.on\/∃ y,bs.get e.on=some y/\y.testBit j=true)
 | [],x,j,h=>.inl h
 | e::r,x,j,h=>by
  simp only[Ng]at h
  rcases Rz bs r _ j h with h|⟨e',he,h1,h2⟩
  ·rw[Ax]at h
   split at h
   ·rename_i hb
    rw[Ex,Ex,Da]at h
    simp only[Bool.or_eq_true,decide_eq_true_eq]at h
    rcases h with h|h|h
    ·exact .inl h
    ·exact .inr ⟨e,List.mem_cons_self,hb,.inl h.symm⟩
    ·refine .inr ⟨e,List.mem_cons_self,hb,.inr ?_⟩
     split at h
     ·rename_i y hy;exact⟨y,hy,h⟩
     ·rw[Nat.zero_testBit]at h;cases h
   ·exact .inl h
  ·exact .inr ⟨e',List.mem_cons_of_mem _ he,h1,h2⟩
theorem U4(l:List Oper):∀ (i:Nat) (bs:Tr Nat) (j:Nat),j<i->(Du l i bs).get j=bs.get j:=by
 induction l with
 | nil=>intros;rfl
 | cons o r ih=>
  intro i bs j hj
  simp only[Du]
  rw[ih _ _ _ (Nat.lt_succ_of_lt hj),Tr.Di _ _ (by omega)]
theorem Ob(l:List Oper):∀ (i:Nat) (bs:Tr Nat),(∀ j,i<=j->bs.get j=none)->∀ (k:Nat) (o:Oper),l[k]? = some o ->
 ∃ b,(Du l i bs).get (i+k)=some b/\∀ j,b.testBit j=true->∃ e ∈ o.after.toList,Je e=true/\(j=e.on\/∃ y,(Du l i bs).get e.on=some y/\y.testBit j=true):=by
 induction l with
 | nil=>intro i bs _ k o h;simp at h
 | cons o' r ih=>
  intro i bs hn k o h
  simp only[Du]
  cases k with
  | zero=>
   simp only[List.getElem?_cons_zero,Option.some.injEq]at h
   subst h
   refine⟨Ng bs o'.after.toList 0,?_,fun j hj=>?_⟩
   ·rw[Nat.add_zero,U4 _ _ _ _ (by omega),Tr.Es]
   ·rcases Rz bs _ _ j hj with h|⟨e,he,h1,h2⟩
    ·rw[Nat.zero_testBit]at h;cases h
    ·refine⟨e,he,h1,h2.imp id ?_⟩
     rintro⟨y,hy,hj⟩
     have:e.on<i:=by
      cases Nat.lt_or_ge e.on i with
      | inl h=>exact h
      | inr h=>rw[hn _ h]at hy;cases hy
     exact⟨y,by rw[U4 _ _ _ _ (by omega),Tr.Di _ _ (by omega)];exact hy,hj⟩
  | succ k=>
   have:=ih (i+1) (bs.put i (some (Ng bs o'.after.toList 0))) (fun j hj=>by rw[Tr.Di _ _ (by omega)];exact hn j (by omega)) k o (by simpa using h)
   rw[show i+1+k=i+(k+1) by omega]at this
   exact this
theorem H6:∀ (l:List Operand) (x t:Nat),(Kq l x).testBit t=true ↔ x.testBit t=true\/.tmp t ∈ l
 | [],x,t=>by simp[Kq]
 | .tmp u::r,x,t=>by
  simp only[Kq]
  rw[H6 r,Ex,Da]
  simp only[Bool.or_eq_true,decide_eq_true_eq,List.mem_cons,Operand.tmp.injEq]
  constructor
  ·rintro((h|h)|h)
   ·exact .inl h
   ·exact .inr (.inl h.symm)
   ·exact .inr (.inr h)
  ·rintro(h|h|h)
   ·exact .inl (.inl h)
   ·exact .inl (.inr h.symm)
   ·exact .inr h
 | .const v::r,x,t=>by simp only[Kq];rw[H6 r];simp
 | .global v::r,x,t=>by simp only[Kq];rw[H6 r];simp
 | .func v::r,x,t=>by simp only[Kq];rw[H6 r];simp
theorem Kt(o:Oper)(t:Nat):(L9 o).testBit t=true ↔ o.dst=some t:=by
 unfold L9
 cases o.dst with
 | none=>simp
 | some d=>simp only[Da,decide_eq_true_eq,Option.some.injEq]
def Ab1(ops:List Oper)(o:Oper)(t:Nat):Prop:=.tmp t ∈ o.op.operands.toList\/∃ j want g,o.guard=some (j,want)/\ops[j]? = some g/\g.dst=some t
theorem Qt(ops:List Oper)(o:Oper)(t:Nat):(I0 ops o).testBit t=true ↔ Ab1 ops o t:=by
 unfold I0 Ab1
 rw[Ex,Bool.or_eq_true,H6,Nat.zero_testBit]
 apply or_congr
 ·simp
 ·cases hg:o.guard with
  | none=>simp
  | some x=>
   obtain⟨j,want⟩:=x
   simp only[Wl,Option.some.injEq,Prod.mk.injEq]
   cases hj:ops[j]? with
   | none=>
    simp only[Nat.zero_testBit,Bool.false_eq_true,false_iff]
    rintro⟨j',w',g,⟨rfl,_⟩,h2,_⟩
    rw[hj]at h2;cases h2
   | some g=>
    simp only[]
    rw[Kt]
    constructor
    ·intro h;exact⟨j,want,g,⟨rfl,rfl⟩,hj,h⟩
    ·rintro⟨j',w',g',⟨rfl,_⟩,h2,h3⟩
     rw[hj]at h2;cases h2;exact h3
theorem Tg(d' l' b:Nat):∀ (ms:List (Nat × Nat)) (j k d l:Nat),T0 d' l' b ms j=true->ms[k]? = some (d,l)->Abk (j+k) d l d' l' b=true
 | [],_,_,_,_,_,h=>by simp at h
 | (d,l)::r,j,0,d0,l0,h,hk=>by
  simp only[List.getElem?_cons_zero,Option.some.injEq,Prod.mk.injEq]at hk
  simp only[T0]at h
  rw[Ax]at h
  split at h
  ·rename_i hp;rw[<-hk.1,<-hk.2];exact hp
  ·cases h
 | (d,l)::r,j,k+1,d0,l0,h,hk=>by
  simp only[T0]at h
  rw[Ax]at h
  split at h
  ·have:=Tg d' l' b r (j+1) k d0 l0 h (by simpa using hk)
   rw[show j+1+k=j+(k+1) by omega]at this
   exact this
  ·cases h
theorem Vr(ops:List Oper)(bs:Tr Nat):∀ (l:List Oper) (i:Nat) (ms:List (Nat × Nat)),J7 ops bs l i ms=true->ms.length=i->∀ k o,l[k]? = some o ->
 ∃ b,bs.get (i+k)=some b/\∀ j d l',(ms++l.map fun o=>(L9 o,I0 ops o))[j]? = some (d,l')->j<i+k->Abk j d l' (L9 o) (I0 ops o) b=true
 | [],_,_,_,_,_,_,h=>by simp at h
 | o'::r,i,ms,h,hm,0,o,hk=>by
  simp only[List.getElem?_cons_zero,Option.some.injEq]at hk
  subst hk
  simp only[J7]at h
  split at h
  ·rename_i b hb
   rw[Ax]at h
   split at h
   ·rename_i hp
    refine⟨b,hb,fun j d l' hj hlt=>?_⟩
    have:ms[j]? = some (d,l'):=by rw[List.getElem?_append_left (by omega)]at hj;exact hj
    have:=Tg _ _ _ ms 0 j d l' hp this
    rwa [Nat.zero_add]at this
   ·cases h
  ·cases h
 | o'::r,i,ms,h,hm,k+1,o,hk=>by
  simp only[J7]at h
  split at h
  ·rename_i b hb
   rw[Ax]at h
   split at h
   ·obtain⟨b',h1,h2⟩:=Vr ops bs r (i+1) _ h (by simp[hm]) k o (by simpa using hk)
    refine⟨b',by rw[<-h1];congr 1;omega,fun j d l' hj hlt=>h2 j d l' ?_ (by omega)⟩
    rw[List.append_assoc];simpa using hj
   ·cases h
  ·cases h
theorem St {ops:List Oper}{bs:Tr Nat}(h:J7 ops bs ops 0 []=true){i m:Nat}{oi om:Oper}(hi:ops[i]? = some oi)(hm:ops[m]? = some om)(him:i<m){b:Nat}(hb:bs.get m=some b)(hn:b.testBit i=false):
 (∀ t,oi.dst=some t->om.dst ≠ some t/\¬ Ab1 ops om t)/\(∀ t,Ab1 ops oi t->om.dst ≠ some t):=by
 obtain⟨b',h1,h2⟩:=Vr ops bs ops 0 [] h rfl m om hm
 rw[Nat.zero_add]at h1
 rw[hb]at h1
 cases h1
 have:=h2 i (L9 oi) (I0 ops oi) (by simp[hi]) (by omega)
 unfold Abk at this
 have hz:Nat.beq (Nat.land b (Nat.shiftLeft 1 i)) 0=true:=by
  have:Nat.land b (Nat.shiftLeft 1 i)=0:=Nat.eq_of_testBit_eq fun t=>by
   rw[N1,Da,Nat.zero_testBit]
   by_cases e:i=t
   ·subst e;simp[hn]
   ·simp[e]
  rw[this];rfl
 rw[hz,Ak]at this
 obtain⟨z1,z2⟩:=An6 (Nat.eq_of_beq_eq_true this)
 refine⟨fun t ht=>?_,fun t ht hd=>?_⟩
 ·have hl:=Zx z1 ((Kt oi t).2 ht)
  rw[Ex,Bool.or_eq_false_iff]at hl
  refine⟨fun e=>?_,fun e=>?_⟩
  ·rw[(Kt om t).2 e]at hl;exact absurd hl.1 (by simp)
  ·rw[(Qt ops om t).2 e]at hl;exact absurd hl.2 (by simp)
 ·have hl:=Zx z2 ((Qt ops oi t).2 ht)
  rw[(Kt om t).2 hd]at hl;cases hl
theorem Xx(i:Nat):∀ (l:List Edge),Agk i l=true->∀ e ∈ l,Je e=true->e.on<i
 | [],_,e,he,_=>by simp at he
 | a::r,h,e,he,hb=>by
  simp only[Agk]at h
  rw[Ax]at h
  split at h
  ·rename_i ha
   rcases List.mem_cons.1 he with rfl|he
   ·rw[hb,Ak]at ha;exact Nat.le_of_ble_eq_true ha
   ·exact Xx i r h e he hb
  ·cases h
theorem Vn:∀ (l:List Oper) (i:Nat),Lo l i=true->∀ k o,l[k]? = some o->∀ e ∈ o.after.toList,Je e=true->e.on<i+k
 | [],_,_,_,_,h=>by simp at h
 | a::r,i,h,0,o,hk=>by
  simp only[List.getElem?_cons_zero,Option.some.injEq]at hk
  subst hk
  simp only[Lo]at h
  rw[Ax]at h
  split at h
  ·rename_i hb;exact Xx i _ hb
  ·cases h
 | a::r,i,h,k+1,o,hk=>by
  simp only[Lo]at h
  rw[Ax]at h
  split at h
  ·intro e he hb
   have:=Vn r (i+1) h k o (by simpa using hk) e he hb
   omega
  ·cases h
end Go.Ev

namespace Go.Ev
open Classical
inductive Kd where
 | idle|load (q:Nat)|new|Nl (q:Nat)|Lw (mw:Nat)
def bare(n:Nat):Ac:=⟨.nil,n,n⟩
theorem Ant(n q:Nat):(bare n).get q=none:=rfl
noncomputable def Qr(n q:Nat)(o:A9):Ac:=⟨Tr.nil.put q (some o),n,n⟩
theorem Ey(n q:Nat)(o:A9)(r:Nat):(Qr n q o).get r=if q=r then some o else none:=by
 show (Tr.nil.put q (some o)).get r=_
 rw[Tr.get_put];rfl
structure Sd(T:Cr)(call round:Ae)(n:Nat)(ops:List Oper)(bs:Tr Nat)(base:Nat)(o:Oper)(i:Nat)(s s':Zu)(v:EV)(E E':Ac)(kd:Kd):Prop where
 tm:s'.tm=Fk n s.tm o.dst v
 run:(wanted ops s.tm o.guard=false/\v=.tuple []/\E'=E)\/(wanted ops s.tm o.guard=true/\Oy T call round s.tm o.op E=some (v,E'))
 K7:E.next=s.h.next
 K3:E'.next=s'.h.next
 sub:∀ q x,E.get q=some x->s.h.get q=some x
 Al8:∀ q,s'.h.get q=if E'.get q=E.get q then s.h.get q else E'.get q
 w:Rd E E'
 mw:s'.h.mw<=s.h.mw/\∀ q,q<s'.h.mw->q<s.h.next->E'.get q=E.get q
 kd:match kd with
  | .idle=>E=bare s.h.next/\E'=E/\s'.bg=s.bg/\s'.nw=s.nw/\s'.D9=s.D9/\s'.Oo=s.Oo/\s'.st=s.st
  | .load q=>(∃ x,E=Qr s.h.next q x)/\E'=E/\s'.bg=s.bg/\s'.nw=s.nw/\s'.D9=(Nat.shiftLeft 1 i,q)::s.D9/\s'.Oo=s.Oo/\s'.st=s.st /\
   ∃ b,bs.get i=some b/\Cf b q s.st=true/\((q<base/\Jb b q s.Oo=true)\/(base<=q/\within s.bg b=true/\loose b s.nw = []))
  | .new=>E=bare s.h.next/\(∃ x,E'=E.new x)/\s'.bg=s.bg/\s'.nw=(Nat.shiftLeft 1 i,s.h.next)::s.nw/\s'.D9=s.D9/\s'.Oo=s.Oo/\s'.st=s.st
  | .Nl q=>(∃ x y,E=Qr s.h.next q x/\E'=E.put q y)/\s'.bg=s.bg/\s'.nw=s.nw/\s'.D9=s.D9/\s'.Oo=s.Oo/\s'.st=(Nat.shiftLeft 1 i,q)::s.st /\
   ∃ b,bs.get i=some b/\within s.bg b=true/\Cf b q s.st=true/\Cf b q s.D9=true/\Ym q (loose b s.nw)=true
  | .Lw mw=>∃ b,bs.get i=some b/\within s.bg b=true/\Vp b s.st=true/\(∀ q,E.get q=if q ∈ loose b s.nw then none else s.h.get q)/\s'.bg=Nat.lor s.bg (Nat.shiftLeft 1 i)/\s'.nw=s.nw/\s'.D9=s.D9/\s'.st=s.st /\
   (∀ q,q<mw->q<s.h.next->E'.get q=E.get q)/\((s.h.next<=mw/\s'.Oo=s.Oo)\/(Lg b mw s.D9=true/\s'.Oo=(Nat.shiftLeft 1 i,mw)::s.Oo))
theorem Q5 {b:Nat}:∀ {l:List (Nat × Nat)} {q:Nat},q ∈ loose b l ↔ ∃ m,(m,q) ∈ l/\within m b=false
 | [],q=>by simp[loose]
 | (m,r)::l,q=>by
  simp only[loose]
  rw[Ax]
  split
  ·rename_i h
   rw[Q5]
   constructor
   ·rintro⟨m',h1,h2⟩;exact⟨m',List.mem_cons_of_mem _ h1,h2⟩
   ·rintro⟨m',h1,h2⟩
    rcases List.mem_cons.1 h1 with e|h1
    ·cases e;rw[h]at h2;cases h2
    ·exact⟨m',h1,h2⟩
  ·rename_i h
   rw[List.mem_cons,Q5]
   constructor
   ·rintro(rfl|⟨m',h1,h2⟩)
    ·exact⟨m,List.mem_cons_self,by simpa using h⟩
    ·exact⟨m',List.mem_cons_of_mem _ h1,h2⟩
   ·rintro⟨m',h1,h2⟩
    rcases List.mem_cons.1 h1 with e|h1
    ·cases e;exact .inl rfl
    ·exact .inr ⟨m',h1,h2⟩
theorem Xk(t:Tr A9):∀ (l:List Nat) (q:Nat),(J8 t l).get q=if q ∈ l then none else t.get q
 | [],q=>by simp[J8]
 | a::r,q=>by
  simp only[J8,Tr.get_put,Xk t r q,List.mem_cons]
  by_cases h:a=q
  ·subst h;simp
  ·rw[if_neg h];simp[Ne.symm h]
theorem Xo(t t':Tr A9):∀ (l:List Nat) (q:Nat),(Ka t t' l).get q=if q ∈ l then t.get q else t'.get q
 | [],q=>by simp[Ka]
 | a::r,q=>by
  simp only[Ka,Tr.get_put,Xo t t' r q,List.mem_cons]
  by_cases h:a=q
  ·subst h;simp
  ·rw[if_neg h];simp[Ne.symm h]
theorem Anw {T:Cr}{call round:Ae}{tm:Ag}{op:Op}{h:Ac}{v:EV}(hv:isV op=true)(hop:B8 T tm op=some v):Oy T call round tm op h=some (v,h):=by
 unfold Oy;rw[hv,Ak,hop]
theorem Ad0 {b c:Bool}(h:Al b Cls.val (Al c .pur .Lw)=.val):b=true:=by
 cases b <;> cases c <;> first|rfl|(cases h)
theorem Abd {op:Op}(h:cls op=.val):isV op=true:=by
 cases op <;> first|rfl|(rename_i c;exact absurd (Ad0 (show Al false Cls.val (Al (Tt (.call c)) .pur .Lw)=.val from h)) (by simp))|exact Ad0 h|(cases h)
theorem Adc {b c:Bool}(h:Al b Cls.val (Al c .pur .Lw)=.pur):c=true:=by
 cases b <;> cases c <;> first|rfl|(cases h)
theorem Wp {op:Op}(h:cls op=.pur):Tt op=true:=by
 cases op <;> first|(rename_i c;exact Adc (show Al false Cls.val (Al (Tt (.call c)) .pur .Lw)=.pur from h))|exact Adc h|(cases h)
theorem T8 {T:Cr}{call round:Ae}{tm:Ag}{op:Op}{h:Ac}(hv:isV op=false)(hc:∀ c,op ≠ .call c):Oy T call round tm op h=Bq T tm op h:=by
 unfold Oy;rw[hv,Au]
 split
 ·exact absurd rfl (hc _)
 ·rfl
theorem Z5 {op:Op}(h:cls op=.new):isV op=false/\∀ c,op ≠ .call c:=by
 rcases Abq h with ⟨t,rfl⟩|⟨t,x,rfl⟩|⟨t,n,ps,rfl⟩|⟨t,a,b,rfl⟩|⟨t,r,rfl⟩|⟨t,x,rfl⟩ <;> exact⟨rfl,fun _ h=>by cases h⟩
section
variable {T:Cr}{call round:Ae}(hC:H2 call)(hR:H2 round){n:Nat}{ops:List Oper}{bs:Tr Nat}{base:Nat}
include hC hR in
theorem Yc {o:Oper}{i:Nat}{s s':Zu}(h:H3 T call round n ops bs base o i s=some s')(hnw:∀ x ∈ s.nw,x.2<s.h.next):
 ∃ v E E' kd,Sd T call round n ops bs base o i s s' v E E' kd:=by
 obtain⟨dst,op,ty,ps,af,g⟩:=o
 obtain⟨tm,hp,bg,nw,D9,Oo,st⟩:=s
 simp only[H3]at h
 rw[Ax]at h
 split at h
 ·rename_i hw
  split at h
  ·cases h
  ·rename_i b hb
   split at h
   ·rename_i hc
    split at h
    ·rename_i v hv
     cases h
     exact⟨v,bare hp.next,bare hp.next,.idle,rfl,.inr ⟨hw,Anw (Abd hc) hv⟩,rfl,rfl,fun q x hx=>(by cases hx),fun q=>(by simp),.refl _,⟨Nat.le_refl _,fun _ _ _=>rfl⟩,rfl,rfl,rfl,rfl,rfl,rfl,rfl⟩
    ·cases h
   ·rename_i hc
    split at h
    ·rename_i t x
     split at h
     ·rename_i q off hx
      obtain⟨hcnd,h⟩:=Ah h
      split at h
      ·rename_i v h' hop
       cases h
       obtain⟨ob,ho1,ho2⟩:=Apu hx hop
       refine⟨v,Qr hp.next q ob,Qr hp.next q ob,.load q,rfl,.inr ⟨hw,?_⟩,rfl,rfl,fun r x hr=>?_,fun q=>(by simp),.refl _,⟨Nat.le_refl _,fun _ _ _=>rfl⟩,⟨_,rfl⟩,rfl,rfl,rfl,rfl,rfl,rfl,b,hb,?_⟩
       ·rw[T8 rfl (fun _ e=>by cases e)]
        exact ho2 _ (by rw[Ey,if_pos rfl])
       ·rw[Ey]at hr
        split at hr
        ·rename_i e;subst e;cases hr;exact ho1
        ·cases hr
       ·rw[Ax]at hcnd
        split at hcnd
        case isFalse=>cases hcnd
        rename_i host
        refine⟨host,?_⟩
        rw[Ax]at hcnd
        split at hcnd
        ·rename_i hq;exact .inl ⟨Nat.le_of_ble_eq_true hq,hcnd⟩
        ·rename_i hq
         refine .inr ⟨?_,?_⟩
         ·cases Nat.lt_or_ge q base with
          | inl h=>exact absurd (H8 h) hq
          | inr h=>exact h
         ·rw[Ax]at hcnd
          split at hcnd
          ·rename_i hbg
           refine⟨hbg,?_⟩
           simp only[]
           split at hcnd
           ·rename_i e;exact e
           ·cases hcnd
          ·cases hcnd
      ·cases h
     ·cases h
    ·cases h
   ·rename_i hc
    split at h
    ·rename_i v h' hop
     cases h
     obtain⟨x,rfl,hx2⟩:=Atv hc hop
     refine⟨v,bare hp.next,(bare hp.next).new x,.new,rfl,.inr ⟨hw,?_⟩,rfl,rfl,fun q x hx=>(by cases hx),fun q=>?_,.new _ _,⟨Nat.le_refl _,fun q _ h2=>?_⟩,rfl,⟨x,rfl⟩,rfl,rfl,rfl,rfl,rfl⟩
     ·rw[T8 (Z5 hc).1 (Z5 hc).2]
      exact hx2 _ rfl
     ·show (hp.new x).get q=_
      rw[Ac.D4,Ac.D4,Ant]
      show (if hp.next=q then some x else hp.get q)=if (if hp.next=q then some x else none)=none then hp.get q else if hp.next=q then some x else none
      by_cases e:hp.next=q
      ·rw[if_pos e,if_pos e,if_neg (by simp)]
      ·rw[if_neg e,if_neg e,if_pos rfl]
     ·have h2':q<hp.next:=h2
      rw[Ac.D4,if_neg]
      show ¬ hp.next=q
      omega
    ·cases h
   ·
    rename_i hc
    split at h
    ·rename_i t a x
     split at h
     ·rename_i q off ha
      obtain⟨hcnd,h⟩:=Ah h
      split at h
      ·rename_i v h' hop
       cases h
       obtain⟨ob,ob',ho1,rfl,ho2⟩:=Ans ha hop
       have hc4:within bg b=true/\Cf b q st=true/\Cf b q D9=true/\Ym q (loose b nw)=true:=by
        rw[Ax]at hcnd
        split at hcnd
        case isFalse=>cases hcnd
        rename_i c1
        rw[Ax]at hcnd
        split at hcnd
        case isFalse=>cases hcnd
        rename_i c2
        rw[Ax]at hcnd
        split at hcnd
        case isFalse=>cases hcnd
        rename_i c3
        exact⟨c1,c2,c3,hcnd⟩
       have hg1:(Qr hp.next q ob).get q=some ob:=by rw[Ey,if_pos rfl]
       refine⟨v,Qr hp.next q ob,(Qr hp.next q ob).put q ob',.Nl q,rfl,.inr ⟨hw,?_⟩,rfl,rfl,fun r x hr=>?_,fun r=>?_,.put hg1 _,⟨?_,fun r h1 h2=>?_⟩,⟨_,_,rfl,rfl⟩,rfl,rfl,rfl,rfl,rfl,b,hb,hc4⟩
       ·rw[T8 rfl (fun _ e=>by cases e)]
        exact ho2 _ hg1
       ·rw[Ey]at hr
        split at hr
        ·rename_i e;subst e;cases hr;exact ho1
        ·cases hr
       ·show (hp.put q ob').get r=_
        rw[Ac.get_put,Ac.get_put,Ey]
        by_cases e:q=r
        ·subst e
         rw[if_pos rfl,if_pos rfl,if_pos rfl]
         by_cases e2:some ob'=some ob
         ·rw[if_pos e2,e2];exact ho1.symm
         ·rw[if_neg e2]
        ·rw[if_neg e,if_neg e,if_neg e,if_pos rfl]
       ·show (hp.put q ob').mw<=hp.mw
        rw[Ac.P4];exact Nat.min_le_right _ _
       ·have h1':r<(hp.put q ob').mw:=h1
        rw[Ac.P4]at h1'
        rw[Ac.get_put,if_neg (by omega)]
      ·cases h
     ·cases h
    ·cases h
   ·
    rename_i hc
    split at h
    ·rename_i v h' hop
     cases h
     have:=Anh (Wp hc) hop
     subst this
     exact⟨v,bare hp.next,bare hp.next,.idle,rfl,.inr ⟨hw,(Sv (Wp hc)).trans hop⟩,rfl,rfl,fun q x hx=>(by cases hx),fun q=>(by simp),.refl _,⟨Nat.le_refl _,fun _ _ _=>rfl⟩,rfl,rfl,rfl,rfl,rfl,rfl,rfl⟩
    ·cases h
   ·rename_i hc
    obtain⟨hbst,h⟩:=Ah h
    have hbg:within bg b=true:=by
     rw[Ax]at hbst;split at hbst
     ·rename_i c1;exact c1
     ·cases hbst
    have hst:Vp b st=true:=by rw[hbg,Ak]at hbst;exact hbst
    obtain⟨t,nx,mw⟩:=hp
    simp only[]at h
    split at h
    ·rename_i v t' nx' Lq hop
     have hwf:=As8 hC hR hop
     have hE:∀ q,(⟨J8 t (loose b nw),nx,nx⟩:Ac).get q=if q ∈ loose b nw then none else (⟨t,nx,mw⟩:Ac).get q:=fun q=>Xk t _ q
     have hsub:∀ q x,(⟨J8 t (loose b nw),nx,nx⟩:Ac).get q=some x->(⟨t,nx,mw⟩:Ac).get q=some x:=by
      intro q x hx
      rw[hE]at hx
      split at hx
      ·cases hx
      ·exact hx
     have hov:∀ mw2 q,(⟨Ka t t' (loose b nw),nx',mw2⟩:Ac).get q=if (⟨t',nx',Lq⟩:Ac).get q=(⟨J8 t (loose b nw),nx,nx⟩:Ac).get q then (⟨t,nx,mw⟩:Ac).get q else (⟨t',nx',Lq⟩:Ac).get q:=by
      intro mw2 q
      have e1:(⟨Ka t t' (loose b nw),nx',mw2⟩:Ac).get q=if q ∈ loose b nw then t.get q else t'.get q:=Xo t t' _ q
      rw[e1]
      by_cases hq:q ∈ loose b nw
      ·rw[if_pos hq]
       by_cases he:(⟨t',nx',Lq⟩:Ac).get q=(⟨J8 t (loose b nw),nx,nx⟩:Ac).get q
       ·rw[if_pos he];rfl
       ·exfalso
        apply he
        rw[hE,if_pos hq]
        cases hx:(⟨t',nx',Lq⟩:Ac).get q with
        | none=>rfl
        | some o=>
         rcases hwf.live q o hx with ⟨o',h1⟩|h1
         ·rw[hE,if_pos hq]at h1;cases h1
         ·obtain⟨m,hm,_⟩:=Q5.1 hq
          have h2:q<nx:=hnw _ hm
          have h3:nx<=q:=h1
          omega
      ·rw[if_neg hq]
       by_cases he:(⟨t',nx',Lq⟩:Ac).get q=(⟨J8 t (loose b nw),nx,nx⟩:Ac).get q
       ·rw[if_pos he]
        have:t'.get q=(⟨t',nx',Lq⟩:Ac).get q:=rfl
        rw[this,he,hE,if_neg hq]
       ·rw[if_neg he];rfl
     rw[Ax]at h
     split at h
     ·rename_i hm
      cases h
      exact⟨v,_,_,.Lw Lq,rfl,.inr ⟨hw,hop⟩,rfl,rfl,hsub,hov _,hwf,⟨Nat.le_refl _,fun q h1 h2=>hwf.same q (Nat.lt_of_lt_of_le h2 (Nat.le_of_ble_eq_true hm)) h2⟩,b,hb,hbg,hst,hE,rfl,rfl,rfl,rfl,fun q h1 h2=>hwf.same q h1 h2,.inl ⟨Nat.le_of_ble_eq_true hm,rfl⟩⟩
     ·obtain⟨hcl,h⟩:=Ah h
      cases h
      have hmin:Al (Nat.ble mw Lq) mw Lq=min mw Lq:=by
       rw[Ax]
       by_cases e:mw<=Lq
       ·rw[H8 e,if_pos rfl,Nat.min_eq_left e]
       ·rw[I4 e,if_neg (by simp),Nat.min_eq_right (by omega)]
      refine⟨v,_,_,.Lw Lq,rfl,.inr ⟨hw,hop⟩,rfl,rfl,hsub,hov _,hwf,⟨?_,fun q h1 h2=>hwf.same q ?_ h2⟩,b,hb,hbg,hst,hE,rfl,rfl,rfl,rfl,fun q h1 h2=>hwf.same q h1 h2,.inr ⟨hcl,rfl⟩⟩
      ·show Al (Nat.ble mw Lq) mw Lq<=mw
       rw[hmin];exact Nat.min_le_left _ _
      ·have h1':q<Al (Nat.ble mw Lq) mw Lq:=h1
       rw[hmin]at h1'
       show q<Lq
       omega
    ·cases h
 ·rename_i hw
  cases h
  exact⟨.tuple [],bare hp.next,bare hp.next,.idle,rfl,.inl ⟨by simpa using hw,rfl,rfl⟩,rfl,rfl,fun q x hx=>(by cases hx),fun q=>(by simp),.refl _,⟨Nat.le_refl _,fun _ _ _=>rfl⟩,rfl,rfl,rfl,rfl,rfl,rfl,rfl⟩
end
end Go.Ev

namespace Go.Ev
open Classical
theorem Tf {b q:Nat}:∀ {l:List (Nat × Nat)},Jb b q l=true->∀ {m w:Nat},(m,w) ∈ l->within m b=true\/q<w
 | [],_,m,w,h=>by simp at h
 | (m',w')::r,h,m,w,hm=>by
  simp only[Jb]at h
  rw[Ax]at h
  split at h
  ·rename_i h1
   rcases List.mem_cons.1 hm with e|hm
   ·cases e
    rw[Ax]at h1
    split at h1
    ·rename_i hw;exact .inl hw
    ·exact .inr (Nat.le_of_ble_eq_true h1)
   ·exact Tf h hm
  ·cases h
theorem Ry {b w:Nat}:∀ {l:List (Nat × Nat)},Lg b w l=true->∀ {m q:Nat},(m,q) ∈ l->within m b=true\/q<w
 | [],_,m,q,h=>by simp at h
 | (m',q')::r,h,m,q,hm=>by
  simp only[Lg]at h
  rw[Ax]at h
  split at h
  ·rename_i h1
   rcases List.mem_cons.1 hm with e|hm
   ·cases e
    rw[Ax]at h1
    split at h1
    ·rename_i hw;exact .inl hw
    ·exact .inr (Nat.le_of_ble_eq_true h1)
   ·exact Ry h hm
  ·cases h
theorem Ic {b q:Nat}:∀ {l:List (Nat × Nat)},Cf b q l=true->∀ {m r:Nat},(m,r) ∈ l->within m b=true\/q ≠ r
 | [],_,m,r,h=>by simp at h
 | (m',r')::l,h,m,r,hm=>by
  simp only[Cf]at h
  rw[Ax]at h
  split at h
  ·rename_i h1
   rcases List.mem_cons.1 hm with e|hm
   ·cases e
    rw[Ax]at h1
    split at h1
    ·rename_i hw;exact .inl hw
    ·refine .inr fun e=>?_
     subst e
     rw[show Nat.beq q q=true from Nat.beq_refl q]at h1
     cases h1
   ·exact Ic h hm
  ·cases h
theorem X3 {b:Nat}:∀ {l:List (Nat × Nat)},Vp b l=true->∀ {m r:Nat},(m,r) ∈ l->within m b=true
 | [],_,m,r,h=>by simp at h
 | (m',r')::l,h,m,r,hm=>by
  simp only[Vp]at h
  rw[Ax]at h
  split at h
  ·rename_i h1
   rcases List.mem_cons.1 hm with e|hm
   ·cases e;exact h1
   ·exact X3 h hm
  ·cases h
theorem W8 {q:Nat}:∀ {l:List Nat},Ym q l=true->q ∉ l
 | [],_=>by simp
 | r::l,h=>by
  simp only[Ym]at h
  rw[Ax]at h
  split at h
  ·cases h
  ·rename_i h1
   intro hm
   rcases List.mem_cons.1 hm with e|hm
   ·subst e;exact h1 (Nat.beq_refl q)
   ·exact W8 h hm
section
variable {T:Cr}{call round:Ae}(hC:H2 call)(hR:H2 round){n:Nat}{ops:List Oper}{bs:Tr Nat}{base:Nat}
theorem Tw:∀ {l:List Oper} {i:Nat} {s r:Zu},F5 T call round n ops bs base l i s=some r ->
 ∃ σ:Nat->Zu,σ i=s/\σ (i+l.length)=r/\∀ k o,l[k]? = some o->H3 T call round n ops bs base o (i+k) (σ (i+k))=some (σ (i+k+1))
 | [],i,s,r,h=>by cases h;exact⟨fun _=>s,rfl,rfl,fun k o h=>by simp at h⟩
 | o::l,i,s,r,h=>by
  simp only[F5]at h
  split at h
  ·rename_i s' hs
   obtain⟨σ,h1,h2,h3⟩:=Tw h
   have h1':σ (i+1)=s':=h1
   refine⟨fun m=>if m=i then s else σ m,if_pos rfl,?_,fun k o' hk=>?_⟩
   ·show (if i+(l.length+1)=i then s else σ (i+(l.length+1)))=r
    rw[if_neg (by omega),<-h2];congr 1
    show i+(l.length+1)=i+1+l.length
    omega
   ·cases k with
    | zero=>
     simp only[List.getElem?_cons_zero,Option.some.injEq]at hk
     subst hk
     show H3 T call round n ops bs base o i (if i=i then s else σ i)=some (if i+1=i then s else σ (i+1))
     rw[if_pos rfl,if_neg (by omega),h1'];exact hs
    | succ k=>
     have:=h3 k o' (by simpa using hk)
     have e1:i+(k+1)=i+1+k:=by omega
     show H3 T call round n ops bs base o' (i+(k+1)) (if i+(k+1)=i then s else σ (i+(k+1)))=some (if i+(k+1)+1=i then s else σ (i+(k+1)+1))
     rw[if_neg (by omega),if_neg (by omega),e1];exact this
  ·cases h
structure Trc(T:Cr)(call round:Ae)(n:Nat)(ops:List Oper)(bs:Tr Nat)(base:Nat)(σ:Nat->Zu)(V:Nat->EV)(E E':Nat->Ac)(K:Nat->Kd):Prop where
 sd:∀ i o,ops[i]? = some o->Sd T call round n ops bs base o i (σ i) (σ (i+1)) (V i) (E i) (E' i) (K i)
 lt:∀ i,i<=ops.length->∀ q x,(σ i).h.get q=some x->q<(σ i).h.next
 base:base=(σ 0).h.next
include hC hR in
theorem Ath {s r:Zu}(h:F5 T call round n ops bs s.h.next ops 0 s=some r)(hlt:∀ q x,s.h.get q=some x->q<s.h.next)(hnw:s.nw = []):
 ∃ σ V E E' K,σ 0=s/\σ ops.length=r/\Trc T call round n ops bs s.h.next σ V E E' K:=by
 obtain⟨σ,h1,h2,h3⟩:=Tw h
 simp only[Nat.zero_add]at h2 h3
 have key:∀ i,i<=ops.length->(∀ x ∈ (σ i).nw,x.2<(σ i).h.next)/\∀ q x,(σ i).h.get q=some x->q<(σ i).h.next:=by
  intro i
  induction i with
  | zero=>intro _;rw[h1,hnw];exact⟨fun x hx=>by simp at hx,hlt⟩
  | succ i ih=>
   intro hi
   obtain⟨i1,i2⟩:=ih (by omega)
   have ho:ops[i]? = some ops[i]:=List.getElem?_eq_getElem (by omega)
   obtain⟨v,E,E',kd,sd⟩:=Yc hC hR (h3 i _ ho) i1
   have hnext:(σ i).h.next<=(σ (i+1)).h.next:=by rw[<-sd.K7,<-sd.K3];exact sd.w.next
   constructor
   ·intro x hx
    have:=sd.kd
    cases kd with
    | idle=>rw[this.2.2.2.1]at hx;exact Nat.lt_of_lt_of_le (i1 x hx) hnext
    | load q=>rw[this.2.2.2.1]at hx;exact Nat.lt_of_lt_of_le (i1 x hx) hnext
    | new=>
     obtain⟨a,⟨y,b⟩,c,d,_⟩:=this
     rw[d]at hx
     rcases List.mem_cons.1 hx with rfl|hx
     ·show (σ i).h.next<_
      rw[<-sd.K3,b,Ac.B6,sd.K7];omega
     ·exact Nat.lt_of_lt_of_le (i1 x hx) hnext
    | Nl q=>
     obtain⟨_,_,d,_⟩:=this
     rw[d]at hx;exact Nat.lt_of_lt_of_le (i1 x hx) hnext
    | Lw mw=>
     obtain⟨b,_,_,_,_,_,d,_⟩:=this
     rw[d]at hx;exact Nat.lt_of_lt_of_le (i1 x hx) hnext
   ·intro q x hx
    rw[sd.Al8]at hx
    split at hx
    ·exact Nat.lt_of_lt_of_le (i2 q x hx) hnext
    ·rw[<-sd.K3]
     refine sd.w.lt (fun q x hx=>?_) q x hx
     rw[sd.K7];exact i2 q x (sd.sub q x hx)
 have ex:∀ i,∃ v E E' kd,∀ o,ops[i]? = some o->Sd T call round n ops bs s.h.next o i (σ i) (σ (i+1)) v E E' kd:=by
  intro i
  cases ho:ops[i]? with
  | none=>exact⟨.tuple [],bare 0,bare 0,.idle,fun o h=>by cases h⟩
  | some o=>
   have hi:i<ops.length:=(List.getElem?_eq_some_iff.1 ho).1
   obtain⟨v,E,E',kd,sd⟩:=Yc hC hR (h3 i _ ho) (key i (by omega)).1
   exact⟨v,E,E',kd,fun o' h=>by cases h;exact sd⟩
 exact⟨σ,fun i=>(ex i).choose,fun i=>(ex i).choose_spec.choose,fun i=>(ex i).choose_spec.choose_spec.choose,fun i=>(ex i).choose_spec.choose_spec.choose_spec.choose,h1,h2,
  fun i=>(ex i).choose_spec.choose_spec.choose_spec.choose_spec,fun i hi=>(key i hi).2,by rw[h1]⟩
variable {σ:Nat->Zu}{V:Nat->EV}{E E':Nat->Ac}{K:Nat->Kd}(tr:Trc T call round n ops bs base σ V E E' K)
include tr
theorem Trc.next {i:Nat}(hi:i<ops.length):(σ i).h.next<=(σ (i+1)).h.next:=by
 have sd:=tr.sd i _ (List.getElem?_eq_getElem hi)
 rw[<-sd.K7,<-sd.K3];exact sd.w.next
theorem Trc.Aoj {i m:Nat}(him:i<=m)(hm:m<=ops.length):(σ i).h.next<=(σ m).h.next:=by
 induction m with
 | zero=>
  have:i=0:=by omega
  subst this;exact Nat.le_refl _
 | succ m ih=>
  by_cases e:i=m+1
  ·subst e;exact Nat.le_refl _
  ·exact Nat.le_trans (ih (by omega) (by omega)) (tr.next (by omega))
theorem Trc.notes {i m:Nat}(him:i<=m)(hm:m<=ops.length):
 (∀ x ∈ (σ i).nw,x ∈ (σ m).nw)/\(∀ x ∈ (σ i).D9,x ∈ (σ m).D9)/\(∀ x ∈ (σ i).Oo,x ∈ (σ m).Oo)/\(∀ j,(σ i).bg.testBit j=true->(σ m).bg.testBit j=true)/\(∀ x ∈ (σ i).st,x ∈ (σ m).st):=by
 induction m with
 | zero=>
  have:i=0:=by omega
  subst this;exact⟨fun _ h=>h,fun _ h=>h,fun _ h=>h,fun _ h=>h,fun _ h=>h⟩
 | succ m ih=>
  by_cases e:i=m+1
  ·subst e;exact⟨fun _ h=>h,fun _ h=>h,fun _ h=>h,fun _ h=>h,fun _ h=>h⟩
  ·obtain⟨a,b,c,d,f⟩:=ih (by omega) (by omega)
   have sd:=(tr.sd m _ (List.getElem?_eq_getElem (by omega))).kd
   cases hk:K m with
   | idle=>
    rw[hk]at sd
    obtain⟨_,_,s1,s2,s3,s4,s5⟩:=sd
    rw[s1,s2,s3,s4,s5];exact⟨a,b,c,d,f⟩
   | load q=>
    rw[hk]at sd
    obtain⟨_,_,s1,s2,s3,s4,s5,_⟩:=sd
    rw[s1,s2,s3,s4,s5];exact⟨a,fun x h=>List.mem_cons_of_mem _ (b x h),c,d,f⟩
   | new=>
    rw[hk]at sd
    obtain⟨_,_,s1,s2,s3,s4,s5⟩:=sd
    rw[s1,s2,s3,s4,s5];exact⟨fun x h=>List.mem_cons_of_mem _ (a x h),b,c,d,f⟩
   | Nl q=>
    rw[hk]at sd
    obtain⟨_,s1,s2,s3,s4,s5,_⟩:=sd
    rw[s1,s2,s3,s4,s5];exact⟨a,b,c,d,fun x h=>List.mem_cons_of_mem _ (f x h)⟩
   | Lw mw=>
    rw[hk]at sd
    obtain⟨_,_,_,_,_,s1,s2,s3,s5,_,s4⟩:=sd
    rw[s1,s2,s3,s5]
    refine⟨a,b,?_,fun j h=>by rw[Ex,d j h];rfl,f⟩
    rcases s4 with ⟨_,s4⟩|⟨_,s4⟩ <;> rw[s4]
    ·exact c
    ·exact fun x h=>List.mem_cons_of_mem _ (c x h)
theorem Trc.Ars {i:Nat}(hi:i<ops.length){q:Nat}{x:A9}(h:(E i).get q=some x):q<(σ i).h.next:=
 tr.lt i (by omega) q x ((tr.sd i _ (List.getElem?_eq_getElem hi)).sub q x h)
theorem Trc.Avh {i:Nat}(hi:i<ops.length){q:Nat}{x:A9}(h:(E' i).get q=some x):q<(σ (i+1)).h.next:=by
 have sd:=tr.sd i _ (List.getElem?_eq_getElem hi)
 rw[<-sd.K3]
 refine sd.w.lt (fun q x hx=>?_) q x h
 rw[sd.K7];exact tr.Ars hi hx
theorem Trc.Ahh {i:Nat}(hi:i<ops.length){q:Nat}(h:(E i).get q=none)(hq:q<(σ i).h.next):(E' i).get q=(E i).get q:=by
 have sd:=tr.sd i _ (List.getElem?_eq_getElem hi)
 cases hx:(E' i).get q with
 | none=>exact h.symm
 | some o=>
  rcases sd.w.live q o hx with ⟨o',h1⟩|h1
  ·rw[h]at h1;cases h1
  ·rw[sd.K7]at h1;omega
theorem Trc.pair {i m:Nat}(him:i<m)(hm:m<ops.length){b:Nat}(hb:bs.get m=some b)(hn:b.testBit i=false):
 (∀ q,(E' i).get q=(E i).get q\/(E' m).get q=(E m).get q)/\(∀ q x,(E i).get q=some x->(E' m).get q=(E m).get q)/\(∀ q x,(E m).get q=some x->(E' i).get q=(E i).get q):=by
 have hi:i<ops.length:=by omega
 have sdi:=tr.sd i _ (List.getElem?_eq_getElem hi)
 have sdm:=tr.sd m _ (List.getElem?_eq_getElem hm)
 obtain⟨n1,n2,n3,n4,n5⟩:=tr.notes (i:=i+1) (m:=m) (by omega) (by omega)
 have hnext:=tr.Aoj (i:=i+1) (m:=m) (by omega) (by omega)
 have hnexti:=tr.next hi
 have hbase:base<=(σ i).h.next:=by rw[tr.base];exact tr.Aoj (by omega) (by omega)
 have hnot:=Aa8 hn
 have ki:=sdi.kd
 have km:=sdm.kd
 have hnewi:K i=.new->(Nat.shiftLeft 1 i,(σ i).h.next) ∈ (σ m).nw/\(∀ q,q ≠ (σ i).h.next->(E' i).get q=(E i).get q)/\(∀ q,(E i).get q=none)/\(σ i).h.next<(σ (i+1)).h.next:=by
  intro hk
  rw[hk]at ki
  obtain⟨k1,⟨x,k2⟩,_,k4,_⟩:=ki
  refine⟨n1 _ (by rw[k4];exact List.mem_cons_self),fun q hq=>?_,fun q=>by rw[k1];rfl,?_⟩
  ·rw[k2,Ac.D4,if_neg];rw[sdi.K7];exact fun e=>hq e.symm
  ·rw[<-sdi.K3,k2,Ac.B6,sdi.K7];omega
 have hnewm:K m=.new->(∀ q,q ≠ (σ m).h.next->(E' m).get q=(E m).get q)/\(∀ q,(E m).get q=none):=by
  intro hk
  rw[hk]at km
  obtain⟨k1,⟨x,k2⟩,_⟩:=km
  refine⟨fun q hq=>?_,fun q=>by rw[k1];rfl⟩
  rw[k2,Ac.D4,if_neg];rw[sdm.K7];exact fun e=>hq e.symm
 have hstoi:∀ r,K i=.Nl r->(Nat.shiftLeft 1 i,r) ∈ (σ m).st/\(∀ q,q ≠ r->(E' i).get q=(E i).get q)/\(∀ q x,(E i).get q=some x->q=r)/\r<(σ i).h.next:=by
  intro r hk
  rw[hk]at ki
  obtain⟨⟨x,y,k1,k2⟩,_,_,_,_,k4,_⟩:=ki
  have hr:(E i).get r=some x:=by rw[k1,Ey,if_pos rfl]
  refine⟨n5 _ (by rw[k4];exact List.mem_cons_self),fun q hq=>?_,fun q z hz=>?_,tr.Ars hi hr⟩
  ·rw[k2,Ac.get_put,if_neg];exact fun e=>hq e.symm
  ·rw[k1,Ey]at hz
   split at hz
   ·rename_i e;exact e.symm
   ·cases hz
 have hstom:∀ r,K m=.Nl r->within (σ m).bg b=true/\Cf b r (σ m).st=true/\Cf b r (σ m).D9=true/\r ∉ loose b (σ m).nw/\(∀ q,q ≠ r->(E' m).get q=(E m).get q)/\(∀ q x,(E m).get q=some x->q=r):=by
  intro r hk
  rw[hk]at km
  obtain⟨⟨x,y,k1,k2⟩,_,_,_,_,k4,b',hb',c1,c2,c3,c4⟩:=km
  rw[hb]at hb';cases hb'
  refine⟨c1,c2,c3,W8 c4,fun q hq=>?_,fun q z hz=>?_⟩
  ·rw[k2,Ac.get_put,if_neg];exact fun e=>hq e.symm
  ·rw[k1,Ey]at hz
   split at hz
   ·rename_i e;exact e.symm
   ·cases hz
 have hloadi:∀ r,K i=.load r->(Nat.shiftLeft 1 i,r) ∈ (σ m).D9/\(∀ q x,(E i).get q=some x->q=r):=by
  intro r hk
  rw[hk]at ki
  obtain⟨⟨y,k1⟩,_,_,_,k5,_⟩:=ki
  refine⟨n2 _ (by rw[k5];exact List.mem_cons_self),fun q z hz=>?_⟩
  rw[k1,Ey]at hz
  split at hz
  ·rename_i e;exact e.symm
  ·cases hz
 have hloadm:∀ r,K m=.load r->Cf b r (σ m).st=true/\((r<base/\Jb b r (σ m).Oo=true)\/(base<=r/\within (σ m).bg b=true/\loose b (σ m).nw = []))/\(∀ q x,(E m).get q=some x->q=r):=by
  intro r hk
  rw[hk]at km
  obtain⟨⟨y,k1⟩,_,_,_,_,_,_,b',hb',k7,k8⟩:=km
  rw[hb]at hb';cases hb'
  refine⟨k7,k8,fun q z hz=>?_⟩
  rw[k1,Ey]at hz
  split at hz
  ·rename_i e;exact e.symm
  ·cases hz
 have hbigi:∀ mw,K i=.Lw mw->(σ m).bg.testBit i=true:=by
  intro mw h1
  rw[h1]at ki
  obtain⟨_,_,_,_,_,k5,_⟩:=ki
  exact n4 i (by rw[k5,Ex,Da];simp)
 have hbigm:∀ mw,K m=.Lw mw->within (σ m).bg b=true/\Vp b (σ m).st=true:=by
  intro mw h2
  rw[h2]at km
  obtain⟨b',hb',hw,hw2,_⟩:=km
  rw[hb]at hb';cases hb'
  exact⟨hw,hw2⟩
 have hno:∀ {mw},K i=.Lw mw->within (σ m).bg b=true->False:=by
  intro mw h1 hw
  rw[Qj hw (hbigi mw h1)]at hn;cases hn
 have hnost:∀ {r mw},K i=.Nl r->K m=.Lw mw->False:=by
  intro r mw h1 h2
  have:=X3 (hbigm mw h2).2 (hstoi r h1).1
  rw[hnot]at this;cases this
 have hidle:(K i=.idle\/∃ q,K i=.load q)->∀ q,(E' i).get q=(E i).get q:=by
  rintro(h|⟨r,h⟩) q <;> rw[h]at ki
  ·rw[ki.2.1]
  ·rw[ki.2.1]
 have hidlem:(K m=.idle\/∃ q,K m=.load q)->∀ q,(E' m).get q=(E m).get q:=by
  rintro(h|⟨r,h⟩) q <;> rw[h]at km
  ·rw[km.2.1]
  ·rw[km.2.1]
 have hidleE:K i=.idle->∀ q,(E i).get q=none:=fun h q=>by rw[h]at ki;rw[ki.1];rfl
 have hidleEm:K m=.idle->∀ q,(E m).get q=none:=fun h q=>by rw[h]at km;rw[km.1];rfl
 have hnewloose:K i=.new->(σ i).h.next ∈ loose b (σ m).nw:=fun h1=>Q5.2 ⟨_,(hnewi h1).1,hnot⟩
 have hloose:∀ mw,K i=.new->K m=.Lw mw->(E m).get (σ i).h.next=none:=by
  intro mw h1 h2
  rw[h2]at km
  obtain⟨b',hb',_,_,he,_⟩:=km
  rw[hb]at hb';cases hb'
  rw[he,if_pos (hnewloose h1)]
 have hstst:∀ {r r'},K i=.Nl r->K m=.Nl r'->r' ≠ r:=by
  intro r r' h1 h2
  rcases Ic (hstom r' h2).2.1 (hstoi r h1).1 with h|h
  ·rw[hnot]at h;cases h
  ·exact h
 refine⟨fun q=>?_,fun q x hx=>?_,fun q x hx=>?_⟩
 ·cases hki:K i with
  | idle=>exact .inl (hidle (.inl hki) q)
  | load r=>exact .inl (hidle (.inr ⟨r,hki⟩) q)
  | new=>
   by_cases hq:q=(σ i).h.next
   ·subst hq
    right
    cases hkm:K m with
    | idle=>exact hidlem (.inl hkm) _
    | load r=>exact hidlem (.inr ⟨r,hkm⟩) _
    | new=>exact(hnewm hkm).1 _ (by have:=(hnewi hki).2.2.2;omega)
    | Nl r=>exact(hstom r hkm).2.2.2.2.1 _ (fun e=>(hstom r hkm).2.2.2.1 (e ▸ hnewloose hki))
    | Lw mw=>exact tr.Ahh hm (hloose mw hki hkm) (by have:=(hnewi hki).2.2.2;omega)
   ·exact .inl ((hnewi hki).2.1 q hq)
  | Nl r=>
   by_cases hq:q=r
   ·subst hq
    right
    cases hkm:K m with
    | idle=>exact hidlem (.inl hkm) _
    | load r=>exact hidlem (.inr ⟨r,hkm⟩) _
    | new=>exact(hnewm hkm).1 _ (by have:=(hstoi _ hki).2.2.2;omega)
    | Nl r'=>exact(hstom r' hkm).2.2.2.2.1 _ (fun e=>hstst hki hkm e.symm)
    | Lw mw=>exact(hnost hki hkm).elim
   ·exact .inl ((hstoi r hki).2.1 q hq)
  | Lw mw=>
   cases hkm:K m with
   | idle=>exact .inr (hidlem (.inl hkm) _)
   | load r=>exact .inr (hidlem (.inr ⟨r,hkm⟩) _)
   | new=>
    by_cases hq:q=(σ m).h.next
    ·left
     have h1:(E' i).get q=none:=by
      cases h:(E' i).get q with
      | none=>rfl
      | some o=>have:=tr.Avh hi h;omega
     have h2:(E i).get q=none:=by
      cases h:(E i).get q with
      | none=>rfl
      | some o=>have:=tr.Ars hi h;omega
     rw[h1,h2]
    ·exact .inr ((hnewm hkm).1 q hq)
   | Nl r=>exact(hno hki (hstom r hkm).1).elim
   | Lw Lq=>exact(hno hki (hbigm Lq hkm).1).elim
 ·have hqi:=tr.Ars hi hx
  cases hkm:K m with
  | idle=>exact hidlem (.inl hkm) _
  | load r=>exact hidlem (.inr ⟨r,hkm⟩) _
  | new=>exact(hnewm hkm).1 q (by omega)
  | Nl r'=>
   cases hki:K i with
   | idle=>rw[hidleE hki]at hx;cases hx
   | new=>rw[(hnewi hki).2.2.1]at hx;cases hx
   | Lw Lq=>exact(hno hki (hstom r' hkm).1).elim
   | load r=>
    have:=(hloadi r hki).2 q x hx
    subst this
    refine(hstom r' hkm).2.2.2.2.1 _ fun e=>?_
    rcases Ic (hstom r' hkm).2.2.1 (hloadi _ hki).1 with h|h
    ·rw[hnot]at h;cases h
    ·exact h e.symm
   | Nl r=>
    have:=(hstoi r hki).2.2.1 q x hx
    subst this
    exact(hstom r' hkm).2.2.2.2.1 _ (fun e=>hstst hki hkm e.symm)
  | Lw mw=>
   cases hki:K i with
   | idle=>rw[hidleE hki]at hx;cases hx
   | new=>rw[(hnewi hki).2.2.1]at hx;cases hx
   | Lw Lq=>exact(hno hki (hbigm mw hkm).1).elim
   | Nl r=>exact(hnost hki hkm).elim
   | load r=>
    have:=(hloadi r hki).2 q x hx
    subst this
    rw[hkm]at km
    obtain⟨b',hb',_,_,_,_,_,_,_,h8,h9⟩:=km
    rw[hb]at hb';cases hb'
    refine h8 _ ?_ (by omega)
    rcases h9 with ⟨h9,_⟩|⟨h9,_⟩
    ·omega
    ·rcases Ry h9 (hloadi _ hki).1 with h|h
     ·rw[hnot]at h;cases h
     ·exact h
 ·cases hki:K i with
  | idle=>exact hidle (.inl hki) q
  | load r=>exact hidle (.inr ⟨r,hki⟩) q
  | new=>
   refine(hnewi hki).2.1 q fun e=>?_
   subst e
   cases hkm:K m with
   | idle=>rw[hidleEm hkm]at hx;cases hx
   | new=>rw[(hnewm hkm).2]at hx;cases hx
   | Lw mw=>rw[hloose mw hki hkm]at hx;cases hx
   | Nl r=>exact(hstom r hkm).2.2.2.1 ((hstom r hkm).2.2.2.2.2 _ x hx ▸ hnewloose hki)
   | load r=>
    have e:=(hloadm r hkm).2.2 _ x hx
    rcases (hloadm r hkm).2.1 with ⟨h1,_⟩|⟨_,_,h3⟩
    ·omega
    ·have:=hnewloose hki
     rw[h3]at this;cases this
  | Nl r=>
   refine(hstoi r hki).2.1 q fun e=>?_
   subst e
   cases hkm:K m with
   | idle=>rw[hidleEm hkm]at hx;cases hx
   | new=>rw[(hnewm hkm).2]at hx;cases hx
   | Lw mw=>exact(hnost hki hkm).elim
   | Nl r'=>exact hstst hki hkm ((hstom r' hkm).2.2.2.2.2 _ x hx).symm
   | load r'=>
    have e:=(hloadm r' hkm).2.2 _ x hx
    subst e
    rcases Ic (hloadm _ hkm).1 (hstoi _ hki).1 with h|h
    ·rw[hnot]at h;cases h
    ·exact h rfl
  | Lw mw=>
   cases hkm:K m with
   | idle=>rw[hidleEm hkm]at hx;cases hx
   | new=>rw[(hnewm hkm).2]at hx;cases hx
   | Nl r=>exact(hno hki (hstom r hkm).1).elim
   | Lw Lq=>exact(hno hki (hbigm Lq hkm).1).elim
   | load r=>
    have e:=(hloadm r hkm).2.2 _ x hx
    subst e
    rw[hki]at ki
    obtain⟨bi,_,_,_,_,kb,_,_,_,h8,h9⟩:=ki
    rcases (hloadm _ hkm).2.1 with ⟨h1,h2⟩|⟨_,h2,_⟩
    ·refine h8 _ ?_ (by omega)
     rcases h9 with ⟨h9,_⟩|⟨_,h9⟩
     ·omega
     ·rcases Tf h2 (n3 _ (by rw[h9];exact List.mem_cons_self)) with h|h
      ·rw[hnot]at h;cases h
      ·exact h
    ·have:(σ m).bg.testBit i=true:=n4 i (by rw[kb,Ex,Da];simp)
     rw[Qj h2 this]at hn;cases hn
end
end Go.Ev

namespace Go.Ev
open Classical
structure Mj(p:Nat->Prop)(f0:Loc)(h0:Ac)(w0:World)(f:Loc)(g:Nat->Option A9)(w:World):Prop where
 agree:Loc.agree p f0 f
 obj:∀ i o,g i=some o->∃ r,w.heap[f.b i]? = some r/\F6 f i o r
 inj:∀ i j o o',g i=some o->g j=some o'->f.b i=f.b j->i=j
 kept:∀ b,b<w0.heap.size->(∀ i o,h0.get i=some o->f0.b i ≠ b)->w.heap[b]? = w0.heap[b]?
 size:w0.heap.size<=w.heap.size
 tape:w.tape=w0.tape
 os:w.os=w0.os
 output:w.output=w0.output
 own:∀ i o,g i=some o->w0.heap.size<=f.b i\/∃ j o',h0.get j=some o'/\f.b i=f0.b j
theorem Mj.start {p:Nat->Prop}{f:Loc}{h:Ac}{w:World}(hr:Gz f h w):Mj p f h w f h.get w where
 agree:=Loc.Om _ _
 obj:=hr.obj
 inj:=hr.inj
 kept _ _ _:=rfl
 size:=Nat.le_refl _
 tape:=rfl
 os:=rfl
 output:=rfl
 own i o ho:=.inr ⟨i,o,ho,rfl⟩
theorem Mj.drew {p:Nat->Prop}{f0 f:Loc}{h0:Ac}{w0 w:World}{g:Nat->Option A9}(m:Mj p f0 h0 w0 f g w)(k:Nat):Mj p f0 h0 w0 f g { w with drawn:=k }:=
 ⟨m.agree,m.obj,m.inj,m.kept,m.size,m.tape,m.os,m.output,m.own⟩
theorem Mj.move {p:Nat->Prop}{f0 f:Loc}{h0 h:Ac}{w0 w:World}{g:Nat->Option A9}(m:Mj p f0 h0 w0 f g w)(e:∀ q,h.get q=g q):Move p f0 h0 w0 f h w where
 agree:=m.agree
 rep:=⟨fun i o ho=>m.obj i o (by rw[<-e];exact ho),fun i j o o' ho ho'=>m.inj i j o o' (by rw[<-e];exact ho) (by rw[<-e];exact ho')⟩
 kept:=m.kept
 size:=m.size
 tape:=m.tape
 os:=m.os
 output:=m.output
 own i o ho:=m.own i o (by rw[<-e];exact ho)
def patch(n:Nat)(f1 f:Loc):Loc:=⟨fun q=>if q<n then f1.b q else f.b q,fun q=>if q<n then f1.sp q else f.sp q⟩
theorem Acl {n:Nat}{f1 f:Loc}{q:Nat}(h:q<n):(patch n f1 f).b q=f1.b q/\(patch n f1 f).sp q=f1.sp q:=⟨if_pos h,if_pos h⟩
theorem Ak1 {n:Nat}{f1 f:Loc}{q:Nat}(h:n<=q):(patch n f1 f).b q=f.b q/\(patch n f1 f).sp q=f.sp q:=⟨if_neg (by omega),if_neg (by omega)⟩
noncomputable def L7(D D':Ac)(g:Nat->Option A9)(q:Nat):Option A9:=if D'.get q=D.get q then g q else D'.get q
section
variable {p0:Nat->Prop}{f0:Loc}{h0:Ac}{w0:World}{f:Loc}{g:Nat->Option A9}{w:World}{pq:Nat->Prop}{D D':Ac}{f1:Loc}{w1:World}
theorem V2(hm:Move (fun q=>pq q/\q<D.next) f D w f1 D' w1)(hw:Wf (fun q=>pq q/\q<D.next) D D')(hgap:∀ q,pq q->q<D.next\/D'.next<=q):
 Loc.agree pq f (patch D'.next f1 f):=by
 intro q hq
 rcases hgap q hq with h|h
 ·obtain⟨e1,e2⟩:=Acl (f1:=f1) (f:=f) (Nat.lt_of_lt_of_le h hw.next)
  rw[e1,e2];exact hm.agree q ⟨hq,h⟩
 ·obtain⟨e1,e2⟩:=Ak1 (f1:=f1) (f:=f) h
  rw[e1,e2];exact⟨rfl,rfl⟩
theorem S8(hw:Wf (fun q=>pq q/\q<D.next) D D'):Loc.agree (grow (fun q=>pq q/\q<D.next) D D') f1 (patch D'.next f1 f):=by
 intro q hq
 have:q<D'.next:=by
  rcases hq with h|h
  ·exact Nat.lt_of_lt_of_le h.2 hw.next
  ·exact h.2
 obtain⟨e1,e2⟩:=Acl (f1:=f1) (f:=f) this
 rw[e1,e2];exact⟨rfl,rfl⟩
theorem Mj.step(m:Mj p0 f0 h0 w0 f g w)(hsub:∀ q x,D.get q=some x->g q=some x)(hg:∀ q x,g q=some x->pq q/\x.ok pq)
 (hp0:∀ q,p0 q->pq q) (hm:Move (fun q=>pq q/\q<D.next) f D w f1 D' w1) (hw:Wf (fun q=>pq q/\q<D.next) D D') (hgap:∀ q,pq q->q<D.next\/D'.next<=q) :
 Mj p0 f0 h0 w0 (patch D'.next f1 f) (L7 D D' g) w1:=by
 have hag:=V2 hm hw hgap
 have hag1:=S8 (f1:=f1) (f:=f) hw
 have hin:∀ q x,D'.get q=some x->L7 D D' g q=some x:=by
  intro q x hx
  unfold L7
  split
  ·rename_i e;exact hsub q x (by rw[<-e];exact hx)
  ·exact hx
 have hcase:∀ q x,L7 D D' g q=some x->D'.get q=some x\/(D'.get q=none/\D.get q=none/\g q=some x):=by
  intro q x hx
  cases hd:D'.get q with
  | some y=>rw[hin q y hd]at hx;exact .inl hx
  | none=>
   unfold L7 at hx
   split at hx
   ·rename_i e;rw[hd]at e;exact .inr ⟨rfl,e.symm,hx⟩
   ·rw[hd]at hx;cases hx
 have hb1:∀ q x,D'.get q=some x->(patch D'.next f1 f).b q=f1.b q:=fun q x hx=>(hag1 q (hw.Lj.get q x hx).1).1.symm
 have hb2:∀ q x,g q=some x->(patch D'.next f1 f).b q=f.b q:=fun q x hx=>(hag q (hg q x hx).1).1.symm
 have hlt:∀ q x,g q=some x->f.b q<w.heap.size:=by
  intro q x hx
  obtain⟨r,h1,_⟩:=m.obj q x hx
  exact(Array.getElem?_eq_some_iff.1 h1).1
 have happ:∀ q x,g q=some x->D.get q=none->∀ i o,D.get i=some o->f.b i ≠ f.b q:=by
  intro q x hx hd i o hi e
  have:=m.inj i q o x (hsub i o hi) hx e
  subst this
  rw[hd]at hi;cases hi
 refine⟨?_,?_,?_,?_,Nat.le_trans m.size hm.size,hm.tape.trans m.tape,hm.os.trans m.os,hm.output.trans m.output,?_⟩
 ·exact m.agree.trans (hag.mono hp0)
 ·intro q x hx
  rcases hcase q x hx with hd|⟨_,hd,hgq⟩
  ·obtain⟨r,h1,h2⟩:=hm.rep.obj q x hd
   obtain⟨h3,h4⟩:=hw.Lj.get q x hd
   exact⟨r,by rw[hb1 q x hd];exact h1,h2.congr hag1 h3 h4⟩
  ·obtain⟨r,h1,h2⟩:=m.obj q x hgq
   obtain⟨h3,h4⟩:=hg q x hgq
   refine⟨r,?_,h2.congr hag h3 h4⟩
   rw[hb2 q x hgq,hm.kept _ (hlt q x hgq) (happ q x hgq hd)];exact h1
 ·
  have hmix:∀ i j o o',D'.get i=some o->g j=some o'->D.get j=none->f1.b i ≠ f.b j:=by
   intro i j o o' hi hj hd e
   rcases hm.own i o hi with h|⟨k,ok,hk,h⟩
   ·have:=hlt j o' hj;omega
   ·exact happ j o' hj hd k ok hk (by rw[<-h];exact e)
  intro i j o o' hi hj e
  rcases hcase i o hi with hdi|⟨_,hdi,hgi⟩ <;> rcases hcase j o' hj with hdj|⟨_,hdj,hgj⟩
  ·rw[hb1 i o hdi,hb1 j o' hdj]at e;exact hm.rep.inj i j o o' hdi hdj e
  ·rw[hb1 i o hdi,hb2 j o' hgj]at e;exact absurd e (hmix i j o o' hdi hgj hdj)
  ·rw[hb2 i o hgi,hb1 j o' hdj]at e;exact absurd e.symm (hmix j i o' o hdj hgi hdi)
  ·rw[hb2 i o hgi,hb2 j o' hgj]at e;exact m.inj i j o o' hgi hgj e
 ·intro b hb hn
  rw[hm.kept b (Nat.lt_of_lt_of_le hb m.size) ?_]
  ·exact m.kept b hb hn
  ·intro i o hi e
   rcases m.own i o (hsub i o hi) with h|⟨j,o',h1,h2⟩
   ·omega
   ·exact hn j o' h1 (by rw[<-h2];exact e)
 ·intro i o hi
  rcases hcase i o hi with hdi|⟨_,hdi,hgi⟩
  ·rw[hb1 i o hdi]
   rcases hm.own i o hdi with h|⟨j,o',h1,h2⟩
   ·exact .inl (Nat.le_trans m.size h)
   ·rw[h2];exact m.own j o' (hsub j o' h1)
  ·rw[hb2 i o hgi];exact m.own i o hgi
end
end Go.Ev

namespace Go.Ev
open Classical
def Acg(ops:Array Oper)(m:Nat):Option Tmp:=(ops[m]?).bind (·.dst)
theorem Nb {ops:Array Oper}{m:Nat}{o:Oper}(h:ops[m]? = some o):Acg ops m=o.dst:=by rw[Acg,h];rfl
noncomputable def Pg(n:Nat)(ops:Array Oper)(V:Nat->EV)(tm0:Ag)(S:Nat->Prop):Nat->Ag
 | 0=>tm0
 | m+1=>if S m then Fk n (Pg n ops V tm0 S m) (Acg ops m) (V m) else Pg n ops V tm0 S m
noncomputable def hS(E E':Nat->Ac)(g0:Nat->Option A9)(S:Nat->Prop):Nat->Nat->Option A9
 | 0=>g0
 | m+1=>if S m then L7 (E m) (E' m) (hS E E' g0 S m) else hS E E' g0 S m
theorem Lh(n:Nat)(tm:Ag)(d:Option Tmp)(v:EV)(t:Nat):tmp (Fk n tm d v) t=if d=some t/\t<n then v else tmp tm t:=by
 cases d with
 | none=>simp[Fk]
 | some d=>
  rw[Agx]
  by_cases h:d=t
  ·subst h;simp
  ·rw[if_neg (fun x=>h x.1),if_neg (fun x=>h (by simpa using x.1))]
theorem Sa(f:Loc)(n:Nat){a b:Ag}(h:∀ t,tmp a t=tmp b t):Ap f n a=Ap f n b:=by
 unfold Ap;simp only[h]
theorem Ajv {n:Nat}{tm:Ag}(h:∀ t,n<=t->tm.get t=none)(d:Option Tmp)(v:EV):∀ t,n<=t->(Fk n tm d v).get t=none:=by
 intro t ht
 cases d with
 | none=>exact h t ht
 | some d=>
  simp only[Fk]
  rw[Ax]
  split
  ·rename_i hd
   rw[Tr.Di _ _ (Nat.ne_of_lt (Nat.lt_of_lt_of_le (Nat.le_of_ble_eq_true hd) ht))];exact h t ht
  ·exact h t ht
theorem Ap3 {tm:Ag}{t:Nat}{v:EV}(h:tm.get t=some v):tmp tm t=v:=by unfold tmp;rw[h]
theorem Aed {T:Cr}{call round:Ae}{tm:Ag}{op:Op}{h:Ac}{v:EV}{h':Ac}(hop:Oy T call round tm op h=some (v,h')):∀ cs b,op=.select cs b->∃ c,cs = #[c]:=by
 rintro cs b rfl
 rw[T8 rfl (fun _ e=>by cases e)]at hop
 cases b with
 | true=>cases hop
 | false=>
  simp only[Bq]at hop
  split at hop
  ·rename_i c hc
   exact⟨c,by apply Array.ext';simpa using hc⟩
  ·cases hop
section
variable {P:Program}{T:Cr}{call round:Ae}{n:Nat}{ops:Array Oper}{bs:Tr Nat}{base:Nat}{σ:Nat->Zu}{V:Nat->EV}{E E':Nat->Ac}{K:Nat->Kd}
def nx(σ:Nat->Zu)(m:Nat):Nat:=(σ m).h.next
def pS(p0:Nat->Prop)(σ:Nat->Zu)(N:Nat)(S:Nat->Prop)(q:Nat):Prop:=p0 q\/∃ j,S j/\j<N/\nx σ j<=q/\q<nx σ (j+1)
structure Inv(n:Nat)(ops:Array Oper)(bs:Tr Nat)(σ:Nat->Zu)(V:Nat->EV)(E E':Nat->Ac)(p0:Nat->Prop)(f0:Loc)(w0:World)(S:Nat->Prop)(f:Loc)(w:World):Prop where
 dn:∀ j,S j->j<ops.size/\∀ b,bs.get j=some b->∀ k,b.testBit k=true->S k
 vok:∀ j,S j->(V j).ok (fun q=>pS p0 σ ops.size S q/\q<nx σ (j+1))
 eok:∀ j,S j->∀ q x,(E' j).get q=some x->(pS p0 σ ops.size S q/\q<nx σ (j+1))/\x.ok (fun q=>pS p0 σ ops.size S q/\q<nx σ (j+1))
 mv:Mj p0 f0 (σ 0).h w0 f (hS E E' (σ 0).h.get S ops.size) w
variable (tr:Trc T call round n ops.toList bs base σ V E E' K)
include tr
theorem Trc.sd' {i:Nat}{o:Oper}(h:ops[i]? = some o):Sd T call round n ops.toList bs base o i (σ i) (σ (i+1)) (V i) (E i) (E' i) (K i):=tr.sd i o (by rw[Array.getElem?_toList];exact h)
theorem Trc.Wz {i m:Nat}(him:i<=m)(hm:m<=ops.size):nx σ i<=nx σ m:=tr.Aoj him (by simpa using hm)
theorem Akr {S:Nat->Prop}{i t:Nat}(hi:i<=ops.size)(h:∀ j,j<i->¬ S j->Acg ops j ≠ some t):∀ m,m<=i->tmp (Pg n ops V (σ 0).tm S m) t=tmp (σ m).tm t
 | 0,_=>rfl
 | m+1,hm=>by
  have ih:=Akr hi h m (by omega)
  have ho:ops[m]? = some ops[m]:=Array.getElem?_eq_getElem (by omega)
  rw[(tr.sd' ho).tm,<-Nb ho,Lh]
  simp only[Pg]
  split
  ·rw[Lh,ih]
  ·rename_i hs
   rw[ih,if_neg (fun x=>h m (by omega) hs x.1)]
omit tr in
theorem Af0 {S:Nat->Prop}{i t:Nat}(tm0:Ag)(h:∀ j,i<=j->S j->Acg ops j ≠ some t):∀ m,i<=m->tmp (Pg n ops V tm0 S m) t=tmp (Pg n ops V tm0 S i) t:=by
 intro m
 induction m with
 | zero=>
  intro hm;have:i=0:=by omega
  subst this;rfl
 | succ m ih=>
  intro hm
  by_cases e:i=m+1
  ·subst e;rfl
  ·rw[<-ih (by omega)]
   simp only[Pg]
   split
   ·rename_i hs;rw[Lh,if_neg (fun x=>h m (by omega) hs x.1)]
   ·rfl
theorem Aoh {S:Nat->Prop}{i q:Nat}(hi:i<=ops.size)(h:∀ j,j<i->¬ S j->(E' j).get q=(E j).get q):∀ m,m<=i->hS E E' (σ 0).h.get S m q=(σ m).h.get q
 | 0,_=>rfl
 | m+1,hm=>by
  have ih:=Aoh hi h m (by omega)
  have ho:ops[m]? = some ops[m]:=Array.getElem?_eq_getElem (by omega)
  rw[(tr.sd' ho).Al8]
  simp only[hS]
  split
  ·simp only[L7,ih]
  ·rename_i hs
   rw[ih,if_pos (h m (by omega) hs)]
omit tr in
theorem Ajf {S:Nat->Prop}{i q:Nat}(g0:Nat->Option A9)(h:∀ j,i<=j->S j->(E' j).get q=(E j).get q):∀ m,i<=m->hS E E' g0 S m q=hS E E' g0 S i q:=by
 intro m
 induction m with
 | zero=>
  intro hm;have:i=0:=by omega
  subst this;rfl
 | succ m ih=>
  intro hm
  by_cases e:i=m+1
  ·subst e;rfl
  ·rw[<-ih (by omega)]
   simp only[hS]
   split
   ·rename_i hs;simp only[L7];rw[if_pos (h m (by omega) hs)]
   ·rfl
theorem T4 {S:Nat->Prop}(h:∀ j,j<ops.size->S j):∀ m,m<=ops.size->Pg n ops V (σ 0).tm S m=(σ m).tm
 | 0,_=>rfl
 | m+1,hm=>by
  have ho:ops[m]? = some ops[m]:=Array.getElem?_eq_getElem (by omega)
  simp only[Pg]
  rw[if_pos (h m (by omega)),T4 h m (by omega),(tr.sd' ho).tm,Nb ho]
theorem Ajz {S:Nat->Prop}(h:∀ j,j<ops.size->S j)(q:Nat):hS E E' (σ 0).h.get S ops.size q=(σ ops.size).h.get q:=
 Aoh tr (Nat.le_refl _) (fun j hj hs=>absurd (h j hj) hs) _ (Nat.le_refl _)
omit tr in
theorem Aar {tm0:Ag}(h:∀ t,n<=t->tm0.get t=none)(S:Nat->Prop):∀ m t,n<=t->(Pg n ops V tm0 S m).get t=none
 | 0=>h
 | m+1=>by
  simp only[Pg]
  split
  ·exact Ajv (Aar h S m) _ _
  ·exact Aar h S m
variable {p0:Nat->Prop}{f0:Loc}{w0:World}{S:Nat->Prop}{f:Loc}{w:World}
theorem Inv.Asp(I:Inv n ops bs σ V E E' p0 f0 w0 S f w)(h0:Ec p0 n (σ 0).tm)(hp:∀ q,p0 q->q<nx σ 0):∀ m,m<=ops.size->Ec (fun q=>pS p0 σ ops.size S q/\q<nx σ m) n (Pg n ops V (σ 0).tm S m)
 | 0,_=>h0.mono fun q hq=>⟨.inl hq,hp q hq⟩
 | m+1,hm=>by
  have ih:=Inv.Asp I h0 hp m (by omega)
  have hn:=tr.Wz (i:=m) (m:=m+1) (by omega) hm
  simp only[Pg]
  split
  ·rename_i hs
   exact(ih.mono fun q hq=>⟨hq.1,by omega⟩).put _ (I.vok m hs)
  ·exact ih.mono fun q hq=>⟨hq.1,by omega⟩
theorem Inv.Lj(I:Inv n ops bs σ V E E' p0 f0 w0 S f w)(h0:Gr p0 (σ 0).h):∀ m,m<=ops.size->∀ q x,hS E E' (σ 0).h.get S m q=some x ->
 (pS p0 σ ops.size S q/\q<nx σ m)/\x.ok (fun q=>pS p0 σ ops.size S q/\q<nx σ m)
 | 0,_,q,x,hx=>⟨⟨.inl (h0.get q x hx).1,h0.lt q (h0.get q x hx).1⟩,(h0.get q x hx).2.mono fun r hr=>⟨.inl hr,h0.lt r hr⟩⟩
 | m+1,hm,q,x,hx=>by
  have hn:=tr.Wz (i:=m) (m:=m+1) (by omega) hm
  have up:∀ {q x},hS E E' (σ 0).h.get S m q=some x->(pS p0 σ ops.size S q/\q<nx σ (m+1))/\x.ok (fun q=>pS p0 σ ops.size S q/\q<nx σ (m+1)):=by
   intro q x hx
   obtain⟨h1,h2⟩:=Inv.Lj I h0 m (by omega) q x hx
   exact⟨⟨h1.1,by omega⟩,h2.mono fun r hr=>⟨hr.1,by omega⟩⟩
  simp only[hS]at hx
  split at hx
  ·rename_i hs
   unfold L7 at hx
   split at hx
   ·exact up hx
   ·exact I.eok m hs q x hx
  ·exact up hx
end
end Go.Ev

namespace Go.Ev
open Classical
section
variable {P:Program}{T:Cr}(hT:Fi P T){call round:Ae}(hC:Li P call)(hR:On P round){n:Nat}{ops:Array Oper}{bs:Tr Nat}{base:Nat}{σ:Nat->Zu}{V:Nat->EV}{E E':Nat->Ac}{K:Nat->Kd}
 (tr:Trc T call round n ops.toList bs base σ V E E' K) (hbs:bs=Du ops.toList 0 .nil) (htm:J7 ops.toList bs ops.toList 0 []=true)
 {p0:Nat->Prop} {f0:Loc} {w0:World} {S:Nat->Prop} {f:Loc} {w:World}
include hbs in
theorem Afw {i:Nat}(hi:i<ops.size):∃ b,bs.get i=some b:=by
 have ho:ops.toList[i]? = some ops[i]:=by rw[Array.getElem?_toList];exact Array.getElem?_eq_getElem hi
 obtain⟨b,h1,_⟩:=Ob ops.toList 0 .nil (fun _ _=>rfl) i _ ho
 rw[Nat.zero_add]at h1
 exact⟨b,by rw[hbs];exact h1⟩
include hT hC hR tr hbs htm in
theorem Inv.step(I:Inv n ops bs σ V E E' p0 f0 w0 S f w)(h0:Ec p0 n (σ 0).tm)(hh0:Gr p0 (σ 0).h){i:Nat}(hi:i<ops.size)(hni:¬ S i){bi:Nat}(hbi:bs.get i=some bi)(hrd:∀ k,bi.testBit k=true->S k)
 {S':Nat->Prop} (hS':∀ j,S' j ↔ S j\/j=i) (fb:FB) (rest:List Nat) (k:List Item) (cs:List Frame) :
 ∃ f' w',Steps P (lone (fb.at (Ap f n (Pg n ops V (σ 0).tm S ops.size)) (.inRegion ops (i::rest)::k)) cs w) (lone (fb.at (Ap f' n (Pg n ops V (σ 0).tm S' ops.size)) (.inRegion ops rest::k)) cs w') /\
  Inv n ops bs σ V E E' p0 f0 w0 S' f' w':=by
 have ho:ops[i]? = some ops[i]:=Array.getElem?_eq_getElem hi
 generalize hoi:ops[i]=o at ho
 have sd:=tr.sd' ho
 have hp0:∀ q,p0 q->q<nx σ 0:=hh0.lt
 have hlen:ops.toList.length=ops.size:=by simp
 have hlow:∀ j,j<i->¬ S j->bi.testBit j=false:=by
  intro j _ hs
  cases hb:bi.testBit j with
  | false=>rfl
  | true=>exact absurd (hrd j hb) hs
 have hhigh:∀ j,i<j->S j->∃ b,bs.get j=some b/\b.testBit i=false:=by
  intro j hj hs
  obtain⟨hjn,hd⟩:=I.dn j hs
  obtain⟨b,hb⟩:=Afw hbs hjn
  refine⟨b,hb,?_⟩
  cases hbi':b.testBit i with
  | false=>rfl
  | true=>exact absurd (hd b hb i hbi') hni
 have hjn:∀ j,S j->j<ops.size:=fun j hs=>(I.dn j hs).1
 have hopl:∀ j,j<ops.size->∃ oj,ops[j]? = some oj/\ops.toList[j]? = some oj:=fun j hj=>⟨ops[j],Array.getElem?_eq_getElem hj,by rw[Array.getElem?_toList];exact Array.getElem?_eq_getElem hj⟩
 have hol:ops.toList[i]? = some o:=by rw[Array.getElem?_toList];exact ho
 have hlook:∀ t,Ab1 ops.toList o t->tmp (Pg n ops V (σ 0).tm S ops.size) t=tmp (σ i).tm t/\tmp (Pg n ops V (σ 0).tm S i) t=tmp (σ i).tm t:=by
  intro t ht
  have e1:tmp (Pg n ops V (σ 0).tm S i) t=tmp (σ i).tm t:=by
   refine Akr tr (by omega) (fun j hj hs e=>?_) i (Nat.le_refl _)
   obtain⟨oj,h1,h2⟩:=hopl j (by omega)
   rw[Nb h1]at e
   exact((St htm h2 hol hj hbi (hlow j hj hs)).1 t e).2 ht
  refine⟨?_,e1⟩
  rw[<-e1]
  refine Af0 _ (fun j hj hs e=>?_) _ (by omega)
  have hij:i<j:=by
   rcases Nat.lt_or_eq_of_le hj with h|h
   ·exact h
   ·subst h;exact absurd hs hni
  obtain⟨oj,h1,h2⟩:=hopl j (hjn j hs)
  obtain⟨b,hb,hbf⟩:=hhigh j hij hs
  rw[Nb h1]at e
  exact(St htm hol h2 hij hb hbf).2 t ht e
 have hmem:∀ q x,(E i).get q=some x->hS E E' (σ 0).h.get S i q=some x/\hS E E' (σ 0).h.get S ops.size q=some x:=by
  intro q x hx
  have e1:hS E E' (σ 0).h.get S i q=some x:=by
   rw[Aoh tr (by omega) (fun j hj hs=>?_) i (Nat.le_refl _)]
   ·exact sd.sub q x hx
   ·exact(tr.pair hj (by omega) hbi (hlow j hj hs)).2.2 q x hx
  refine⟨e1,?_⟩
  rw[<-e1]
  refine Ajf _ (fun j hj hs=>?_) _ (by omega)
  have hij:i<j:=by
   rcases Nat.lt_or_eq_of_le hj with h|h
   ·exact h
   ·subst h;exact absurd hs hni
  obtain⟨b,hb,hbf⟩:=hhigh j hij hs
  exact(tr.pair hij (by have:=hjn j hs;omega) hb hbf).2.1 q x hx
 have hS'i:S' i:=(hS' i).2 (.inr rfl)
 have hSlow:∀ j,j ≠ i->(S' j ↔ S j):=fun j hj=>⟨fun h=>((hS' j).1 h).resolve_right hj,fun h=>(hS' j).2 (.inl h)⟩
 have tmlow:∀ m,m<=i->Pg n ops V (σ 0).tm S' m=Pg n ops V (σ 0).tm S m:=by
  intro m
  induction m with
  | zero=>intro _;rfl
  | succ m ih=>
   intro hm
   simp only[Pg]
   rw[ih (by omega)]
   by_cases hs:S m
   ·rw[if_pos hs,if_pos ((hSlow m (by omega)).2 hs)]
   ·rw[if_neg hs,if_neg (fun h=>hs ((hSlow m (by omega)).1 h))]
 have hlow':∀ m,m<=i->hS E E' (σ 0).h.get S' m=hS E E' (σ 0).h.get S m:=by
  intro m
  induction m with
  | zero=>intro _;rfl
  | succ m ih=>
   intro hm
   simp only[hS]
   rw[ih (by omega)]
   by_cases hs:S m
   ·rw[if_pos hs,if_pos ((hSlow m (by omega)).2 hs)]
   ·rw[if_neg hs,if_neg (fun h=>hs ((hSlow m (by omega)).1 h))]
 have tmhigh:∀ m,i<m->m<=ops.size->∀ t,tmp (Pg n ops V (σ 0).tm S' m) t=tmp (Fk n (Pg n ops V (σ 0).tm S m) o.dst (V i)) t:=by
  intro m
  induction m with
  | zero=>intro h;omega
  | succ m ih=>
   intro hm hmn t
   by_cases e:m=i
   ·subst e
    simp only[Pg]
    rw[if_pos hS'i,if_neg hni,tmlow _ (Nat.le_refl _),Nb ho]
   ·have ih:=ih (by omega) (by omega) t
    simp only[Pg]
    by_cases hs:S m
    ·rw[if_pos hs,if_pos ((hSlow m e).2 hs),Lh,ih,Lh,Lh,Lh]
     obtain⟨b,hb,hbf⟩:=hhigh m (by omega) hs
     obtain⟨om,h1,h2⟩:=hopl m (by omega)
     have hap:=(St htm hol h2 (by omega) hb hbf).1
     rw[Nb h1]
     by_cases c1:om.dst=some t/\t<n
     ·rw[if_pos c1,if_neg,if_pos c1]
      rintro⟨c2,_⟩
      exact(hap t c2).1 c1.1
     ·rw[if_neg c1,if_neg c1]
    ·rw[if_neg hs,if_neg (fun h=>hs ((hSlow m e).1 h))];exact ih
 have hhigh':∀ m,i<m->m<=ops.size->hS E E' (σ 0).h.get S' m=L7 (E i) (E' i) (hS E E' (σ 0).h.get S m):=by
  intro m
  induction m with
  | zero=>intro h;omega
  | succ m ih=>
   intro hm hmn
   by_cases e:m=i
   ·subst e
    simp only[hS]
    rw[if_pos hS'i,if_neg hni,hlow' _ (Nat.le_refl _)]
   ·have ih:=ih (by omega) (by omega)
    simp only[hS]
    by_cases hs:S m
    ·rw[if_pos hs,if_pos ((hSlow m e).2 hs),ih]
     obtain⟨b,hb,hbf⟩:=hhigh m (by omega) hs
     have hww:=(tr.pair (i:=i) (m:=m) (by omega) (by omega) hb hbf).1
     funext q
     simp only[L7]
     rcases hww q with h|h
     ·rw[if_pos h,if_pos h]
     ·rw[if_pos h,if_pos h]
    ·rw[if_neg hs,if_neg (fun h=>hs ((hSlow m e).1 h))];exact ih
 have hpS:∀ q,pS p0 σ ops.size S q->pS p0 σ ops.size S' q:=by
  rintro q (h|⟨j,h1,h2⟩)
  ·exact .inl h
  ·exact .inr ⟨j,(hS' j).2 (.inl h1),h2⟩
 have hpi:∀ q,nx σ i<=q->q<nx σ (i+1)->pS p0 σ ops.size S' q:=fun q h1 h2=>.inr ⟨i,hS'i,hi,h1,h2⟩
 have mkInv:∀ f' w',(V i).ok (fun q=>pS p0 σ ops.size S' q/\q<nx σ (i+1))->(∀ q x,(E' i).get q=some x->(pS p0 σ ops.size S' q/\q<nx σ (i+1))/\x.ok (fun q=>pS p0 σ ops.size S' q/\q<nx σ (i+1))) ->
  Mj p0 f0 (σ 0).h w0 f' (L7 (E i) (E' i) (hS E E' (σ 0).h.get S ops.size)) w'->Inv n ops bs σ V E E' p0 f0 w0 S' f' w':=by
  intro f' w' h1 h2 h3
  refine⟨fun j hj=>?_,fun j hj=>?_,fun j hj=>?_,?_⟩
  ·rcases (hS' j).1 hj with hj|rfl
   ·exact⟨hjn j hj,fun b hb k hk=>(hS' k).2 (.inl ((I.dn j hj).2 b hb k hk))⟩
   ·refine⟨hi,fun b hb k hk=>(hS' k).2 (.inl ?_)⟩
    rw[hbi]at hb;cases hb;exact hrd k hk
  ·rcases (hS' j).1 hj with hj|rfl
   ·exact EV.ok.mono (fun q hq=>⟨hpS q hq.1,hq.2⟩) _ (I.vok j hj)
   ·exact h1
  ·rcases (hS' j).1 hj with hj|rfl
   ·intro q x hx
    obtain⟨a,b⟩:=I.eok j hj q x hx
    exact⟨⟨hpS q a.1,a.2⟩,b.mono fun r hr=>⟨hpS r hr.1,hr.2⟩⟩
   ·exact h2
  ·rw[hhigh' ops.size hi (Nat.le_refl _)];exact h3
 have tmokN:=I.Asp tr h0 hp0 ops.size (Nat.le_refl _)
 have hwant:Region.wanted o (Go.yielded ops (Ap f n (Pg n ops V (σ 0).tm S ops.size)))=Ev.wanted ops.toList (σ i).tm o.guard:=by
  rw[Zh tmokN]
  unfold Ev.wanted
  cases hg:o.guard with
  | none=>rfl
  | some x=>
   obtain⟨j,want⟩:=x
   simp only[]
   have:Ev.yielded ops.toList (Pg n ops V (σ 0).tm S ops.size) j=Ev.yielded ops.toList (σ i).tm j:=by
    unfold Ev.yielded
    rw[Wl]
    cases hj:ops.toList[j]? with
    | none=>rfl
    | some g=>
     simp only[]
     cases hd:g.dst with
     | none=>rfl
     | some d=>
      simp only[]
      have:=(hlook d (.inr ⟨j,want,g,hg,hj,hd⟩)).1
      unfold tmp at this
      revert this
      cases Pg n ops V (σ 0).tm S ops.size |>.get d with
      | none=>
       cases (σ i).tm.get d with
       | none=>intro _;rfl
       | some v=>intro h;simp only[]at h;rw[<-h]
      | some v=>
       cases (σ i).tm.get d with
       | none=>intro h;simp only[]at h;rw[h]
       | some v'=>intro h;simp only[]at h;rw[h]
   rw[this]
 rcases sd.run with ⟨hw,hv,hE⟩|⟨hw,hop⟩
 ·
  refine⟨f,w,.one ?_,mkInv f w ?_ ?_ ?_⟩
  ·rw[hw]at hwant
   have:=Vj (P:=P) (b:=fb) (rest:=rest) (k:=k) (cs:=cs) (w:=w) ho hwant
   rw[this,show (undef:Value)=Be f (V i) by rw[hv];rfl,Me]
   rw[Sa f n (fun t=>(tmhigh ops.size hi (Nat.le_refl _) t).symm)]
  ·rw[hv];trivial
  ·rw[hE]
   intro q x hx
   obtain⟨a,b⟩:=I.Lj tr hh0 i (by omega) q x (hmem q x hx).1
   have:=tr.Wz (i:=i) (m:=i+1) (by omega) (by omega)
   exact⟨⟨hpS q a.1,by omega⟩,b.mono fun r hr=>⟨hpS r hr.1,by have:=hr.2;omega⟩⟩
  ·have:L7 (E i) (E' i) (hS E E' (σ 0).h.get S ops.size)=hS E E' (σ 0).h.get S ops.size:=by
    funext q;simp only[L7];rw[hE,if_pos rfl]
   rw[this];exact I.mv
 ·have hen:(E i).next=nx σ i:=sd.K7
  have hen':(E' i).next=nx σ (i+1):=sd.K3
  rw[hw]at hwant
  have tmoki:=I.Asp tr h0 hp0 i (by omega)
  have houtA:∀ t,n<=t->(σ i).tm.get t=none:=by
   rw[<-T4 tr (S:=fun _=>True) (fun _ _=>trivial) i (by omega)]
   exact Aar h0.out _ i
  have hcong:∀ x ∈ o.op.operands,Bb (Kh (σ i).tm o.op.operands.toList) x=Bb (σ i).tm x:=fun x hx=>Aet _ (Array.mem_toList_iff.2 hx)
  have hop':Oy T call round (Kh (σ i).tm o.op.operands.toList) o.op (E i)=some (V i,E' i):=by rw[Ahu hcong];exact hop
  have htR:Ec (fun q=>pS p0 σ ops.size S q/\q<(E i).next) n (Kh (σ i).tm o.op.operands.toList):=by
   refine An9 (fun t ht v hv=>?_) houtA
   have e:=(hlook t (.inl ht)).2
   rw[Ap3 hv]at e
   rw[<-e,hen]
   exact tmoki.tmp t
  have hhE:Gr (fun q=>pS p0 σ ops.size S q/\q<(E i).next) (E i):=by
   refine⟨fun q hq=>hq.2,fun q x hx=>?_⟩
   rw[hen]
   exact I.Lj tr hh0 i (by omega) q x (hmem q x hx).1
  have hrE:Gz f (E i) w:=⟨fun q x hx=>I.mv.obj q x (hmem q x hx).2,fun q r x y hx hy=>I.mv.inj q r x y (hmem q x hx).2 (hmem r y hy).2⟩
  have hee:execOp (Dg (Ap f n (Pg n ops V (σ 0).tm S ops.size))) o=execOp (Dg (Ap f n (Kh (σ i).tm o.op.operands.toList))) o:=by
   refine Ads o (Aed hop) fun x hx=>?_
   cases x with
   | tmp t=>
    have e1:Dg (Ap f n (Pg n ops V (σ 0).tm S ops.size)) (.tmp t)=Be f (tmp (Pg n ops V (σ 0).tm S ops.size) t):=Js f tmokN t
    have e2:Dg (Ap f n (Kh (σ i).tm o.op.operands.toList)) (.tmp t)=Be f (tmp (Kh (σ i).tm o.op.operands.toList) t):=Js f htR t
    rw[e1,e2,(hlook t (.inl (Array.mem_toList_iff.2 hx))).1]
    have e3:=hcong _ hx
    simp only[Bb,Option.some.injEq]at e3
    exact congrArg (Be f) e3.symm
   | const v=>rfl
   | global g=>rfl
   | func g=>rfl
  obtain⟨f1,w1,hs1,hm1,hwf1,hv1⟩:=Aml hT hC hR htR hhE hrE hee hop' fb ops i rest k cs ho hwant
  have hgap:∀ q,pS p0 σ ops.size S q->q<(E i).next\/(E' i).next<=q:=by
   rw[hen,hen']
   rintro q (h|⟨j,h1,h2,h3,h4⟩)
   ·left;have:=hp0 q h;have:=tr.Wz (i:=0) (m:=i) (by omega) (by omega);omega
   ·rcases Nat.lt_trichotomy j i with h|h|h
    ·left;have:=tr.Wz (i:=j+1) (m:=i) (by omega) (by omega);omega
    ·subst h;exact absurd h1 hni
    ·right;have:=tr.Wz (i:=i+1) (m:=j) (by omega) (by omega);omega
  have hgok:∀ q x,hS E E' (σ 0).h.get S ops.size q=some x->pS p0 σ ops.size S q/\x.ok (pS p0 σ ops.size S):=by
   intro q x hx
   obtain⟨a,b⟩:=I.Lj tr hh0 ops.size (Nat.le_refl _) q x hx
   exact⟨a.1,b.mono fun r hr=>hr.1⟩
  have hup:∀ q,grow (fun q=>pS p0 σ ops.size S q/\q<(E i).next) (E i) (E' i) q->pS p0 σ ops.size S' q/\q<nx σ (i+1):=by
   rintro q (h|h)
   ·have:=hwf1.next
    rw[hen]at this h
    rw[hen']at this
    exact⟨hpS q h.1,Nat.lt_of_lt_of_le h.2 this⟩
   ·rw[hen,hen']at h
    exact⟨hpi q h.1 h.2,h.2⟩
  refine⟨patch (E' i).next f1 f,w1,?_,mkInv _ _ (EV.ok.mono hup _ hv1) (fun q x hx=>?_) (Mj.step I.mv (fun q x hx=>(hmem q x hx).2) hgok (fun q hq=>.inl hq) hm1 hwf1 hgap)⟩
  ·have e1:Be f1 (V i)=Be (patch (E' i).next f1 f) (V i):=Kx (S8 hwf1) _ hv1
   have e2:Ap f n (Pg n ops V (σ 0).tm S ops.size)=Ap (patch (E' i).next f1 f) n (Pg n ops V (σ 0).tm S ops.size):=D5 (V2 hm1 hwf1 hgap) (tmokN.mono fun q hq=>hq.1)
   have e3:Acj (Ap f n (Pg n ops V (σ 0).tm S ops.size)) o.dst (Be f1 (V i))=Ap (patch (E' i).next f1 f) n (Pg n ops V (σ 0).tm S' ops.size):=by
    rw[e1,e2,Me]
    exact Sa _ n (fun t=>(tmhigh ops.size hi (Nat.le_refl _) t).symm)
   rw[e3]at hs1
   exact hs1
  ·obtain⟨a,b⟩:=hwf1.Lj.get q x hx
   exact⟨hup q a,b.mono hup⟩
theorem Vw(e:Edge):Je e=Region.binds .any e:=by
 unfold Je Region.binds
 split <;> simp_all
def unl(listed:Array Bool)(N:Nat):List Nat:=(List.range N).filter fun i=>!listed.getD i true
theorem Apo {listed:Array Bool}{N i:Nat}(hl:listed.size=N)(hi:i<N)(hn:listed.getD i true=false):(unl (listed.setIfInBounds i true) N).length<(unl listed N).length:=by
 have e:unl (listed.setIfInBounds i true) N=(unl listed N).filter (fun j=>j != i):=by
  unfold unl
  rw[List.filter_filter]
  apply List.filter_congr
  intro j hj
  rw[List.mem_range]at hj
  by_cases h:i=j
  ·subst h
   simp[hl,hi]
  ·rw[getD_set_ne _ h]
   have:(j != i)=true:=by simp[Ne.symm h]
   rw[this];simp
 rw[e]
 refine List.length_filter_lt_length_iff_exists.2 ⟨i,?_,by simp⟩
 unfold unl
 rw[List.mem_filter,List.mem_range]
 exact⟨hi,by simp only[hn];rfl⟩
include hT hC hR tr hbs htm in
theorem Ame(hbk:Lo ops.toList 0=true)(h0:Ec p0 n (σ 0).tm)(hh0:Gr p0 (σ 0).h)(fb:FB)(k:List Item)(cs:List Frame):∀ (fuel t:Nat) (listed:Array Bool) (f:Loc) (w:World),listed.size=ops.size->(unl listed ops.size).length<=fuel ->
 Inv n ops bs σ V E E' p0 f0 w0 (fun j=>listed.getD j false=true) f w ->
 ∃ f' w',Steps P (lone (fb.at (Ap f n (Pg n ops V (σ 0).tm (fun j=>listed.getD j false=true) ops.size)) (.inRegion ops (Region.linearise.go .any ops fuel t listed [])::k)) cs w)
  (lone (fb.at (Ap f' n (σ ops.size).tm) (.inRegion ops []::k)) cs w') /\
  ∃ S,(∀ j,j<ops.size->S j)/\Inv n ops bs σ V E E' p0 f0 w0 S f' w':=by
 have hall:∀ listed:Array Bool,listed.size=ops.size->(unl listed ops.size).length=0->∀ j,j<ops.size->listed.getD j false=true:=by
  intro listed hl hz j hj
  have:j ∉ unl listed ops.size:=by rw[List.length_eq_zero_iff.1 hz];simp
  unfold unl at this
  rw[List.mem_filter,List.mem_range]at this
  have h2:(!listed.getD j true)=false:=by
   cases h:(!listed.getD j true) with
   | false=>rfl
   | true=>exact absurd ⟨hj,h⟩ this
  have hj':j<listed.size:=by omega
  simp[Array.getD,hj']at h2 ⊢
  exact h2
 intro fuel
 induction fuel with
 | zero=>
  intro t listed f w hl hf I
  have hs:=hall listed hl (by omega)
  refine⟨f,w,?_,_,hs,I⟩
  simp only[Region.linearise.go,List.reverse_nil]
  rw[T4 tr hs _ (Nat.le_refl _)]
  exact .refl _ _
 | succ fuel ih=>
  intro t listed f w hl hf I
  simp only[Region.linearise.go]
  have hrd:((List.range ops.size).filter fun i=>!listed.getD i true && ((ops[i]?).map (·.after.all fun e=>!Region.binds .any e || listed.getD e.on false)).getD false)=Region.ready .any ops listed:=rfl
  rw[hrd]
  split
  ·rename_i i hi
   have hmem:i ∈ Region.ready .any ops listed:=List.mem_of_getElem? hi
   obtain⟨hun,o,ho,hed⟩:=mem_ready.1 hmem
   have hin:i<ops.size:=(Array.getElem?_eq_some_iff.1 ho).1
   have hni:¬ (listed.getD i false=true):=by
    have hj':i<listed.size:=by omega
    simp[Array.getD,hj']at hun ⊢
    exact hun
   obtain⟨bi,hbi⟩:=Afw hbs hin
   have hol:ops.toList[i]? = some o:=by rw[Array.getElem?_toList];exact ho
   obtain⟨b',h1,h2⟩:=Ob ops.toList 0 .nil (fun _ _=>rfl) i o hol
   rw[Nat.zero_add,<-hbs,hbi]at h1
   cases h1
   have hrdy:∀ j,bi.testBit j=true->listed.getD j false=true:=by
    intro j hj
    obtain⟨e,he,hb,hor⟩:=h2 j hj
    have hon:=hed e (Array.mem_toList_iff.1 he) (by rw[<-Vw];exact hb)
    rcases hor with rfl|⟨y,hy,hyj⟩
    ·exact hon
    ·rw[<-hbs]at hy
     exact(I.dn e.on hon).2 y hy j hyj
   rw[linearise_go_acc]
   have hS':∀ j,(listed.setIfInBounds i true).getD j false=true ↔ listed.getD j false=true\/j=i:=by
    intro j
    by_cases h:i=j
    ·subst h
     have:(listed.setIfInBounds i true).getD i false=true:=by simp[hl,hin]
     simp[this]
    ·rw[getD_set_ne _ h]
     constructor
     ·exact .inl
     ·rintro(h'|h')
      ·exact h'
      ·exact absurd h'.symm h
   obtain⟨f1,w1,hs1,I1⟩:=I.step hT hC hR tr hbs htm h0 hh0 hin hni hbi hrdy (S':=fun j=>(listed.setIfInBounds i true).getD j false=true) hS' fb (Region.linearise.go .any ops fuel (t / (Region.ready .any ops listed).length) (listed.setIfInBounds i true) []) k cs
   obtain⟨f2,w2,hs2,hI2⟩:=ih (t / (Region.ready .any ops listed).length) (listed.setIfInBounds i true) f1 w1 (by simpa using hl) (by have:=Apo hl hin hun;omega) I1
   exact⟨f2,w2,hs1.trans hs2,hI2⟩
  ·rename_i hnone
   have hz:(unl listed ops.size).length=0:=by
    cases hc:unl listed ops.size with
    | nil=>rfl
    | cons a l=>
     exfalso
     have hex:∃ j,j<ops.size/\listed.getD j true=false:=by
      have:a ∈ unl listed ops.size:=by rw[hc];exact List.mem_cons_self
      unfold unl at this
      rw[List.mem_filter,List.mem_range]at this
      exact⟨a,this.1,by simpa using this.2⟩
     have hmin:∀ N,∀ j,j<N->j<ops.size->listed.getD j true=false->∃ i,i<ops.size/\listed.getD i true=false/\∀ k,k<i->listed.getD k true=true:=by
      intro N
      induction N with
      | zero=>intro j h;omega
      | succ N ihN=>
       intro j hj hjs hju
       by_cases hk:∃ k,k<j/\listed.getD k true=false
       ·obtain⟨k,hk1,hk2⟩:=hk
        exact ihN k (by omega) (by omega) hk2
       ·refine⟨j,hjs,hju,fun k hkj=>?_⟩
        cases h:listed.getD k true with
        | true=>rfl
        | false=>exact absurd ⟨k,hkj,h⟩ hk
     obtain⟨j,hj1,hj2⟩:=hex
     obtain⟨i,hi1,hi2,hi3⟩:=hmin (j+1) j (by omega) hj1 hj2
     have ho:ops[i]? = some ops[i]:=Array.getElem?_eq_getElem hi1
     have hol:ops.toList[i]? = some ops[i]:=by rw[Array.getElem?_toList];exact ho
     have hmem:i ∈ Region.ready .any ops listed:=mem_ready.2 ⟨hi2,_,ho,fun e he hb=>by
      have hlt:=Vn ops.toList 0 hbk i _ hol e (Array.mem_toList_iff.2 he) (by rw[Vw];exact hb)
      have:=hi3 e.on (by omega)
      have hj':e.on<listed.size:=by omega
      simp[Array.getD,hj']at this ⊢
      exact this⟩
     have hlen:0<(Region.ready .any ops listed).length:=List.length_pos_of_mem hmem
     rw[List.getElem?_eq_none_iff]at hnone
     have:=Nat.mod_lt t hlen
     omega
   have hs:=hall listed hl hz
   refine⟨f,w,?_,_,hs,I⟩
   simp only[List.reverse_nil]
   rw[T4 tr hs _ (Nat.le_refl _)]
   exact .refl _ _
end
end Go.Ev
