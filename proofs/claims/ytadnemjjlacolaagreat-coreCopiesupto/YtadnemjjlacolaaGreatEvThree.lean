import Derived.Test.YtadnemjjlacolaaGreatEvTwo
import Derived.Orders
set_option linter.all false
namespace Go.Ev
variable {x:Operand}{T:Kh}{op:Op}{h h' h0 hp:Ab}{round:Ah}{S p p0:Nat->Prop}{b i m n q t off base:Nat}{tm:Ax}{v:EV}{o:Oper}{f f0 f1:Loc}{g:Nat->Option Ec}{listed:Array Bool}{σ:Nat->DSt}{V:Nat->EV}{E E':Nat->Ab}{P:Program}
section
section
variable {tm':Ax}
theorem Af6:∀{l:List Operand},(∀x∈l,Cm tm x=Cm tm' x)->O1 tm l=O1 tm' l
 | [],_=>rfl
 | x::r,h=>by simp only[O1];rw[h x aX,Af6 fun y a=>h y (aT _ a)]
theorem Auc:∀{l:List (Nat × Operand)},(∀x∈l,Cm tm x.2=Cm tm' x.2)->Ad2 tm l=Ad2 tm' l
 | [],_=>rfl
 | (i,x)::r,h=>by simp only[Ad2];rw[h (i,x) aX,Auc fun y a=>h y (aT _ a)]
theorem Aum {x:Option Operand}(h:∀y,x=some y->Cm tm y=Cm tm' y):Afl tm x=Afl tm' x:=by
 cases x with
 | none=>rfl
 | some y=>simp only[Afl];rw[h y rfl]
theorem Bhc(h:∀x∈op.operands,Cm tm x=Cm tm' x):Fz T tm op=Fz T tm' op:=by
 cases op with
 | build t ps=>
  have:Ad2 tm ps.toList=Ad2 tm' ps.toList:=Auc fun x e=>h x.2 (by
   simp only[Op.operands,List.mem_toArray,bc];exact⟨x,e,rfl⟩)
  simp only[Fz,this]
 | makeFunc fn a b=>
  have k:O1 tm a.toList=O1 tm' a.toList:=Af6 fun x e=>h x (by simp only[Op.operands,Array.mem_append];exact .inl (dH.1 e))
  have h2:O1 tm b.toList=O1 tm' b.toList:=Af6 fun x e=>h x (by simp only[Op.operands,Array.mem_append];exact .inr (dH.1 e))
  cases fn<;>simp only[Fz,k,h2]
 | slice t x A B C=>
  have h0:Cm tm x=Cm tm' x:=h x (by simp[Op.operands]);have k:Afl tm A=Afl tm' A:=Aum fun y j=>h y (by subst j;simp[Op.operands])
  have h2:Afl tm B=Afl tm' B:=Aum fun y j=>h y (by subst j;simp[Op.operands])
  have F:Afl tm C=Afl tm' C:=Aum fun y j=>h y (by subst j;simp[Op.operands])
  simp only[Fz,h0,k,h2,F]
 | unOp u t x=>
  have h0:Cm tm x=Cm tm' x:=h x (by simp[Op.operands]);cases u<;>simp only[Fz,h0]
 | pick c a b=>simp only[Fz,h c (by simp[Op.operands]),h a (by simp[Op.operands]),h b (by simp[Op.operands])]
 | binOp op t x y u=>simp only[Fz,h x (by simp[Op.operands]),h y (by simp[Op.operands])]
 | indexAddr t x y=>simp only[Fz,h x (by simp[Op.operands]),h y (by simp[Op.operands])]
 | index t x y=>simp only[Fz,h x (by simp[Op.operands]),h y (by simp[Op.operands])]
 | move x=>simp only[Fz,h x (by simp[Op.operands])]
 | assign x=>simp only[Fz,h x (by simp[Op.operands])]
 | nilCheck x=>simp only[Fz,h x (by simp[Op.operands])]
 | fieldAddr s x G=>simp only[Fz,h x (by simp[Op.operands])]
 | field s x G=>simp only[Fz,h x (by simp[Op.operands])]
 | convert s d x=>simp only[Fz,h x (by simp[Op.operands])]
 | extract x ix=>simp only[Fz,h x (by simp[Op.operands])]
 | sliceToArrayPointer t x=>simp only[Fz,h x (by simp[Op.operands])]
 | _=>rfl
theorem Bhh(h:∀x∈op.operands,Cm tm x=Cm tm' x):D7 T tm op hp=D7 T tm' op hp:=by
 cases op with
 | buildSlice t m ps=>
  have:Ad2 tm ps.toList=Ad2 tm' ps.toList:=Auc fun x e=>h x.2 (by
   simp only[Op.operands,List.mem_toArray,bc];exact⟨x,e,rfl⟩)
  simp only[D7,this]
 | call c=>
  obtain⟨callee,args,k⟩:=c;cases callee with
  | builtin b=>
   have j:O1 tm args.toList=O1 tm' args.toList:=Af6 fun x e=>h x (by simp only[Op.operands,Call.operands,Array.mem_append];exact .inr (dH.1 e))
   simp only[D7,j]
  | _=>rfl
 | select cs bl=>
  cases bl with
  | true=>rfl
  | false=>
   simp only[D7];split
   ·rename_i c u
    have d:c∈cs:=dH.1 (by rw[u];exact aX);have j:Cm tm c.chan=Cm tm' c.chan:=h c.chan (by
     simp only[Op.operands,Array.mem_flatMap];exact⟨c,d,by simp⟩)
    have h2:∀y,c.send=some y->Cm tm y=Cm tm' y:=fun y A=>h y (by
     simp only[Op.operands,Array.mem_flatMap];exact⟨c,d,by simp[A]⟩)
    rw[j];cases hs:c.send with
    | none=>
     cases Cm tm' c.chan with
     | none=>rfl
     | some v=>cases v<;>rfl
    | some y=>
     cases Cm tm' c.chan with
     | none=>rfl
     | some v=>cases v<;>first|rfl|(simp only[h2 y hs])
   ·rfl
 | makeMap t r=>cases r<;>rfl
 | load t x=>simp only[D7,h x (by simp[Op.operands])]
 | store t a x=>simp only[D7,h a (by simp[Op.operands]),h x (by simp[Op.operands])]
 | alloc t=>rfl
 | box t x=>simp only[D7,h x (by simp[Op.operands])]
 | makeSlice t a x=>simp only[D7,h a (by simp[Op.operands]),h x (by simp[Op.operands])]
 | makeChan t x=>simp only[D7,h x (by simp[Op.operands])]
 | lookup t a x ok=>simp only[D7,h a (by simp[Op.operands]),h x (by simp[Op.operands])]
 | mapUpdate t a x y=>simp only[D7,h a (by simp[Op.operands]),h x (by simp[Op.operands]),h y (by simp[Op.operands])]
 | _=>rfl
theorem Bk0{call:Ah}(h:∀x∈op.operands,Cm tm x=Cm tm' x):aop T call round tm op hp=aop T call round tm' op hp:=by
 unfold aop;rw[Bhc h];congr 1;split
 ·rename_i f args a
  have h0:Cm tm f=Cm tm' f:=h f (by simp[Op.operands,Call.operands]);have d:O1 tm args.toList=O1 tm' args.toList:=Af6 fun x e=>h x (by simp only[Op.operands,Call.operands,Array.mem_append];exact .inr (dH.1 e))
  rw[h0,d]
 ·exact Bhh h
end
theorem Bd8 {j a:Operand->Value}(o:Oper)(d:∀cs b,o.op=.select cs b->∃c,cs = #[c])(h:∀x∈o.op.operands,j x=a x):execOp j o=execOp a o:=by
 by_cases hs:∃cs b,o.op=.select cs b
 ·obtain⟨cs,b,k⟩:=hs
  obtain⟨c,rfl⟩:=d cs b k;rw[k]at h;have u:j c.chan=a c.chan:=h _ (by simp[Op.operands]);have h2:c.send.map j=c.send.map a:=by
   cases hs:c.send with
   | none=>rfl
   | some y=>simp only[eA];rw[h y (by simp[Op.operands,hs])]
  simp only[execOp,k];simp[u,h2]
 ·exact execOp_congr o (fun cs b e=>hs ⟨cs,b,e⟩) h
noncomputable def Ahy(tm:Ax):List Operand->Ax
 | []=>.nil
 | .tmp t::r=>(Ahy tm r).put t (tm.get t)
 | _::r=>Ahy tm r
open Classical in
theorem Aew(tm:Ax):∀(l:List Operand) (t:Nat),(Ahy tm l).get t=if .tmp t∈l then tm.get t else none
 | [],t=>by simp[Ahy,Tr.get_nil]
 | .tmp u::r,t=>by
  simp only[Ahy,Tr.get_put,Aew tm r t,bU,Operand.tmp.injEq];by_cases h:u=t
  ·subst h;simp
  ·rw[aF h];simp[cV h]
 | .const v::r,t=>by simp only[Ahy,Aew tm r t,bU,reduceCtorEq,false_or]
 | .global v::r,t=>by simp only[Ahy,Aew tm r t,bU,reduceCtorEq,false_or]
 | .func v::r,t=>by simp only[Ahy,Aew tm r t,bU,reduceCtorEq,false_or]
theorem Bhk(tm:Ax){l:List Operand}(a:x∈l):Cm (Ahy tm l) x=Cm tm x:=by
 cases x with
 | tmp t=>simp only[Cm];rw[Aew,aG a]
 | const v=>rfl
 | global v=>rfl
 | func v=>rfl
theorem Bmy{l:List Operand}(h:∀t,.tmp t∈l->∀v,tm.get t=some v->v.ok p)(d:∀t,n<=t->tm.get t=none):N2 p n (Ahy tm l) where
 ok t v a:=by
  rw[Aew]at a;split at a
  ·rename_i hm;exact h t hm v a
  ·cases a
 out t e:=by
  rw[Aew];split
  ·exact d t e
  ·rfl
theorem Bsy{t:TypeId}(A:Cm tm x=some (.ptr q off))(a:D7 T tm (.load t x) h=some (v,h')):
 ∃o,h.get q=some o/\∀h2:Ab,h2.get q=some o->D7 T tm (.load t x) h2=some (v,h2):=by
 have d:∀n l,K0 h q off n=some l->∃o,h.get q=some o/\∀h2:Ab,h2.get q=some o->K0 h2 q off n=some l:=by
  intro n l j;cases y:h.get q with
  | none=>simp[K0,y]at j
  | some o=>exact⟨o,rfl,fun h2 e=>by unfold K0 at j⊢;rw[e];rw[y]at j;exact j⟩
 simp only[D7,A]at a⊢;split at a
 ·rename_i B
  split at a
  ·rename_i n C
   split at a
   ·rename_i l j
    cases a;obtain⟨o,k,h2⟩:=d n l j;exact⟨o,k,fun u e=>by simp only[h2 u e]⟩
   ·cases a
  ·cases a
 ·rename_i B
  split at a
  ·rename_i l j
   cases a;obtain⟨o,k,h2⟩:=d 1 _ j;exact⟨o,k,fun u e=>by simp only[h2 u e]⟩
  ·cases a
 ·cases a
theorem Bo8{t:TypeId}{a:Operand}(A:Cm tm a=some (.ptr q off))(d:D7 T tm (.store t a x) h=some (v,h')):
 ∃o o',h.get q=some o/\h'=h.put q o'/\∀h2:Ab,h2.get q=some o->D7 T tm (.store t a x) h2=some (v,h2.put q o'):=by
 have hw:∀vs h',Oq h q off vs=some h'->∃o o',h.get q=some o/\h'=h.put q o'/\∀h2:Ab,h2.get q=some o->Oq h2 q off vs=some (h2.put q o'):=by
  intro vs h' j;unfold Oq at j;split at j
  ·rename_i l B k
   split at j
   ·rename_i l' hs
    cases j;exact⟨_,_,k,rfl,fun h2 e=>by unfold Oq;rw[e];simp only[hs]⟩
   ·cases j
  ·rename_i l B sz k
   split at j
   ·rename_i l' hs
    cases j;exact⟨_,_,k,rfl,fun h2 e=>by unfold Oq;rw[e];simp only[hs]⟩
   ·cases j
  ·cases j
 simp only[D7,A]at d⊢;split at d
 ·rename_i H y J L e1 e2 e3
  cases e1;obtain⟨c1,d⟩:=Aq d;obtain⟨c2,d⟩:=Aq d;split at d
  ·rename_i M u
   cases d;obtain⟨o,o',C,F,G⟩:=hw _ _ u;refine⟨o,o',C,F,fun h2 e=>?_⟩;simp only[c1,c2,Ak,G h2 e]
  ·cases d
 ·cases d
theorem A2n(h:Ay6 op=true):∃b args a,op=.call { callee:=.builtin b,args,argTypes:=a }/\(b=.len\/b=.min\/b=.max):=by
 cases op with
 | call c=>
  obtain⟨callee,args,a⟩:=c;cases callee with
  | builtin b=>cases b<;>first|(cases h;done)|exact⟨_,_,_,rfl,by simp⟩
  | _=>cases h
 | _=>cases h
theorem Bm6(hp:Ay6 op=true)(a:D7 T tm op h=some (v,h')):h'=h:=by
 obtain⟨b,args,d,rfl,hb⟩:=A2n hp;simp only[D7]at a;split at a
 ·rename_i as has
  rcases hb with rfl|rfl|rfl
  ·match as,a with
   | [x],a=>
    simp only[builtin]at a
    repeat' split at a
    all_goals first|(cases a;done)|(cases a;rfl)
   | [],a=>cases a
   | _::_::_,a=>cases a
  ·match as,a with
   | x::l,a=>
    cases x<;>first|(cases a;done)|skip
    simp only[builtin]at a;split at a
    ·cases a;rfl
    ·cases a
   | [],a=>cases a
  ·match as,a with
   | x::l,a=>
    cases x<;>first|(cases a;done)|skip
    simp only[builtin]at a;split at a
    ·cases a;rfl
    ·cases a
   | [],a=>cases a
 ·cases a
theorem Axt{call:Ah}(hp:Ay6 op=true):aop T call round tm op h=D7 T tm op h:=by
 obtain⟨b,args,a,rfl,hb⟩:=A2n hp;rfl
theorem As1(b c:Bool):Bf b Cls.val (Bf c .pur .big)≠.new/\Bf b Cls.val (Bf c .pur .big)≠.load/\Bf b Cls.val (Bf c .pur .big)≠.sto:=by
 cases b<;>cases c<;>exact⟨fun h=>(by cases h),fun h=>(by cases h),fun h=>(by cases h)⟩
theorem A8p(h:cls op=.new):(∃t,op=.alloc t)\/(∃t x,op=.box t x)\/(∃t n ps,op=.buildSlice t n ps)\/(∃t a b,op=.makeSlice t a b)\/(∃t r,op=.makeMap t r)\/(∃t x,op=.makeChan t x):=by
 cases op<;>first
  | (rename_i c;exact absurd (show Bf false Cls.val (Bf (Ay6 (.call c)) .pur .big)=.new from h) (As1 _ _).1)
  | exact absurd h (As1 _ _).1
  | (cases h;done)
  | exact .inl ⟨_,rfl⟩|exact .inr (.inl ⟨_,_,rfl⟩)|exact .inr (.inr (.inl ⟨_,_,_,rfl⟩))|exact .inr (.inr (.inr (.inl ⟨_,_,_,rfl⟩)))
  | exact .inr (.inr (.inr (.inr (.inl ⟨_,_,rfl⟩))))|exact .inr (.inr (.inr (.inr (.inr ⟨_,_,rfl⟩))))
theorem Bt6(u:cls op=.new)(d:D7 T tm op h=some (v,h')):
 ∃o,h'=h.new o/\∀h2:Ab,h2.next=h.next->D7 T tm op h2=some (v,h2.new o):=by
 rcases A8p u with⟨t,rfl⟩|⟨t,x,rfl⟩|⟨t,n,ps,rfl⟩|⟨t,a,b,rfl⟩|⟨t,r,rfl⟩|⟨t,x,rfl⟩
 ·simp only[D7]at d⊢
  split at d
  ·cases d;exact⟨_,rfl,fun h2 e=>by rw[e]⟩
  ·cases d
 ·simp only[D7]at d⊢
  split at d
  ·obtain⟨k,j⟩:=Aq d
   cases j;exact⟨_,rfl,fun h2 e=>by rw[k,e];rfl⟩
  ·cases d
 ·simp only[D7]at d⊢
  split at d
  ·split at d
   ·obtain⟨k,j⟩:=Aq d
    split at j
    ·rename_i A
     cases j;exact⟨_,rfl,fun h2 e=>by rw[k,e];rfl⟩
    ·cases j
   ·cases d
  ·cases d
 ·simp only[D7]at d⊢
  split at d
  ·split at d
   ·obtain⟨k,j⟩:=Aq d
    obtain⟨h4,y⟩:=Aq j;cases y;exact⟨_,rfl,fun h2 e=>by rw[k,h4,e];rfl⟩
   ·cases d
  ·cases d
 ·cases r with
  | none=>cases d;exact⟨_,rfl,fun h2 e=>by simp only[D7,e]⟩
  | some r=>cases d
 ·simp only[D7]at d⊢
  split at d
  ·split at d
   ·obtain⟨k,j⟩:=Aq d
    cases j;exact⟨_,rfl,fun h2 e=>by rw[k,e];rfl⟩
   ·cases d
  ·cases d
end
theorem Jp(i j:Nat):(Nat.shiftLeft 1 i).testBit j=decide (i=j):=by
 have:Nat.shiftLeft 1 i=2^i:=by
  have:=Nat.one_shiftLeft i;exact this
 rw[this,Nat.testBit_two_pow]
theorem Pv(a b j:Nat):(Nat.lor a b).testBit j=(a.testBit j||b.testBit j):=Nat.testBit_or a b j
theorem Aqr(a b j:Nat):(Nat.land a b).testBit j=(a.testBit j&&b.testBit j):=Nat.testBit_and a b j
theorem Atm {x:Nat}(h:within x b=true){j:Nat}(hj:x.testBit j=true):b.testBit j=true:=by
 have e:Nat.land x b=x:=aJ h;rw[<-e,Aqr]at hj;simpa using(Bool.and_eq_true_iff.1 hj).2
theorem A8l(h:b.testBit i=false):within (Nat.shiftLeft 1 i) b=false:=by
 cases hw:within (Nat.shiftLeft 1 i) b with
 | false=>rfl
 | true=>rw[Atm hw (j:=i) (by rw[Jp];simp)]at h;cases h
theorem A7s {x y:Nat}(h:Nat.land x y=0)(a:x.testBit t=true):y.testBit t=false:=by
 have:(Nat.land x y).testBit t=false:=by rw[h];exact dV t
 rw[Aqr,a]at this;simpa using this
theorem Bnq {x y:Nat}(h:Nat.lor x y=0):x=0/\y=0:=by
 have a:∀t,x.testBit t=false/\y.testBit t=false:=by
  intro t;have:(Nat.lor x y).testBit t=false:=by rw[h];exact dV t
  rw[Pv]at this;simpa using this
 exact⟨Nat.eq_of_testBit_eq fun t=>by rw[(a t).1,dV],Nat.eq_of_testBit_eq fun t=>by rw[(a t).2,dV]⟩
theorem Av3(bs:Tr Nat):∀(l:List Edge) (x:Nat) (j:Nat),(Apo bs l x).testBit j=true ->
 x.testBit j=true\/∃e∈l,Af0 e=true/\(j=e.on\/∃y,bs.get e.on=some y/\y.testBit j=true)
 | [],x,j,h=>.inl h
 | e::r,x,j,h=>by
  simp only[Apo]at h;rcases Av3 bs r _ j h with h|⟨e',he,a,h2⟩
  ·rw[Bt]at h
   split at h
   ·rename_i hb
    rw[Pv,Pv,Jp]at h;simp only[dT,aQ]at h;rcases h with h|h|h
    ·exact .inl h
    ·exact .inr ⟨e,aX,hb,.inl h.symm⟩
    ·refine .inr ⟨e,aX,hb,.inr ?_⟩
     split at h
     ·rename_i y d;exact⟨y,d,h⟩
     ·rw[dV]at h;cases h
   ·exact .inl h
  ·exact .inr ⟨e',aT _ he,a,h2⟩
theorem A19(l:List Oper):∀(i:Nat) (bs:Tr Nat) (j:Nat),j<i->(Qw l i bs).get j=bs.get j:=by
 induction l with
 | nil=>intros;rfl
 | cons o r a=>
  intro i bs j hj;simp only[Qw];rw[a _ _ _ (Nat.lt_succ_of_lt hj),Tr.Ag _ _ (by omega)]
theorem Aqv(l:List Oper):∀(i:Nat) (bs:Tr Nat),(∀j,i<=j->bs.get j=none)->∀(k:Nat) (o:Oper),l[k]? = some o ->
 ∃b,(Qw l i bs).get (i+k)=some b/\∀j,b.testBit j=true->∃e∈o.after.toList,Af0 e=true/\(j=e.on\/∃y,(Qw l i bs).get e.on=some y/\y.testBit j=true):=by
 induction l with
 | nil=>intro i bs _ k o h;simp at h
 | cons o' r u=>
  intro i bs d k o h;simp only[Qw];cases k with
  | zero=>
   simp only[bL,cU]at h;subst h;refine⟨Apo bs o'.after.toList 0,?_,fun j hj=>?_⟩
   ·rw[dL,A19 _ _ _ _ (by omega),Tr.Af]
   ·rcases Av3 bs _ _ j hj with h|⟨e,he,A,h2⟩
    ·rw[dV]at h;cases h
    ·refine⟨e,he,A,h2.imp id ?_⟩
     rintro⟨y,a,hj⟩;have:e.on<i:=by
      cases cZ e.on i with
      | inl h=>exact h
      | inr h=>rw[d _ h]at a;cases a
     exact⟨y,by rw[A19 _ _ _ _ (by omega),Tr.Ag _ _ (by omega)];exact a,hj⟩
  | succ k=>
   have:=u (i+1) (bs.put i (some (Apo bs o'.after.toList 0))) (fun j hj=>by rw[Tr.Ag _ _ (by omega)];exact d j (by omega)) k o (by simpa using h);rw[show i+1+k=i+(k+1) by omega]at this;exact this
theorem Acv:∀(l:List Operand) (x t:Nat),(Ais l x).testBit t=true↔x.testBit t=true\/.tmp t∈l
 | [],x,t=>by simp[Ais]
 | .tmp u::r,x,t=>by
  simp only[Ais];rw[Acv r,Pv,Jp];simp only[dT,aQ,bU,Operand.tmp.injEq];constructor
  ·rintro((h|h)|h)
   ·exact .inl h
   ·exact .inr (.inl h.symm)
   ·exact .inr (.inr h)
  ·rintro(h|h|h)
   ·exact .inl (.inl h)
   ·exact .inl (.inr h.symm)
   ·exact .inr h
 | .const v::r,x,t=>by simp only[Ais];rw[Acv r];simp
 | .global v::r,x,t=>by simp only[Ais];rw[Acv r];simp
 | .func v::r,x,t=>by simp only[Ais];rw[Acv r];simp
theorem Ai5(o:Oper)(t:Nat):(Al9 o).testBit t=true↔o.dst=some t:=by
 unfold Al9;cases o.dst with
 | none=>simp
 | some d=>simp only[Jp,aQ,cU]
def Bc6(ops:List Oper)(o:Oper)(t:Nat):Prop:=.tmp t∈o.op.operands.toList\/∃j want g,o.guard=some (j,want)/\ops[j]? = some g/\g.dst=some t
theorem Atj(ops:List Oper)(o:Oper)(t:Nat):(Aeh ops o).testBit t=true↔Bc6 ops o t:=by
 unfold Aeh Bc6;rw[Pv,dT,Acv,dV];apply or_congr
 ·simp
 ·cases e:o.guard with
  | none=>simp
  | some x=>
   obtain⟨j,want⟩:=x;simp only[A3h,cU,Prod.mk.injEq];cases hj:ops[j]? with
   | none=>
    simp only[dV,ak,false_iff];rintro⟨a,w',g,⟨rfl,_⟩,h2,_⟩;rw[hj]at h2;cases h2
   | some g=>
    simp only[];rw[Ai5];constructor
    ·intro h;exact⟨j,want,g,⟨rfl,rfl⟩,hj,h⟩
    ·rintro⟨a,w',k,⟨rfl,_⟩,h2,d⟩
     rw[hj]at h2;cases h2;exact d
theorem Ay1(e l' b:Nat):∀(ms:List (Nat × Nat)) (j k d l:Nat),Aym e l' b ms j=true->ms[k]? = some (d,l)->A94 (j+k) d l e l' b=true
 | [],_,_,_,_,_,h=>by simp at h
 | (d,l)::r,j,0,d0,l0,h,a=>by
  simp only[bL,cU,Prod.mk.injEq]at a;simp only[Aym]at h;rw[Bt]at h;split at h
  ·rename_i hp;rw[<-a.1,<-a.2];exact hp
  ·cases h
 | (d,l)::r,j,k+1,d0,l0,h,a=>by
  simp only[Aym]at h;rw[Bt]at h;split at h
  ·have:=Ay1 e l' b r (j+1) k d0 l0 h (by simpa using a)
   rw[show j+1+k=j+(k+1) by omega]at this;exact this
  ·cases h
theorem A2r(ops:List Oper)(bs:Tr Nat):∀(l:List Oper) (i:Nat) (ms:List (Nat × Nat)),Aqz ops bs l i ms=true->ms.length=i->∀k o,l[k]? = some o ->
 ∃b,bs.get (i+k)=some b/\∀j d l',(ms++l.map fun o=>(Al9 o,Aeh ops o))[j]? = some (d,l')->j<i+k->A94 j d l' (Al9 o) (Aeh ops o) b=true
 | [],_,_,_,_,_,_,h=>by simp at h
 | o'::r,i,ms,h,hm,0,o,a=>by
  simp only[bL,cU]at a;subst a;simp only[Aqz]at h;split at h
  ·rename_i b hb
   rw[Bt]at h;split at h
   ·rename_i hp
    refine⟨b,hb,fun j d l' hj e=>?_⟩;have:ms[j]? = some (d,l'):=by rw[bh (by omega)]at hj;exact hj
    have:=Ay1 _ _ _ ms 0 j d l' hp this
    rwa [bJ]at this
   ·cases h
  ·cases h
 | o'::r,i,ms,h,hm,k+1,o,a=>by
  simp only[Aqz]at h;split at h
  ·rename_i b hb
   rw[Bt]at h;split at h
   ·obtain⟨u,y,h2⟩:=A2r ops bs r (i+1) _ h (by simp[hm]) k o (by simpa using a)
    refine⟨u,by rw[<-y];congr 1;omega,fun j d l' hj e=>h2 j d l' ?_ (by omega)⟩;rw[cW];simpa using hj
   ·cases h
  ·cases h
theorem Ax0 {ops:List Oper}{bs:Tr Nat}(h:Aqz ops bs ops 0 []=true){j a:Oper}(y:ops[i]? = some j)(hm:ops[m]? = some a)(A:i<m)(hb:bs.get m=some b)(B:b.testBit i=false):
 (∀t,j.dst=some t->a.dst≠some t/\¬Bc6 ops a t)/\(∀t,Bc6 ops j t->a.dst≠some t):=by
 obtain⟨G,k,h2⟩:=A2r ops bs ops 0 [] h rfl m a hm;rw[bJ]at k;rw[hb]at k;cases k;have:=h2 i (Al9 j) (Aeh ops j) (by simp[y]) (by omega);unfold A94 at this;have C:Nat.beq (Nat.land b (Nat.shiftLeft 1 i)) 0=true:=by
  have:Nat.land b (Nat.shiftLeft 1 i)=0:=Nat.eq_of_testBit_eq fun t=>by
   rw[Aqr,Jp,dV];by_cases e:i=t
   ·subst e;simp[B]
   ·simp[e]
  rw[this];rfl
 rw[C,Ak]at this;obtain⟨z1,F⟩:=Bnq (aJ this);refine⟨fun t u=>?_,fun t u hd=>?_⟩
 ·have d:=A7s z1 ((Ai5 j t).2 u)
  rw[Pv,fP]at d;refine⟨fun e=>?_,fun e=>?_⟩
  ·rw[(Ai5 a t).2 e]at d;exact absurd d.1 (by simp)
  ·rw[(Atj ops a t).2 e]at d;exact absurd d.2 (by simp)
 ·have d:=A7s F ((Atj ops j t).2 u)
  rw[(Ai5 a t).2 hd]at d;cases d
theorem A4k(i:Nat):∀(l:List Edge),Bh9 i l=true->∀e∈l,Af0 e=true->e.on<i
 | [],_,e,he,_=>by simp at he
 | a::r,h,e,he,hb=>by
  simp only[Bh9]at h;rw[Bt]at h;split at h
  ·rename_i d
   rcases bU.1 he with rfl|he
   ·rw[hb,Ak]at d;exact bI d
   ·exact A4k i r h e he hb
  ·cases h
theorem A2h:∀(l:List Oper) (i:Nat),Atn l i=true->∀k o,l[k]? = some o->∀e∈o.after.toList,Af0 e=true->e.on<i+k
 | [],_,_,_,_,h=>by simp at h
 | a::r,i,h,0,o,d=>by
  simp only[bL,cU]at d;subst d;simp only[Atn]at h;rw[Bt]at h;split at h
  ·rename_i hb;exact A4k i _ hb
  ·cases h
 | a::r,i,h,k+1,o,d=>by
  simp only[Atn]at h;rw[Bt]at h;split at h
  ·intro e he hb
   have:=A2h r (i+1) h k o (by simpa using d) e he hb;omega
  ·cases h
section
open Classical
inductive Kd where
 | idle|load (q:Nat)|new|sto (q:Nat)|big (mw:Nat)
def bare(n:Nat):Ab:=⟨.nil,n,n⟩
theorem Bqf(n q:Nat):(bare n).get q=none:=rfl
noncomputable def Ato(n q:Nat)(o:Ec):Ab:=⟨Tr.nil.put q (some o),n,n⟩
theorem Qo(n q:Nat)(o:Ec)(r:Nat):(Ato n q o).get r=if q=r then some o else none:=by
 show(Tr.nil.put q (some o)).get r=_;rw[Tr.get_put];rfl
structure Sd(T:Kh)(call round:Ah)(n:Nat)(ops:List Oper)(bs:Tr Nat)(base:Nat)(o:Oper)(i:Nat)(s s':DSt)(v:EV)(E E':Ab)(kd:Kd):Prop where
 tm:s'.tm=Tj n s.tm o.dst v
 run:(wanted ops s.tm o.guard=false/\v=.tuple []/\E'=E)\/(wanted ops s.tm o.guard=true/\aop T call round s.tm o.op E=some (v,E'))
 Ajy:E.next=s.h.next
 Ak7:E'.next=s'.h.next
 sub:∀q x,E.get q=some x->s.h.get q=some x
 Bqk:∀q,s'.h.get q=if E'.get q=E.get q then s.h.get q else E'.get q
 w:AWf E E'
 mw:s'.h.mw<=s.h.mw/\∀q,q<s'.h.mw->q<s.h.next->E'.get q=E.get q
 kd:match kd with
  | .idle=>E=bare s.h.next/\E'=E/\s'.bg=s.bg/\s'.nw=s.nw/\s'.C8=s.C8/\s'.lou=s.lou/\s'.st=s.st
  | .load q=>(∃x,E=Ato s.h.next q x)/\E'=E/\s'.bg=s.bg/\s'.nw=s.nw/\s'.C8=(Nat.shiftLeft 1 i,q)::s.C8/\s'.lou=s.lou/\s'.st=s.st /\
   ∃b,bs.get i=some b/\Gb b q s.st=true/\((q<base/\Acj b q s.lou=true)\/(base<=q/\within s.bg b=true/\loose b s.nw = []))
  | .new=>E=bare s.h.next/\(∃x,E'=E.new x)/\s'.bg=s.bg/\s'.nw=(Nat.shiftLeft 1 i,s.h.next)::s.nw/\s'.C8=s.C8/\s'.lou=s.lou/\s'.st=s.st
  | .sto q=>(∃x y,E=Ato s.h.next q x/\E'=E.put q y)/\s'.bg=s.bg/\s'.nw=s.nw/\s'.C8=s.C8/\s'.lou=s.lou/\s'.st=(Nat.shiftLeft 1 i,q)::s.st /\
   ∃b,bs.get i=some b/\within s.bg b=true/\Gb b q s.st=true/\Gb b q s.C8=true/\A5f q (loose b s.nw)=true
  | .big mw=>∃b,bs.get i=some b/\within s.bg b=true/\A1z b s.st=true/\(∀q,E.get q=if q∈loose b s.nw then none else s.h.get q)/\s'.bg=Nat.lor s.bg (Nat.shiftLeft 1 i)/\s'.nw=s.nw/\s'.C8=s.C8/\s'.st=s.st /\
   (∀q,q<mw->q<s.h.next->E'.get q=E.get q)/\((s.h.next<=mw/\s'.lou=s.lou)\/(Ac9 b mw s.C8=true/\s'.lou=(Nat.shiftLeft 1 i,mw)::s.lou))
theorem Avb:∀{l:List (Nat × Nat)} {q:Nat},q∈loose b l↔∃m,(m,q)∈l/\within m b=false
 | [],q=>by simp[loose]
 | (m,r)::l,q=>by
  simp only[loose];rw[Bt];split
  ·rename_i h
   rw[Avb];constructor
   ·rintro⟨d,a,h2⟩;exact⟨d,aT _ a,h2⟩
   ·rintro⟨d,a,h2⟩
    rcases bU.1 a with e|a
    ·cases e;rw[h]at h2;cases h2
    ·exact⟨d,a,h2⟩
  ·rename_i h
   rw[bU,Avb];constructor
   ·rintro(rfl|⟨d,a,h2⟩)
    ·exact⟨m,aX,by simpa using h⟩
    ·exact⟨d,aT _ a,h2⟩
   ·rintro⟨d,a,h2⟩
    rcases bU.1 a with e|a
    ·cases e;exact .inl rfl
    ·exact .inr ⟨d,a,h2⟩
theorem Aw2(t:Tr Ec):∀(l:List Nat) (q:Nat),(Ahc t l).get q=if q∈l then none else t.get q
 | [],q=>by simp[Ahc]
 | a::r,q=>by
  simp only[Ahc,Tr.get_put,Aw2 t r q,bU];by_cases h:a=q
  ·subst h;simp
  ·rw[aF h];simp[cV h]
theorem Axj(t d:Tr Ec):∀(l:List Nat) (q:Nat),(Agx t d l).get q=if q∈l then t.get q else d.get q
 | [],q=>by simp[Agx]
 | a::r,q=>by
  simp only[Agx,Tr.get_put,Axj t d r q,bU];by_cases h:a=q
  ·subst h;simp
  ·rw[aF h];simp[cV h]
theorem Bqx{call:Ah}(d:isV op=true)(a:Fz T tm op=some v):aop T call round tm op h=some (v,h):=by
 unfold aop;rw[d,Ak,a]
theorem Bb6 {b c:Bool}(h:Bf b Cls.val (Bf c .pur .big)=.val):b=true:=by
 cases b<;>cases c<;>first|rfl|(cases h)
theorem Bau(h:cls op=.val):isV op=true:=by
 cases op<;>first|rfl|(rename_i c;exact absurd (Bb6 (show Bf false Cls.val (Bf (Ay6 (.call c)) .pur .big)=.val from h)) (by simp))|exact Bb6 h|(cases h)
theorem Bbq {b c:Bool}(h:Bf b Cls.val (Bf c .pur .big)=.pur):c=true:=by
 cases b<;>cases c<;>first|rfl|(cases h)
theorem A3m(h:cls op=.pur):Ay6 op=true:=by
 cases op<;>first|(rename_i c;exact Bbq (show Bf false Cls.val (Bf (Ay6 (.call c)) .pur .big)=.pur from h))|exact Bbq h|(cases h)
theorem Azc{call:Ah}(a:isV op=false)(d:∀c,op≠.call c):aop T call round tm op h=D7 T tm op h:=by
 unfold aop;rw[a,Bo];split
 ·exact absurd rfl (d _)
 ·rfl
theorem A64(h:cls op=.new):isV op=false/\∀c,op≠.call c:=by
 rcases A8p h with⟨t,rfl⟩|⟨t,x,rfl⟩|⟨t,n,ps,rfl⟩|⟨t,a,b,rfl⟩|⟨t,r,rfl⟩|⟨t,x,rfl⟩<;>exact⟨rfl,fun _ h=>by cases h⟩
section
variable{call:Ah}(hC:Aa2 call)(hR:Aa2 round){ops:List Oper}{bs:Tr Nat}
include hC hR in
theorem A5j{s s':DSt}(h:Abc T call round n ops bs base o i s=some s')(ad:∀x∈s.nw,x.2<s.h.next):
 ∃v E E' kd,Sd T call round n ops bs base o i s s' v E E' kd:=by
 obtain⟨dst,op,ty,ps,af,g⟩:=o;obtain⟨tm,hp,bg,nw,C8,lou,st⟩:=s;simp only[Abc]at h;rw[Bt]at h;split at h
 ·rename_i hw
  split at h
  ·cases h
  ·rename_i b hb
   split at h
   ·rename_i C
    split at h
    ·rename_i v hv
     cases h;exact⟨v,bare hp.next,bare hp.next,.idle,rfl,.inr ⟨hw,Bqx (Bau C) hv⟩,rfl,rfl,fun q x A=>(by cases A),fun q=>(by simp),.refl _,⟨aE _,fun _ _ _=>rfl⟩,rfl,rfl,rfl,rfl,rfl,rfl,rfl⟩
    ·cases h
   ·rename_i C
    split at h
    ·rename_i t x
     split at h
     ·rename_i q off A
      obtain⟨d,h⟩:=Aq h;split at h
      ·rename_i v h' k
       cases h;obtain⟨ob,L,U⟩:=Bsy A k;refine⟨v,Ato hp.next q ob,Ato hp.next q ob,.load q,rfl,.inr ⟨hw,?_⟩,rfl,rfl,fun r x M=>?_,fun q=>(by simp),.refl _,⟨aE _,fun _ _ _=>rfl⟩,⟨_,rfl⟩,rfl,rfl,rfl,rfl,rfl,rfl,b,hb,?_⟩
       ·rw[Azc rfl (fun _ e=>by cases e)]
        exact U _ (by rw[Qo,aG rfl])
       ·rw[Qo]at M
        split at M
        ·rename_i e;subst e;cases M;exact L
        ·cases M
       ·rw[Bt]at d
        split at d
        case isFalse=>cases d
        rename_i host;refine⟨host,?_⟩;rw[Bt]at d;split at d
        ·rename_i J;exact .inl ⟨bI J,d⟩
        ·rename_i J
         refine .inr ⟨?_,?_⟩
         ·cases cZ q base with
          | inl h=>exact absurd (Af3 h) J
          | inr h=>exact h
         ·rw[Bt]at d
          split at d
          ·rename_i F
           refine⟨F,?_⟩;simp only[];split at d
           ·rename_i e;exact e
           ·cases d
          ·cases d
      ·cases h
     ·cases h
    ·cases h
   ·rename_i C
    split at h
    ·rename_i v h' k
     cases h;obtain⟨x,rfl,ae⟩:=Bt6 C k;refine⟨v,bare hp.next,(bare hp.next).new x,.new,rfl,.inr ⟨hw,?_⟩,rfl,rfl,fun q x A=>(by cases A),fun q=>?_,.new _ _,⟨aE _,fun q _ h2=>?_⟩,rfl,⟨x,rfl⟩,rfl,rfl,rfl,rfl,rfl⟩
     ·rw[Azc (A64 C).1 (A64 C).2]
      exact ae _ rfl
     ·show(hp.new x).get q=_
      rw[Ab.Nq,Ab.Nq,Bqf];show(if hp.next=q then some x else hp.get q)=if(if hp.next=q then some x else none)=none then hp.get q else if hp.next=q then some x else none
      by_cases e:hp.next=q
      ·rw[aG e,aG e,aF (by simp)]
      ·rw[aF e,aF e,aG rfl]
     ·have aj:q<hp.next:=h2
      rw[Ab.Nq,aF];show ¬hp.next=q
      omega
    ·cases h
   ·
    rename_i C;split at h
    ·rename_i t a x
     split at h
     ·rename_i q off ha
      obtain⟨d,h⟩:=Aq h;split at h
      ·rename_i v h' k
       cases h;obtain⟨ob,G,L,rfl,U⟩:=Bo8 ha k;have ag:within bg b=true/\Gb b q st=true/\Gb b q C8=true/\A5f q (loose b nw)=true:=by
        rw[Bt]at d;split at d
        case isFalse=>cases d
        rename_i c1;rw[Bt]at d;split at d
        case isFalse=>cases d
        rename_i c2;rw[Bt]at d;split at d
        case isFalse=>cases d
        rename_i c3;exact⟨c1,c2,c3,d⟩
       have Z:(Ato hp.next q ob).get q=some ob:=by rw[Qo,aG rfl]
       refine⟨v,Ato hp.next q ob,(Ato hp.next q ob).put q G,.sto q,rfl,.inr ⟨hw,?_⟩,rfl,rfl,fun r x M=>?_,fun r=>?_,.put Z _,⟨?_,fun r B h2=>?_⟩,⟨_,_,rfl,rfl⟩,rfl,rfl,rfl,rfl,rfl,b,hb,ag⟩
       ·rw[Azc rfl (fun _ e=>by cases e)]
        exact U _ Z
       ·rw[Qo]at M
        split at M
        ·rename_i e;subst e;cases M;exact L
        ·cases M
       ·show(hp.put q G).get r=_
        rw[Ab.get_put,Ab.get_put,Qo];by_cases e:q=r
        ·subst e
         rw[aG rfl,aG rfl,aG rfl];by_cases e2:some G=some ob
         ·rw[aG e2,e2];exact L.symm
         ·rw[aF e2]
        ·rw[aF e,aF e,aF e,aG rfl]
       ·show(hp.put q G).mw<=hp.mw
        rw[Ab.Atl];exact Nat.min_le_right _ _
       ·have W:r<(hp.put q G).mw:=B
        rw[Ab.Atl]at W;rw[Ab.get_put,aF (by omega)]
      ·cases h
     ·cases h
    ·cases h
   ·
    rename_i C;split at h
    ·rename_i v h' k
     cases h;have:=Bm6 (A3m C) k;subst this;exact⟨v,bare hp.next,bare hp.next,.idle,rfl,.inr ⟨hw,(Axt (A3m C)).trans k⟩,rfl,rfl,fun q x A=>(by cases A),fun q=>(by simp),.refl _,⟨aE _,fun _ _ _=>rfl⟩,rfl,rfl,rfl,rfl,rfl,rfl,rfl⟩
    ·cases h
   ·rename_i C
    obtain⟨u,h⟩:=Aq h;have F:within bg b=true:=by
     rw[Bt]at u;split at u
     ·rename_i c1;exact c1
     ·cases u
    have aa:A1z b st=true:=by rw[F,Ak]at u;exact u
    obtain⟨t,nx,mw⟩:=hp;simp only[]at h;split at h
    ·rename_i v H y j k
     have hwf:=Btf hC hR k;have Y:∀q,(⟨Ahc t (loose b nw),nx,nx⟩:Ab).get q=if q∈loose b nw then none else(⟨t,nx,mw⟩:Ab).get q:=fun q=>Aw2 t _ q
     have O:∀q x,(⟨Ahc t (loose b nw),nx,nx⟩:Ab).get q=some x->(⟨t,nx,mw⟩:Ab).get q=some x:=by
      intro q x A;rw[Y]at A;split at A
      ·cases A
      ·exact A
     have ab:∀X q,(⟨Agx t H (loose b nw),y,X⟩:Ab).get q=if(⟨H,y,j⟩:Ab).get q=(⟨Ahc t (loose b nw),nx,nx⟩:Ab).get q then(⟨t,nx,mw⟩:Ab).get q else(⟨H,y,j⟩:Ab).get q:=by
      intro X q;have e1:(⟨Agx t H (loose b nw),y,X⟩:Ab).get q=if q∈loose b nw then t.get q else H.get q:=Axj t H _ q
      rw[e1];by_cases J:q∈loose b nw
      ·rw[aG J]
       by_cases he:(⟨H,y,j⟩:Ab).get q=(⟨Ahc t (loose b nw),nx,nx⟩:Ab).get q
       ·rw[aG he];rfl
       ·exfalso
        apply he;rw[Y,aG J];cases A:(⟨H,y,j⟩:Ab).get q with
        | none=>rfl
        | some o=>
         rcases hwf.live q o A with⟨o',B⟩|B
         ·rw[Y,aG J]at B;cases B
         ·obtain⟨m,hm,_⟩:=Avb.1 J
          have h2:q<nx:=ad _ hm;have h3:nx<=q:=B;omega
      ·rw[aF J]
       by_cases he:(⟨H,y,j⟩:Ab).get q=(⟨Ahc t (loose b nw),nx,nx⟩:Ab).get q
       ·rw[aG he]
        have:H.get q=(⟨H,y,j⟩:Ab).get q:=rfl;rw[this,he,Y,aF J]
       ·rw[aF he];rfl
     rw[Bt]at h;split at h
     ·rename_i hm
      cases h;exact⟨v,_,_,.big j,rfl,.inr ⟨hw,k⟩,rfl,rfl,O,ab _,hwf,⟨aE _,fun q B h2=>hwf.same q (aK h2 (bI hm)) h2⟩,b,hb,F,aa,Y,rfl,rfl,rfl,rfl,fun q B h2=>hwf.same q B h2,.inl ⟨bI hm,rfl⟩⟩
     ·obtain⟨ah,h⟩:=Aq h
      cases h;have Q:Bf (Nat.ble mw j) mw j=min mw j:=by
       rw[Bt];by_cases e:mw<=j
       ·rw[Af3 e,aG rfl,eO e]
       ·rw[Ai8 e,aF (by simp),Nat.min_eq_right (by omega)]
      refine⟨v,_,_,.big j,rfl,.inr ⟨hw,k⟩,rfl,rfl,O,ab _,hwf,⟨?_,fun q B h2=>hwf.same q ?_ h2⟩,b,hb,F,aa,Y,rfl,rfl,rfl,rfl,fun q B h2=>hwf.same q B h2,.inr ⟨ah,rfl⟩⟩
      ·show Bf (Nat.ble mw j) mw j<=mw
       rw[Q];exact Nat.min_le_left _ _
      ·have W:q<Bf (Nat.ble mw j) mw j:=B
       rw[Q]at W;show q<j;omega
    ·cases h
 ·rename_i hw
  cases h;exact⟨.tuple [],bare hp.next,bare hp.next,.idle,rfl,.inl ⟨by simpa using hw,rfl,rfl⟩,rfl,rfl,fun q x A=>(by cases A),fun q=>(by simp),.refl _,⟨aE _,fun _ _ _=>rfl⟩,rfl,rfl,rfl,rfl,rfl,rfl,rfl⟩
end
end
variable {K:Nat->Kd}
section
open Classical
theorem Azj:∀{l:List (Nat × Nat)},Acj b q l=true->∀{m w:Nat},(m,w)∈l->within m b=true\/q<w
 | [],_,m,w,h=>by simp at h
 | (d,w')::r,h,m,w,hm=>by
  simp only[Acj]at h;rw[Bt]at h;split at h
  ·rename_i a
   rcases bU.1 hm with e|hm
   ·cases e
    rw[Bt]at a;split at a
    ·rename_i hw;exact .inl hw
    ·exact .inr (bI a)
   ·exact Azj h hm
  ·cases h
theorem Awe {w:Nat}:∀{l:List (Nat × Nat)},Ac9 b w l=true->∀{m q:Nat},(m,q)∈l->within m b=true\/q<w
 | [],_,m,q,h=>by simp at h
 | (d,q')::r,h,m,q,hm=>by
  simp only[Ac9]at h;rw[Bt]at h;split at h
  ·rename_i a
   rcases bU.1 hm with e|hm
   ·cases e
    rw[Bt]at a;split at a
    ·rename_i hw;exact .inl hw
    ·exact .inr (bI a)
   ·exact Awe h hm
  ·cases h
theorem Abz:∀{l:List (Nat × Nat)},Gb b q l=true->∀{m r:Nat},(m,r)∈l->within m b=true\/q≠r
 | [],_,m,r,h=>by simp at h
 | (d,j)::l,h,m,r,hm=>by
  simp only[Gb]at h;rw[Bt]at h;split at h
  ·rename_i a
   rcases bU.1 hm with e|hm
   ·cases e
    rw[Bt]at a;split at a
    ·rename_i hw;exact .inl hw
    ·refine .inr fun e=>?_
     subst e;rw[show Nat.beq q q=true from cO q]at a;cases a
   ·exact Abz h hm
  ·cases h
theorem A5t:∀{l:List (Nat × Nat)},A1z b l=true->∀{m r:Nat},(m,r)∈l->within m b=true
 | [],_,m,r,h=>by simp at h
 | (d,j)::l,h,m,r,hm=>by
  simp only[A1z]at h;rw[Bt]at h;split at h
  ·rename_i a
   rcases bU.1 hm with e|hm
   ·cases e;exact a
   ·exact A5t h hm
  ·cases h
theorem A5e:∀{l:List Nat},A5f q l=true->q ∉ l
 | [],_=>by simp
 | r::l,h=>by
  simp only[A5f]at h;rw[Bt]at h;split at h
  ·cases h
  ·rename_i a
   intro hm;rcases bU.1 hm with e|hm
   ·subst e;exact a (cO q)
   ·exact A5e h hm
section
variable{call:Ah}(hC:Aa2 call)(hR:Aa2 round){ops:List Oper}{bs:Tr Nat}
theorem Azp:∀{l:List Oper} {i:Nat} {s r:DSt},Xh T call round n ops bs base l i s=some r ->
 ∃σ:Nat->DSt,σ i=s/\σ (i+l.length)=r/\∀k o,l[k]? = some o->Abc T call round n ops bs base o (i+k) (σ (i+k))=some (σ (i+k+1))
 | [],i,s,r,h=>by cases h;exact⟨fun _=>s,rfl,rfl,fun k o h=>by simp at h⟩
 | o::l,i,s,r,h=>by
  simp only[Xh]at h;split at h
  ·rename_i s' hs
   obtain⟨σ,e,h2,j⟩:=Azp h;have a:σ (i+1)=s':=e;refine⟨fun m=>if m=i then s else σ m,aG rfl,?_,fun k o' d=>?_⟩
   ·show(if i+(l.length+1)=i then s else σ (i+(l.length+1)))=r
    rw[aF (by omega),<-h2];congr 1;show i+(l.length+1)=i+1+l.length;omega
   ·cases k with
    | zero=>
     simp only[bL,cU]at d;subst d;show Abc T call round n ops bs base o i (if i=i then s else σ i)=some (if i+1=i then s else σ (i+1));rw[aG rfl,aF (by omega),a];exact hs
    | succ k=>
     have:=j k o' (by simpa using d);have e1:i+(k+1)=i+1+k:=by omega
     show Abc T call round n ops bs base o' (i+(k+1)) (if i+(k+1)=i then s else σ (i+(k+1)))=some (if i+(k+1)+1=i then s else σ (i+(k+1)+1));rw[aF (by omega),aF (by omega),e1];exact this
  ·cases h
structure Trc(T:Kh)(call round:Ah)(n:Nat)(ops:List Oper)(bs:Tr Nat)(base:Nat)(σ:Nat->DSt)(V:Nat->EV)(E E':Nat->Ab)(K:Nat->Kd):Prop where
 sd:∀i o,ops[i]? = some o->Sd T call round n ops bs base o i (σ i) (σ (i+1)) (V i) (E i) (E' i) (K i)
 lt:∀i,i<=ops.length->∀q x,(σ i).h.get q=some x->q<(σ i).h.next
 base:base=(σ 0).h.next
include hC hR in
theorem Bt2 {s r:DSt}(h:Xh T call round n ops bs s.h.next ops 0 s=some r)(u:∀q x,s.h.get q=some x->q<s.h.next)(A:s.nw = []):
 ∃σ V E E' K,σ 0=s/\σ ops.length=r/\Trc T call round n ops bs s.h.next σ V E E' K:=by
 obtain⟨σ,B,h2,C⟩:=Azp h;simp only[bJ]at h2 C;have key:∀i,i<=ops.length->(∀x∈(σ i).nw,x.2<(σ i).h.next)/\∀q x,(σ i).h.get q=some x->q<(σ i).h.next:=by
  intro i;induction i with
  | zero=>intro _;rw[B,A];exact⟨fun x j=>by simp at j,u⟩
  | succ i G=>
   intro F;obtain⟨i1,i2⟩:=G (by omega);have k:ops[i]? = some ops[i]:=aC (by omega);obtain⟨v,E,E',kd,sd⟩:=A5j hC hR (C i _ k) i1;have e:(σ i).h.next<=(σ (i+1)).h.next:=by rw[<-sd.Ajy,<-sd.Ak7];exact sd.w.next
   constructor
   ·intro x j
    have:=sd.kd;cases kd with
    | idle=>rw[this.2.2.2.1]at j;exact aK (i1 x j) e
    | load q=>rw[this.2.2.2.1]at j;exact aK (i1 x j) e
    | new=>
     obtain⟨a,⟨y,b⟩,c,d,_⟩:=this;rw[d]at j;rcases bU.1 j with rfl|j
     ·show(σ i).h.next<_
      rw[<-sd.Ak7,b,Ab.D8,sd.Ajy];omega
     ·exact aK (i1 x j) e
    | sto q=>
     obtain⟨_,_,d,_⟩:=this;rw[d]at j;exact aK (i1 x j) e
    | big mw=>
     obtain⟨b,_,_,_,_,_,d,_⟩:=this;rw[d]at j;exact aK (i1 x j) e
   ·intro q x j
    rw[sd.Bqk]at j;split at j
    ·exact aK (i2 q x j) e
    ·rw[<-sd.Ak7]
     refine sd.w.lt (fun q x j=>?_) q x j;rw[sd.Ajy];exact i2 q x (sd.sub q x j)
 have ex:∀i,∃v E E' kd,∀o,ops[i]? = some o->Sd T call round n ops bs s.h.next o i (σ i) (σ (i+1)) v E E' kd:=by
  intro i;cases k:ops[i]? with
  | none=>exact⟨.tuple [],bare 0,bare 0,.idle,fun o h=>by cases h⟩
  | some o=>
   have F:i<ops.length:=(aW.1 k).1;obtain⟨v,E,E',kd,sd⟩:=A5j hC hR (C i _ k) (key i (by omega)).1;exact⟨v,E,E',kd,fun o' h=>by cases h;exact sd⟩
 exact⟨σ,fun i=>(ex i).choose,fun i=>(ex i).choose_spec.choose,fun i=>(ex i).choose_spec.choose_spec.choose,fun i=>(ex i).choose_spec.choose_spec.choose_spec.choose,B,h2,
  fun i=>(ex i).choose_spec.choose_spec.choose_spec.choose_spec,fun i F=>(key i F).2,by rw[B]⟩
variable(tr:Trc T call round n ops bs base σ V E E' K)
include tr
theorem Trc.next(a:i<ops.length):(σ i).h.next<=(σ (i+1)).h.next:=by
 have sd:=tr.sd i _ (aC a);rw[<-sd.Ajy,<-sd.Ak7];exact sd.w.next
theorem Trc.Bqi(a:i<=m)(hm:m<=ops.length):(σ i).h.next<=(σ m).h.next:=by
 induction m with
 | zero=>
  have:i=0:=by omega
  subst this;exact aE _
 | succ m d=>
  by_cases e:i=m+1
  ·subst e;exact aE _
  ·exact bN (d (by omega) (by omega)) (tr.next (by omega))
theorem Trc.notes(B:i<=m)(hm:m<=ops.length):
 (∀x∈(σ i).nw,x∈(σ m).nw)/\(∀x∈(σ i).C8,x∈(σ m).C8)/\(∀x∈(σ i).lou,x∈(σ m).lou)/\(∀j,(σ i).bg.testBit j=true->(σ m).bg.testBit j=true)/\(∀x∈(σ i).st,x∈(σ m).st):=by
 induction m with
 | zero=>
  have:i=0:=by omega
  subst this;exact⟨fun _ h=>h,fun _ h=>h,fun _ h=>h,fun _ h=>h,fun _ h=>h⟩
 | succ m C=>
  by_cases e:i=m+1
  ·subst e;exact⟨fun _ h=>h,fun _ h=>h,fun _ h=>h,fun _ h=>h,fun _ h=>h⟩
  ·obtain⟨a,b,c,d,f⟩:=C (by omega) (by omega)
   have sd:=(tr.sd m _ (aC (by omega))).kd;cases A:K m with
   | idle=>
    rw[A]at sd;obtain⟨_,_,s1,s2,u,k,y⟩:=sd;rw[s1,s2,u,k,y];exact⟨a,b,c,d,f⟩
   | load q=>
    rw[A]at sd;obtain⟨_,_,s1,s2,u,k,y,_⟩:=sd;rw[s1,s2,u,k,y];exact⟨a,fun x h=>aT _ (b x h),c,d,f⟩
   | new=>
    rw[A]at sd;obtain⟨_,_,s1,s2,u,k,y⟩:=sd;rw[s1,s2,u,k,y];exact⟨fun x h=>aT _ (a x h),b,c,d,f⟩
   | sto q=>
    rw[A]at sd;obtain⟨_,s1,s2,u,k,y,_⟩:=sd;rw[s1,s2,u,k,y];exact⟨a,b,c,d,fun x h=>aT _ (f x h)⟩
   | big mw=>
    rw[A]at sd;obtain⟨_,_,_,_,_,s1,s2,u,y,_,k⟩:=sd;rw[s1,s2,u,y];refine⟨a,b,?_,fun j h=>by rw[Pv,d j h];rfl,f⟩;rcases k with⟨_,k⟩|⟨_,k⟩<;>rw[k]
    ·exact c
    ·exact fun x h=>aT _ (c x h)
theorem Trc.Bro(a:i<ops.length){x:Ec}(h:(E i).get q=some x):q<(σ i).h.next:=
 tr.lt i (by omega) q x ((tr.sd i _ (aC a)).sub q x h)
theorem Trc.Bv2(a:i<ops.length){x:Ec}(h:(E' i).get q=some x):q<(σ (i+1)).h.next:=by
 have sd:=tr.sd i _ (aC a);rw[<-sd.Ak7];refine sd.w.lt (fun q x d=>?_) q x h;rw[sd.Ajy];exact tr.Bro a d
theorem Trc.Bk6(d:i<ops.length)(h:(E i).get q=none)(j:q<(σ i).h.next):(E' i).get q=(E i).get q:=by
 have sd:=tr.sd i _ (aC d);cases e:(E' i).get q with
 | none=>exact h.symm
 | some o=>
  rcases sd.w.live q o e with⟨o',a⟩|a
  ·rw[h]at a;cases a
  ·rw[sd.Ajy]at a;omega
theorem Trc.pair(bb:i<m)(hm:m<ops.length)(hb:bs.get m=some b)(hn:b.testBit i=false):
 (∀q,(E' i).get q=(E i).get q\/(E' m).get q=(E m).get q)/\(∀q x,(E i).get q=some x->(E' m).get q=(E m).get q)/\(∀q x,(E m).get q=some x->(E' i).get q=(E i).get q):=by
 have hi:i<ops.length:=by omega
 have al:=tr.sd i _ (aC hi);have ay:=tr.sd m _ (aC hm);obtain⟨n1,n2,n3,n4,n5⟩:=tr.notes (i:=i+1) (m:=m) (by omega) (by omega);have a2:=tr.Bqi (i:=i+1) (m:=m) (by omega) (by omega);have az:=tr.next hi
 have a3:base<=(σ i).h.next:=by rw[tr.base];exact tr.Bqi (by omega) (by omega)
 have L:=A8l hn;have W:=al.kd;have U:=ay.kd;have C:K i=.new->(Nat.shiftLeft 1 i,(σ i).h.next)∈(σ m).nw/\(∀q,q≠(σ i).h.next->(E' i).get q=(E i).get q)/\(∀q,(E i).get q=none)/\(σ i).h.next<(σ (i+1)).h.next:=by
  intro hk;rw[hk]at W;obtain⟨k1,⟨x,k2⟩,_,k4,_⟩:=W;refine⟨n1 _ (by rw[k4];exact aX),fun q X=>?_,fun q=>by rw[k1];rfl,?_⟩
  ·rw[k2,Ab.Nq,aF];rw[al.Ajy];exact fun e=>X e.symm
  ·rw[<-al.Ak7,k2,Ab.D8,al.Ajy];omega
 have F:K m=.new->(∀q,q≠(σ m).h.next->(E' m).get q=(E m).get q)/\(∀q,(E m).get q=none):=by
  intro hk;rw[hk]at U;obtain⟨k1,⟨x,k2⟩,_⟩:=U;refine⟨fun q X=>?_,fun q=>by rw[k1];rfl⟩;rw[k2,Ab.Nq,aF];rw[ay.Ajy];exact fun e=>X e.symm
 have G:∀r,K i=.sto r->(Nat.shiftLeft 1 i,r)∈(σ m).st/\(∀q,q≠r->(E' i).get q=(E i).get q)/\(∀q x,(E i).get q=some x->q=r)/\r<(σ i).h.next:=by
  intro r hk;rw[hk]at W;obtain⟨⟨x,y,k1,k2⟩,_,_,_,_,k4,_⟩:=W;have hr:(E i).get r=some x:=by rw[k1,Qo,aG rfl]
  refine⟨n5 _ (by rw[k4];exact aX),fun q X=>?_,fun q z Y=>?_,tr.Bro hi hr⟩
  ·rw[k2,Ab.get_put,aF];exact fun e=>X e.symm
  ·rw[k1,Qo]at Y
   split at Y
   ·rename_i e;exact e.symm
   ·cases Y
 have j:∀r,K m=.sto r->within (σ m).bg b=true/\Gb b r (σ m).st=true/\Gb b r (σ m).C8=true/\r ∉ loose b (σ m).nw/\(∀q,q≠r->(E' m).get q=(E m).get q)/\(∀q x,(E m).get q=some x->q=r):=by
  intro r hk;rw[hk]at U;obtain⟨⟨x,y,k1,k2⟩,_,_,_,_,k4,b',H,c1,c2,c3,c4⟩:=U;rw[hb]at H;cases H;refine⟨c1,c2,c3,A5e c4,fun q X=>?_,fun q z Y=>?_⟩
  ·rw[k2,Ab.get_put,aF];exact fun e=>X e.symm
  ·rw[k1,Qo]at Y
   split at Y
   ·rename_i e;exact e.symm
   ·cases Y
 have J:∀r,K i=.load r->(Nat.shiftLeft 1 i,r)∈(σ m).C8/\(∀q x,(E i).get q=some x->q=r):=by
  intro r hk;rw[hk]at W;obtain⟨⟨y,k1⟩,_,_,_,k5,_⟩:=W;refine⟨n2 _ (by rw[k5];exact aX),fun q z Y=>?_⟩;rw[k1,Qo]at Y;split at Y
  ·rename_i e;exact e.symm
  ·cases Y
 have A:∀r,K m=.load r->Gb b r (σ m).st=true/\((r<base/\Acj b r (σ m).lou=true)\/(base<=r/\within (σ m).bg b=true/\loose b (σ m).nw = []))/\(∀q x,(E m).get q=some x->q=r):=by
  intro r hk;rw[hk]at U;obtain⟨⟨y,k1⟩,_,_,_,_,_,_,b',H,k7,k8⟩:=U;rw[hb]at H;cases H;refine⟨k7,k8,fun q z Y=>?_⟩;rw[k1,Qo]at Y;split at Y
  ·rename_i e;exact e.symm
  ·cases Y
 have au:∀mw,K i=.big mw->(σ m).bg.testBit i=true:=by
  intro mw Z;rw[Z]at W;obtain⟨_,_,_,_,_,k5,_⟩:=W;exact n4 i (by rw[k5,Pv,Jp];simp)
 have O:∀mw,K m=.big mw->within (σ m).bg b=true/\A1z b (σ m).st=true:=by
  intro mw h2;rw[h2]at U;obtain⟨b',H,hw,a7,_⟩:=U;rw[hb]at H;cases H;exact⟨hw,a7⟩
 have ag:∀{mw},K i=.big mw->within (σ m).bg b=true->False:=by
  intro mw Z hw;rw[Atm hw (au mw Z)]at hn;cases hn
 have aa:∀{r mw},K i=.sto r->K m=.big mw->False:=by
  intro r mw Z h2;have:=A5t (O mw h2).2 (G r Z).1;rw[L]at this;cases this
 have Q:(K i=.idle\/∃q,K i=.load q)->∀q,(E' i).get q=(E i).get q:=by
  rintro(h|⟨r,h⟩) q<;>rw[h]at W
  ·rw[W.2.1]
  ·rw[W.2.1]
 have k:(K m=.idle\/∃q,K m=.load q)->∀q,(E' m).get q=(E m).get q:=by
  rintro(h|⟨r,h⟩) q<;>rw[h]at U
  ·rw[U.2.1]
  ·rw[U.2.1]
 have ae:K i=.idle->∀q,(E i).get q=none:=fun h q=>by rw[h]at W;rw[W.1];rfl
 have M:K m=.idle->∀q,(E m).get q=none:=fun h q=>by rw[h]at U;rw[U.1];rfl
 have u:K i=.new->(σ i).h.next∈loose b (σ m).nw:=fun Z=>Avb.2 ⟨_,(C Z).1,L⟩
 have af:∀mw,K i=.new->K m=.big mw->(E m).get (σ i).h.next=none:=by
  intro mw Z h2;rw[h2]at U;obtain⟨b',H,_,_,he,_⟩:=U;rw[hb]at H;cases H;rw[he,aG (u Z)]
 have ab:∀{r r'},K i=.sto r->K m=.sto r'->r'≠r:=by
  intro r r' Z h2;rcases Abz (j r' h2).2.1 (G r Z).1 with h|h
  ·rw[L]at h;cases h
  ·exact h
 refine⟨fun q=>?_,fun q x B=>?_,fun q x B=>?_⟩
 ·cases d:K i with
  | idle=>exact .inl (Q (.inl d) q)
  | load r=>exact .inl (Q (.inr ⟨r,d⟩) q)
  | new=>
   by_cases X:q=(σ i).h.next
   ·subst X
    right;cases a:K m with
    | idle=>exact k (.inl a) _
    | load r=>exact k (.inr ⟨r,a⟩) _
    | new=>exact(F a).1 _ (by have:=(C d).2.2.2;omega)
    | sto r=>exact(j r a).2.2.2.2.1 _ (fun e=>(j r a).2.2.2.1 (e▸u d))
    | big mw=>exact tr.Bk6 hm (af mw d a) (by have:=(C d).2.2.2;omega)
   ·exact .inl ((C d).2.1 q X)
  | sto r=>
   by_cases X:q=r
   ·subst X
    right;cases a:K m with
    | idle=>exact k (.inl a) _
    | load r=>exact k (.inr ⟨r,a⟩) _
    | new=>exact(F a).1 _ (by have:=(G _ d).2.2.2;omega)
    | sto r'=>exact(j r' a).2.2.2.2.1 _ (fun e=>ab d a e.symm)
    | big mw=>exact(aa d a).elim
   ·exact .inl ((G r d).2.1 q X)
  | big mw=>
   cases a:K m with
   | idle=>exact .inr (k (.inl a) _)
   | load r=>exact .inr (k (.inr ⟨r,a⟩) _)
   | new=>
    by_cases X:q=(σ m).h.next
    ·left
     have Z:(E' i).get q=none:=by
      cases h:(E' i).get q with
      | none=>rfl
      | some o=>have:=tr.Bv2 hi h;omega
     have h2:(E i).get q=none:=by
      cases h:(E i).get q with
      | none=>rfl
      | some o=>have:=tr.Bro hi h;omega
     rw[Z,h2]
    ·exact .inr ((F a).1 q X)
   | sto r=>exact(ag d (j r a).1).elim
   | big aj=>exact(ag d (O aj a).1).elim
 ·have bt:=tr.Bro hi B
  cases a:K m with
  | idle=>exact k (.inl a) _
  | load r=>exact k (.inr ⟨r,a⟩) _
  | new=>exact(F a).1 q (by omega)
  | sto r'=>
   cases d:K i with
   | idle=>rw[ae d]at B;cases B
   | new=>rw[(C d).2.2.1]at B;cases B
   | big aj=>exact(ag d (j r' a).1).elim
   | load r=>
    have:=(J r d).2 q x B;subst this;refine(j r' a).2.2.2.2.1 _ fun e=>?_
    rcases Abz (j r' a).2.2.1 (J _ d).1 with h|h
    ·rw[L]at h;cases h
    ·exact h e.symm
   | sto r=>
    have:=(G r d).2.2.1 q x B;subst this;exact(j r' a).2.2.2.2.1 _ (fun e=>ab d a e.symm)
  | big mw=>
   cases d:K i with
   | idle=>rw[ae d]at B;cases B
   | new=>rw[(C d).2.2.1]at B;cases B
   | big aj=>exact(ag d (O mw a).1).elim
   | sto r=>exact(aa d a).elim
   | load r=>
    have:=(J r d).2 q x B;subst this;rw[a]at U;obtain⟨b',H,_,_,_,_,_,_,_,h8,h9⟩:=U;rw[hb]at H;cases H;refine h8 _ ?_ (by omega);rcases h9 with⟨h9,_⟩|⟨h9,_⟩
    ·omega
    ·rcases Awe h9 (J _ d).1 with h|h
     ·rw[L]at h;cases h
     ·exact h
 ·cases d:K i with
  | idle=>exact Q (.inl d) q
  | load r=>exact Q (.inr ⟨r,d⟩) q
  | new=>
   refine(C d).2.1 q fun e=>?_
   subst e;cases a:K m with
   | idle=>rw[M a]at B;cases B
   | new=>rw[(F a).2]at B;cases B
   | big mw=>rw[af mw d a]at B;cases B
   | sto r=>exact(j r a).2.2.2.1 ((j r a).2.2.2.2.2 _ x B▸u d)
   | load r=>
    have e:=(A r a).2.2 _ x B;rcases(A r a).2.1 with⟨Z,_⟩|⟨_,_,h3⟩
    ·omega
    ·have:=u d
     rw[h3]at this;cases this
  | sto r=>
   refine(G r d).2.1 q fun e=>?_
   subst e;cases a:K m with
   | idle=>rw[M a]at B;cases B
   | new=>rw[(F a).2]at B;cases B
   | big mw=>exact(aa d a).elim
   | sto r'=>exact ab d a ((j r' a).2.2.2.2.2 _ x B).symm
   | load r'=>
    have e:=(A r' a).2.2 _ x B;subst e;rcases Abz (A _ a).1 (G _ d).1 with h|h
    ·rw[L]at h;cases h
    ·exact h rfl
  | big mw=>
   cases a:K m with
   | idle=>rw[M a]at B;cases B
   | new=>rw[(F a).2]at B;cases B
   | sto r=>exact(ag d (j r a).1).elim
   | big aj=>exact(ag d (O aj a).1).elim
   | load r=>
    have e:=(A r a).2.2 _ x B;subst e;rw[d]at W;obtain⟨bi,_,_,_,_,kb,_,_,_,h8,h9⟩:=W;rcases(A _ a).2.1 with⟨Z,h2⟩|⟨_,h2,_⟩
    ·refine h8 _ ?_ (by omega)
     rcases h9 with⟨h9,_⟩|⟨_,h9⟩
     ·omega
     ·rcases Azj h2 (n3 _ (by rw[h9];exact aX))with h|h
      ·rw[L]at h;cases h
      ·exact h
    ·have:(σ m).bg.testBit i=true:=n4 i (by rw[kb,Pv,Jp];simp)
     rw[Atm h2 this]at hn;cases hn
end
end
section
open Classical
structure Aln(p:Nat->Prop)(f0:Loc)(h0:Ab)(w0:World)(f:Loc)(g:Nat->Option Ec)(w:World):Prop where
 Gf:Loc.Gf p f0 f
 obj:∀i o,g i=some o->∃r,w.heap[f.b i]? = some r/\Aaq f i o r
 inj:∀i j o o',g i=some o->g j=some o'->f.b i=f.b j->i=j
 kept:∀b,b<w0.heap.size->(∀i o,h0.get i=some o->f0.b i≠b)->w.heap[b]? = w0.heap[b]?
 size:w0.heap.size<=w.heap.size
 tape:w.tape=w0.tape
 os:w.os=w0.os
 output:w.output=w0.output
 own:∀i o,g i=some o->w0.heap.size<=f.b i\/∃j o',h0.get j=some o'/\f.b i=f0.b j
theorem Aln.start{w:World}(a:Y5 f h w):Aln p f h w f h.get w where
 Gf:=Loc.Aqh _ _
 obj:=a.obj
 inj:=a.inj
 kept _ _ _:=rfl
 size:=aE _
 tape:=rfl
 os:=rfl
 output:=rfl
 own i o d:=.inr ⟨i,o,d,rfl⟩
theorem Aln.drew{w0 w:World}(m:Aln p f0 h0 w0 f g w)(k:Nat):Aln p f0 h0 w0 f g { w with drawn:=k }:=
 ⟨m.Gf,m.obj,m.inj,m.kept,m.size,m.tape,m.os,m.output,m.own⟩
theorem Aln.move{w0 w:World}(m:Aln p f0 h0 w0 f g w)(e:∀q,h.get q=g q):Move p f0 h0 w0 f h w where
 Gf:=m.Gf
 rep:=⟨fun i o a=>m.obj i o (by rw[<-e];exact a),fun i j o o' a d=>m.inj i j o o' (by rw[<-e];exact a) (by rw[<-e];exact d)⟩
 kept:=m.kept
 size:=m.size
 tape:=m.tape
 os:=m.os
 output:=m.output
 own i o a:=m.own i o (by rw[<-e];exact a)
def patch(n:Nat)(f1 f:Loc):Loc:=⟨fun q=>if q<n then f1.b q else f.b q,fun q=>if q<n then f1.sp q else f.sp q⟩
theorem Bd1(h:q<n):(patch n f1 f).b q=f1.b q/\(patch n f1 f).sp q=f1.sp q:=⟨aG h,aG h⟩
theorem Bpl(h:n<=q):(patch n f1 f).b q=f.b q/\(patch n f1 f).sp q=f.sp q:=⟨aF (by omega),aF (by omega)⟩
noncomputable def Al4(D D':Ab)(g:Nat->Option Ec)(q:Nat):Option Ec:=if D'.get q=D.get q then g q else D'.get q
section
variable{w0:World}{w:World}{pq:Nat->Prop}{D D':Ab}{w1:World}
theorem A1e(hm:Move (fun q=>pq q/\q<D.next) f D w f1 D' w1)(hw:Wf (fun q=>pq q/\q<D.next) D D')(a:∀q,pq q->q<D.next\/D'.next<=q):
 Loc.Gf pq f (patch D'.next f1 f):=by
 intro q d;rcases a q d with h|h
 ·obtain⟨e1,e2⟩:=Bd1 (f1:=f1) (f:=f) (aK h hw.next)
  rw[e1,e2];exact hm.Gf q ⟨d,h⟩
 ·obtain⟨e1,e2⟩:=Bpl (f1:=f1) (f:=f) h
  rw[e1,e2];exact⟨rfl,rfl⟩
theorem Az5(hw:Wf (fun q=>pq q/\q<D.next) D D'):Loc.Gf (grow (fun q=>pq q/\q<D.next) D D') f1 (patch D'.next f1 f):=by
 intro q a;have:q<D'.next:=by
  rcases a with h|h
  ·exact aK h.2 hw.next
  ·exact h.2
 obtain⟨e1,e2⟩:=Bd1 (f1:=f1) (f:=f) this;rw[e1,e2];exact⟨rfl,rfl⟩
theorem Aln.step(m:Aln p0 f0 h0 w0 f g w)(B:∀q x,D.get q=some x->g q=some x)(hg:∀q x,g q=some x->pq q/\x.ok pq)
 (Z:∀q,p0 q->pq q) (hm:Move (fun q=>pq q/\q<D.next) f D w f1 D' w1) (hw:Wf (fun q=>pq q/\q<D.next) D D') (X:∀q,pq q->q<D.next\/D'.next<=q) :
 Aln p0 f0 h0 w0 (patch D'.next f1 f) (Al4 D D' g) w1:=by
 have W:=A1e hm hw X;have O:=Az5 (f1:=f1) (f:=f) hw;have aa:∀q x,D'.get q=some x->Al4 D D' g q=some x:=by
  intro q x d;unfold Al4;split
  ·rename_i e;exact B q x (by rw[<-e];exact d)
  ·exact d
 have u:∀q x,Al4 D D' g q=some x->D'.get q=some x\/(D'.get q=none/\D.get q=none/\g q=some x):=by
  intro q x d;cases hd:D'.get q with
  | some y=>rw[aa q y hd]at d;exact .inl d
  | none=>
   unfold Al4 at d;split at d
   ·rename_i e;rw[hd]at e;exact .inr ⟨rfl,e.symm,d⟩
   ·rw[hd]at d;cases d
 have C:∀q x,D'.get q=some x->(patch D'.next f1 f).b q=f1.b q:=fun q x d=>(O q (hw.hok.get q x d).1).1.symm
 have F:∀q x,g q=some x->(patch D'.next f1 f).b q=f.b q:=fun q x d=>(W q (hg q x d).1).1.symm
 have Y:∀q x,g q=some x->f.b q<w.heap.size:=by
  intro q x d;obtain⟨r,L,_⟩:=m.obj q x d;exact(cP.1 L).1
 have Q:∀q x,g q=some x->D.get q=none->∀i o,D.get i=some o->f.b i≠f.b q:=by
  intro q x d hd i o H e;have:=m.inj i q o x (B i o H) d e;subst this;rw[hd]at H;cases H
 refine⟨?_,?_,?_,?_,bN m.size hm.size,hm.tape.trans m.tape,hm.os.trans m.os,hm.output.trans m.output,?_⟩
 ·exact m.Gf.trans (W.mono Z)
 ·intro q x d
  rcases u q x d with hd|⟨_,hd,J⟩
  ·obtain⟨r,L,h2⟩:=hm.rep.obj q x hd
   obtain⟨h3,h4⟩:=hw.hok.get q x hd;exact⟨r,by rw[C q x hd];exact L,h2.congr O h3 h4⟩
  ·obtain⟨r,L,h2⟩:=m.obj q x J
   obtain⟨h3,h4⟩:=hg q x J;refine⟨r,?_,h2.congr W h3 h4⟩;rw[F q x J,hm.kept _ (Y q x J) (Q q x J hd)];exact L
 ·
  have U:∀i j o o',D'.get i=some o->g j=some o'->D.get j=none->f1.b i≠f.b j:=by
   intro i j o o' H hj hd e;rcases hm.own i o H with h|⟨k,ok,hk,h⟩
   ·have:=Y j o' hj;omega
   ·exact Q j o' hj hd k ok hk (by rw[<-h];exact e)
  intro i j o o' H hj e;rcases u i o H with a|⟨_,a,A⟩<;>rcases u j o' hj with G|⟨_,G,M⟩
  ·rw[C i o a,C j o' G]at e;exact hm.rep.inj i j o o' a G e
  ·rw[C i o a,F j o' M]at e;exact absurd e (U i j o o' a M G)
  ·rw[F i o A,C j o' G]at e;exact absurd e.symm (U j i o' o G A a)
  ·rw[F i o A,F j o' M]at e;exact m.inj i j o o' A M e
 ·intro b hb hn
  rw[hm.kept b (aK hb m.size) ?_]
  ·exact m.kept b hb hn
  ·intro i o H e
   rcases m.own i o (B i o H)with h|⟨j,o',L,h2⟩
   ·omega
   ·exact hn j o' L (by rw[<-h2];exact e)
 ·intro i o H
  rcases u i o H with a|⟨_,a,A⟩
  ·rw[C i o a]
   rcases hm.own i o a with h|⟨j,o',L,h2⟩
   ·exact .inl (bN m.size h)
   ·rw[h2];exact m.own j o' (B j o' L)
  ·rw[F i o A];exact m.own i o A
end
end
section
open Classical
def Bca(ops:Array Oper)(m:Nat):Option Tmp:=(ops[m]?).bind (·.dst)
theorem Aok {ops:Array Oper}(h:ops[m]? = some o):Bca ops m=o.dst:=by rw[Bca,h];rfl
noncomputable def tmS(n:Nat)(ops:Array Oper)(V:Nat->EV)(a:Ax)(S:Nat->Prop):Nat->Ax
 | 0=>a
 | m+1=>if S m then Tj n (tmS n ops V a S m) (Bca ops m) (V m)else tmS n ops V a S m
noncomputable def hS(E E':Nat->Ab)(a:Nat->Option Ec)(S:Nat->Prop):Nat->Nat->Option Ec
 | 0=>a
 | m+1=>if S m then Al4 (E m) (E' m) (hS E E' a S m)else hS E E' a S m
theorem Ak2(n:Nat)(tm:Ax)(d:Option Tmp)(v:EV)(t:Nat):tmp (Tj n tm d v) t=if d=some t/\t<n then v else tmp tm t:=by
 cases d with
 | none=>simp[Tj]
 | some d=>
  rw[Bjx];by_cases h:d=t
  ·subst h;simp
  ·rw[aF (fun x=>h x.1),aF (fun x=>h (by simpa using x.1))]
theorem Axb(f:Loc)(n:Nat){a b:Ax}(h:∀t,tmp a t=tmp b t):Bi f n a=Bi f n b:=by
 unfold Bi;simp only[h]
theorem Bqp(h:∀t,n<=t->tm.get t=none)(d:Option Tmp)(v:EV):∀t,n<=t->(Tj n tm d v).get t=none:=by
 intro t a;cases d with
 | none=>exact h t a
 | some d=>
  simp only[Tj];rw[Bt];split
  ·rename_i hd
   rw[Tr.Ag _ _ (Nat.ne_of_lt (aK (bI hd) a))];exact h t a
  ·exact h t a
theorem Bq4(h:tm.get t=some v):tmp tm t=v:=by unfold tmp;rw[h]
theorem Bfn{call:Ah}(a:aop T call round tm op h=some (v,h')):∀cs b,op=.select cs b->∃c,cs = #[c]:=by
 rintro cs b rfl;rw[Azc rfl (fun _ e=>by cases e)]at a;cases b with
 | true=>cases a
 | false=>
  simp only[D7]at a;split at a
  ·rename_i c d
   exact⟨c,by apply eQ;simpa using d⟩
  ·cases a
section
variable{call:Ah}{ops:Array Oper}{bs:Tr Nat}
def nx(σ:Nat->DSt)(m:Nat):Nat:=(σ m).h.next
def pS(p0:Nat->Prop)(σ:Nat->DSt)(N:Nat)(S:Nat->Prop)(q:Nat):Prop:=p0 q\/∃j,S j/\j<N/\nx σ j<=q/\q<nx σ (j+1)
structure Inv(n:Nat)(ops:Array Oper)(bs:Tr Nat)(σ:Nat->DSt)(V:Nat->EV)(E E':Nat->Ab)(p0:Nat->Prop)(f0:Loc)(w0:World)(S:Nat->Prop)(f:Loc)(w:World):Prop where
 dn:∀j,S j->j<ops.size/\∀b,bs.get j=some b->∀k,b.testBit k=true->S k
 vok:∀j,S j->(V j).ok (fun q=>pS p0 σ ops.size S q/\q<nx σ (j+1))
 eok:∀j,S j->∀q x,(E' j).get q=some x->(pS p0 σ ops.size S q/\q<nx σ (j+1))/\x.ok (fun q=>pS p0 σ ops.size S q/\q<nx σ (j+1))
 mv:Aln p0 f0 (σ 0).h w0 f (hS E E' (σ 0).h.get S ops.size) w
variable (tr:Trc T call round n ops.toList bs base σ V E E' K)
include tr
theorem Trc.sd'(h:ops[i]? = some o):Sd T call round n ops.toList bs base o i (σ i) (σ (i+1)) (V i) (E i) (E' i) (K i):=tr.sd i o (by rw[cJ];exact h)
theorem Trc.A4l(a:i<=m)(hm:m<=ops.size):nx σ i<=nx σ m:=tr.Bqi a (by simpa using hm)
theorem Bpo(e:i<=ops.size)(h:∀j,j<i->¬S j->Bca ops j≠some t):∀m,m<=i->tmp (tmS n ops V (σ 0).tm S m) t=tmp (σ m).tm t
 | 0,_=>rfl
 | m+1,hm=>by
  have a:=Bpo e h m (by omega);have d:ops[m]? = some ops[m]:=cr (by omega);rw[(tr.sd' d).tm,<-Aok d,Ak2];simp only[tmS];split
  ·rw[Ak2,a]
  ·rename_i hs
   rw[a,aF (fun x=>h m (by omega) hs x.1)]
omit tr in
theorem Bir(a:Ax)(h:∀j,i<=j->S j->Bca ops j≠some t):∀m,i<=m->tmp (tmS n ops V a S m) t=tmp (tmS n ops V a S i) t:=by
 intro m;induction m with
 | zero=>
  intro hm;have:i=0:=by omega
  subst this;rfl
 | succ m d=>
  intro hm;by_cases e:i=m+1
  ·subst e;rfl
  ·rw[<-d (by omega)]
   simp only[tmS];split
   ·rename_i hs;rw[Ak2,aF (fun x=>h m (by omega) hs x.1)]
   ·rfl
theorem Bo1(d:i<=ops.size)(h:∀j,j<i->¬S j->(E' j).get q=(E j).get q):∀m,m<=i->hS E E' (σ 0).h.get S m q=(σ m).h.get q
 | 0,_=>rfl
 | m+1,hm=>by
  have a:=Bo1 d h m (by omega);have e:ops[m]? = some ops[m]:=cr (by omega);rw[(tr.sd' e).Bqk];simp only[hS];split
  ·simp only[Al4,a]
  ·rename_i hs
   rw[a,aG (h m (by omega) hs)]
omit tr in
theorem Bn8(a:Nat->Option Ec)(h:∀j,i<=j->S j->(E' j).get q=(E j).get q):∀m,i<=m->hS E E' a S m q=hS E E' a S i q:=by
 intro m;induction m with
 | zero=>
  intro hm;have:i=0:=by omega
  subst this;rfl
 | succ m d=>
  intro hm;by_cases e:i=m+1
  ·subst e;rfl
  ·rw[<-d (by omega)]
   simp only[hS];split
   ·rename_i hs;simp only[Al4];rw[aG (h m (by omega) hs)]
   ·rfl
theorem Azl(h:∀j,j<ops.size->S j):∀m,m<=ops.size->tmS n ops V (σ 0).tm S m=(σ m).tm
 | 0,_=>rfl
 | m+1,hm=>by
  have a:ops[m]? = some ops[m]:=cr (by omega);simp only[tmS];rw[aG (h m (by omega)),Azl h m (by omega),(tr.sd' a).tm,Aok a]
theorem Bp1(h:∀j,j<ops.size->S j)(q:Nat):hS E E' (σ 0).h.get S ops.size q=(σ ops.size).h.get q:=
 Bo1 tr (aE _) (fun j hj hs=>absurd (h j hj) hs) _ (aE _)
omit tr in
theorem Ba1 {a:Ax}(h:∀t,n<=t->a.get t=none)(S:Nat->Prop):∀m t,n<=t->(tmS n ops V a S m).get t=none
 | 0=>h
 | m+1=>by
  simp only[tmS];split
  ·exact Bqp (Ba1 h S m) _ _
  ·exact Ba1 h S m
variable{w0:World}{w:World}
theorem Inv.Bq1(I:Inv n ops bs σ V E E' p0 f0 w0 S f w)(h0:N2 p0 n (σ 0).tm)(hp:∀q,p0 q->q<nx σ 0):∀m,m<=ops.size->N2 (fun q=>pS p0 σ ops.size S q/\q<nx σ m) n (tmS n ops V (σ 0).tm S m)
 | 0,_=>h0.mono fun q a=>⟨.inl a,hp q a⟩
 | m+1,hm=>by
  have d:=Inv.Bq1 I h0 hp m (by omega);have e:=tr.A4l (i:=m) (m:=m+1) (by omega) hm;simp only[tmS];split
  ·rename_i hs
   exact(d.mono fun q a=>⟨a.1,by omega⟩).put _ (I.vok m hs)
  ·exact d.mono fun q a=>⟨a.1,by omega⟩
theorem Inv.hok(I:Inv n ops bs σ V E E' p0 f0 w0 S f w)(h0:Y9 p0 (σ 0).h):∀m,m<=ops.size->∀q x,hS E E' (σ 0).h.get S m q=some x ->
 (pS p0 σ ops.size S q/\q<nx σ m)/\x.ok (fun q=>pS p0 σ ops.size S q/\q<nx σ m)
 | 0,_,q,x,a=>⟨⟨.inl (h0.get q x a).1,h0.lt q (h0.get q x a).1⟩,(h0.get q x a).2.mono fun r d=>⟨.inl d,h0.lt r d⟩⟩
 | m+1,hm,q,x,a=>by
  have j:=tr.A4l (i:=m) (m:=m+1) (by omega) hm;have up:∀{q x},hS E E' (σ 0).h.get S m q=some x->(pS p0 σ ops.size S q/\q<nx σ (m+1))/\x.ok (fun q=>pS p0 σ ops.size S q/\q<nx σ (m+1)):=by
   intro q x a;obtain⟨e,h2⟩:=Inv.hok I h0 m (by omega) q x a;exact⟨⟨e.1,by omega⟩,h2.mono fun r d=>⟨d.1,by omega⟩⟩
  simp only[hS]at a;split at a
  ·rename_i hs
   unfold Al4 at a;split at a
   ·exact up a
   ·exact I.eok m hs q x a
  ·exact up a
end
end
open Classical
section
variable(hT:Uf P T){call:Ah}(hC:Ak3 P call)(hR:Aqx P round){ops:Array Oper}{bs:Tr Nat}
 (tr:Trc T call round n ops.toList bs base σ V E E' K) (hbs:bs=Qw ops.toList 0 .nil) (htm:Aqz ops.toList bs ops.toList 0 []=true)
 {w0:World} {w:World}
include hbs in
theorem Bic(d:i<ops.size):∃b,bs.get i=some b:=by
 have e:ops.toList[i]? = some ops[i]:=by rw[cJ];exact cr d
 obtain⟨b,a,_⟩:=Aqv ops.toList 0 .nil (fun _ _=>rfl) i _ e;rw[bJ]at a;exact⟨b,by rw[hbs];exact a⟩
include hT hC hR tr hbs htm in
theorem Inv.step(I:Inv n ops bs σ V E E' p0 f0 w0 S f w)(h0:N2 p0 n (σ 0).tm)(ah:Y9 p0 (σ 0).h)(hi:i<ops.size)(Q:¬S i){bi:Nat}(aq:bs.get i=some bi)(a7:∀k,bi.testBit k=true->S k)
 {S':Nat->Prop} (C:∀j,S' j↔S j\/j=i) (fb:FB) (rest:List Nat) (k:List Item) (cs:List Frame) :
 ∃f' w',Steps P (lone (fb.at (Bi f n (tmS n ops V (σ 0).tm S ops.size)) (.inRegion ops (i::rest)::k)) cs w) (lone (fb.at (Bi f' n (tmS n ops V (σ 0).tm S' ops.size)) (.inRegion ops rest::k)) cs w') /\
  Inv n ops bs σ V E E' p0 f0 w0 S' f' w':=by
 have ho:ops[i]? = some ops[i]:=cr hi;generalize cp:ops[i]=o at ho;have sd:=tr.sd' ho;have au:∀q,p0 q->q<nx σ 0:=ah.lt;have hlen:ops.toList.length=ops.size:=by simp
 have aj:∀j,j<i->¬S j->bi.testBit j=false:=by
  intro j _ hs;cases hb:bi.testBit j with
  | false=>rfl
  | true=>exact absurd (a7 j hb) hs
 have F:∀j,i<j->S j->∃b,bs.get j=some b/\b.testBit i=false:=by
  intro j hj hs;obtain⟨Y,hd⟩:=I.dn j hs;obtain⟨b,hb⟩:=Bic hbs Y;refine⟨b,hb,?_⟩;cases ba:b.testBit i with
  | false=>rfl
  | true=>exact absurd (hd b hb i ba) Q
 have Y:∀j,S j->j<ops.size:=fun j hs=>(I.dn j hs).1
 have Z:∀j,j<ops.size->∃oj,ops[j]? = some oj/\ops.toList[j]? = some oj:=fun j hj=>⟨ops[j],cr hj,by rw[cJ];exact cr hj⟩
 have aw:ops.toList[i]? = some o:=by rw[cJ];exact ho
 have J:∀t,Bc6 ops.toList o t->tmp (tmS n ops V (σ 0).tm S ops.size) t=tmp (σ i).tm t/\tmp (tmS n ops V (σ 0).tm S i) t=tmp (σ i).tm t:=by
  intro t ht;have e1:tmp (tmS n ops V (σ 0).tm S i) t=tmp (σ i).tm t:=by
   refine Bpo tr (by omega) (fun j hj hs e=>?_) i (aE _);obtain⟨oj,U,h2⟩:=Z j (by omega);rw[Aok U]at e;exact((Ax0 htm h2 aw hj aq (aj j hj hs)).1 t e).2 ht
  refine⟨?_,e1⟩;rw[<-e1];refine Bir _ (fun j hj hs e=>?_) _ (by omega);have aa:i<j:=by
   rcases Nat.lt_or_eq_of_le hj with h|h
   ·exact h
   ·subst h;exact absurd hs Q
  obtain⟨oj,U,h2⟩:=Z j (Y j hs);obtain⟨b,hb,L⟩:=F j aa hs;rw[Aok U]at e;exact(Ax0 htm aw h2 aa hb L).2 t ht e
 have B:∀q x,(E i).get q=some x->hS E E' (σ 0).h.get S i q=some x/\hS E E' (σ 0).h.get S ops.size q=some x:=by
  intro q x A;have e1:hS E E' (σ 0).h.get S i q=some x:=by
   rw[Bo1 tr (by omega) (fun j hj hs=>?_) i (aE _)]
   ·exact sd.sub q x A
   ·exact(tr.pair hj (by omega) aq (aj j hj hs)).2.2 q x A
  refine⟨e1,?_⟩;rw[<-e1];refine Bn8 _ (fun j hj hs=>?_) _ (by omega);have aa:i<j:=by
   rcases Nat.lt_or_eq_of_le hj with h|h
   ·exact h
   ·subst h;exact absurd hs Q
  obtain⟨b,hb,L⟩:=F j aa hs;exact(tr.pair aa (by have:=Y j hs;omega) hb L).2.1 q x A
 have ab:S' i:=(C i).2 (.inr rfl);have u:∀j,j≠i->(S' j↔S j):=fun j hj=>⟨fun h=>((C j).1 h).resolve_right hj,fun h=>(C j).2 (.inl h)⟩
 have ax:∀m,m<=i->tmS n ops V (σ 0).tm S' m=tmS n ops V (σ 0).tm S m:=by
  intro m;induction m with
  | zero=>intro _;rfl
  | succ m W=>
   intro hm;simp only[tmS];rw[W (by omega)];by_cases hs:S m
   ·rw[aG hs,aG ((u m (by omega)).2 hs)]
   ·rw[aF hs,aF (fun h=>hs ((u m (by omega)).1 h))]
 have ay:∀m,m<=i->hS E E' (σ 0).h.get S' m=hS E E' (σ 0).h.get S m:=by
  intro m;induction m with
  | zero=>intro _;rfl
  | succ m W=>
   intro hm;simp only[hS];rw[W (by omega)];by_cases hs:S m
   ·rw[aG hs,aG ((u m (by omega)).2 hs)]
   ·rw[aF hs,aF (fun h=>hs ((u m (by omega)).1 h))]
 have O:∀m,i<m->m<=ops.size->∀t,tmp (tmS n ops V (σ 0).tm S' m) t=tmp (Tj n (tmS n ops V (σ 0).tm S m) o.dst (V i)) t:=by
  intro m;induction m with
  | zero=>intro h;omega
  | succ m W=>
   intro hm bz t;by_cases e:m=i
   ·subst e
    simp only[tmS];rw[aG ab,aF Q,ax _ (aE _),Aok ho]
   ·have W:=W (by omega) (by omega) t
    simp only[tmS];by_cases hs:S m
    ·rw[aG hs,aG ((u m e).2 hs),Ak2,W,Ak2,Ak2,Ak2]
     obtain⟨b,hb,L⟩:=F m (by omega) hs;obtain⟨om,U,h2⟩:=Z m (by omega);have Tw:=(Ax0 htm aw h2 (by omega) hb L).1;rw[Aok U];by_cases c1:om.dst=some t/\t<n
     ·rw[aG c1,aF,aG c1]
      rintro⟨c2,_⟩;exact(Tw t c2).1 c1.1
     ·rw[aF c1,aF c1]
    ·rw[aF hs,aF (fun h=>hs ((u m e).1 h))];exact W
 have ai:∀m,i<m->m<=ops.size->hS E E' (σ 0).h.get S' m=Al4 (E i) (E' i) (hS E E' (σ 0).h.get S m):=by
  intro m;induction m with
  | zero=>intro h;omega
  | succ m W=>
   intro hm bz;by_cases e:m=i
   ·subst e
    simp only[hS];rw[aG ab,aF Q,ay _ (aE _)]
   ·have W:=W (by omega) (by omega)
    simp only[hS];by_cases hs:S m
    ·rw[aG hs,aG ((u m e).2 hs),W]
     obtain⟨b,hb,L⟩:=F m (by omega) hs;have b5:=(tr.pair (i:=i) (m:=m) (by omega) (by omega) hb L).1;funext q;simp only[Al4];rcases b5 q with h|h
     ·rw[aG h,aG h]
     ·rw[aG h,aG h]
    ·rw[aF hs,aF (fun h=>hs ((u m e).1 h))];exact W
 have X:∀q,pS p0 σ ops.size S q->pS p0 σ ops.size S' q:=by
  rintro q (h|⟨j,U,h2⟩)
  ·exact .inl h
  ·exact .inr ⟨j,(C j).2 (.inl U),h2⟩
 have b6:∀q,nx σ i<=q->q<nx σ (i+1)->pS p0 σ ops.size S' q:=fun q U h2=>.inr ⟨i,ab,hi,U,h2⟩
 have ad:∀f' w',(V i).ok (fun q=>pS p0 σ ops.size S' q/\q<nx σ (i+1))->(∀q x,(E' i).get q=some x->(pS p0 σ ops.size S' q/\q<nx σ (i+1))/\x.ok (fun q=>pS p0 σ ops.size S' q/\q<nx σ (i+1))) ->
  Aln p0 f0 (σ 0).h w0 f' (Al4 (E i) (E' i) (hS E E' (σ 0).h.get S ops.size)) w'->Inv n ops bs σ V E E' p0 f0 w0 S' f' w':=by
  intro f' w' U h2 h3;refine⟨fun j hj=>?_,fun j hj=>?_,fun j hj=>?_,?_⟩
  ·rcases(C j).1 hj with hj|rfl
   ·exact⟨Y j hj,fun b hb k hk=>(C k).2 (.inl ((I.dn j hj).2 b hb k hk))⟩
   ·refine⟨hi,fun b hb k hk=>(C k).2 (.inl ?_)⟩
    rw[aq]at hb;cases hb;exact a7 k hk
  ·rcases(C j).1 hj with hj|rfl
   ·exact EV.ok.mono (fun q hq=>⟨X q hq.1,hq.2⟩) _ (I.vok j hj)
   ·exact U
  ·rcases(C j).1 hj with hj|rfl
   ·intro q x A
    obtain⟨a,b⟩:=I.eok j hj q x A;exact⟨⟨X q a.1,a.2⟩,b.mono fun r hr=>⟨X r hr.1,hr.2⟩⟩
   ·exact h2
  ·rw[ai ops.size hi (aE _)];exact h3
 have M:=I.Bq1 tr h0 au ops.size (aE _);have G:Region.wanted o (Go.yielded ops (Bi f n (tmS n ops V (σ 0).tm S ops.size)))=Ev.wanted ops.toList (σ i).tm o.guard:=by
  rw[A7n M];unfold Ev.wanted;cases hg:o.guard with
  | none=>rfl
  | some x=>
   obtain⟨j,want⟩:=x;simp only[];have:Ev.yielded ops.toList (tmS n ops V (σ 0).tm S ops.size) j=Ev.yielded ops.toList (σ i).tm j:=by
    unfold Ev.yielded;rw[A3h];cases hj:ops.toList[j]? with
    | none=>rfl
    | some g=>
     simp only[];cases hd:g.dst with
     | none=>rfl
     | some d=>
      simp only[];have:=(J d (.inr ⟨j,want,g,hg,hj,hd⟩)).1;unfold tmp at this;revert this;cases tmS n ops V (σ 0).tm S ops.size|>.get d with
      | none=>
       cases(σ i).tm.get d with
       | none=>intro _;rfl
       | some v=>intro h;simp only[]at h;rw[<-h]
      | some v=>
       cases(σ i).tm.get d with
       | none=>intro h;simp only[]at h;rw[h]
       | some v'=>intro h;simp only[]at h;rw[h]
   rw[this]
 rcases sd.run with⟨hw,hv,hE⟩|⟨hw,bb⟩
 ·
  refine⟨f,w,.one ?_,ad f w ?_ ?_ ?_⟩
  ·rw[hw]at G
   have:=A2d (P:=P) (b:=fb) (rest:=rest) (k:=k) (cs:=cs) (w:=w) ho G;rw[this,show(undef:Value)=Cr f (V i) by rw[hv];rfl,Amr];rw[Axb f n (fun t=>(O ops.size hi (aE _) t).symm)]
  ·rw[hv];trivial
  ·rw[hE]
   intro q x A;obtain⟨a,b⟩:=I.hok tr ah i (by omega) q x (B q x A).1;have:=tr.A4l (i:=i) (m:=i+1) (by omega) (by omega);exact⟨⟨X q a.1,by omega⟩,b.mono fun r hr=>⟨X r hr.1,by have:=hr.2;omega⟩⟩
  ·have:Al4 (E i) (E' i) (hS E E' (σ 0).h.get S ops.size)=hS E E' (σ 0).h.get S ops.size:=by
    funext q;simp only[Al4];rw[hE,aG rfl]
   rw[this];exact I.mv
 ·have ae:(E i).next=nx σ i:=sd.Ajy
  have af:(E' i).next=nx σ (i+1):=sd.Ak7
  rw[hw]at G;have a0:=I.Bq1 tr h0 au i (by omega);have a1:∀t,n<=t->(σ i).tm.get t=none:=by
   rw[<-Azl tr (S:=fun _=>True) (fun _ _=>trivial) i (by omega)];exact Ba1 h0.out _ i
  have ag:∀x∈o.op.operands,Cm (Ahy (σ i).tm o.op.operands.toList) x=Cm (σ i).tm x:=fun x A=>Bhk _ (dH.2 A)
  have bf:aop T call round (Ahy (σ i).tm o.op.operands.toList) o.op (E i)=some (V i,E' i):=by rw[Bk0 ag];exact bb
  have bj:N2 (fun q=>pS p0 σ ops.size S q/\q<(E i).next) n (Ahy (σ i).tm o.op.operands.toList):=by
   refine Bmy (fun t ht v hv=>?_) a1;have e:=(J t (.inl ht)).2;rw[Bq4 hv]at e;rw[<-e,ae];exact a0.tmp t
  have b8:Y9 (fun q=>pS p0 σ ops.size S q/\q<(E i).next) (E i):=by
   refine⟨fun q hq=>hq.2,fun q x A=>?_⟩;rw[ae];exact I.hok tr ah i (by omega) q x (B q x A).1
  have ca:Y5 f (E i) w:=⟨fun q x A=>I.mv.obj q x (B q x A).2,fun q r x y A hy=>I.mv.inj q r x y (B q x A).2 (B r y hy).2⟩;have cc:execOp (Ks (Bi f n (tmS n ops V (σ 0).tm S ops.size))) o=execOp (Ks (Bi f n (Ahy (σ i).tm o.op.operands.toList))) o:=by
   refine Bd8 o (Bfn bb) fun x A=>?_
   cases x with
   | tmp t=>
    have e1:Ks (Bi f n (tmS n ops V (σ 0).tm S ops.size)) (.tmp t)=Cr f (tmp (tmS n ops V (σ 0).tm S ops.size) t):=Afw f M t;have e2:Ks (Bi f n (Ahy (σ i).tm o.op.operands.toList)) (.tmp t)=Cr f (tmp (Ahy (σ i).tm o.op.operands.toList) t):=Afw f bj t;rw[e1,e2,(J t (.inl (dH.2 A))).1];have e3:=ag _ A;simp only[Cm,cU]at e3;exact congrArg (Cr f) e3.symm
   | const v=>rfl
   | global g=>rfl
   | func g=>rfl
  obtain⟨f1,w1,bk,bn,H,bo⟩:=Bnh hT hC hR bj b8 ca cc bf fb ops i rest k cs ho G;have ao:∀q,pS p0 σ ops.size S q->q<(E i).next\/(E' i).next<=q:=by
   rw[ae,af];rintro q (h|⟨j,U,h2,h3,h4⟩)
   ·left;have:=au q h;have:=tr.A4l (i:=0) (m:=i) (by omega) (by omega);omega
   ·rcases Nat.lt_trichotomy j i with h|h|h
    ·left;have:=tr.A4l (i:=j+1) (m:=i) (by omega) (by omega);omega
    ·subst h;exact absurd U Q
    ·right;have:=tr.A4l (i:=i+1) (m:=j) (by omega) (by omega);omega
  have bp:∀q x,hS E E' (σ 0).h.get S ops.size q=some x->pS p0 σ ops.size S q/\x.ok (pS p0 σ ops.size S):=by
   intro q x A;obtain⟨a,b⟩:=I.hok tr ah ops.size (aE _) q x A;exact⟨a.1,b.mono fun r hr=>hr.1⟩
  have a2:∀q,grow (fun q=>pS p0 σ ops.size S q/\q<(E i).next) (E i) (E' i) q->pS p0 σ ops.size S' q/\q<nx σ (i+1):=by
   rintro q (h|h)
   ·have:=H.next
    rw[ae]at this h;rw[af]at this;exact⟨X q h.1,aK h.2 this⟩
   ·rw[ae,af]at h
    exact⟨b6 q h.1 h.2,h.2⟩
  refine⟨patch (E' i).next f1 f,w1,?_,ad _ _ (EV.ok.mono a2 _ bo) (fun q x A=>?_) (Aln.step I.mv (fun q x A=>(B q x A).2) bp (fun q hq=>.inl hq) bn H ao)⟩
  ·have e1:Cr f1 (V i)=Cr (patch (E' i).next f1 f) (V i):=Ajb (Az5 H) _ bo
   have e2:Bi f n (tmS n ops V (σ 0).tm S ops.size)=Bi (patch (E' i).next f1 f) n (tmS n ops V (σ 0).tm S ops.size):=Nt (A1e bn H ao) (M.mono fun q hq=>hq.1);have e3:Bcf (Bi f n (tmS n ops V (σ 0).tm S ops.size)) o.dst (Cr f1 (V i))=Bi (patch (E' i).next f1 f) n (tmS n ops V (σ 0).tm S' ops.size):=by
    rw[e1,e2,Amr];exact Axb _ n (fun t=>(O ops.size hi (aE _) t).symm)
   rw[e3]at bk;exact bk
  ·obtain⟨a,b⟩:=H.hok.get q x A
   exact⟨a2 q a,b.mono a2⟩
theorem A2g(e:Edge):Af0 e=Region.binds .any e:=by
 unfold Af0 Region.binds;split<;>simp_all
def unl(listed:Array Bool)(N:Nat):List Nat:=(List.range N).filter fun i=>!listed.getD i true
theorem Bs0{N:Nat}(d:listed.size=N)(a:i<N)(k:listed.getD i true=false):(unl (listed.setIfInBounds i true) N).length<(unl listed N).length:=by
 have e:unl (listed.setIfInBounds i true) N=(unl listed N).filter (fun j=>j != i):=by
  unfold unl;rw[List.filter_filter];apply List.filter_congr;intro j hj;rw[dG]at hj;by_cases h:i=j
  ·subst h
   simp[d,a]
  ·rw[getD_set_ne _ h]
   have:(j != i)=true:=by simp[cV h]
   rw[this];simp
 rw[e];refine List.length_filter_lt_length_iff_exists.2 ⟨i,?_,by simp⟩;unfold unl;rw[dU,dG];exact⟨a,by simp only[k];rfl⟩
include hT hC hR tr hbs htm in
theorem Bos(U:Atn ops.toList 0=true)(h0:N2 p0 n (σ 0).tm)(W:Y9 p0 (σ 0).h)(X:FB)(k:List Item)(cs:List Frame):∀(fuel t:Nat) (listed:Array Bool) (f:Loc) (w:World),listed.size=ops.size->(unl listed ops.size).length<=fuel ->
 Inv n ops bs σ V E E' p0 f0 w0 (fun j=>listed.getD j false=true) f w ->
 ∃f' w',Steps P (lone (X.at (Bi f n (tmS n ops V (σ 0).tm (fun j=>listed.getD j false=true) ops.size)) (.inRegion ops (Region.linearise.go .any ops fuel t listed [])::k)) cs w)
  (lone (X.at (Bi f' n (σ ops.size).tm) (.inRegion ops []::k)) cs w') /\
  ∃S,(∀j,j<ops.size->S j)/\Inv n ops bs σ V E E' p0 f0 w0 S f' w':=by
 have B:∀listed:Array Bool,listed.size=ops.size->(unl listed ops.size).length=0->∀j,j<ops.size->listed.getD j false=true:=by
  intro listed C Y j hj;have:j ∉ unl listed ops.size:=by rw[cR.1 Y];simp
  unfold unl at this;rw[dU,dG]at this;have h2:(!listed.getD j true)=false:=by
   cases h:(!listed.getD j true)with
   | false=>rfl
   | true=>exact absurd ⟨hj,h⟩ this
  have d:j<listed.size:=by omega
  simp[Array.getD,d]at h2⊢;exact h2
 intro fuel;induction fuel with
 | zero=>
  intro t listed f w C hf I;have hs:=B listed C (by omega);refine⟨f,w,?_,_,hs,I⟩;simp only[Region.linearise.go,List.reverse_nil];rw[Azl tr hs _ (aE _)];exact .refl _ _
 | succ fuel ih=>
  intro t listed f w C hf I;simp only[Region.linearise.go];have Z:((List.range ops.size).filter fun i=>!listed.getD i true&&((ops[i]?).map (·.after.all fun e=>!Region.binds .any e||listed.getD e.on false)).getD false)=Region.ready .any ops listed:=rfl;rw[Z];split
  ·rename_i i hi
   have u:i∈Region.ready .any ops listed:=bY hi;obtain⟨F,o,J,aa⟩:=mem_ready.1 u;have A:i<ops.size:=(cP.1 J).1;have ab:¬(listed.getD i false=true):=by
    have d:i<listed.size:=by omega
    simp[Array.getD,d]at F⊢;exact F
   obtain⟨bi,L⟩:=Bic hbs A;have G:ops.toList[i]? = some o:=by rw[cJ];exact J
   obtain⟨b',h1,h2⟩:=Aqv ops.toList 0 .nil (fun _ _=>rfl) i o G;rw[bJ,<-hbs,L]at h1;cases h1;have M:∀j,bi.testBit j=true->listed.getD j false=true:=by
    intro j hj;obtain⟨e,he,hb,ad⟩:=h2 j hj;have O:=aa e (dH.1 he) (by rw[<-A2g];exact hb);rcases ad with rfl|⟨y,hy,ae⟩
    ·exact O
    ·rw[<-hbs]at hy
     exact(I.dn e.on O).2 y hy j ae
   rw[linearise_go_acc];have af:∀j,(listed.setIfInBounds i true).getD j false=true↔listed.getD j false=true\/j=i:=by
    intro j;by_cases h:i=j
    ·subst h
     have:(listed.setIfInBounds i true).getD i false=true:=by simp[C,A]
     simp[this]
    ·rw[getD_set_ne _ h]
     constructor
     ·exact .inl
     ·rintro(h'|h')
      ·exact h'
      ·exact absurd h'.symm h
   obtain⟨f1,w1,ag,I1⟩:=I.step hT hC hR tr hbs htm h0 W A ab L M (S':=fun j=>(listed.setIfInBounds i true).getD j false=true) af X (Region.linearise.go .any ops fuel (t/(Region.ready .any ops listed).length) (listed.setIfInBounds i true) []) k cs;obtain⟨f2,w2,ah,ai⟩:=ih (t/(Region.ready .any ops listed).length) (listed.setIfInBounds i true) f1 w1 (by simpa using C) (by have:=Bs0 C A F;omega) I1;exact⟨f2,w2,ag.trans ah,ai⟩
  ·rename_i H
   have Y:(unl listed ops.size).length=0:=by
    cases hc:unl listed ops.size with
    | nil=>rfl
    | cons a l=>
     exfalso;have hex:∃j,j<ops.size/\listed.getD j true=false:=by
      have:a∈unl listed ops.size:=by rw[hc];exact aX
      unfold unl at this;rw[dU,dG]at this;exact⟨a,this.1,by simpa using this.2⟩
     have Q:∀N,∀j,j<N->j<ops.size->listed.getD j true=false->∃i,i<ops.size/\listed.getD i true=false/\∀k,k<i->listed.getD k true=true:=by
      intro N;induction N with
      | zero=>intro j h;omega
      | succ N aj=>
       intro j hj al ao;by_cases hk:∃k,k<j/\listed.getD k true=false
       ·obtain⟨k,bj,aq⟩:=hk
        exact aj k (by omega) (by omega) aq
       ·refine⟨j,al,ao,fun k au=>?_⟩
        cases h:listed.getD k true with
        | true=>rfl
        | false=>exact absurd ⟨k,au,h⟩ hk
     obtain⟨j,aw,ax⟩:=hex;obtain⟨i,ay,az,a0⟩:=Q (j+1) j (by omega) aw ax;have J:ops[i]? = some ops[i]:=cr ay;have G:ops.toList[i]? = some ops[i]:=by rw[cJ];exact J
     have u:i∈Region.ready .any ops listed:=mem_ready.2 ⟨az,_,J,fun e he hb=>by
      have bk:=A2h ops.toList 0 U i _ G e (dH.2 he) (by rw[A2g];exact hb);have:=a0 e.on (by omega);have d:e.on<listed.size:=by omega
      simp[Array.getD,d]at this⊢;exact this⟩
     have hlen:0<(Region.ready .any ops listed).length:=List.length_pos_of_mem u;rw[List.getElem?_eq_none_iff]at H;have:=Nat.mod_lt t hlen;omega
   have hs:=B listed C Y;refine⟨f,w,?_,_,hs,I⟩;simp only[List.reverse_nil];rw[Azl tr hs _ (aE _)];exact .refl _ _
end
end Go.Ev
