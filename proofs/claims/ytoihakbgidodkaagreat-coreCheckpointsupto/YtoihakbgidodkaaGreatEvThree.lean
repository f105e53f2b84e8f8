import Derived.Test.YtoihakbgidodkaaGreatEvOne
import Derived.Orders
import Derived.Laws.StructEq
import Derived.ChangeKeysEq
import Derived.KernelRfl
import Derived.Below
set_option linter.all false
namespace Go.Ev
noncomputable section
variable {x fo:Operand}{T:I5}{op:Op}{h h' h0 hp:Ab}{round:Ah}{S p p0:Nat->Prop}{d i m n q fn id off base:Nat}{tm f_ ly:Ba}{t:TypeId}{v:EV}{a:Ajg}{o:Oper}{s':Hz}{f f0 f1:Loc}{g:Nat->Option Ds}{listed:Array Bool}{E E':Nat->Ab}{P:Program}{w':World}{pd pd0 jump:Option Code}{k todo je:List Item}{caller:Frame}{cs:List Frame}{α:Type}{ps:List Tmp}{dT body:Code}{ds:List Nat}{Dr:Option Nat}{tmps:Array Value}{args first captured:List EV}{eqs:List (Nat × List Nat)}{V:Nat->EV}{σ:Nat->iP}
section
theorem sj:∀{l:List Operand},(∀x∈l,Cg tm x=Cg f_ x)->Nj tm l=Nj f_ l
 | [],_=>rfl
 | x::r,h=>by simp only[Nj];rw[h x aW,sj fun y e=>h y (aV _ e)]
theorem yo:∀{l:List (Nat × Operand)},(∀x∈l,Cg tm x.2=Cg f_ x.2)->Zq tm l=Zq f_ l
 | [],_=>rfl
 | (i,x)::r,h=>by simp only[Zq];rw[h (i,x) aW,yo fun y e=>h y (aV _ e)]
theorem yp {x:Option Operand}(h:∀y,x=some y->Cg tm y=Cg f_ y):jd tm x=jd f_ x:=by
 cases x with
 | none=>rfl
 | some y=>simp only[jd];rw[h y rfl]
theorem Bca(h:∀x∈op.operands,Cg tm x=Cg f_ x):E6 T tm op=E6 T f_ op:=by
 cases op with
 | build t ps=>
  have:Zq tm ps.toList=Zq f_ ps.toList:=yo fun x e=>h x.2 (by
   simp only[Op.operands,List.mem_toArray,b9];exact⟨x,e,rfl⟩)
  simp only[E6,this]
 | makeFunc fn a b=>
  have A:Nj tm a.toList=Nj f_ a.toList:=sj fun x e=>h x (by simp only[Op.operands,Array.mem_append];exact .inl (dE.1 e))
  have h2:Nj tm b.toList=Nj f_ b.toList:=sj fun x e=>h x (by simp only[Op.operands,Array.mem_append];exact .inr (dE.1 e))
  cases fn<;>simp only[E6,A,h2]
 | slice t x B C F=>
  have h0:Cg tm x=Cg f_ x:=h x (by simp[Op.operands]);have A:jd tm B=jd f_ B:=yp fun y j=>h y (by subst j;simp[Op.operands])
  have h2:jd tm C=jd f_ C:=yp fun y j=>h y (by subst j;simp[Op.operands])
  have G:jd tm F=jd f_ F:=yp fun y j=>h y (by subst j;simp[Op.operands])
  simp only[E6,h0,A,h2,G]
 | unOp u t x=>
  have h0:Cg tm x=Cg f_ x:=h x (by simp[Op.operands]);cases u<;>simp only[E6,h0]
 | pick c a b=>simp only[E6,h c (by simp[Op.operands]),h a (by simp[Op.operands]),h b (by simp[Op.operands])]
 | binOp op t x y u=>simp only[E6,h x (by simp[Op.operands]),h y (by simp[Op.operands])]
 | indexAddr t x y=>simp only[E6,h x (by simp[Op.operands]),h y (by simp[Op.operands])]
 | index t x y=>simp only[E6,h x (by simp[Op.operands]),h y (by simp[Op.operands])]
 | move x=>simp only[E6,h x (by simp[Op.operands])]
 | assign x=>simp only[E6,h x (by simp[Op.operands])]
 | nilCheck x=>simp only[E6,h x (by simp[Op.operands])]
 | fieldAddr s x H=>simp only[E6,h x (by simp[Op.operands])]
 | field s x H=>simp only[E6,h x (by simp[Op.operands])]
 | convert s d x=>simp only[E6,h x (by simp[Op.operands])]
 | extract x ix=>simp only[E6,h x (by simp[Op.operands])]
 | sliceToArrayPointer t x=>simp only[E6,h x (by simp[Op.operands])]
 | _=>rfl
theorem Ba7(h:∀x∈op.operands,Cg tm x=Cg f_ x):Dx T tm op hp=Dx T f_ op hp:=by
 cases op with
 | buildSlice t m ps=>
  have:Zq tm ps.toList=Zq f_ ps.toList:=yo fun x j=>h x.2 (by
   simp only[Op.operands,List.mem_toArray,b9];exact⟨x,j,rfl⟩)
  simp only[Dx,this]
 | call c=>
  obtain⟨callee,args,A⟩:=c;cases callee with
  | builtin b=>
   have u:Nj tm args.toList=Nj f_ args.toList:=sj fun x j=>h x (by simp only[Op.operands,Call.operands,Array.mem_append];exact .inr (dE.1 j))
   simp only[Dx,u]
  | _=>rfl
 | select cs bl=>
  cases bl with
  | true=>rfl
  | false=>
   simp only[Dx];split
   next c B=>
    have e:c∈cs:=dE.1 (by rw[B];exact aW);have u:Cg tm c.chan=Cg f_ c.chan:=h c.chan (by
     simp only[Op.operands,Array.mem_flatMap];exact⟨c,e,by simp⟩)
    have h2:∀y,c.send=some y->Cg tm y=Cg f_ y:=fun y C=>h y (by
     simp only[Op.operands,Array.mem_flatMap];exact⟨c,e,by simp[C]⟩)
    rw[u];cases hs:c.send with
    | none=>
     cases Cg f_ c.chan with
     | none=>rfl
     | some v=>cases v<;>rfl
    | some y=>
     cases Cg f_ c.chan with
     | none=>rfl
     | some v=>cases v<;>first|rfl|(simp only[h2 y hs])
   ·rfl
 | makeMap t r=>cases r<;>rfl
 | load t x=>simp only[Dx,h x (by simp[Op.operands])]
 | store t a x=>simp only[Dx,h a (by simp[Op.operands]),h x (by simp[Op.operands])]
 | alloc t=>rfl
 | box t x=>simp only[Dx,h x (by simp[Op.operands])]
 | makeSlice t a x=>simp only[Dx,h a (by simp[Op.operands]),h x (by simp[Op.operands])]
 | makeChan t x=>simp only[Dx,h x (by simp[Op.operands])]
 | lookup t a x ok=>simp only[Dx,h a (by simp[Op.operands]),h x (by simp[Op.operands])]
 | mapUpdate t a x y=>simp only[Dx,h a (by simp[Op.operands]),h x (by simp[Op.operands]),h y (by simp[Op.operands])]
 | _=>rfl
theorem Bgy{call:Ah}(h:∀x∈op.operands,Cg tm x=Cg f_ x):aop T call round tm op hp=aop T call round f_ op hp:=by
 unfold aop;rw[Bca h];congr 1;split
 next f args e=>
  have h0:Cg tm f=Cg f_ f:=h f (by simp[Op.operands,Call.operands]);have j:Nj tm args.toList=Nj f_ args.toList:=sj fun x u=>h x (by simp only[Op.operands,Call.operands,Array.mem_append];exact .inr (dE.1 u))
  rw[h0,j]
 ·exact Ba7 h
theorem Bau {A j:Operand->Value}(o:Oper)(u:∀cs b,o.op=.select cs b->∃c,cs = #[c])(h:∀x∈o.op.operands,A x=j x):execOp A o=execOp j o:=by
 by_cases hs:∃cs b,o.op=.select cs b
 ·obtain⟨cs,b,B⟩:=hs
  obtain⟨c,rfl⟩:=u cs b B;rw[B]at h;have C:A c.chan=j c.chan:=h _ (by simp[Op.operands]);have h2:c.send.map A=c.send.map j:=by
   cases hs:c.send with
   | none=>rfl
   | some y=>simp only[eA];rw[h y (by simp[Op.operands,hs])]
  simp only[execOp,B];simp[C,h2]
 ·exact execOp_congr o (fun cs b e=>hs ⟨cs,b,e⟩) h
def jm(tm:Ba):List Operand->Ba
 | []=>.nil
 | .tmp t::r=>(jm tm r).put t (tm.get t)
 | _::r=>jm tm r
open Classical in
theorem oP(tm:Ba):∀(l:List Operand) (t:Nat),(jm tm l).get t=if .tmp t∈l then tm.get t else none
 | [],t=>by simp[jm,Tr.get_nil]
 | .tmp u::r,t=>by
  simp only[jm,Tr.get_put,oP tm r t,bc,Operand.tmp.injEq];by_cases h:u=t
  ·subst h;simp
  ·rw[aK h];simp[cn h]
 | .const v::r,t=>by simp only[jm,oP tm r t,bc,reduceCtorEq,false_or]
 | .global v::r,t=>by simp only[jm,oP tm r t,bc,reduceCtorEq,false_or]
 | .func v::r,t=>by simp only[jm,oP tm r t,bc,reduceCtorEq,false_or]
theorem Bbe(tm:Ba){l:List Operand}(e:x∈l):Cg (jm tm l) x=Cg tm x:=by
 cases x with
 | tmp t=>simp only[Cg];rw[oP,aN e]
 | const v=>rfl
 | global v=>rfl
 | func v=>rfl
theorem Bjm{l:List Operand}(h:∀t,.tmp t∈l->∀v,tm.get t=some v->v.ok p)(j:∀t,n<=t->tm.get t=none):Lv p n (jm tm l) where
 ok t v e:=by
  rw[oP]at e;split at e
  next hm=>exact h t hm v e
  ·cases e
 out t u:=by
  rw[oP];split
  ·exact j t u
  ·rfl
theorem Bod(F:Cg tm x=some (.ptr q off))(j:Dx T tm (.load t x) h=some (v,h')):
 ∃o,h.get q=some o/\∀h2:Ab,h2.get q=some o->Dx T tm (.load t x) h2=some (v,h2):=by
 have u:∀n l,Jn h q off n=some l->∃o,h.get q=some o/\∀h2:Ab,h2.get q=some o->Jn h2 q off n=some l:=by
  intro n l y;cases C:h.get q with
  | none=>simp[Jn,C]at y
  | some o=>exact⟨o,rfl,fun h2 e=>by unfold Jn at y⊢;rw[e];rw[C]at y;exact y⟩
 simp only[Dx,F]at j⊢;split at j
 next G=>
  split at j
  next n H=>
   split at j
   next l y=>
    cases j;obtain⟨o,A,h2⟩:=u n l y;exact⟨o,A,fun B e=>by simp only[h2 B e]⟩
   ·cases j
  ·cases j
 next G=>
  split at j
  next l y=>
   cases j;obtain⟨o,A,h2⟩:=u 1 _ y;exact⟨o,A,fun B e=>by simp only[h2 B e]⟩
  ·cases j
 ·cases j
theorem Blq{a:Operand}(C:Cg tm a=some (.ptr q off))(j:Dx T tm (.store t a x) h=some (v,h')):
 ∃o o',h.get q=some o/\h'=h.put q o'/\∀h2:Ab,h2.get q=some o->Dx T tm (.store t a x) h2=some (v,h2.put q o'):=by
 have hw:∀vs h',Mx h q off vs=some h'->∃o o',h.get q=some o/\h'=h.put q o'/\∀h2:Ab,h2.get q=some o->Mx h2 q off vs=some (h2.put q o'):=by
  intro vs h' u;unfold Mx at u;split at u
  next l F y=>
   split at u
   next l' hs=>
    cases u;exact⟨_,_,y,rfl,fun h2 e=>by unfold Mx;rw[e];simp only[hs]⟩
   ·cases u
  next l F sz y=>
   split at u
   next l' hs=>
    cases u;exact⟨_,_,y,rfl,fun h2 e=>by unfold Mx;rw[e];simp only[hs]⟩
   ·cases u
  ·cases u
 simp only[Dx,C]at j⊢;split at j
 next L B M O e1 e2 e3=>
  cases e1;obtain⟨c1,j⟩:=Ap j;obtain⟨c2,j⟩:=Ap j;split at j
  next Q A=>
   cases j;obtain⟨o,o',G,H,J⟩:=hw _ _ A;refine⟨o,o',G,H,fun h2 e=>?_⟩;simp only[c1,c2,Aj,J h2 e]
  ·cases j
 ·cases j
theorem QJ(h:mo op=true):∃b args e,op=.call { callee:=.builtin b,args,argTypes:=e }/\(b=.len\/b=.min\/b=.max):=by
 cases op with
 | call c=>
  obtain⟨callee,args,e⟩:=c;cases callee with
  | builtin b=>cases b<;>first|(cases h;done)|exact⟨_,_,_,rfl,by simp⟩
  | _=>cases h
 | _=>cases h
theorem OJ(hp:mo op=true)(e:Dx T tm op h=some (v,h')):h'=h:=by
 obtain⟨b,args,j,rfl,hb⟩:=QJ hp;simp only[Dx]at e;split at e
 next as has=>
  rcases hb with rfl|rfl|rfl
  ·match as,e with
   | [x],e=>
    simp only[builtin]at e
    repeat' split at e
    all_goals first|(cases e;done)|(cases e;rfl)
   | [],e=>cases e
   | _::_::_,e=>cases e
  ·match as,e with
   | x::l,e=>
    cases x<;>first|(cases e;done)|skip
    simp only[builtin]at e;split at e
    ·cases e;rfl
    ·cases e
   | [],e=>cases e
  ·match as,e with
   | x::l,e=>
    cases x<;>first|(cases e;done)|skip
    simp only[builtin]at e;split at e
    ·cases e;rfl
    ·cases e
   | [],e=>cases e
 ·cases e
theorem xN{call:Ah}(hp:mo op=true):aop T call round tm op h=Dx T tm op h:=by
 obtain⟨b,args,e,rfl,hb⟩:=QJ hp;rfl
theorem rN(b c:Bool):Bb b k_.val (Bb c .pur .big)≠.new/\Bb b k_.val (Bb c .pur .big)≠.load/\Bb b k_.val (Bb c .pur .big)≠.sto:=by
 cases b<;>cases c<;>exact⟨fun h=>(by cases h),fun h=>(by cases h),fun h=>(by cases h)⟩
theorem xR(h:cls op=.new):(∃t,op=.alloc t)\/(∃t x,op=.box t x)\/(∃t n ps,op=.buildSlice t n ps)\/(∃t a b,op=.makeSlice t a b)\/(∃t r,op=.makeMap t r)\/(∃t x,op=.makeChan t x):=by
 cases op<;>first
  | (rename_i c;exact absurd (show Bb false k_.val (Bb (mo (.call c)) .pur .big)=.new from h) (rN _ _).1)
  | exact absurd h (rN _ _).1
  | (cases h;done)
  | exact .inl ⟨_,rfl⟩|exact .inr (.inl ⟨_,_,rfl⟩)|exact .inr (.inr (.inl ⟨_,_,_,rfl⟩))|exact .inr (.inr (.inr (.inl ⟨_,_,_,rfl⟩)))
  | exact .inr (.inr (.inr (.inr (.inl ⟨_,_,rfl⟩))))|exact .inr (.inr (.inr (.inr (.inr ⟨_,_,rfl⟩))))
theorem Brl(A:cls op=.new)(j:Dx T tm op h=some (v,h')):
 ∃o,h'=h.new o/\∀h2:Ab,h2.next=h.next->Dx T tm op h2=some (v,h2.new o):=by
 rcases xR A with⟨t,rfl⟩|⟨t,x,rfl⟩|⟨t,n,ps,rfl⟩|⟨t,a,b,rfl⟩|⟨t,r,rfl⟩|⟨t,x,rfl⟩
 ·simp only[Dx]at j⊢
  split at j
  ·cases j;exact⟨_,rfl,fun h2 e=>by rw[e]⟩
  ·cases j
 ·simp only[Dx]at j⊢
  split at j
  ·obtain⟨y,u⟩:=Ap j
   cases u;exact⟨_,rfl,fun h2 e=>by rw[y,e];rfl⟩
  ·cases j
 ·simp only[Dx]at j⊢
  split at j
  ·split at j
   ·obtain⟨y,u⟩:=Ap j
    split at u
    next C=>
     cases u;exact⟨_,rfl,fun h2 e=>by rw[y,e];rfl⟩
    ·cases u
   ·cases j
  ·cases j
 ·simp only[Dx]at j⊢
  split at j
  ·split at j
   ·obtain⟨y,u⟩:=Ap j
    obtain⟨h4,B⟩:=Ap u;cases B;exact⟨_,rfl,fun h2 e=>by rw[y,h4,e];rfl⟩
   ·cases j
  ·cases j
 ·cases r with
  | none=>cases j;exact⟨_,rfl,fun h2 e=>by simp only[Dx,e]⟩
  | some r=>cases j
 ·simp only[Dx]at j⊢
  split at j
  ·split at j
   ·obtain⟨y,u⟩:=Ap j
    cases u;exact⟨_,rfl,fun h2 e=>by rw[y,e];rfl⟩
   ·cases j
  ·cases j
end
theorem Ij(i j:Nat):(Nat.shiftLeft 1 i).testBit j=decide (i=j):=by
 have:Nat.shiftLeft 1 i=2^i:=by
  have:=Nat.one_shiftLeft i;exact this
 rw[this,Nat.testBit_two_pow]
theorem Of(a b j:Nat):(Nat.lor a b).testBit j=(a.testBit j||b.testBit j):=Nat.testBit_or a b j
theorem yq(a b j:Nat):(Nat.land a b).testBit j=(a.testBit j&&b.testBit j):=Nat.testBit_and a b j
theorem yr {x b:Nat}(h:within x b=true){j:Nat}(hj:x.testBit j=true):b.testBit j=true:=by
 have e:Nat.land x b=x:=aJ h;rw[<-e,yq]at hj;simpa using(Bool.and_eq_true_iff.1 hj).2
theorem A5x {b:Nat}(h:b.testBit i=false):within (Nat.shiftLeft 1 i) b=false:=by
 cases hw:within (Nat.shiftLeft 1 i) b with
 | false=>rfl
 | true=>rw[yr hw (j:=i) (by rw[Ij];simp)]at h;cases h
theorem QK {x y:Nat}(h:Nat.land x y=0){t:Nat}(e:x.testBit t=true):y.testBit t=false:=by
 have:(Nat.land x y).testBit t=false:=by rw[h];exact dU t
 rw[yq,e]at this;simpa using this
theorem Bnq {x y:Nat}(h:Nat.lor x y=0):x=0/\y=0:=by
 have e:∀t,x.testBit t=false/\y.testBit t=false:=by
  intro t;have:(Nat.lor x y).testBit t=false:=by rw[h];exact dU t
  rw[Of]at this;simpa using this
 exact⟨Nat.eq_of_testBit_eq fun t=>by rw[(e t).1,dU],Nat.eq_of_testBit_eq fun t=>by rw[(e t).2,dU]⟩
theorem QL(bs:Tr Nat):∀(l:List Edge) (x:Nat) (j:Nat),(pW bs l x).testBit j=true ->
 x.testBit j=true\/∃e∈l,nv e=true/\(j=e.on\/∃y,bs.get e.on=some y/\y.testBit j=true)
 | [],x,j,h=>.inl h
 | e::r,x,j,h=>by
  simp only[pW]at h;rcases QL bs r _ j h with h|⟨e',he,u,h2⟩
  ·rw[Br]at h
   split at h
   next hb=>
    rw[Of,Of,Ij]at h;simp only[Bool.or_eq_true,av]at h;rcases h with h|h|h
    ·exact .inl h
    ·exact .inr ⟨e,aW,hb,.inl h.symm⟩
    ·refine .inr ⟨e,aW,hb,.inr ?_⟩
     split at h
     next y A=>exact⟨y,A,h⟩
     ·rw[dU]at h;cases h
   ·exact .inl h
  ·exact .inr ⟨e',aV _ he,u,h2⟩
theorem QM(l:List Oper):∀(i:Nat) (bs:Tr Nat) (j:Nat),j<i->(O7 l i bs).get j=bs.get j:=by
 induction l with
 | nil=>intros;rfl
 | cons o r e=>
  intro i bs j hj;simp only[O7];rw[e _ _ _ (fP hj),Tr.Ae _ _ a_]
theorem xQ(l:List Oper):∀(i:Nat) (bs:Tr Nat),(∀j,i<=j->bs.get j=none)->∀(k:Nat) (o:Oper),l[k]? = some o ->
 ∃b,(O7 l i bs).get (i+k)=some b/\∀j,b.testBit j=true->∃e∈o.after.toList,nv e=true/\(j=e.on\/∃y,(O7 l i bs).get e.on=some y/\y.testBit j=true):=by
 induction l with
 | nil=>intro i bs _ k o h;simp at h
 | cons o' r B=>
  intro i bs A k o h;simp only[O7];cases k with
  | zero=>
   simp only[bR,cV]at h;subst h;refine⟨pW bs o'.after.toList 0,?_,fun j hj=>?_⟩
   ·rw[dI,QM _ _ _ _ a_,Tr.Af]
   ·rcases QL bs _ _ j hj with h|⟨e,he,C,h2⟩
    ·rw[dU]at h;cases h
    ·refine⟨e,he,C,h2.imp id ?_⟩
     rintro⟨y,u,hj⟩;have:e.on<i:=by
      cases dJ e.on i with
      | inl h=>exact h
      | inr h=>rw[A _ h]at u;cases u
     exact⟨y,by rw[QM _ _ _ _ a_,Tr.Ae _ _ a_];exact u,hj⟩
  | succ k=>
   have:=B (i+1) (bs.put i (some (pW bs o'.after.toList 0))) (fun j hj=>by rw[Tr.Ae _ _ a_];exact A j a_) k o (by simpa using h);rw[show i+1+k=i+(k+1) from a_]at this;exact this
theorem Xl:∀(l:List Operand) (x t:Nat),(my l x).testBit t=true↔x.testBit t=true\/.tmp t∈l
 | [],x,t=>by simp[my]
 | .tmp u::r,x,t=>by
  simp only[my];rw[Xl r,Of,Ij];simp only[Bool.or_eq_true,av,bc,Operand.tmp.injEq];constructor
  ·rintro((h|h)|h)
   ·exact .inl h
   ·exact .inr (.inl h.symm)
   ·exact .inr (.inr h)
  ·rintro(h|h|h)
   ·exact .inl (.inl h)
   ·exact .inl (.inr h.symm)
   ·exact .inr h
 | .const v::r,x,t=>by simp only[my];rw[Xl r];simp
 | .global v::r,x,t=>by simp only[my];rw[Xl r];simp
 | .func v::r,x,t=>by simp only[my];rw[Xl r];simp
theorem uV(o:Oper)(t:Nat):(ny o).testBit t=true↔o.dst=some t:=by
 unfold ny;cases o.dst with
 | none=>simp
 | some d=>simp only[Ij,av,cV]
def sk(ops:List Oper)(o:Oper)(t:Nat):Prop:=.tmp t∈o.op.operands.toList\/∃j want g,o.guard=some (j,want)/\ops[j]? = some g/\g.dst=some t
theorem QN(ops:List Oper)(o:Oper)(t:Nat):(oJ ops o).testBit t=true↔sk ops o t:=by
 unfold oJ sk;rw[Of,Bool.or_eq_true,Xl,dU];apply or_congr
 ·simp
 ·cases y:o.guard with
  | none=>simp
  | some x=>
   obtain⟨j,want⟩:=x;simp only[uL,cV,fC];cases hj:ops[j]? with
   | none=>
    simp only[dU,aT,false_iff];rintro⟨e,w',g,⟨rfl,_⟩,h2,_⟩;rw[hj]at h2;cases h2
   | some g=>
    simp only[];rw[uV];constructor
    ·intro h;exact⟨j,want,g,⟨rfl,rfl⟩,hj,h⟩
    ·rintro⟨e,w',A,⟨rfl,_⟩,h2,u⟩
     rw[hj]at h2;cases h2;exact u
theorem QO(u l' b:Nat):∀(ms:List (Nat × Nat)) (j k d l:Nat),rP u l' b ms j=true->ms[k]? = some (d,l)->uG (j+k) d l u l' b=true
 | [],_,_,_,_,_,h=>by simp at h
 | (d,l)::r,j,0,d0,l0,h,e=>by
  simp only[bR,cV,fC]at e;simp only[rP]at h;rw[Br]at h;split at h
  next hp=>rw[<-e.1,<-e.2];exact hp
  ·cases h
 | (d,l)::r,j,k+1,d0,l0,h,e=>by
  simp only[rP]at h;rw[Br]at h;split at h
  ·have:=QO u l' b r (j+1) k d0 l0 h (by simpa using e)
   rw[show j+1+k=j+(k+1) from a_]at this;exact this
  ·cases h
theorem QP(ops:List Oper)(bs:Tr Nat):∀(l:List Oper) (i:Nat) (ms:List (Nat × Nat)),mj ops bs l i ms=true->ms.length=i->∀k o,l[k]? = some o ->
 ∃b,bs.get (i+k)=some b/\∀j d l',(ms++l.map fun o=>(ny o,oJ ops o))[j]? = some (d,l')->j<i+k->uG j d l' (ny o) (oJ ops o) b=true
 | [],_,_,_,_,_,_,h=>by simp at h
 | o'::r,i,ms,h,hm,0,o,e=>by
  simp only[bR,cV]at e;subst e;simp only[mj]at h;split at h
  next b hb=>
   rw[Br]at h;split at h
   next hp=>
    refine⟨b,hb,fun j d l' hj u=>?_⟩;have:ms[j]? = some (d,l'):=by rw[cI a_]at hj;exact hj
    have:=QO _ _ _ ms 0 j d l' hp this
    rwa [bI]at this
   ·cases h
  ·cases h
 | o'::r,i,ms,h,hm,k+1,o,e=>by
  simp only[mj]at h;split at h
  next b hb=>
   rw[Br]at h;split at h
   ·obtain⟨y,A,h2⟩:=QP ops bs r (i+1) _ h (by simp[hm]) k o (by simpa using e)
    refine⟨y,by rw[<-A];congr 1;omega,fun j d l' hj u=>h2 j d l' ?_ a_⟩;rw[bQ];simpa using hj
   ·cases h
  ·cases h
theorem ys {ops:List Oper}{bs:Tr Nat}(h:mj ops bs ops 0 []=true){y j:Oper}(C:ops[i]? = some y)(hm:ops[m]? = some j)(F:i<m){b:Nat}(hb:bs.get m=some b)(G:b.testBit i=false):
 (∀t,y.dst=some t->j.dst≠some t/\¬sk ops j t)/\(∀t,sk ops y t->j.dst≠some t):=by
 obtain⟨L,A,h2⟩:=QP ops bs ops 0 [] h rfl m j hm;rw[bI]at A;rw[hb]at A;cases A;have:=h2 i (ny y) (oJ ops y) (by simp[C]) a_;unfold uG at this;have H:Nat.beq (Nat.land b (Nat.shiftLeft 1 i)) 0=true:=by
  have:Nat.land b (Nat.shiftLeft 1 i)=0:=Nat.eq_of_testBit_eq fun t=>by
   rw[yq,Ij,dU];by_cases e:i=t
   ·subst e;simp[G]
   ·simp[e]
  rw[this];rfl
 rw[H,Aj]at this;obtain⟨z1,J⟩:=Bnq (aJ this);refine⟨fun t B=>?_,fun t B hd=>?_⟩
 ·have u:=QK z1 ((uV y t).2 B)
  rw[Of,Bool.or_eq_false_iff]at u;refine⟨fun e=>?_,fun e=>?_⟩
  ·rw[(uV j t).2 e]at u;exact absurd u.1 (by simp)
  ·rw[(QN ops j t).2 e]at u;exact absurd u.2 (by simp)
 ·have u:=QK J ((QN ops y t).2 B)
  rw[(uV j t).2 hd]at u;cases u
theorem QQ(i:Nat):∀(l:List Edge),uH i l=true->∀e∈l,nv e=true->e.on<i
 | [],_,e,he,_=>by simp at he
 | a::r,h,e,he,hb=>by
  simp only[uH]at h;rw[Br]at h;split at h
  next j=>
   rcases bc.1 he with rfl|he
   ·rw[hb,Aj]at j;exact bG j
   ·exact QQ i r h e he hb
  ·cases h
theorem QR:∀(l:List Oper) (i:Nat),nj l i=true->∀k o,l[k]? = some o->∀e∈o.after.toList,nv e=true->e.on<i+k
 | [],_,_,_,_,h=>by simp at h
 | a::r,i,h,0,o,j=>by
  simp only[bR,cV]at j;subst j;simp only[nj]at h;rw[Br]at h;split at h
  next hb=>exact QQ i _ hb
  ·cases h
 | a::r,i,h,k+1,o,j=>by
  simp only[nj]at h;rw[Br]at h;split at h
  ·intro e he hb
   have:=QR r (i+1) h k o (by simpa using j) e he hb;omega
  ·cases h
section
open Classical
inductive Kd where
 | idle|load (q:Nat)|new|sto (q:Nat)|big (mw:Nat)
def bare(n:Nat):Ab:=⟨.nil,n,n⟩
theorem Blk(n q:Nat):(bare n).get q=none:=rfl
def Apk(n q:Nat)(o:Ds):Ab:=⟨Tr.nil.put q (some o),n,n⟩
theorem O2(n q:Nat)(o:Ds)(r:Nat):(Apk n q o).get r=if q=r then some o else none:=by
 show(Tr.nil.put q (some o)).get r=_;rw[Tr.get_put];rfl
structure Sd(T:I5)(call round:Ah)(n:Nat)(ops:List Oper)(bs:Tr Nat)(base:Nat)(o:Oper)(i:Nat)(s s':iP)(v:EV)(E E':Ab)(kd:Kd):Prop where
 tm:s'.tm=Qu n s.tm o.dst v
 run:(wanted ops s.tm o.guard=false/\v=.tuple []/\E'=E)\/(wanted ops s.tm o.guard=true/\aop T call round s.tm o.op E=some (v,E'))
 Afm:E.next=s.h.next
 Af0:E'.next=s'.h.next
 sub:∀q x,E.get q=some x->s.h.get q=some x
 Bmv:∀q,s'.h.get q=if E'.get q=E.get q then s.h.get q else E'.get q
 w:AWf E E'
 mw:s'.h.mw<=s.h.mw/\∀q,q<s'.h.mw->q<s.h.next->E'.get q=E.get q
 kd:match kd with
  | .idle=>E=bare s.h.next/\E'=E/\s'.bg=s.bg/\s'.nw=s.nw/\s'.Cy=s.Cy/\s'.lou=s.lou/\s'.st=s.st
  | .load q=>(∃x,E=Apk s.h.next q x)/\E'=E/\s'.bg=s.bg/\s'.nw=s.nw/\s'.Cy=(Nat.shiftLeft 1 i,q)::s.Cy/\s'.lou=s.lou/\s'.st=s.st /\
   ∃b,bs.get i=some b/\Fh b q s.st=true/\((q<base/\Xt b q s.lou=true)\/(base<=q/\within s.bg b=true/\loose b s.nw = []))
  | .new=>E=bare s.h.next/\(∃x,E'=E.new x)/\s'.bg=s.bg/\s'.nw=(Nat.shiftLeft 1 i,s.h.next)::s.nw/\s'.Cy=s.Cy/\s'.lou=s.lou/\s'.st=s.st
  | .sto q=>(∃x y,E=Apk s.h.next q x/\E'=E.put q y)/\s'.bg=s.bg/\s'.nw=s.nw/\s'.Cy=s.Cy/\s'.lou=s.lou/\s'.st=(Nat.shiftLeft 1 i,q)::s.st /\
   ∃b,bs.get i=some b/\within s.bg b=true/\Fh b q s.st=true/\Fh b q s.Cy=true/\A1d q (loose b s.nw)=true
  | .big mw=>∃b,bs.get i=some b/\within s.bg b=true/\Ayf b s.st=true/\(∀q,E.get q=if q∈loose b s.nw then none else s.h.get q)/\s'.bg=Nat.lor s.bg (Nat.shiftLeft 1 i)/\s'.nw=s.nw/\s'.Cy=s.Cy/\s'.st=s.st /\
   (∀q,q<mw->q<s.h.next->E'.get q=E.get q)/\((s.h.next<=mw/\s'.lou=s.lou)\/(Tb b mw s.Cy=true/\s'.lou=(Nat.shiftLeft 1 i,mw)::s.lou))
theorem uW {b:Nat}:∀{l:List (Nat × Nat)} {q:Nat},q∈loose b l↔∃m,(m,q)∈l/\within m b=false
 | [],q=>by simp[loose]
 | (m,r)::l,q=>by
  simp only[loose];rw[Br];split
  next h=>
   rw[uW];constructor
   ·rintro⟨u,j,h2⟩;exact⟨u,aV _ j,h2⟩
   ·rintro⟨u,j,h2⟩
    rcases bc.1 j with e|j
    ·cases e;rw[h]at h2;cases h2
    ·exact⟨u,j,h2⟩
  next h=>
   rw[bc,uW];constructor
   ·rintro(rfl|⟨u,j,h2⟩)
    ·exact⟨m,aW,by simpa using h⟩
    ·exact⟨u,aV _ j,h2⟩
   ·rintro⟨u,j,h2⟩
    rcases bc.1 j with e|j
    ·cases e;exact .inl rfl
    ·exact .inr ⟨u,j,h2⟩
theorem vS(t:Tr Ds):∀(l:List Nat) (q:Nat),(kg t l).get q=if q∈l then none else t.get q
 | [],q=>by simp[kg]
 | a::r,q=>by
  simp only[kg,Tr.get_put,vS t r q,bc];by_cases h:a=q
  ·subst h;simp
  ·rw[aK h];simp[cn h]
theorem vT(t e:Tr Ds):∀(l:List Nat) (q:Nat),(jZ t e l).get q=if q∈l then t.get q else e.get q
 | [],q=>by simp[jZ]
 | a::r,q=>by
  simp only[jZ,Tr.get_put,vT t e r q,bc];by_cases h:a=q
  ·subst h;simp
  ·rw[aK h];simp[cn h]
theorem Bl0{call:Ah}(j:nu op=true)(e:E6 T tm op=some v):aop T call round tm op h=some (v,h):=by
 unfold aop;rw[j,Aj,e]
theorem QS {b c:Bool}(h:Bb b k_.val (Bb c .pur .big)=.val):b=true:=by
 cases b<;>cases c<;>first|rfl|(cases h)
theorem xP(h:cls op=.val):nu op=true:=by
 cases op<;>first|rfl|(rename_i c;exact absurd (QS (show Bb false k_.val (Bb (mo (.call c)) .pur .big)=.val from h)) (by simp))|exact QS h|(cases h)
theorem QT {b c:Bool}(h:Bb b k_.val (Bb c .pur .big)=.pur):c=true:=by
 cases b<;>cases c<;>first|rfl|(cases h)
theorem uz(h:cls op=.pur):mo op=true:=by
 cases op<;>first|(rename_i c;exact QT (show Bb false k_.val (Bb (mo (.call c)) .pur .big)=.pur from h))|exact QT h|(cases h)
theorem uX{call:Ah}(e:nu op=false)(j:∀c,op≠.call c):aop T call round tm op h=Dx T tm op h:=by
 unfold aop;rw[e,Bk];split
 ·exact absurd rfl (j _)
 ·rfl
theorem QU(h:cls op=.new):nu op=false/\∀c,op≠.call c:=by
 rcases xR h with⟨t,rfl⟩|⟨t,x,rfl⟩|⟨t,n,ps,rfl⟩|⟨t,a,b,rfl⟩|⟨t,r,rfl⟩|⟨t,x,rfl⟩<;>exact⟨rfl,fun _ h=>by cases h⟩
section
variable{call:Ah}(hC:W8 call)(hR:W8 round){ops:List Oper}{bs:Tr Nat}
include hC hR in
theorem yu{s s':iP}(h:Ws T call round n ops bs base o i s=some s')(ag:∀x∈s.nw,x.2<s.h.next):
 ∃v E E' kd,Sd T call round n ops bs base o i s s' v E E' kd:=by
 obtain⟨dst,op,ty,ps,af,g⟩:=o;obtain⟨tm,hp,bg,nw,Cy,lou,st⟩:=s;simp only[Ws]at h;rw[Br]at h;split at h
 next hw=>
  split at h
  ·cases h
  next b hb=>
   split at h
   next G=>
    split at h
    next v hv=>
     cases h;exact⟨v,bare hp.next,bare hp.next,.idle,rfl,.inr ⟨hw,Bl0 (xP G) hv⟩,rfl,rfl,fun q x C=>(by cases C),fun q=>(by simp),.refl _,⟨aD _,fun _ _ _=>rfl⟩,rfl,rfl,rfl,rfl,rfl,rfl,rfl⟩
    ·cases h
   next G=>
    split at h
    next t x=>
     split at h
     next q off C=>
      obtain⟨j,h⟩:=Ap h;split at h
      next v h' y=>
       cases h;obtain⟨ob,O,X⟩:=Bod C y;refine⟨v,Apk hp.next q ob,Apk hp.next q ob,.load q,rfl,.inr ⟨hw,?_⟩,rfl,rfl,fun r x Q=>?_,fun q=>(by simp),.refl _,⟨aD _,fun _ _ _=>rfl⟩,⟨_,rfl⟩,rfl,rfl,rfl,rfl,rfl,rfl,b,hb,?_⟩
       ·rw[uX rfl (fun _ e=>by cases e)]
        exact X _ (by rw[O2,aN rfl])
       ·rw[O2]at Q
        split at Q
        next e=>subst e;cases Q;exact O
        ·cases Q
       ·rw[Br]at j
        split at j
        case isFalse=>cases j
        rename_i host;refine⟨host,?_⟩;rw[Br]at j;split at j
        next M=>exact .inl ⟨bG M,j⟩
        next M=>
         refine .inr ⟨?_,?_⟩
         ·cases dJ q base with
          | inl h=>exact absurd (nA h) M
          | inr h=>exact h
         ·rw[Br]at j
          split at j
          next H=>
           refine⟨H,?_⟩;simp only[];split at j
           next e=>exact e
           ·cases j
          ·cases j
      ·cases h
     ·cases h
    ·cases h
   next G=>
    split at h
    next v h' y=>
     cases h;obtain⟨x,rfl,ah⟩:=Brl G y;refine⟨v,bare hp.next,(bare hp.next).new x,.new,rfl,.inr ⟨hw,?_⟩,rfl,rfl,fun q x C=>(by cases C),fun q=>?_,.new _ _,⟨aD _,fun q _ h2=>?_⟩,rfl,⟨x,rfl⟩,rfl,rfl,rfl,rfl,rfl⟩
     ·rw[uX (QU G).1 (QU G).2]
      exact ah _ rfl
     ·show(hp.new x).get q=_
      rw[Ab.Lj,Ab.Lj,Blk];show(if hp.next=q then some x else hp.get q)=if(if hp.next=q then some x else none)=none then hp.get q else if hp.next=q then some x else none
      by_cases e:hp.next=q
      ·rw[aN e,aN e,aK (by simp)]
      ·rw[aK e,aK e,aN rfl]
     ·have ao:q<hp.next:=h2
      rw[Ab.Lj,aK];show ¬hp.next=q
      omega
    ·cases h
   ·
    rename_i G;split at h
    next t a x=>
     split at h
     next q off ha=>
      obtain⟨j,h⟩:=Ap h;split at h
      next v h' y=>
       cases h;obtain⟨ob,J,O,rfl,X⟩:=Blq ha y;have ai:within bg b=true/\Fh b q st=true/\Fh b q Cy=true/\A1d q (loose b nw)=true:=by
        rw[Br]at j;split at j
        case isFalse=>cases j
        rename_i c1;rw[Br]at j;split at j
        case isFalse=>cases j
        rename_i c2;rw[Br]at j;split at j
        case isFalse=>cases j
        rename_i c3;exact⟨c1,c2,c3,j⟩
       have ab:(Apk hp.next q ob).get q=some ob:=by rw[O2,aN rfl]
       refine⟨v,Apk hp.next q ob,(Apk hp.next q ob).put q J,.sto q,rfl,.inr ⟨hw,?_⟩,rfl,rfl,fun r x Q=>?_,fun r=>?_,.put ab _,⟨?_,fun r F h2=>?_⟩,⟨_,_,rfl,rfl⟩,rfl,rfl,rfl,rfl,rfl,b,hb,ai⟩
       ·rw[uX rfl (fun _ e=>by cases e)]
        exact X _ ab
       ·rw[O2]at Q
        split at Q
        next e=>subst e;cases Q;exact O
        ·cases Q
       ·show(hp.put q J).get r=_
        rw[Ab.get_put,Ab.get_put,O2];by_cases e:q=r
        ·subst e
         rw[aN rfl,aN rfl,aN rfl];by_cases e2:some J=some ob
         ·rw[aN e2,e2];exact O.symm
         ·rw[aK e2]
        ·rw[aK e,aK e,aK e,aN rfl]
       ·show(hp.put q J).mw<=hp.mw
        rw[Ab.mZ];exact Nat.min_le_right _ _
       ·have Y:r<(hp.put q J).mw:=F
        rw[Ab.mZ]at Y;rw[Ab.get_put,aK a_]
      ·cases h
     ·cases h
    ·cases h
   ·
    rename_i G;split at h
    next v h' y=>
     cases h;have:=OJ (uz G) y;subst this;exact⟨v,bare hp.next,bare hp.next,.idle,rfl,.inr ⟨hw,(xN (uz G)).trans y⟩,rfl,rfl,fun q x C=>(by cases C),fun q=>(by simp),.refl _,⟨aD _,fun _ _ _=>rfl⟩,rfl,rfl,rfl,rfl,rfl,rfl,rfl⟩
    ·cases h
   next G=>
    obtain⟨A,h⟩:=Ap h;have H:within bg b=true:=by
     rw[Br]at A;split at A
     next c1=>exact c1
     ·cases A
    have ad:Ayf b st=true:=by rw[H,Aj]at A;exact A
    obtain⟨t,nx,mw⟩:=hp;simp only[]at h;split at h
    next v L B u y=>
     have hwf:=QI hC hR y;have hE:∀q,(⟨kg t (loose b nw),nx,nx⟩:Ab).get q=if q∈loose b nw then none else(⟨t,nx,mw⟩:Ab).get q:=fun q=>vS t _ q
     have U:∀q x,(⟨kg t (loose b nw),nx,nx⟩:Ab).get q=some x->(⟨t,nx,mw⟩:Ab).get q=some x:=by
      intro q x C;rw[hE]at C;split at C
      ·cases C
      ·exact C
     have ae:∀Z q,(⟨jZ t L (loose b nw),B,Z⟩:Ab).get q=if(⟨L,B,u⟩:Ab).get q=(⟨kg t (loose b nw),nx,nx⟩:Ab).get q then(⟨t,nx,mw⟩:Ab).get q else(⟨L,B,u⟩:Ab).get q:=by
      intro Z q;have e1:(⟨jZ t L (loose b nw),B,Z⟩:Ab).get q=if q∈loose b nw then t.get q else L.get q:=vT t L _ q
      rw[e1];by_cases M:q∈loose b nw
      ·rw[aN M]
       by_cases he:(⟨L,B,u⟩:Ab).get q=(⟨kg t (loose b nw),nx,nx⟩:Ab).get q
       ·rw[aN he];rfl
       ·exfalso
        apply he;rw[hE,aN M];cases C:(⟨L,B,u⟩:Ab).get q with
        | none=>rfl
        | some o=>
         rcases hwf.live q o C with⟨o',F⟩|F
         ·rw[hE,aN M]at F;cases F
         ·obtain⟨m,hm,_⟩:=uW.1 M
          have h2:q<nx:=ag _ hm;have h3:nx<=q:=F;omega
      ·rw[aK M]
       by_cases he:(⟨L,B,u⟩:Ab).get q=(⟨kg t (loose b nw),nx,nx⟩:Ab).get q
       ·rw[aN he]
        have:L.get q=(⟨L,B,u⟩:Ab).get q:=rfl;rw[this,he,hE,aK M]
       ·rw[aK he];rfl
     rw[Br]at h;split at h
     next hm=>
      cases h;exact⟨v,_,_,.big u,rfl,.inr ⟨hw,y⟩,rfl,rfl,U,ae _,hwf,⟨aD _,fun q F h2=>hwf.same q (aL h2 (bG hm)) h2⟩,b,hb,H,ad,hE,rfl,rfl,rfl,rfl,fun q F h2=>hwf.same q F h2,.inl ⟨bG hm,rfl⟩⟩
     ·obtain⟨aj,h⟩:=Ap h
      cases h;have W:Bb (Nat.ble mw u) mw u=min mw u:=by
       rw[Br];by_cases e:mw<=u
       ·rw[nA e,aN rfl,eB e]
       ·rw[pX e,aK (by simp),Nat.min_eq_right a_]
      refine⟨v,_,_,.big u,rfl,.inr ⟨hw,y⟩,rfl,rfl,U,ae _,hwf,⟨?_,fun q F h2=>hwf.same q ?_ h2⟩,b,hb,H,ad,hE,rfl,rfl,rfl,rfl,fun q F h2=>hwf.same q F h2,.inr ⟨aj,rfl⟩⟩
      ·show Bb (Nat.ble mw u) mw u<=mw
       rw[W];exact Nat.min_le_left _ _
      ·have Y:q<Bb (Nat.ble mw u) mw u:=F
       rw[W]at Y;show q<u;omega
    ·cases h
 next hw=>
  cases h;exact⟨.tuple [],bare hp.next,bare hp.next,.idle,rfl,.inl ⟨by simpa using hw,rfl,rfl⟩,rfl,rfl,fun q x C=>(by cases C),fun q=>(by simp),.refl _,⟨aD _,fun _ _ _=>rfl⟩,rfl,rfl,rfl,rfl,rfl,rfl,rfl⟩
end
end
variable {kd:Kd}{K:Nat->Kd}
section
open Classical
theorem QV {b:Nat}:∀{l:List (Nat × Nat)},Xt b q l=true->∀{m w:Nat},(m,w)∈l->within m b=true\/q<w
 | [],_,m,w,h=>by simp at h
 | (u,w')::r,h,m,w,hm=>by
  simp only[Xt]at h;rw[Br]at h;split at h
  next j=>
   rcases bc.1 hm with e|hm
   ·cases e
    rw[Br]at j;split at j
    next hw=>exact .inl hw
    ·exact .inr (bG j)
   ·exact QV h hm
  ·cases h
theorem QW {b w:Nat}:∀{l:List (Nat × Nat)},Tb b w l=true->∀{m q:Nat},(m,q)∈l->within m b=true\/q<w
 | [],_,m,q,h=>by simp at h
 | (u,q')::r,h,m,q,hm=>by
  simp only[Tb]at h;rw[Br]at h;split at h
  next j=>
   rcases bc.1 hm with e|hm
   ·cases e
    rw[Br]at j;split at j
    next hw=>exact .inl hw
    ·exact .inr (bG j)
   ·exact QW h hm
  ·cases h
theorem Ym {b:Nat}:∀{l:List (Nat × Nat)},Fh b q l=true->∀{m r:Nat},(m,r)∈l->within m b=true\/q≠r
 | [],_,m,r,h=>by simp at h
 | (u,y)::l,h,m,r,hm=>by
  simp only[Fh]at h;rw[Br]at h;split at h
  next j=>
   rcases bc.1 hm with e|hm
   ·cases e
    rw[Br]at j;split at j
    next hw=>exact .inl hw
    ·refine .inr fun e=>?_
     subst e;rw[show Nat.beq q q=true from cP q]at j;cases j
   ·exact Ym h hm
  ·cases h
theorem QX {b:Nat}:∀{l:List (Nat × Nat)},Ayf b l=true->∀{m r:Nat},(m,r)∈l->within m b=true
 | [],_,m,r,h=>by simp at h
 | (u,y)::l,h,m,r,hm=>by
  simp only[Ayf]at h;rw[Br]at h;split at h
  next j=>
   rcases bc.1 hm with e|hm
   ·cases e;exact j
   ·exact QX h hm
  ·cases h
theorem QY:∀{l:List Nat},A1d q l=true->q ∉ l
 | [],_=>by simp
 | r::l,h=>by
  simp only[A1d]at h;rw[Br]at h;split at h
  ·cases h
  next j=>
   intro hm;rcases bc.1 hm with e|hm
   ·subst e;exact j (cP q)
   ·exact QY h hm
section
variable{call:Ah}(hC:W8 call)(hR:W8 round){ops:List Oper}{bs:Tr Nat}
theorem QZ:∀{l:List Oper} {i:Nat} {s r:iP},Tk T call round n ops bs base l i s=some r ->
 ∃σ:Nat->iP,σ i=s/\σ (i+l.length)=r/\∀k o,l[k]? = some o->Ws T call round n ops bs base o (i+k) (σ (i+k))=some (σ (i+k+1))
 | [],i,s,r,h=>by cases h;exact⟨fun _=>s,rfl,rfl,fun k o h=>by simp at h⟩
 | o::l,i,s,r,h=>by
  simp only[Tk]at h;split at h
  next s' hs=>
   obtain⟨σ,u,h2,y⟩:=QZ h;have e:σ (i+1)=s':=u;refine⟨fun m=>if m=i then s else σ m,aN rfl,?_,fun k o' j=>?_⟩
   ·show(if i+(l.length+1)=i then s else σ (i+(l.length+1)))=r
    rw[aK a_,<-h2];congr 1;show i+(l.length+1)=i+1+l.length;omega
   ·cases k with
    | zero=>
     simp only[bR,cV]at j;subst j;show Ws T call round n ops bs base o i (if i=i then s else σ i)=some (if i+1=i then s else σ (i+1));rw[aN rfl,aK a_,e];exact hs
    | succ k=>
     have:=y k o' (by simpa using j);have e1:i+(k+1)=i+1+k:=a_
     show Ws T call round n ops bs base o' (i+(k+1)) (if i+(k+1)=i then s else σ (i+(k+1)))=some (if i+(k+1)+1=i then s else σ (i+(k+1)+1));rw[aK a_,aK a_,e1];exact this
  ·cases h
structure jV(T:I5)(call round:Ah)(n:Nat)(ops:List Oper)(bs:Tr Nat)(base:Nat)(σ:Nat->iP)(V:Nat->EV)(E E':Nat->Ab)(K:Nat->Kd):Prop where
 sd:∀i o,ops[i]? = some o->Sd T call round n ops bs base o i (σ i) (σ (i+1)) (V i) (E i) (E' i) (K i)
 lt:∀i,i<=ops.length->∀q x,(σ i).h.get q=some x->q<(σ i).h.next
 base:base=(σ 0).h.next
include hC hR in
theorem Bsf {s r:iP}(h:Tk T call round n ops bs s.h.next ops 0 s=some r)(A:∀q x,s.h.get q=some x->q<s.h.next)(B:s.nw = []):
 ∃σ V E E' K,σ 0=s/\σ ops.length=r/\jV T call round n ops bs s.h.next σ V E E' K:=by
 obtain⟨σ,C,h2,F⟩:=QZ h;simp only[bI]at h2 F;have key:∀i,i<=ops.length->(∀x∈(σ i).nw,x.2<(σ i).h.next)/\∀q x,(σ i).h.get q=some x->q<(σ i).h.next:=by
  intro i;induction i with
  | zero=>intro _;rw[C,B];exact⟨fun x j=>by simp at j,A⟩
  | succ i H=>
   intro G;obtain⟨i1,i2⟩:=H a_;have u:ops[i]? = some ops[i]:=aF a_;obtain⟨v,E,E',kd,sd⟩:=yu hC hR (F i _ u) i1;have e:(σ i).h.next<=(σ (i+1)).h.next:=by rw[<-sd.Afm,<-sd.Af0];exact sd.w.next
   constructor
   ·intro x j
    have:=sd.kd;cases kd with
    | idle=>rw[this.2.2.2.1]at j;exact aL (i1 x j) e
    | load q=>rw[this.2.2.2.1]at j;exact aL (i1 x j) e
    | new=>
     obtain⟨a,⟨y,b⟩,c,d,_⟩:=this;rw[d]at j;rcases bc.1 j with rfl|j
     ·show(σ i).h.next<_
      rw[<-sd.Af0,b,Ab.Dh,sd.Afm];omega
     ·exact aL (i1 x j) e
    | sto q=>
     obtain⟨_,_,d,_⟩:=this;rw[d]at j;exact aL (i1 x j) e
    | big mw=>
     obtain⟨b,_,_,_,_,_,d,_⟩:=this;rw[d]at j;exact aL (i1 x j) e
   ·intro q x j
    rw[sd.Bmv]at j;split at j
    ·exact aL (i2 q x j) e
    ·rw[<-sd.Af0]
     refine sd.w.lt (fun q x j=>?_) q x j;rw[sd.Afm];exact i2 q x (sd.sub q x j)
 have ex:∀i,∃v E E' kd,∀o,ops[i]? = some o->Sd T call round n ops bs s.h.next o i (σ i) (σ (i+1)) v E E' kd:=by
  intro i;cases u:ops[i]? with
  | none=>exact⟨.tuple [],bare 0,bare 0,.idle,fun o h=>by cases h⟩
  | some o=>
   have G:i<ops.length:=(bA.1 u).1;obtain⟨v,E,E',kd,sd⟩:=yu hC hR (F i _ u) (key i a_).1;exact⟨v,E,E',kd,fun o' h=>by cases h;exact sd⟩
 exact⟨σ,fun i=>(ex i).choose,fun i=>(ex i).choose_spec.choose,fun i=>(ex i).choose_spec.choose_spec.choose,fun i=>(ex i).choose_spec.choose_spec.choose_spec.choose,C,h2,
  fun i=>(ex i).choose_spec.choose_spec.choose_spec.choose_spec,fun i G=>(key i G).2,by rw[C]⟩
variable(tr:jV T call round n ops bs base σ V E E' K)
include tr
theorem jV.next(e:i<ops.length):(σ i).h.next<=(σ (i+1)).h.next:=by
 have sd:=tr.sd i _ (aF e);rw[<-sd.Afm,<-sd.Af0];exact sd.w.next
theorem jV.yv(j:i<=m)(hm:m<=ops.length):(σ i).h.next<=(σ m).h.next:=by
 induction m with
 | zero=>
  have:i=0:=a_
  subst this;exact aD _
 | succ m u=>
  by_cases e:i=m+1
  ·subst e;exact aD _
  ·exact bN (u a_ a_) (tr.next a_)
theorem jV.notes(C:i<=m)(hm:m<=ops.length):
 (∀x∈(σ i).nw,x∈(σ m).nw)/\(∀x∈(σ i).Cy,x∈(σ m).Cy)/\(∀x∈(σ i).lou,x∈(σ m).lou)/\(∀j,(σ i).bg.testBit j=true->(σ m).bg.testBit j=true)/\(∀x∈(σ i).st,x∈(σ m).st):=by
 induction m with
 | zero=>
  have:i=0:=a_
  subst this;exact⟨fun _ h=>h,fun _ h=>h,fun _ h=>h,fun _ h=>h,fun _ h=>h⟩
 | succ m F=>
  by_cases e:i=m+1
  ·subst e;exact⟨fun _ h=>h,fun _ h=>h,fun _ h=>h,fun _ h=>h,fun _ h=>h⟩
  ·obtain⟨a,b,c,d,f⟩:=F a_ a_
   have sd:=(tr.sd m _ (aF a_)).kd;cases B:K m with
   | idle=>
    rw[B]at sd;obtain⟨_,_,s1,s2,y,u,A⟩:=sd;rw[s1,s2,y,u,A];exact⟨a,b,c,d,f⟩
   | load q=>
    rw[B]at sd;obtain⟨_,_,s1,s2,y,u,A,_⟩:=sd;rw[s1,s2,y,u,A];exact⟨a,fun x h=>aV _ (b x h),c,d,f⟩
   | new=>
    rw[B]at sd;obtain⟨_,_,s1,s2,y,u,A⟩:=sd;rw[s1,s2,y,u,A];exact⟨fun x h=>aV _ (a x h),b,c,d,f⟩
   | sto q=>
    rw[B]at sd;obtain⟨_,s1,s2,y,u,A,_⟩:=sd;rw[s1,s2,y,u,A];exact⟨a,b,c,d,fun x h=>aV _ (f x h)⟩
   | big mw=>
    rw[B]at sd;obtain⟨_,_,_,_,_,s1,s2,y,A,_,u⟩:=sd;rw[s1,s2,y,A];refine⟨a,b,?_,fun j h=>by rw[Of,d j h];rfl,f⟩;rcases u with⟨_,u⟩|⟨_,u⟩<;>rw[u]
    ·exact c
    ·exact fun x h=>aV _ (c x h)
theorem jV.uY(e:i<ops.length){x:Ds}(h:(E i).get q=some x):q<(σ i).h.next:=
 tr.lt i a_ q x ((tr.sd i _ (aF e)).sub q x h)
theorem jV.Btd(e:i<ops.length){x:Ds}(h:(E' i).get q=some x):q<(σ (i+1)).h.next:=by
 have sd:=tr.sd i _ (aF e);rw[<-sd.Af0];refine sd.w.lt (fun q x j=>?_) q x h;rw[sd.Afm];exact tr.uY e j
theorem jV.Bil(j:i<ops.length)(h:(E i).get q=none)(y:q<(σ i).h.next):(E' i).get q=(E i).get q:=by
 have sd:=tr.sd i _ (aF j);cases u:(E' i).get q with
 | none=>exact h.symm
 | some o=>
  rcases sd.w.live q o u with⟨o',e⟩|e
  ·rw[h]at e;cases e
  ·rw[sd.Afm]at e;omega
theorem jV.pair(bk:i<m)(hm:m<ops.length){b:Nat}(hb:bs.get m=some b)(hn:b.testBit i=false):
 (∀q,(E' i).get q=(E i).get q\/(E' m).get q=(E m).get q)/\(∀q x,(E i).get q=some x->(E' m).get q=(E m).get q)/\(∀q x,(E m).get q=some x->(E' i).get q=(E i).get q):=by
 have hi:i<ops.length:=a_
 have au:=tr.sd i _ (aF hi);have a2:=tr.sd m _ (aF hm);obtain⟨n1,n2,n3,n4,n5⟩:=tr.notes (i:=i+1) (m:=m) a_ a_;have a8:=tr.yv (i:=i+1) (m:=m) a_ a_;have a5:=tr.next hi
 have ba:base<=(σ i).h.next:=by rw[tr.base];exact tr.yv a_ a_
 have Q:=A5x hn;have Z:=au.kd;have Y:=a2.kd;have H:K i=.new->(Nat.shiftLeft 1 i,(σ i).h.next)∈(σ m).nw/\(∀q,q≠(σ i).h.next->(E' i).get q=(E i).get q)/\(∀q,(E i).get q=none)/\(σ i).h.next<(σ (i+1)).h.next:=by
  intro hk;rw[hk]at Z;obtain⟨k1,⟨x,k2⟩,_,k4,_⟩:=Z;refine⟨n1 _ (by rw[k4];exact aW),fun q hq=>?_,fun q=>by rw[k1];rfl,?_⟩
  ·rw[k2,Ab.Lj,aK];rw[au.Afm];exact fun e=>hq e.symm
  ·rw[<-au.Af0,k2,Ab.Dh,au.Afm];omega
 have J:K m=.new->(∀q,q≠(σ m).h.next->(E' m).get q=(E m).get q)/\(∀q,(E m).get q=none):=by
  intro hk;rw[hk]at Y;obtain⟨k1,⟨x,k2⟩,_⟩:=Y;refine⟨fun q hq=>?_,fun q=>by rw[k1];rfl⟩;rw[k2,Ab.Lj,aK];rw[a2.Afm];exact fun e=>hq e.symm
 have L:∀r,K i=.sto r->(Nat.shiftLeft 1 i,r)∈(σ m).st/\(∀q,q≠r->(E' i).get q=(E i).get q)/\(∀q x,(E i).get q=some x->q=r)/\r<(σ i).h.next:=by
  intro r hk;rw[hk]at Z;obtain⟨⟨x,y,k1,k2⟩,_,_,_,_,k4,_⟩:=Z;have hr:(E i).get r=some x:=by rw[k1,O2,aN rfl]
  refine⟨n5 _ (by rw[k4];exact aW),fun q hq=>?_,fun q z hz=>?_,tr.uY hi hr⟩
  ·rw[k2,Ab.get_put,aK];exact fun e=>hq e.symm
  ·rw[k1,O2]at hz
   split at hz
   next e=>exact e.symm
   ·cases hz
 have A:∀r,K m=.sto r->within (σ m).bg b=true/\Fh b r (σ m).st=true/\Fh b r (σ m).Cy=true/\r ∉ loose b (σ m).nw/\(∀q,q≠r->(E' m).get q=(E m).get q)/\(∀q x,(E m).get q=some x->q=r):=by
  intro r hk;rw[hk]at Y;obtain⟨⟨x,y,k1,k2⟩,_,_,_,_,k4,b',M,c1,c2,c3,c4⟩:=Y;rw[hb]at M;cases M;refine⟨c1,c2,c3,QY c4,fun q hq=>?_,fun q z hz=>?_⟩
  ·rw[k2,Ab.get_put,aK];exact fun e=>hq e.symm
  ·rw[k1,O2]at hz
   split at hz
   next e=>exact e.symm
   ·cases hz
 have O:∀r,K i=.load r->(Nat.shiftLeft 1 i,r)∈(σ m).Cy/\(∀q x,(E i).get q=some x->q=r):=by
  intro r hk;rw[hk]at Z;obtain⟨⟨y,k1⟩,_,_,_,k5,_⟩:=Z;refine⟨n2 _ (by rw[k5];exact aW),fun q z hz=>?_⟩;rw[k1,O2]at hz;split at hz
  next e=>exact e.symm
  ·cases hz
 have F:∀r,K m=.load r->Fh b r (σ m).st=true/\((r<base/\Xt b r (σ m).lou=true)\/(base<=r/\within (σ m).bg b=true/\loose b (σ m).nw = []))/\(∀q x,(E m).get q=some x->q=r):=by
  intro r hk;rw[hk]at Y;obtain⟨⟨y,k1⟩,_,_,_,_,_,_,b',M,k7,k8⟩:=Y;rw[hb]at M;cases M;refine⟨k7,k8,fun q z hz=>?_⟩;rw[k1,O2]at hz;split at hz
  next e=>exact e.symm
  ·cases hz
 have ay:∀mw,K i=.big mw->(σ m).bg.testBit i=true:=by
  intro mw h1;rw[h1]at Z;obtain⟨_,_,_,_,_,k5,_⟩:=Z;exact n4 i (by rw[k5,Of,Ij];simp)
 have W:∀mw,K m=.big mw->within (σ m).bg b=true/\Ayf b (σ m).st=true:=by
  intro mw h2;rw[h2]at Y;obtain⟨b',M,hw,bf,_⟩:=Y;rw[hb]at M;cases M;exact⟨hw,bf⟩
 have aj:∀{mw},K i=.big mw->within (σ m).bg b=true->False:=by
  intro mw h1 hw;rw[yr hw (ay mw h1)]at hn;cases hn
 have ae:∀{r mw},K i=.sto r->K m=.big mw->False:=by
  intro r mw h1 h2;have:=QX (W mw h2).2 (L r h1).1;rw[Q]at this;cases this
 have X:(K i=.idle\/∃q,K i=.load q)->∀q,(E' i).get q=(E i).get q:=by
  rintro(h|⟨r,h⟩) q<;>rw[h]at Z
  ·rw[Z.2.1]
  ·rw[Z.2.1]
 have B:(K m=.idle\/∃q,K m=.load q)->∀q,(E' m).get q=(E m).get q:=by
  rintro(h|⟨r,h⟩) q<;>rw[h]at Y
  ·rw[Y.2.1]
  ·rw[Y.2.1]
 have ah:K i=.idle->∀q,(E i).get q=none:=fun h q=>by rw[h]at Z;rw[Z.1];rfl
 have U:K m=.idle->∀q,(E m).get q=none:=fun h q=>by rw[h]at Y;rw[Y.1];rfl
 have C:K i=.new->(σ i).h.next∈loose b (σ m).nw:=fun h1=>uW.2 ⟨_,(H h1).1,Q⟩
 have ai:∀mw,K i=.new->K m=.big mw->(E m).get (σ i).h.next=none:=by
  intro mw h1 h2;rw[h2]at Y;obtain⟨b',M,_,_,he,_⟩:=Y;rw[hb]at M;cases M;rw[he,aN (C h1)]
 have af:∀{r r'},K i=.sto r->K m=.sto r'->r'≠r:=by
  intro r r' h1 h2;rcases Ym (A r' h2).2.1 (L r h1).1 with h|h
  ·rw[Q]at h;cases h
  ·exact h
 refine⟨fun q=>?_,fun q x G=>?_,fun q x G=>?_⟩
 ·cases u:K i with
  | idle=>exact .inl (X (.inl u) q)
  | load r=>exact .inl (X (.inr ⟨r,u⟩) q)
  | new=>
   by_cases hq:q=(σ i).h.next
   ·subst hq
    right;cases j:K m with
    | idle=>exact B (.inl j) _
    | load r=>exact B (.inr ⟨r,j⟩) _
    | new=>exact(J j).1 _ (by have:=(H u).2.2.2;omega)
    | sto r=>exact(A r j).2.2.2.2.1 _ (fun e=>(A r j).2.2.2.1 (e▸C u))
    | big mw=>exact tr.Bil hm (ai mw u j) (by have:=(H u).2.2.2;omega)
   ·exact .inl ((H u).2.1 q hq)
  | sto r=>
   by_cases hq:q=r
   ·subst hq
    right;cases j:K m with
    | idle=>exact B (.inl j) _
    | load r=>exact B (.inr ⟨r,j⟩) _
    | new=>exact(J j).1 _ (by have:=(L _ u).2.2.2;omega)
    | sto r'=>exact(A r' j).2.2.2.2.1 _ (fun e=>af u j e.symm)
    | big mw=>exact(ae u j).elim
   ·exact .inl ((L r u).2.1 q hq)
  | big mw=>
   cases j:K m with
   | idle=>exact .inr (B (.inl j) _)
   | load r=>exact .inr (B (.inr ⟨r,j⟩) _)
   | new=>
    by_cases hq:q=(σ m).h.next
    ·left
     have h1:(E' i).get q=none:=by
      cases h:(E' i).get q with
      | none=>rfl
      | some o=>have:=tr.Btd hi h;omega
     have h2:(E i).get q=none:=by
      cases h:(E i).get q with
      | none=>rfl
      | some o=>have:=tr.uY hi h;omega
     rw[h1,h2]
    ·exact .inr ((J j).1 q hq)
   | sto r=>exact(aj u (A r j).1).elim
   | big aq=>exact(aj u (W aq j).1).elim
 ·have bx:=tr.uY hi G
  cases j:K m with
  | idle=>exact B (.inl j) _
  | load r=>exact B (.inr ⟨r,j⟩) _
  | new=>exact(J j).1 q a_
  | sto r'=>
   cases u:K i with
   | idle=>rw[ah u]at G;cases G
   | new=>rw[(H u).2.2.1]at G;cases G
   | big aq=>exact(aj u (A r' j).1).elim
   | load r=>
    have:=(O r u).2 q x G;subst this;refine(A r' j).2.2.2.2.1 _ fun e=>?_
    rcases Ym (A r' j).2.2.1 (O _ u).1 with h|h
    ·rw[Q]at h;cases h
    ·exact h e.symm
   | sto r=>
    have:=(L r u).2.2.1 q x G;subst this;exact(A r' j).2.2.2.2.1 _ (fun e=>af u j e.symm)
  | big mw=>
   cases u:K i with
   | idle=>rw[ah u]at G;cases G
   | new=>rw[(H u).2.2.1]at G;cases G
   | big aq=>exact(aj u (W mw j).1).elim
   | sto r=>exact(ae u j).elim
   | load r=>
    have:=(O r u).2 q x G;subst this;rw[j]at Y;obtain⟨b',M,_,_,_,_,_,_,_,h8,h9⟩:=Y;rw[hb]at M;cases M;refine h8 _ ?_ a_;rcases h9 with⟨h9,_⟩|⟨h9,_⟩
    ·omega
    ·rcases QW h9 (O _ u).1 with h|h
     ·rw[Q]at h;cases h
     ·exact h
 ·cases u:K i with
  | idle=>exact X (.inl u) q
  | load r=>exact X (.inr ⟨r,u⟩) q
  | new=>
   refine(H u).2.1 q fun e=>?_
   subst e;cases j:K m with
   | idle=>rw[U j]at G;cases G
   | new=>rw[(J j).2]at G;cases G
   | big mw=>rw[ai mw u j]at G;cases G
   | sto r=>exact(A r j).2.2.2.1 ((A r j).2.2.2.2.2 _ x G▸C u)
   | load r=>
    have e:=(F r j).2.2 _ x G;rcases(F r j).2.1 with⟨h1,_⟩|⟨_,_,h3⟩
    ·omega
    ·have:=C u
     rw[h3]at this;cases this
  | sto r=>
   refine(L r u).2.1 q fun e=>?_
   subst e;cases j:K m with
   | idle=>rw[U j]at G;cases G
   | new=>rw[(J j).2]at G;cases G
   | big mw=>exact(ae u j).elim
   | sto r'=>exact af u j ((A r' j).2.2.2.2.2 _ x G).symm
   | load r'=>
    have e:=(F r' j).2.2 _ x G;subst e;rcases Ym (F _ j).1 (L _ u).1 with h|h
    ·rw[Q]at h;cases h
    ·exact h rfl
  | big mw=>
   cases j:K m with
   | idle=>rw[U j]at G;cases G
   | new=>rw[(J j).2]at G;cases G
   | sto r=>exact(aj u (A r j).1).elim
   | big aq=>exact(aj u (W aq j).1).elim
   | load r=>
    have e:=(F r j).2.2 _ x G;subst e;rw[u]at Z;obtain⟨bi,_,_,_,_,kb,_,_,_,h8,h9⟩:=Z;rcases(F _ j).2.1 with⟨h1,h2⟩|⟨_,h2,_⟩
    ·refine h8 _ ?_ a_
     rcases h9 with⟨h9,_⟩|⟨_,h9⟩
     ·omega
     ·rcases QV h2 (n3 _ (by rw[h9];exact aW))with h|h
      ·rw[Q]at h;cases h
      ·exact h
    ·have:(σ m).bg.testBit i=true:=n4 i (by rw[kb,Of,Ij];simp)
     rw[yr h2 this]at hn;cases hn
end
end
section
open Classical
structure Aht(p:Nat->Prop)(f0:Loc)(h0:Ab)(w0:World)(f:Loc)(g:Nat->Option Ds)(w:World):Prop where
 agree:Loc.agree p f0 f
 obj:∀i o,g i=some o->∃r,w.heap[f.b i]? = some r/\Te f i o r
 inj:∀i j o o',g i=some o->g j=some o'->f.b i=f.b j->i=j
 kept:∀b,b<w0.heap.size->(∀i o,h0.get i=some o->f0.b i≠b)->w.heap[b]? = w0.heap[b]?
 size:w0.heap.size<=w.heap.size
 tape:w.tape=w0.tape
 os:w.os=w0.os
 output:w.output=w0.output
 own:∀i o,g i=some o->w0.heap.size<=f.b i\/∃j o',h0.get j=some o'/\f.b i=f0.b j
theorem Aht.start{w:World}(e:T8 f h w):Aht p f h w f h.get w where
 agree:=Loc.uI _ _
 obj:=e.obj
 inj:=e.inj
 kept _ _ _:=rfl
 size:=aD _
 tape:=rfl
 os:=rfl
 output:=rfl
 own i o j:=.inr ⟨i,o,j,rfl⟩
theorem Aht.drew{w0 w:World}(m:Aht p f0 h0 w0 f g w)(k:Nat):Aht p f0 h0 w0 f g { w with drawn:=k }:=
 ⟨m.agree,m.obj,m.inj,m.kept,m.size,m.tape,m.os,m.output,m.own⟩
theorem Aht.move{w0 w:World}(m:Aht p f0 h0 w0 f g w)(e:∀q,h.get q=g q):Move p f0 h0 w0 f h w where
 agree:=m.agree
 rep:=⟨fun i o u=>m.obj i o (by rw[<-e];exact u),fun i j o o' u y=>m.inj i j o o' (by rw[<-e];exact u) (by rw[<-e];exact y)⟩
 kept:=m.kept
 size:=m.size
 tape:=m.tape
 os:=m.os
 output:=m.output
 own i o u:=m.own i o (by rw[<-e];exact u)
def patch(n:Nat)(f1 f:Loc):Loc:=⟨fun q=>if q<n then f1.b q else f.b q,fun q=>if q<n then f1.sp q else f.sp q⟩
theorem Q'(h:q<n):(patch n f1 f).b q=f1.b q/\(patch n f1 f).sp q=f1.sp q:=⟨aN h,aN h⟩
theorem Bnd(h:n<=q):(patch n f1 f).b q=f.b q/\(patch n f1 f).sp q=f.sp q:=⟨aK a_,aK a_⟩
def jJ(D D':Ab)(g:Nat->Option Ds)(q:Nat):Option Ds:=if D'.get q=D.get q then g q else D'.get q
section
variable{w0:World}{w:World}{pq:Nat->Prop}{D D':Ab}{w1:World}
theorem Q_(hm:Move (fun q=>pq q/\q<D.next) f D w f1 D' w1)(hw:Wf (fun q=>pq q/\q<D.next) D D')(e:∀q,pq q->q<D.next\/D'.next<=q):
 Loc.agree pq f (patch D'.next f1 f):=by
 intro q j;rcases e q j with h|h
 ·obtain⟨e1,e2⟩:=Q' (f1:=f1) (f:=f) (aL h hw.next)
  rw[e1,e2];exact hm.agree q ⟨j,h⟩
 ·obtain⟨e1,e2⟩:=Bnd (f1:=f1) (f:=f) h
  rw[e1,e2];exact⟨rfl,rfl⟩
theorem Rh(hw:Wf (fun q=>pq q/\q<D.next) D D'):Loc.agree (grow (fun q=>pq q/\q<D.next) D D') f1 (patch D'.next f1 f):=by
 intro q e;have:q<D'.next:=by
  rcases e with h|h
  ·exact aL h.2 hw.next
  ·exact h.2
 obtain⟨e1,e2⟩:=Q' (f1:=f1) (f:=f) this;rw[e1,e2];exact⟨rfl,rfl⟩
theorem Aht.step(m:Aht p0 f0 h0 w0 f g w)(F:∀q x,D.get q=some x->g q=some x)(hg:∀q x,g q=some x->pq q/\x.ok pq)
 (ab:∀q,p0 q->pq q) (hm:Move (fun q=>pq q/\q<D.next) f D w f1 D' w1) (hw:Wf (fun q=>pq q/\q<D.next) D D') (Z:∀q,pq q->q<D.next\/D'.next<=q) :
 Aht p0 f0 h0 w0 (patch D'.next f1 f) (jJ D D' g) w1:=by
 have Y:=Q_ hm hw Z;have U:=Rh (f1:=f1) (f:=f) hw;have ad:∀q x,D'.get q=some x->jJ D D' g q=some x:=by
  intro q x A;unfold jJ;split
  next e=>exact F q x (by rw[<-e];exact A)
  ·exact A
 have B:∀q x,jJ D D' g q=some x->D'.get q=some x\/(D'.get q=none/\D.get q=none/\g q=some x):=by
  intro q x A;cases hd:D'.get q with
  | some y=>rw[ad q y hd]at A;exact .inl A
  | none=>
   unfold jJ at A;split at A
   next e=>rw[hd]at e;exact .inr ⟨rfl,e.symm,A⟩
   ·rw[hd]at A;cases A
 have G:∀q x,D'.get q=some x->(patch D'.next f1 f).b q=f1.b q:=fun q x A=>(U q (hw.hok.get q x A).1).1.symm
 have H:∀q x,g q=some x->(patch D'.next f1 f).b q=f.b q:=fun q x A=>(Y q (hg q x A).1).1.symm
 have aa:∀q x,g q=some x->f.b q<w.heap.size:=by
  intro q x A;obtain⟨r,O,_⟩:=m.obj q x A;exact(br.1 O).1
 have W:∀q x,g q=some x->D.get q=none->∀i o,D.get i=some o->f.b i≠f.b q:=by
  intro q x A hd i o L e;have:=m.inj i q o x (F i o L) A e;subst this;rw[hd]at L;cases L
 refine⟨?_,?_,?_,?_,bN m.size hm.size,hm.tape.trans m.tape,hm.os.trans m.os,hm.output.trans m.output,?_⟩
 ·exact m.agree.trans (Y.mono ab)
 ·intro q x A
  rcases B q x A with hd|⟨_,hd,M⟩
  ·obtain⟨r,O,h2⟩:=hm.rep.obj q x hd
   obtain⟨h3,h4⟩:=hw.hok.get q x hd;exact⟨r,by rw[G q x hd];exact O,h2.congr U h3 h4⟩
  ·obtain⟨r,O,h2⟩:=m.obj q x M
   obtain⟨h3,h4⟩:=hg q x M;refine⟨r,?_,h2.congr Y h3 h4⟩;rw[H q x M,hm.kept _ (aa q x M) (W q x M hd)];exact O
 ·
  have X:∀i j o o',D'.get i=some o->g j=some o'->D.get j=none->f1.b i≠f.b j:=by
   intro i j o o' L hj hd e;rcases hm.own i o L with h|⟨k,ok,hk,h⟩
   ·have:=aa j o' hj;omega
   ·exact W j o' hj hd k ok hk (by rw[<-h];exact e)
  intro i j o o' L hj e;rcases B i o L with u|⟨_,u,C⟩<;>rcases B j o' hj with J|⟨_,J,Q⟩
  ·rw[G i o u,G j o' J]at e;exact hm.rep.inj i j o o' u J e
  ·rw[G i o u,H j o' Q]at e;exact absurd e (X i j o o' u Q J)
  ·rw[H i o C,G j o' J]at e;exact absurd e.symm (X j i o' o J C u)
  ·rw[H i o C,H j o' Q]at e;exact m.inj i j o o' C Q e
 ·intro b hb hn
  rw[hm.kept b (aL hb m.size) ?_]
  ·exact m.kept b hb hn
  ·intro i o L e
   rcases m.own i o (F i o L)with h|⟨j,o',O,h2⟩
   ·omega
   ·exact hn j o' O (by rw[<-h2];exact e)
 ·intro i o L
  rcases B i o L with u|⟨_,u,C⟩
  ·rw[G i o u]
   rcases hm.own i o u with h|⟨j,o',O,h2⟩
   ·exact .inl (bN m.size h)
   ·rw[h2];exact m.own j o' (F j o' O)
  ·rw[H i o C];exact m.own i o C
end
end
section
open Classical
def sr(ops:Array Oper)(m:Nat):Option Tmp:=(ops[m]?).bind (·.dst)
theorem qd {ops:Array Oper}(h:ops[m]? = some o):sr ops m=o.dst:=by rw[sr,h];rfl
def gW(n:Nat)(ops:Array Oper)(V:Nat->EV)(ly:Ba)(S:Nat->Prop):Nat->Ba
 | 0=>ly
 | m+1=>if S m then Qu n (gW n ops V ly S m) (sr ops m) (V m)else gW n ops V ly S m
def hS(E E':Nat->Ab)(g0:Nat->Option Ds)(S:Nat->Prop):Nat->Nat->Option Ds
 | 0=>g0
 | m+1=>if S m then jJ (E m) (E' m) (hS E E' g0 S m)else hS E E' g0 S m
theorem oQ(n:Nat)(tm:Ba)(d:Option Tmp)(v:EV)(t:Nat):tmp (Qu n tm d v) t=if d=some t/\t<n then v else tmp tm t:=by
 cases d with
 | none=>simp[Qu]
 | some d=>
  rw[O_];by_cases h:d=t
  ·subst h;simp
  ·rw[aK (fun x=>h x.1),aK (fun x=>h (by simpa using x.1))]
theorem yw(f:Loc)(n:Nat){a b:Ba}(h:∀t,tmp a t=tmp b t):Bi f n a=Bi f n b:=by
 unfold Bi;simp only[h]
theorem Bng(h:∀t,n<=t->tm.get t=none)(d:Option Tmp)(v:EV):∀t,n<=t->(Qu n tm d v).get t=none:=by
 intro t e;cases d with
 | none=>exact h t e
 | some d=>
  simp only[Qu];rw[Br];split
  next hd=>
   rw[Tr.Ae _ _ (Nat.ne_of_lt (aL (bG hd) e))];exact h t e
  ·exact h t e
theorem Bqg{t:Nat}(h:tm.get t=some v):tmp tm t=v:=by unfold tmp;rw[h]
theorem Bdw{call:Ah}(j:aop T call round tm op h=some (v,h')):∀cs b,op=.select cs b->∃c,cs = #[c]:=by
 rintro cs b rfl;rw[uX rfl (fun _ e=>by cases e)]at j;cases b with
 | true=>cases j
 | false=>
  simp only[Dx]at j;split at j
  next c u=>
   exact⟨c,by apply dX;simpa using u⟩
  ·cases j
section
variable{call:Ah}{ops:Array Oper}{bs:Tr Nat}
def nx(σ:Nat->iP)(m:Nat):Nat:=(σ m).h.next
def pS(p0:Nat->Prop)(σ:Nat->iP)(N:Nat)(S:Nat->Prop)(q:Nat):Prop:=p0 q\/∃j,S j/\j<N/\nx σ j<=q/\q<nx σ (j+1)
structure Inv(n:Nat)(ops:Array Oper)(bs:Tr Nat)(σ:Nat->iP)(V:Nat->EV)(E E':Nat->Ab)(p0:Nat->Prop)(f0:Loc)(w0:World)(S:Nat->Prop)(f:Loc)(w:World):Prop where
 dn:∀j,S j->j<ops.size/\∀b,bs.get j=some b->∀k,b.testBit k=true->S k
 vok:∀j,S j->(V j).ok (fun q=>pS p0 σ ops.size S q/\q<nx σ (j+1))
 eok:∀j,S j->∀q x,(E' j).get q=some x->(pS p0 σ ops.size S q/\q<nx σ (j+1))/\x.ok (fun q=>pS p0 σ ops.size S q/\q<nx σ (j+1))
 mv:Aht p0 f0 (σ 0).h w0 f (hS E E' (σ 0).h.get S ops.size) w
variable (tr:jV T call round n ops.toList bs base σ V E E' K)
include tr
theorem jV.uZ(h:ops[i]? = some o):Sd T call round n ops.toList bs base o i (σ i) (σ (i+1)) (V i) (E i) (E' i) (K i):=tr.sd i o (by rw[cQ];exact h)
theorem jV.oR(e:i<=m)(hm:m<=ops.size):nx σ i<=nx σ m:=tr.yv e (by simpa using hm)
theorem Ri{t:Nat}(y:i<=ops.size)(h:∀j,j<i->¬S j->sr ops j≠some t):∀m,m<=i->tmp (gW n ops V (σ 0).tm S m) t=tmp (σ m).tm t
 | 0,_=>rfl
 | m+1,hm=>by
  have e:=Ri y h m a_;have u:ops[m]? = some ops[m]:=cU a_;rw[(tr.uZ u).tm,<-qd u,oQ];simp only[gW];split
  ·rw[oQ,e]
  next hs=>
   rw[e,aK (fun x=>h m a_ hs x.1)]
omit tr in
theorem RA{t:Nat}(ly:Ba)(h:∀j,i<=j->S j->sr ops j≠some t):∀m,i<=m->tmp (gW n ops V ly S m) t=tmp (gW n ops V ly S i) t:=by
 intro m;induction m with
 | zero=>
  intro hm;have:i=0:=a_
  subst this;rfl
 | succ m u=>
  intro hm;by_cases e:i=m+1
  ·subst e;rfl
  ·rw[<-u a_]
   simp only[gW];split
   next hs=>rw[oQ,aK (fun x=>h m a_ hs x.1)]
   ·rfl
theorem yx(u:i<=ops.size)(h:∀j,j<i->¬S j->(E' j).get q=(E j).get q):∀m,m<=i->hS E E' (σ 0).h.get S m q=(σ m).h.get q
 | 0,_=>rfl
 | m+1,hm=>by
  have e:=yx u h m a_;have y:ops[m]? = some ops[m]:=cU a_;rw[(tr.uZ y).Bmv];simp only[hS];split
  ·simp only[jJ,e]
  next hs=>
   rw[e,aN (h m a_ hs)]
omit tr in
theorem RB(g0:Nat->Option Ds)(h:∀j,i<=j->S j->(E' j).get q=(E j).get q):∀m,i<=m->hS E E' g0 S m q=hS E E' g0 S i q:=by
 intro m;induction m with
 | zero=>
  intro hm;have:i=0:=a_
  subst this;rfl
 | succ m u=>
  intro hm;by_cases e:i=m+1
  ·subst e;rfl
  ·rw[<-u a_]
   simp only[hS];split
   next hs=>simp only[jJ];rw[aN (h m a_ hs)]
   ·rfl
theorem ss(h:∀j,j<ops.size->S j):∀m,m<=ops.size->gW n ops V (σ 0).tm S m=(σ m).tm
 | 0,_=>rfl
 | m+1,hm=>by
  have e:ops[m]? = some ops[m]:=cU a_;simp only[gW];rw[aN (h m a_),ss h m a_,(tr.uZ e).tm,qd e]
theorem RC(h:∀j,j<ops.size->S j)(q:Nat):hS E E' (σ 0).h.get S ops.size q=(σ ops.size).h.get q:=
 yx tr (aD _) (fun j hj hs=>absurd (h j hj) hs) _ (aD _)
omit tr in
theorem yy(h:∀t,n<=t->ly.get t=none)(S:Nat->Prop):∀m t,n<=t->(gW n ops V ly S m).get t=none
 | 0=>h
 | m+1=>by
  simp only[gW];split
  ·exact Bng (yy h S m) _ _
  ·exact yy h S m
variable{w0:World}{w:World}
theorem Inv.u5(I:Inv n ops bs σ V E E' p0 f0 w0 S f w)(h0:Lv p0 n (σ 0).tm)(hp:∀q,p0 q->q<nx σ 0):∀m,m<=ops.size->Lv (fun q=>pS p0 σ ops.size S q/\q<nx σ m) n (gW n ops V (σ 0).tm S m)
 | 0,_=>h0.mono fun q e=>⟨.inl e,hp q e⟩
 | m+1,hm=>by
  have j:=Inv.u5 I h0 hp m a_;have u:=tr.oR (i:=m) (m:=m+1) a_ hm;simp only[gW];split
  next hs=>
   exact(j.mono fun q e=>⟨e.1,a_⟩).put _ (I.vok m hs)
  ·exact j.mono fun q e=>⟨e.1,a_⟩
theorem Inv.hok(I:Inv n ops bs σ V E E' p0 f0 w0 S f w)(h0:Tw p0 (σ 0).h):∀m,m<=ops.size->∀q x,hS E E' (σ 0).h.get S m q=some x ->
 (pS p0 σ ops.size S q/\q<nx σ m)/\x.ok (fun q=>pS p0 σ ops.size S q/\q<nx σ m)
 | 0,_,q,x,e=>⟨⟨.inl (h0.get q x e).1,h0.lt q (h0.get q x e).1⟩,(h0.get q x e).2.mono fun r j=>⟨.inl j,h0.lt r j⟩⟩
 | m+1,hm,q,x,e=>by
  have y:=tr.oR (i:=m) (m:=m+1) a_ hm;have up:∀{q x},hS E E' (σ 0).h.get S m q=some x->(pS p0 σ ops.size S q/\q<nx σ (m+1))/\x.ok (fun q=>pS p0 σ ops.size S q/\q<nx σ (m+1)):=by
   intro q x e;obtain⟨u,h2⟩:=Inv.hok I h0 m a_ q x e;exact⟨⟨u.1,a_⟩,h2.mono fun r j=>⟨j.1,a_⟩⟩
  simp only[hS]at e;split at e
  next hs=>
   unfold jJ at e;split at e
   ·exact up e
   ·exact I.eok m hs q x e
  ·exact up e
end
end
section
open Classical
section
variable(hT:Q4 P T){call:Ah}(hC:kC P call)(hR:oI P round){ops:Array Oper}{bs:Tr Nat}
 (tr:jV T call round n ops.toList bs base σ V E E' K) (hbs:bs=O7 ops.toList 0 .nil) (htm:mj ops.toList bs ops.toList 0 []=true)
 {w0:World} {w:World}
include hbs in
theorem RD(j:i<ops.size):∃b,bs.get i=some b:=by
 have u:ops.toList[i]? = some ops[i]:=by rw[cQ];exact cU j
 obtain⟨b,e,_⟩:=xQ ops.toList 0 .nil (fun _ _=>rfl) i _ u;rw[bI]at e;exact⟨b,by rw[hbs];exact e⟩
include hT hC hR tr hbs htm in
theorem Inv.step(I:Inv n ops bs σ V E E' p0 f0 w0 S f w)(h0:Lv p0 n (σ 0).tm)(ah:Tw p0 (σ 0).h)(hi:i<ops.size)(Q:¬S i){bi:Nat}(aq:bs.get i=some bi)(a8:∀k,bi.testBit k=true->S k)
 {S':Nat->Prop} (C:∀j,S' j↔S j\/j=i) (fb:FB) (rest:List Nat) (k:List Item) (cs:List Frame) :
 ∃f' w',Steps P (lone (fb.at (Bi f n (gW n ops V (σ 0).tm S ops.size)) (.inRegion ops (i::rest)::k)) cs w) (lone (fb.at (Bi f' n (gW n ops V (σ 0).tm S' ops.size)) (.inRegion ops rest::k)) cs w') /\
  Inv n ops bs σ V E E' p0 f0 w0 S' f' w':=by
 have ho:ops[i]? = some ops[i]:=cU hi;generalize ch:ops[i]=o at ho;have sd:=tr.uZ ho;have au:∀q,p0 q->q<nx σ 0:=ah.lt;have hlen:ops.toList.length=ops.size:=by simp
 have aj:∀j,j<i->¬S j->bi.testBit j=false:=by
  intro j _ hs;cases hb:bi.testBit j with
  | false=>rfl
  | true=>exact absurd (a8 j hb) hs
 have F:∀j,i<j->S j->∃b,bs.get j=some b/\b.testBit i=false:=by
  intro j hj hs;obtain⟨Y,hd⟩:=I.dn j hs;obtain⟨b,hb⟩:=RD hbs Y;refine⟨b,hb,?_⟩;cases ba:b.testBit i with
  | false=>rfl
  | true=>exact absurd (hd b hb i ba) Q
 have Y:∀j,S j->j<ops.size:=fun j hs=>(I.dn j hs).1
 have Z:∀j,j<ops.size->∃oj,ops[j]? = some oj/\ops.toList[j]? = some oj:=fun j hj=>⟨ops[j],cU hj,by rw[cQ];exact cU hj⟩
 have aw:ops.toList[i]? = some o:=by rw[cQ];exact ho
 have J:∀t,sk ops.toList o t->tmp (gW n ops V (σ 0).tm S ops.size) t=tmp (σ i).tm t/\tmp (gW n ops V (σ 0).tm S i) t=tmp (σ i).tm t:=by
  intro t ht;have e1:tmp (gW n ops V (σ 0).tm S i) t=tmp (σ i).tm t:=by
   refine Ri tr a_ (fun j hj hs e=>?_) i (aD _);obtain⟨oj,U,h2⟩:=Z j a_;rw[qd U]at e;exact((ys htm h2 aw hj aq (aj j hj hs)).1 t e).2 ht
  refine⟨?_,e1⟩;rw[<-e1];refine RA _ (fun j hj hs e=>?_) _ a_;have aa:i<j:=by
   rcases Nat.lt_or_eq_of_le hj with h|h
   ·exact h
   ·subst h;exact absurd hs Q
  obtain⟨oj,U,h2⟩:=Z j (Y j hs);obtain⟨b,hb,L⟩:=F j aa hs;rw[qd U]at e;exact(ys htm aw h2 aa hb L).2 t ht e
 have B:∀q x,(E i).get q=some x->hS E E' (σ 0).h.get S i q=some x/\hS E E' (σ 0).h.get S ops.size q=some x:=by
  intro q x A;have e1:hS E E' (σ 0).h.get S i q=some x:=by
   rw[yx tr a_ (fun j hj hs=>?_) i (aD _)]
   ·exact sd.sub q x A
   ·exact(tr.pair hj a_ aq (aj j hj hs)).2.2 q x A
  refine⟨e1,?_⟩;rw[<-e1];refine RB _ (fun j hj hs=>?_) _ a_;have aa:i<j:=by
   rcases Nat.lt_or_eq_of_le hj with h|h
   ·exact h
   ·subst h;exact absurd hs Q
  obtain⟨b,hb,L⟩:=F j aa hs;exact(tr.pair aa (by have:=Y j hs;omega) hb L).2.1 q x A
 have ab:S' i:=(C i).2 (.inr rfl);have u:∀j,j≠i->(S' j↔S j):=fun j hj=>⟨fun h=>((C j).1 h).resolve_right hj,fun h=>(C j).2 (.inl h)⟩
 have ax:∀m,m<=i->gW n ops V (σ 0).tm S' m=gW n ops V (σ 0).tm S m:=by
  intro m;induction m with
  | zero=>intro _;rfl
  | succ m W=>
   intro hm;simp only[gW];rw[W a_];by_cases hs:S m
   ·rw[aN hs,aN ((u m a_).2 hs)]
   ·rw[aK hs,aK (fun h=>hs ((u m a_).1 h))]
 have ay:∀m,m<=i->hS E E' (σ 0).h.get S' m=hS E E' (σ 0).h.get S m:=by
  intro m;induction m with
  | zero=>intro _;rfl
  | succ m W=>
   intro hm;simp only[hS];rw[W a_];by_cases hs:S m
   ·rw[aN hs,aN ((u m a_).2 hs)]
   ·rw[aK hs,aK (fun h=>hs ((u m a_).1 h))]
 have O:∀m,i<m->m<=ops.size->∀t,tmp (gW n ops V (σ 0).tm S' m) t=tmp (Qu n (gW n ops V (σ 0).tm S m) o.dst (V i)) t:=by
  intro m;induction m with
  | zero=>intro h;omega
  | succ m W=>
   intro hm bz t;by_cases e:m=i
   ·subst e
    simp only[gW];rw[aN ab,aK Q,ax _ (aD _),qd ho]
   ·have W:=W a_ a_ t
    simp only[gW];by_cases hs:S m
    ·rw[aN hs,aN ((u m e).2 hs),oQ,W,oQ,oQ,oQ]
     obtain⟨b,hb,L⟩:=F m a_ hs;obtain⟨om,U,h2⟩:=Z m a_;have Qc:=(ys htm aw h2 a_ hb L).1;rw[qd U];by_cases c1:om.dst=some t/\t<n
     ·rw[aN c1,aK,aN c1]
      rintro⟨c2,_⟩;exact(Qc t c2).1 c1.1
     ·rw[aK c1,aK c1]
    ·rw[aK hs,aK (fun h=>hs ((u m e).1 h))];exact W
 have ai:∀m,i<m->m<=ops.size->hS E E' (σ 0).h.get S' m=jJ (E i) (E' i) (hS E E' (σ 0).h.get S m):=by
  intro m;induction m with
  | zero=>intro h;omega
  | succ m W=>
   intro hm bz;by_cases e:m=i
   ·subst e
    simp only[hS];rw[aN ab,aK Q,ay _ (aD _)]
   ·have W:=W a_ a_
    simp only[hS];by_cases hs:S m
    ·rw[aN hs,aN ((u m e).2 hs),W]
     obtain⟨b,hb,L⟩:=F m a_ hs;have b5:=(tr.pair (i:=i) (m:=m) a_ a_ hb L).1;funext q;simp only[jJ];rcases b5 q with h|h
     ·rw[aN h,aN h]
     ·rw[aN h,aN h]
    ·rw[aK hs,aK (fun h=>hs ((u m e).1 h))];exact W
 have X:∀q,pS p0 σ ops.size S q->pS p0 σ ops.size S' q:=by
  rintro q (h|⟨j,U,h2⟩)
  ·exact .inl h
  ·exact .inr ⟨j,(C j).2 (.inl U),h2⟩
 have b6:∀q,nx σ i<=q->q<nx σ (i+1)->pS p0 σ ops.size S' q:=fun q U h2=>.inr ⟨i,ab,hi,U,h2⟩
 have ad:∀f' w',(V i).ok (fun q=>pS p0 σ ops.size S' q/\q<nx σ (i+1))->(∀q x,(E' i).get q=some x->(pS p0 σ ops.size S' q/\q<nx σ (i+1))/\x.ok (fun q=>pS p0 σ ops.size S' q/\q<nx σ (i+1))) ->
  Aht p0 f0 (σ 0).h w0 f' (jJ (E i) (E' i) (hS E E' (σ 0).h.get S ops.size)) w'->Inv n ops bs σ V E E' p0 f0 w0 S' f' w':=by
  intro f' w' U h2 h3;refine⟨fun j hj=>?_,fun j hj=>?_,fun j hj=>?_,?_⟩
  ·rcases(C j).1 hj with hj|rfl
   ·exact⟨Y j hj,fun b hb k hk=>(C k).2 (.inl ((I.dn j hj).2 b hb k hk))⟩
   ·refine⟨hi,fun b hb k hk=>(C k).2 (.inl ?_)⟩
    rw[aq]at hb;cases hb;exact a8 k hk
  ·rcases(C j).1 hj with hj|rfl
   ·exact EV.ok.mono (fun q hq=>⟨X q hq.1,hq.2⟩) _ (I.vok j hj)
   ·exact U
  ·rcases(C j).1 hj with hj|rfl
   ·intro q x A
    obtain⟨a,b⟩:=I.eok j hj q x A;exact⟨⟨X q a.1,a.2⟩,b.mono fun r hr=>⟨X r hr.1,hr.2⟩⟩
   ·exact h2
  ·rw[ai ops.size hi (aD _)];exact h3
 have M:=I.u5 tr h0 au ops.size (aD _);have G:Region.wanted o (Go.yielded ops (Bi f n (gW n ops V (σ 0).tm S ops.size)))=Ev.wanted ops.toList (σ i).tm o.guard:=by
  rw[QG M];unfold Ev.wanted;cases hg:o.guard with
  | none=>rfl
  | some x=>
   obtain⟨j,want⟩:=x;simp only[];have:Ev.yielded ops.toList (gW n ops V (σ 0).tm S ops.size) j=Ev.yielded ops.toList (σ i).tm j:=by
    unfold Ev.yielded;rw[uL];cases hj:ops.toList[j]? with
    | none=>rfl
    | some g=>
     simp only[];cases hd:g.dst with
     | none=>rfl
     | some d=>
      simp only[];have:=(J d (.inr ⟨j,want,g,hg,hj,hd⟩)).1;unfold tmp at this;revert this;cases gW n ops V (σ 0).tm S ops.size|>.get d with
      | none=>
       cases(σ i).tm.get d with
       | none=>intro _;rfl
       | some v=>intro h;simp only[]at h;rw[<-h]
      | some v=>
       cases(σ i).tm.get d with
       | none=>intro h;simp only[]at h;rw[h]
       | some v'=>intro h;simp only[]at h;rw[h]
   rw[this]
 rcases sd.run with⟨hw,hv,hE⟩|⟨hw,bb⟩
 ·
  refine⟨f,w,.one ?_,ad f w ?_ ?_ ?_⟩
  ·rw[hw]at G
   have:=P_ (P:=P) (b:=fb) (rest:=rest) (k:=k) (cs:=cs) (w:=w) ho G;rw[this,show(undef:Value)=Cl f (V i) by rw[hv];rfl,uU];rw[yw f n (fun t=>(O ops.size hi (aD _) t).symm)]
  ·rw[hv];trivial
  ·rw[hE]
   intro q x A;obtain⟨a,b⟩:=I.hok tr ah i a_ q x (B q x A).1;have:=tr.oR (i:=i) (m:=i+1) a_ a_;exact⟨⟨X q a.1,a_⟩,b.mono fun r hr=>⟨X r hr.1,by have:=hr.2;omega⟩⟩
  ·have:jJ (E i) (E' i) (hS E E' (σ 0).h.get S ops.size)=hS E E' (σ 0).h.get S ops.size:=by
    funext q;simp only[jJ];rw[hE,aN rfl]
   rw[this];exact I.mv
 ·have ae:(E i).next=nx σ i:=sd.Afm
  have af:(E' i).next=nx σ (i+1):=sd.Af0
  rw[hw]at G;have a1:=I.u5 tr h0 au i a_;have a2:∀t,n<=t->(σ i).tm.get t=none:=by
   rw[<-ss tr (S:=fun _=>True) (fun _ _=>trivial) i a_];exact yy h0.out _ i
  have ag:∀x∈o.op.operands,Cg (jm (σ i).tm o.op.operands.toList) x=Cg (σ i).tm x:=fun x A=>Bbe _ (dE.2 A)
  have bf:aop T call round (jm (σ i).tm o.op.operands.toList) o.op (E i)=some (V i,E' i):=by rw[Bgy ag];exact bb
  have bj:Lv (fun q=>pS p0 σ ops.size S q/\q<(E i).next) n (jm (σ i).tm o.op.operands.toList):=by
   refine Bjm (fun t ht v hv=>?_) a2;have e:=(J t (.inl ht)).2;rw[Bqg hv]at e;rw[<-e,ae];exact a1.tmp t
  have b8:Tw (fun q=>pS p0 σ ops.size S q/\q<(E i).next) (E i):=by
   refine⟨fun q hq=>hq.2,fun q x A=>?_⟩;rw[ae];exact I.hok tr ah i a_ q x (B q x A).1
  have ca:T8 f (E i) w:=⟨fun q x A=>I.mv.obj q x (B q x A).2,fun q r x y A hy=>I.mv.inj q r x y (B q x A).2 (B r y hy).2⟩;have cb:execOp (Jf (Bi f n (gW n ops V (σ 0).tm S ops.size))) o=execOp (Jf (Bi f n (jm (σ i).tm o.op.operands.toList))) o:=by
   refine Bau o (Bdw bb) fun x A=>?_
   cases x with
   | tmp t=>
    have e1:Jf (Bi f n (gW n ops V (σ 0).tm S ops.size)) (.tmp t)=Cl f (tmp (gW n ops V (σ 0).tm S ops.size) t):=rX f M t;have e2:Jf (Bi f n (jm (σ i).tm o.op.operands.toList)) (.tmp t)=Cl f (tmp (jm (σ i).tm o.op.operands.toList) t):=rX f bj t;rw[e1,e2,(J t (.inl (dE.2 A))).1];have e3:=ag _ A;simp only[Cg,cV]at e3;exact congrArg (Cl f) e3.symm
   | const v=>rfl
   | global g=>rfl
   | func g=>rfl
  obtain⟨f1,w1,bk,bn,H,bo⟩:=QF hT hC hR bj b8 ca cb bf fb ops i rest k cs ho G;have ao:∀q,pS p0 σ ops.size S q->q<(E i).next\/(E' i).next<=q:=by
   rw[ae,af];rintro q (h|⟨j,U,h2,h3,h4⟩)
   ·left;have:=au q h;have:=tr.oR (i:=0) (m:=i) a_ a_;omega
   ·rcases Nat.lt_trichotomy j i with h|h|h
    ·left;have:=tr.oR (i:=j+1) (m:=i) a_ a_;omega
    ·subst h;exact absurd U Q
    ·right;have:=tr.oR (i:=i+1) (m:=j) a_ a_;omega
  have bp:∀q x,hS E E' (σ 0).h.get S ops.size q=some x->pS p0 σ ops.size S q/\x.ok (pS p0 σ ops.size S):=by
   intro q x A;obtain⟨a,b⟩:=I.hok tr ah ops.size (aD _) q x A;exact⟨a.1,b.mono fun r hr=>hr.1⟩
  have a5:∀q,grow (fun q=>pS p0 σ ops.size S q/\q<(E i).next) (E i) (E' i) q->pS p0 σ ops.size S' q/\q<nx σ (i+1):=by
   rintro q (h|h)
   ·have:=H.next
    rw[ae]at this h;rw[af]at this;exact⟨X q h.1,aL h.2 this⟩
   ·rw[ae,af]at h
    exact⟨b6 q h.1 h.2,h.2⟩
  refine⟨patch (E' i).next f1 f,w1,?_,ad _ _ (EV.ok.mono a5 _ bo) (fun q x A=>?_) (Aht.step I.mv (fun q x A=>(B q x A).2) bp (fun q hq=>.inl hq) bn H ao)⟩
  ·have e1:Cl f1 (V i)=Cl (patch (E' i).next f1 f) (V i):=pY (Rh H) _ bo
   have e2:Bi f n (gW n ops V (σ 0).tm S ops.size)=Bi (patch (E' i).next f1 f) n (gW n ops V (σ 0).tm S ops.size):=Lf (Q_ bn H ao) (M.mono fun q hq=>hq.1);have e3:nE (Bi f n (gW n ops V (σ 0).tm S ops.size)) o.dst (Cl f1 (V i))=Bi (patch (E' i).next f1 f) n (gW n ops V (σ 0).tm S' ops.size):=by
    rw[e1,e2,uU];exact yw _ n (fun t=>(O ops.size hi (aD _) t).symm)
   rw[e3]at bk;exact bk
  ·obtain⟨a,b⟩:=H.hok.get q x A
   exact⟨a5 q a,b.mono a5⟩
theorem RE(e:Edge):nv e=Region.binds .any e:=by
 unfold nv Region.binds;split<;>simp_all
def jA(listed:Array Bool)(N:Nat):List Nat:=(List.range N).filter fun i=>!listed.getD i true
theorem Boi{N:Nat}(y:listed.size=N)(u:i<N)(A:listed.getD i true=false):(jA (listed.setIfInBounds i true) N).length<(jA listed N).length:=by
 have e:jA (listed.setIfInBounds i true) N=(jA listed N).filter (fun j=>j != i):=by
  unfold jA;rw[List.filter_filter];apply List.filter_congr;intro j hj;rw[eX]at hj;by_cases h:i=j
  ·subst h
   simp[y,u]
  ·rw[getD_set_ne _ h]
   have:(j != i)=true:=by simp[cn h]
   rw[this];simp
 rw[e];refine List.length_filter_lt_length_iff_exists.2 ⟨i,?_,by simp⟩;unfold jA;rw[dZ,eX];exact⟨u,by simp only[A];rfl⟩
include hT hC hR tr hbs htm in
theorem Bl5(W:nj ops.toList 0=true)(h0:Lv p0 n (σ 0).tm)(X:Tw p0 (σ 0).h)(Y:FB)(k:List Item)(cs:List Frame):∀(fuel t:Nat) (listed:Array Bool) (f:Loc) (w:World),listed.size=ops.size->(jA listed ops.size).length<=fuel ->
 Inv n ops bs σ V E E' p0 f0 w0 (fun j=>listed.getD j false=true) f w ->
 ∃f' w',Steps P (lone (Y.at (Bi f n (gW n ops V (σ 0).tm (fun j=>listed.getD j false=true) ops.size)) (.inRegion ops (Region.linearise.go .any ops fuel t listed [])::k)) cs w)
  (lone (Y.at (Bi f' n (σ ops.size).tm) (.inRegion ops []::k)) cs w') /\
  ∃S,(∀j,j<ops.size->S j)/\Inv n ops bs σ V E E' p0 f0 w0 S f' w':=by
 have C:∀listed:Array Bool,listed.size=ops.size->(jA listed ops.size).length=0->∀j,j<ops.size->listed.getD j false=true:=by
  intro listed F Z j hj;have:j ∉ jA listed ops.size:=by rw[bh.1 Z];simp
  unfold jA at this;rw[dZ,eX]at this;have h2:(!listed.getD j true)=false:=by
   cases h:(!listed.getD j true)with
   | false=>rfl
   | true=>exact absurd ⟨hj,h⟩ this
  have u:j<listed.size:=a_
  simp[Array.getD,u]at h2⊢;exact h2
 intro fuel;induction fuel with
 | zero=>
  intro t listed f w F hf I;have hs:=C listed F a_;refine⟨f,w,?_,_,hs,I⟩;simp only[Region.linearise.go,List.reverse_nil];rw[ss tr hs _ (aD _)];exact .refl _ _
 | succ fuel ih=>
  intro t listed f w F hf I;simp only[Region.linearise.go];have aa:((List.range ops.size).filter fun i=>!listed.getD i true&&((ops[i]?).map (·.after.all fun e=>!Region.binds .any e||listed.getD e.on false)).getD false)=Region.ready .any ops listed:=rfl;rw[aa];split
  next i hi=>
   have A:i∈Region.ready .any ops listed:=dR hi;obtain⟨G,o,L,ab⟩:=mem_ready.1 A;have B:i<ops.size:=(br.1 L).1;have ad:¬(listed.getD i false=true):=by
    have u:i<listed.size:=a_
    simp[Array.getD,u]at G⊢;exact G
   obtain⟨bi,M⟩:=RD hbs B;have H:ops.toList[i]? = some o:=by rw[cQ];exact L
   obtain⟨b',h1,h2⟩:=xQ ops.toList 0 .nil (fun _ _=>rfl) i o H;rw[bI,<-hbs,M]at h1;cases h1;have O:∀j,bi.testBit j=true->listed.getD j false=true:=by
    intro j hj;obtain⟨e,he,hb,ae⟩:=h2 j hj;have Q:=ab e (dE.1 he) (by rw[<-RE];exact hb);rcases ae with rfl|⟨y,hy,af⟩
    ·exact Q
    ·rw[<-hbs]at hy
     exact(I.dn e.on Q).2 y hy j af
   rw[linearise_go_acc];have ag:∀j,(listed.setIfInBounds i true).getD j false=true↔listed.getD j false=true\/j=i:=by
    intro j;by_cases h:i=j
    ·subst h
     have:(listed.setIfInBounds i true).getD i false=true:=by simp[F,B]
     simp[this]
    ·rw[getD_set_ne _ h]
     constructor
     ·exact .inl
     ·rintro(h'|h')
      ·exact h'
      ·exact absurd h'.symm h
   obtain⟨f1,w1,ah,I1⟩:=I.step hT hC hR tr hbs htm h0 X B ad M O (S':=fun j=>(listed.setIfInBounds i true).getD j false=true) ag Y (Region.linearise.go .any ops fuel (t/(Region.ready .any ops listed).length) (listed.setIfInBounds i true) []) k cs;obtain⟨f2,w2,ai,aj⟩:=ih (t/(Region.ready .any ops listed).length) (listed.setIfInBounds i true) f1 w1 (by simpa using F) (by have:=Boi F B G;omega) I1;exact⟨f2,w2,ah.trans ai,aj⟩
  next J=>
   have Z:(jA listed ops.size).length=0:=by
    cases hc:jA listed ops.size with
    | nil=>rfl
    | cons a l=>
     exfalso;have hex:∃j,j<ops.size/\listed.getD j true=false:=by
      have:a∈jA listed ops.size:=by rw[hc];exact aW
      unfold jA at this;rw[dZ,eX]at this;exact⟨a,this.1,by simpa using this.2⟩
     have U:∀N,∀j,j<N->j<ops.size->listed.getD j true=false->∃i,i<ops.size/\listed.getD i true=false/\∀k,k<i->listed.getD k true=true:=by
      intro N;induction N with
      | zero=>intro j h;omega
      | succ N al=>
       intro j hj ao aq;by_cases hk:∃k,k<j/\listed.getD k true=false
       ·obtain⟨k,bk,au⟩:=hk
        exact al k a_ a_ au
       ·refine⟨j,ao,aq,fun k aw=>?_⟩
        cases h:listed.getD k true with
        | true=>rfl
        | false=>exact absurd ⟨k,aw,h⟩ hk
     obtain⟨j,ax,ay⟩:=hex;obtain⟨i,az,a1,a2⟩:=U (j+1) j a_ ax ay;have L:ops[i]? = some ops[i]:=cU az;have H:ops.toList[i]? = some ops[i]:=by rw[cQ];exact L
     have A:i∈Region.ready .any ops listed:=mem_ready.2 ⟨a1,_,L,fun e he hb=>by
      have bn:=QR ops.toList 0 W i _ H e (dE.2 he) (by rw[RE];exact hb);have:=a2 e.on a_;have u:e.on<listed.size:=a_
      simp[Array.getD,u]at this⊢;exact this⟩
     have hlen:0<(Region.ready .any ops listed).length:=List.length_pos_of_mem A;rw[List.getElem?_eq_none_iff]at J;have:=Nat.mod_lt t hlen;omega
   have hs:=C listed F Z;refine⟨f,w,?_,_,hs,I⟩;simp only[List.reverse_nil];rw[ss tr hs _ (aD _)];exact .refl _ _
end
end
section
open Classical
section
variable{call:Ah}(hC:W8 call)(hR:W8 round){ops:List Oper}{bs:Tr Nat}
theorem Sd.RF{s s':iP}{E E':Ab}(sd:Sd T call round n ops bs base o i s s' v E E' kd):AWf s.h s'.h where
 next:=by rw[<-sd.Afm,<-sd.Af0];exact sd.w.next
 mw:=sd.mw.1
 same q u h2:=by rw[sd.Bmv,aN (sd.mw.2 q u h2)]
 live q x e:=by
  rw[sd.Bmv]at e;split at e
  ·exact .inl ⟨x,e⟩
  ·rcases sd.w.live q x e with⟨o',h⟩|h
   ·exact .inl ⟨o',sd.sub q o' h⟩
   ·rw[sd.Afm]at h;exact .inr h
 lt H q x e:=by
  have j:s.h.next<=s'.h.next:=by rw[<-sd.Afm,<-sd.Af0];exact sd.w.next
  rw[sd.Bmv]at e;split at e
  ·exact aL (H q x e) j
  ·rw[<-sd.Af0]
   refine sd.w.lt (fun q x e=>?_) q x e;rw[sd.Afm];exact H q x (sd.sub q x e)
theorem Sd.nw{s s':iP}{E E':Ab}(sd:Sd T call round n ops bs base o i s s' v E E' kd)(h:∀x∈s.nw,x.2<s.h.next):∀x∈s'.nw,x.2<s'.h.next:=by
 have e:s.h.next<=s'.h.next:=sd.RF.next
 intro x j;have:=sd.kd;cases kd with
 | idle=>rw[this.2.2.2.1]at j;exact aL (h x j) e
 | load q=>rw[this.2.2.2.1]at j;exact aL (h x j) e
 | new=>
  obtain⟨a,⟨y,b⟩,c,d,_⟩:=this;rw[d]at j;rcases bc.1 j with rfl|j
  ·show s.h.next<_
   rw[<-sd.Af0,b,Ab.Dh,sd.Afm];omega
  ·exact aL (h x j) e
 | sto q=>
  obtain⟨_,_,d,_⟩:=this;rw[d]at j;exact aL (h x j) e
 | big mw=>
  obtain⟨b,_,_,_,_,_,d,_⟩:=this;rw[d]at j;exact aL (h x j) e
include hC hR in
theorem RG:∀{l:List Oper} {i:Nat} {s r:iP},Tk T call round n ops bs base l i s=some r->(∀x∈s.nw,x.2<s.h.next)->AWf s.h r.h
 | [],_,s,r,h,_=>by cases h;exact .refl _
 | o::l,i,s,r,h,e=>by
  simp only[Tk]at h;split at h
  next s' hs=>
   obtain⟨v,E,E',kd,sd⟩:=yu hC hR hs e;exact sd.RF.trans (RG h (sd.nw e))
  ·cases h
include hC hR in
theorem RH(e:kZ T call round n ops tm h=some (f_,h')):AWf h h':=by
 unfold kZ at e;obtain⟨_,e⟩:=Ap e;obtain⟨_,e⟩:=Ap e;split at e
 next hs=>
  cases e;exact RG hC hR hs (fun x j=>by cases j)
 ·cases e
end
theorem Bkt(hT:Q4 P T){call:Ah}(hC:kC P call)(hR:oI P round)(wC:W8 call)(wR:W8 round)
 {ops:Array Oper} {w:World} (W:Lv p n tm) (J:Tw p h) (X:T8 f h w)
 (u:kZ T call round n ops.toList tm h=some (f_,h')) (b:FB) (t:Nat) (k:List Item) (cs:List Frame) (dr:Nat) :
 ∃f' w',Steps P (lone (b.at (Bi f n tm) (.inRegion ops (Region.linearise .any ops t)::k)) cs { w with drawn:=dr }) (lone (b.at (Bi f' n f_) (.inRegion ops []::k)) cs w') /\
  Move p f h w f' h' w'/\Wf p h h'/\Lv (grow p h h') n f_:=by
 have hwf:=RH wC wR u;unfold kZ at u;obtain⟨M,u⟩:=Ap u;obtain⟨htm,u⟩:=Ap u;split at u
 next Y L b1 b2 b3 b4 b5 hs=>
  cases u;obtain⟨σ,V,E,E',K,e0,O,tr⟩:=Bsf (s:=⟨tm,h,0,[],[],[],[]⟩) wC wR hs (fun q x Q=>J.lt q (J.get q x Q).1) rfl;have hlen:ops.toList.length=ops.size:=by simp
  rw[hlen]at O;have C:Lv p n (σ 0).tm:=by rw[e0];exact W
  have A:Tw p (σ 0).h:=by rw[e0];exact J
  have e:∀j,¬((Array.replicate ops.size false).getD j false=true):=by
   intro j;simp only[eS,Array.getElem?_replicate];split<;>simp
  have Z:Inv n ops (O7 ops.toList 0 .nil) σ V E E' p f w (fun j=>(Array.replicate ops.size false).getD j false=true) f { w with drawn:=dr }:=by
   refine⟨fun j hj=>absurd hj (e j),fun j hj=>absurd hj (e j),fun j hj=>absurd hj (e j),?_⟩;have:hS E E' (σ 0).h.get (fun j=>(Array.replicate ops.size false).getD j false=true) ops.size=(σ 0).h.get:=by
    funext q;exact RB _ (fun j _ hs=>absurd hs (e j)) _ (cO _)
   rw[this];have U:T8 f (σ 0).h w:=by rw[e0];exact X
   exact(Aht.start U).drew dr
  have F:Bi f n (gW n ops V (σ 0).tm (fun j=>(Array.replicate ops.size false).getD j false=true) ops.size)=Bi f n tm:=by
   rw[show tm=(σ 0).tm by rw[e0]];exact yw f n fun t=>RA _ (fun j _ hs=>absurd hs (e j)) _ (cO _)
  obtain⟨f',w',B,S,hS,I⟩:=Bl5 hT hC hR tr rfl htm M C A b k cs ops.size t (Array.replicate ops.size false) f _ (by simp) (by
   unfold jA;exact bN (eW _ _) (by simp)) Z
  rw[F]at B;have G:=I.mv.move (h:=(σ ops.size).h) (fun q=>(RC tr hS q).symm);have e1:(σ ops.size).h=h':=by rw[O]
  have e2:(σ ops.size).tm=f_:=by rw[O]
  have e3:(σ 0).h=h:=by rw[e0]
  have y:∀q,pS p σ ops.size S q/\q<nx σ ops.size->grow p h h' q:=by
   rintro q ⟨L|⟨j,_,hj,L,h2⟩,h3⟩
   ·exact .inl L
   ·refine .inr ⟨?_,?_⟩
    ·have:=tr.oR (i:=0) (m:=j) a_ a_
     rw[<-e3];exact bN this L
    ·rw[<-e1];exact h3
  rw[e2]at B;rw[e1,e3]at G;refine⟨f',w',B,G,⟨hwf.next,hwf.mw,hwf.same,hwf.live,⟨fun q H=>?_,fun q x Q=>?_⟩⟩,?_⟩
  ·rcases H with H|H
   ·exact aL (J.lt q H) hwf.next
   ·exact H.2
  ·obtain⟨a,b⟩:=I.hok tr A ops.size (aD _) q x (by rw[RC tr hS q,e1];exact Q)
   exact⟨y q a,b.mono y⟩
  ·have:=I.u5 tr C A.lt ops.size (aD _)
   rw[ss tr hS _ (aD _),e2]at this;exact this.mono y
 ·cases u
end
section
def Jo(f:Loc)(d:Nat):Deferred:={ target:=.collected (f.b d),args:=#[] }
def oS(f:Loc)(a:Ajg):FB:=⟨a.fn,a.defers.map (Jo f),a.Dr.map f.b⟩
def Pd(f:Loc)(a:Ajg):Frame:=
 { fn:=a.fn,tmps:=Bi f a.n a.tmps,todo:=a.todo,defers:=a.defers.map (Jo f),mode:=if a.ret=true then .returning else .run,kind:=.normal,roundOf:=a.Dr.map f.b }
structure Yz(p:Nat->Prop)(a:Ajg):Prop where
 tm:Lv p a.n a.tmps
 dfr:∀d∈a.defers,p d
 Dr:∀l,a.Dr=some l->p l
 ret:a.ret=true->a.Dr=none
theorem Yz.mono {q:Nat->Prop}(h:Yz p a)(e:∀i,p i->q i):Yz q a:=⟨h.tm.mono e,fun d hd=>e d (h.dfr d hd),fun l j=>e l (h.Dr l j),h.ret⟩
theorem A24{g:Loc}(e:Loc.agree p f g)(h:Yz p a):Pd f a=Pd g a:=by
 unfold Pd;rw[Lf e h.tm];have j:a.defers.map (Jo f)=a.defers.map (Jo g):=by
  apply cr;intro d hd;unfold Jo;rw[(e d (h.dfr d hd)).1]
 have h2:a.Dr.map f.b=a.Dr.map g.b:=by
  cases u:a.Dr with
  | none=>rfl
  | some l=>simp only[eA];rw[(e l (h.Dr l u)).1]
 rw[j,h2]
theorem u7{g:Loc}(e:Loc.agree p f g)(h:Yz p a):oS f a=oS g a:=by
 have:=A24 e h;unfold Pd at this;unfold oS;injection this with _ _ _ h4 _ _ j;rw[h4,j]
section
variable{b:FB}{w:World}
theorem Bo0:step P (lone (b.at tmps (.code .skip::k)) cs w)=.next (lone (b.at tmps k) cs w):=cR (by simp[stepG,stepG.exec,FB.at])
theorem Bm6 {l:Nat}:step P (lone (b.at tmps (.code (.label l)::k)) cs w)=.next (lone (b.at tmps k) cs w):=cR (by simp[stepG,stepG.exec,FB.at])
theorem Bcj:step P (lone (b.at tmps (.inBlock id::k)) cs w)=.next (lone (b.at tmps k) cs w):=cR (by simp[stepG,stepG.exec,FB.at])
theorem Bq5 {x y:Code}:step P (lone (b.at tmps (.code (.seq x y)::k)) cs w)=.next (lone (b.at tmps (.code x :: .code y::k)) cs w):=cR (by simp[stepG,stepG.exec,FB.at])
theorem RI {c:Operand}{x y:Code}{t:Bool}(h:Jf tmps c=.bool t):step P (lone (b.at tmps (.code (.cond c x y)::k)) cs w)=.next (lone (b.at tmps (.code (if t then x else y)::k)) cs w):=
 cR (by
  have:=FB.eval_at b tmps (.code (.cond c x y)::k);simp only[FB.at]at this;simp[stepG,stepG.exec,FB.at,this,h])
theorem Bm1{c:Code}:step P (lone (b.at tmps (.code (.block id c)::k)) cs w)=.next (lone (b.at tmps (.code c :: .inBlock id::k)) cs w):=cR (by simp[stepG,stepG.exec,FB.at])
theorem Bpx {c:Code}:step P (lone (b.at tmps (.code (.loop c)::k)) cs w)=.next (lone (b.at tmps (.code c :: .inLoop c::k)) cs w):=cR (by simp[stepG,stepG.exec,FB.at])
theorem Bia {c:Code}:step P (lone (b.at tmps (.inLoop c::k)) cs w)=.next (lone (b.at tmps (.code c :: .inLoop c::k)) cs w):=cR (by simp[stepG,stepG.exec,FB.at])
theorem Boo{e:List Item}(h:exitTo id k=some e):step P (lone (b.at tmps (.code (.exit id)::k)) cs w)=.next (lone (b.at tmps e) cs w):=cR (by simp[stepG,stepG.exec,FB.at,h])
theorem Bsc(h:b.Dr=none):step P (lone (b.at tmps (.code .ret::k)) cs w)=.next (lone { b.at tmps (.code .ret::k)with mode:=.returning } cs w):=cR (by simp[stepG,stepG.exec,FB.at,h])
theorem Brx(h:b.Dr=none):step P (lone (b.at tmps []) cs w)=.next (lone { b.at tmps []with mode:=.returning } cs w):=cR (by simp[stepG,stepG.exec,FB.at,h])
theorem Bg0{ops:Array Oper}:step P (lone (b.at tmps (.code (.region id ops false)::k)) cs w)=.next (lone (b.at tmps (.inRegion ops (List.range ops.size)::k)) cs w):=cR (by simp[stepG,stepG.exec,FB.at])
theorem Bqj(hm:P.follows .mixedOrders=true){ops:Array Oper}:step P (lone (b.at tmps (.code (.region id ops true)::k)) cs w) =
 .next (lone (b.at tmps (.inRegion ops (Region.linearise .any ops (w.tape w.drawn (.order b.fn id)))::k)) cs { w with drawn:=w.drawn+1 }):=
 cR (by simp[stepG,stepG.exec,FB.at,choose,Sem.run,Question.forced,Question.cut,hm,Region.schedule])
theorem A7m {l:Nat}(e:b.Dr=some l){v:Value}(he:(Instr.endRound l jump).run P w=.ok v w')
 (j:(todo = []/\jump=none)\/(∃k,todo=.code .ret::k/\jump=some .ret)\/(∃id k,todo=.code (.exit id)::k/\exitTo id k=none/\jump=some (.exit id))) :
 step P (lone (b.at tmps todo) (caller::cs) w)=.next (lone (caller.finish v) cs w'):=by
 refine cR ?_;rcases j with⟨rfl,rfl⟩|⟨k,rfl,rfl⟩|⟨id,k,rfl,u,rfl⟩
 ·simp[stepG,stepG.exec,FB.at,e,he,doReturn]
 ·simp[stepG,stepG.exec,FB.at,e,he,doReturn]
 ·simp[stepG,stepG.exec,FB.at,e,u,he,doReturn]
end
section
variable(hT:Q4 P T){w:World}
theorem A87(hT:Q4 P T)(j:Tw p h)(u:T8 f h w){cs:List EV}(hs:T.size t=some n)(y:Jn h i off n=some cs){b:Bool}(e:T.agg t=some b)
 (A:(b=true/\v=.agg cs)\/(b=false/\cs = [v])):(loadVar t ⟨f.b i,off,none⟩).run P w=.ok (Cl f v) w/\v.ok p:=by
 obtain⟨B,h2,C,h4,F⟩:=uS (P:=P) j u y;rcases A with⟨rfl,rfl⟩|⟨rfl,rfl⟩
 ·refine⟨?_,h2,C⟩
  simp only[loadVar,Sem.run_bind,qa hT w e,aI,bM,G0 hT w hs,B,aR,Cl]
 ·refine⟨?_,h2.1⟩
  have:=F 0 v rfl;simp only[loadVar,Sem.run_bind,qa hT w e,aI,aT,ak];simp only[dI]at this;rw[run_load,this]
theorem RJ {β:Type}(P:Program)(w:World)(g:α->Sem β):∀(l:List α) (r:List β),(l.length=r.length)->(∀(i:Nat) a b,l[i]? = some a->r[i]? = some b->(g a).run P w=.ok b w)->(l.mapM g).run P w=.ok r w
 | [],[],_,_=>by simp
 | a::l,b::r,e,h=>by
  have h0:=h 0 a b rfl rfl;have j:=RJ P w g l r (by simpa using e) (fun i a b u h2=>h (i+1) a b (by simpa using u) (by simpa using h2));simp[List.mapM_cons,h0,j]
 | [],_::_,h,_=>by simp at h
 | _::_,[],h,_=>by simp at h
def mA(tmps:Array Value):ResultVar->Sem Value
 | .tmp t=>pure (tmps.getD t undef)
 | .cell a t=>do loadVar t (←asAddr (tmps.getD a undef))
theorem Bb2(fn:Func)(tmps:Array Value):results fn tmps=(do
 let vs ←fn.results.mapM (mA tmps)
 pure (if h:vs.size=1 then vs[0]else .tuple vs)):=by
 unfold results;congr 1
theorem yz(hT:Q4 P T)(G:Tw p h)(H:T8 f h w)(A:Lv p n tm):∀{l:List ResultVar} {vs:List EV},Np T tm h l=some vs ->
 EV.T4 p vs/\l.length=(Bo f vs).length/\∀(i:Nat) a b,l[i]? = some a->(Bo f vs)[i]? = some b->(mA (Bi f n tm) a).run P w=.ok b w
 | [],vs,j=>by cases j;exact⟨trivial,rfl,fun i a b h=>by simp at h⟩
 | .tmp t::r,vs,j=>by
  simp only[Np]at j;split at j
  next l J=>
   cases j;obtain⟨L,h2,M⟩:=yz hT G H A J;refine⟨⟨A.tmp t,L⟩,by simp[Bo,h2],fun i a b B hb=>?_⟩;cases i with
   | zero=>
    simp only[bR,cV,Bo]at B hb;subst B hb;simp only[mA,aR,rX f A]
   | succ i=>exact M i a b (by simpa using B) (by simpa [Bo]using hb)
  ·cases j
 | .cell a t::r,vs,j=>by
  simp only[Np]at j;split at j
  next i off l X B J O=>
   split at j
   next cs Q=>
    obtain⟨L,h2,M⟩:=yz hT G H A J;have key:∀(b:Bool) (v:EV),T.agg t=some b->((b=true/\v=.agg cs)\/(b=false/\cs = [v]))->some (v::l)=some vs->EV.T4 p vs/\(ResultVar.cell a t::r).length=(Bo f vs).length/\∀(i:Nat) C F,(ResultVar.cell a t::r)[i]? = some C->(Bo f vs)[i]? = some F->(mA (Bi f n tm) C).run P w=.ok F w:=by
     intro b v hb U e;cases e;obtain⟨l1,W⟩:=A87 hT G H O Q hb U;refine⟨⟨W,L⟩,by simp[Bo,h2],fun i C F u y=>?_⟩;cases i with
     | zero=>
      simp only[bR,cV,Bo]at u y;subst u y;simp only[mA,rX f A,B,Cl,asAddr,Sem.run_bind,aR,aI,l1]
     | succ i=>exact M i C F (by simpa using u) (by simpa [Bo]using y)
    split at j
    next hb=>exact key true _ hb (.inl ⟨rfl,rfl⟩) j
    next hb=>
     split at j
     ·exact key false _ hb (.inr ⟨rfl,rfl⟩) j
     ·cases j
    ·cases j
   ·cases j
  ·cases j
theorem Bab(hT:Q4 P T)(C:Tw p h)(F:T8 f h w)(G:Lv p n tm){fn:Func}{vs:List EV}(H:Np T tm h fn.results.toList=some vs)
 (A:vs = [v]\/((∀x,vs≠[x])/\v=.tuple vs)):(results fn (Bi f n tm)).run P w=.ok (Cl f v) w/\v.ok p:=by
 obtain⟨B,h2,J⟩:=yz hT C F G H;have hm:(fn.results.toList.mapM (mA (Bi f n tm))).run P w=.ok (Bo f vs) w:=RJ P w _ _ _ h2 J;constructor
 ·have u:(fn.results.mapM (mA (Bi f n tm))).run P w=.ok (Bo f vs).toArray w:=by
   have e:fn.results.mapM (mA (Bi f n tm))=Functor.map List.toArray (fn.results.toList.mapM (mA (Bi f n tm))):=by
    rw[<-List.mapM_toArray,eK]
   rw[e,Sem.run_map,hm];rfl
  rw[Bb2,Sem.run_bind,u,aI,aR];congr 1;rcases A with rfl|⟨y,rfl⟩
  ·simp[Bo]
  ·rw[dif_neg]
   ·simp only[Cl]
   ·intro j
    simp only[cp,Cw]at j
    match vs,j with
    | [x],_=>exact y x rfl
 ·rcases A with rfl|⟨_,rfl⟩
  ·exact B.1
  ·exact B
end
end
section
theorem yA(f:Loc)(fn n:Nat)(tm:Ba)(todo:List Item)(ds:List Nat)(Dr:Option Nat):
 Pd f ⟨fn,n,tm,todo,ds,false,Dr⟩=(FB.mk fn (ds.map (Jo f)) (Dr.map f.b)).at (Bi f n tm) todo:=rfl
theorem yB(f:Loc)(fn n:Nat)(tm:Ba)(todo:List Item)(ds:List Nat):
 Pd f ⟨fn,n,tm,todo,ds,true,none⟩ = { (FB.mk fn (ds.map (Jo f)) none).at (Bi f n tm) todo with mode:=.returning }:=rfl
def g'(P:Program)(p:Nat->Prop)(f:Loc)(w:World)(cs:List Frame)(s s':Hz):Prop:=
 ∃f' w',Steps P (lone (Pd f s.fr) cs w) (lone (Pd f' s'.fr) cs w')/\Move p f s.h w f' s'.h w'/\Wf p s.h s'.h/\Yz (grow p s.h s'.h) s'.fr/\s'.fr.fn=s.fr.fn/\s'.fr.Dr=s.fr.Dr
def Fin(P:Program)(p:Nat->Prop)(f:Loc)(w:World)(s:Hz)(v:EV)(h':Ab):Prop:=
 match s.fr.Dr with
 | none=>h'=s.h/\(Pd f s.fr).leaving P w (.returned (Cl f v))/\v.ok p
 | some _=>∀caller cs,∃w',Steps P (lone (Pd f s.fr) (caller::cs) w) (lone (caller.finish (Cl f v)) cs w')/\Move p f s.h w f h' w'/\Wf p s.h h'/\v.ok p
section
variable{w:World}
theorem g'.stay {fr e:Ajg}(j:Tw p h)(u:T8 f h w)(hs:Steps P (lone (Pd f fr) cs w) (lone (Pd f e) cs w))(y:Yz p e)(A:e.fn=fr.fn)(h2:e.Dr=fr.Dr):g' P p f w cs ⟨fr,h⟩ ⟨e,h⟩:=
 ⟨f,w,hs,Move.refl u,Wf.refl j,by rw[Ks _ _ _ rfl];exact y,A,h2⟩
theorem u9(u:T8 f h w){l:Nat}{st:LoopState}(y:h.get l=some (.loop st pd fn n tm ps dT body d)):
 (Instr.getLoop (f.b l)).run P w=.ok ⟨st,pd,fn,Bi f n tm,ps.toArray,dT,body,f.b d⟩ w/\w.heap[f.b l]? = some (.loop ⟨st,pd,fn,Bi f n tm,ps.toArray,dT,body,f.b d⟩):=by
 obtain⟨r,j,rfl⟩:=u.obj l _ y;have e:=O3 (P:=P) j (by intros;simp);refine⟨?_,j⟩;simp only[Instr.getLoop,Sem.run_bind,e,aI,aR]
theorem yC(j:Tw p h)(u:T8 f h w){l:Nat}{st st':LoopState}{pd':Option Code}(e:h.get l=some (.loop st pd fn n tm ps dT body d)):
 Move p f h w f (h.put l (.loop st' pd' fn n tm ps dT body d)) { w with heap:=w.heap.setIfInBounds (f.b l) (.loop ⟨st',pd',fn,Bi f n tm,ps.toArray,dT,body,f.b d⟩) } /\
 Wf p h (h.put l (.loop st' pd' fn n tm ps dT body d)):=
 ⟨Move.setObj u e rfl,Wf.put j e (j.get l _ e).2⟩
theorem A7j(e:T8 f h w){l:Nat}{st:LoopState}(j:h.get l=some (.loop st pd fn n tm ps dT body d))(jump:Option Code):
 (Instr.endRound (f.b l) jump).run P w=.ok (.bool jump.isNone) { w with heap:=w.heap.setIfInBounds (f.b l) (.loop ⟨if jump.isNone then .ready else .done,jump,fn,Bi f n tm,ps.toArray,dT,body,f.b d⟩) }:=by
 obtain⟨u,h2⟩:=u9 (P:=P) e j;have hs:=Rg (P:=P) (o':=.loop ⟨if jump.isNone then .ready else .done,jump,fn,Bi f n tm,ps.toArray,dT,body,f.b d⟩) h2 (by intros;simp);simp only[Instr.endRound,Sem.run_bind,u,aI,hs,aR]
theorem yD(e:leave fn n tm todo ds Dr h jump=.go s'):
 Dr=none/\s'=⟨⟨fn,n,tm,todo,ds,true,none⟩,h⟩/\(jump=none\/jump=some .ret):=by
 unfold leave at e;split at e
 ·split at e
  ·cases e;exact⟨rfl,rfl,.inl rfl⟩
  ·cases e;exact⟨rfl,rfl,.inr rfl⟩
  ·cases e
 ·split at e
  ·split at e<;>cases e
  ·cases e
theorem yE(B:Tw p h)(y:T8 f h w)(e:leave fn n tm todo ds Dr h jump=.done v h')
 (C:(todo = []/\jump=none)\/(∃k,todo=.code .ret::k/\jump=some .ret)\/(∃id k,todo=.code (.exit id)::k/\exitTo id k=none/\jump=some (.exit id))) :
 Fin P p f w ⟨⟨fn,n,tm,todo,ds,false,Dr⟩,h⟩ v h':=by
 unfold leave at e;split at e
 ·split at e<;>cases e
 next l=>
  split at e
  next st pd j F f_ ps dT body d A=>
   have key:∀(b:Bool) (st':LoopState),b=jump.isNone->st'=(if jump.isNone then .ready else .done)->Fin P p f w ⟨⟨fn,n,tm,todo,ds,false,some l⟩,h⟩ (.bool b) (h.put l (.loop st' jump j F f_ ps dT body d)):=by
    intro b st' hb u;intro caller cs;obtain⟨G,H⟩:=yC (st':=st') (pd':=jump) B y A;refine⟨_,.one ?_,G,H,trivial⟩;have he:=A7j (P:=P) y A jump;rw[<-u,<-hb]at he;exact A7m (b:=FB.mk fn (ds.map (Jo f)) (some (f.b l))) rfl he C
   split at e
   ·cases e;exact key true _ rfl rfl
   ·cases e;exact key false _ rfl rfl
  ·cases e
variable (hT:Q4 P T){call:Ah}(hC:kC P call)(hR:oI P round)(wC:W8 call)(wR:W8 round)
theorem Bi2{ds:List Deferred}(h:(Instr.takeDeferred d).run P w=.ok [] w'):
 step P (lone { fn:=fn,tmps:=tmps,todo:=todo,defers:={ target:=.collected d,args:=#[] }::ds,mode:=.returning,kind:=.normal,roundOf:=none } cs w) =
  .next (lone { fn:=fn,tmps:=tmps,todo:=todo,defers:=ds,mode:=.returning,kind:=.normal,roundOf:=none } cs w'):=
 cR (by simp[stepG,unwind,h])
theorem A2p {b:FB}{l:Nat}(e:b.Dr=some l)(h:(Instr.beginRound l).run P w=.ok () w'):
 step P (lone (b.at tmps (.beginRound::k)) cs w)=.next (lone (b.at tmps k) cs w'):=
 cR (by simp[stepG,stepG.exec,stepG.apply,FB.at,e,h,Frame.finish])
theorem RK {b:FB}{ps:Array Tmp}{l:Nat}{mark:List Deferred}{w1:World}{g:FuncId}{args:Array Value}
 (e:(Instr.enterLoop b.fn tmps ps dT body b.Dr).run P w=.ok (l,mark) w1)
 (h2:(do let d ←resolve (Jf tmps) { callee:=.value fo,args:=#[.const (.func (.yield l) #[] #[])],argTypes:=#[] } 0;invoke d.target d.args:Sem Next).run P w1=.ok (.enter g args) w1) :
 step P (lone (b.at tmps (.code (.rangeFunc fo ps dT body)::k)) cs w)=.next (lone (Frame.enter P g args .normal) ((FB.mk b.fn (mark++b.defers) b.Dr).at tmps (.inRangeFunc l::k)::cs) w1):=by
 refine cR ?_;have he:=FB.eval_at (FB.mk b.fn (mark++b.defers) b.Dr) tmps (.inRangeFunc l::k);simp only[FB.at]at he;simp only[stepG,stepG.exec,FB.at,Sem.runT_eq,e,GStep.bare_after,stepG.apply,he];rw[h2];simp
theorem Ba1 {b:FB}{l:Nat}{w1:World}(e:(Instr.endLoop l).run P w=.ok jump w1):
 step P (lone (b.at tmps (.endRangeFunc l::k)) cs w)=.next (lone (b.at tmps ((jump.map Item.code).toList++k)) cs w1):=
 cR (by simp[stepG,stepG.exec,FB.at,e])
theorem Ba2(j:T8 f h w){l:Nat}{st:LoopState}(e:st≠.busy)(u:h.get l=some (.loop st pd fn n tm ps dT body d)):
 (Instr.endLoop (f.b l)).run P w=.ok pd { w with heap:=w.heap.setIfInBounds (f.b l) (.loop ⟨.exhausted,pd,fn,Bi f n tm,ps.toArray,dT,body,f.b d⟩) }:=by
 obtain⟨y,h2⟩:=u9 (P:=P) j u;have hs:=Rg (P:=P) (o':=.loop ⟨.exhausted,pd,fn,Bi f n tm,ps.toArray,dT,body,f.b d⟩) h2 (by intros;simp);have hb:(st == .busy)=false:=by cases st<;>first|rfl|exact absurd rfl e
 simp only[Instr.endLoop,Sem.run_bind,y,aI,hb,aT,ak,aR,hs]
theorem RL(hC:kC P call){l:Nat}{g:Nat}
 (j:behind fn n tm ds Dr l k (call g args h)=.go s') (W:Tw p h) (X:T8 f h w) (Y:EV.T4 p args) (F:Yz p ⟨fn,n,tm,k,ds,false,Dr⟩) :
 (∃G,P.funcs[g]? = some G/\G.body.isSome=true/\(G.name == "runtime.NumGoroutine")=false)/\∃f' w',p l ->
  Steps P (lone (Frame.enter P g (Bo f args).toArray .normal) ((FB.mk fn (ds.map (Jo f)) (Dr.map f.b)).at (Bi f n tm) (.inRangeFunc (f.b l)::k)::cs) w) (lone (Pd f' s'.fr) cs w') /\
  Move p f h w f' s'.h w'/\Wf p h s'.h/\Yz (grow p h s'.h) s'.fr/\s'.fr.fn=fn/\s'.fr.Dr=Dr:=by
 unfold behind at j;split at j
 ·cases j
 next v C y=>
  obtain⟨H,Z⟩:=hC _ _ _ _ _ y;refine⟨H,?_⟩;split at j
  next st pd B Q f_ ps dT body d U=>
   have key:st≠.busy->∀todo:List Item,todo=(pd.map Item.code).toList++k->(AR.go ⟨⟨fn,n,tm,todo,ds,false,Dr⟩,C.put l (.loop .exhausted pd B Q f_ ps dT body d)⟩=.go s')->∃f' w',p l ->
    Steps P (lone (Frame.enter P g (Bo f args).toArray .normal) ((FB.mk fn (ds.map (Jo f)) (Dr.map f.b)).at (Bi f n tm) (.inRangeFunc (f.b l)::k)::cs) w) (lone (Pd f' s'.fr) cs w') /\
    Move p f h w f' s'.h w'/\Wf p h s'.h/\Yz (grow p h s'.h) s'.fr/\s'.fr.fn=fn/\s'.fr.Dr=Dr:=by
    intro J todo A e;cases e;obtain⟨fr,f1,w1,hs,aa,hl,hm,hwf,ad⟩:=Z p f w W X Y ((FB.mk fn (ds.map (Jo f)) (Dr.map f.b)).at (Bi f n tm) (.inRangeFunc (f.b l)::k)::cs);have u:Yz (grow p h C) ⟨fn,n,tm,k,ds,false,Dr⟩:=F.mono fun _ hi=>.inl hi
    obtain⟨m1,m2⟩:=yC (st':=.exhausted) (pd':=pd) hwf.hok hm.rep U;have L:grow p h (C.put l (.loop .exhausted pd B Q f_ ps dT body d))=grow p h C:=by
     funext q;simp only[grow,Ab.Nz]
    refine⟨f1,_,fun M=>⟨hs.trans (.head (step_leave_returned hl) (.one ?_)),hm.trans m1,hwf.trans m2,?_,rfl,rfl⟩⟩
    ·have e1:((FB.mk fn (ds.map (Jo f)) (Dr.map f.b)).at (Bi f n tm) (.inRangeFunc (f.b l)::k)).finish (Cl f1 v)=(FB.mk fn (ds.map (Jo f1)) (Dr.map f1.b)).at (Bi f1 n tm) (.endRangeFunc (f1.b l)::k):=by
      have:=u7 hm.agree F;simp only[oS]at this;rw[this,hm.Bi F.tm,(hm.agree l M).1];rfl
     rw[e1,Ba1 (Ba2 hm.rep J U),<-A];rfl
    ·rw[L]
     exact⟨u.tm,u.dfr,u.Dr,fun x=>by cases x⟩
   split at j
   ·cases j
   next O=>exact key O _ (by cases pd<;>rfl) j
  ·cases j
end
end
section
section
variable(hT:Q4 P T){call:Ah}(hC:kC P call)(hR:oI P round)(wC:W8 call)(wR:W8 round)
include wC wR in
theorem xW {s:Hz}(j:(∃s',Cm T call round s=.go s'/\s'.h=h')\/∃v,Cm T call round s=.done v h'):AWf s.h h':=by
 obtain⟨⟨fn,n,tm,todo,ds,ret,Dr⟩,h⟩:=s;have A:∀{todo:List Item} {jump:Option Code} {h':Ab},((∃s',leave fn n tm todo ds Dr h jump=.go s'/\s'.h=h')\/∃v,leave fn n tm todo ds Dr h jump=.done v h')->AWf h h':=by
  intro todo jump h' L;rcases L with⟨s',C,h2⟩|⟨v,C⟩
  ·obtain⟨_,e,_⟩:=yD C
   rw[e]at h2;subst h2;exact .refl _
  ·unfold leave at C
   split at C
   ·split at C<;>cases C
   ·split at C
    next F=>
     split at C
     ·cases C;exact .put F _
     ·cases C;exact .put F _
    ·cases C
 cases ret with
 | true=>
  cases ds with
  | cons d ds=>
   simp only[Cm]at j;split at j
   next F=>
    rcases j with⟨s',e,rfl⟩|⟨v,e⟩
    ·cases e;exact .put F _
    ·cases e
   ·rcases j with⟨s',e,_⟩|⟨v,e⟩<;>cases e
  | nil=>
   simp only[Cm]at j;rcases j with⟨s',e,rfl⟩|⟨v,e⟩
   ·split at e
    ·split at e<;>cases e
    ·cases e
   ·split at e
    ·split at e<;>first|(cases e;done)|(cases e;exact .refl _)
    ·cases e
 | false=>
  cases todo with
  | nil=>simp only[Cm]at j;exact A j
  | cons it k=>
   have y:∀{s0:Hz},((∃s',AR.go s0=.go s'/\s'.h=h')\/∃v,AR.go s0=.done v h')->s0.h=h':=by
    rintro s0 (⟨s',e,rfl⟩|⟨v,e⟩)<;>cases e;rfl
   have u:((∃s',AR.fail=.go s'/\s'.h=h')\/∃v,AR.fail=.done v h')->AWf h h':=by
    rintro(⟨s',e,_⟩|⟨v,e⟩)<;>cases e
   have B:∀{G:List Nat} {l g:Nat} {args:List EV} {C:Ab},AWf h C->((∃s',behind fn n tm G Dr l k (call g args C)=.go s'/\s'.h=h')\/∃v,behind fn n tm G Dr l k (call g args C)=.done v h')->AWf h h':=by
    intro G l g args C H hb;unfold behind at hb;split at hb
    ·exact u hb
    next v h2 M=>
     split at hb
     next F=>
      split at hb
      ·exact u hb
      ·rw[<-y hb]
       exact(H.trans (wC _ _ _ _ _ M)).trans (.put F _)
     ·exact u hb
   cases it with
   | code c=>
    cases c with
    | region id ops dr=>
     cases dr with
     | false=>
      simp only[Cm]at j;split at j
      next J=>rw[<-y j];exact yn wC wR J
      ·exact u j
     | true=>
      simp only[Cm]at j;split at j
      next J=>rw[<-y j];exact RH wC wR J
      ·exact u j
    | cond c a b=>
     simp only[Cm]at j;split at j
     ·rw[<-y j];exact .refl _
     ·rw[<-y j];exact .refl _
     ·exact u j
    | exit id=>
     simp only[Cm]at j;split at j
     ·rw[<-y j];exact .refl _
     ·exact A j
    | ret=>simp only[Cm]at j;exact A j
    | rangeFunc fo ps dT body=>
     simp only[Cm]at j;split at j
     ·split at j
      ·exact B ((AWf.new _ _).trans (.new _ _)) j
      ·split at j
       ·exact B (.new _ _) j
       ·exact u j
     ·exact u j
    | seq a b=>simp only[Cm]at j;rw[<-y j];exact .refl _
    | skip=>simp only[Cm]at j;rw[<-y j];exact .refl _
    | block id c=>simp only[Cm]at j;rw[<-y j];exact .refl _
    | loop c=>simp only[Cm]at j;rw[<-y j];exact .refl _
    | label l=>simp only[Cm]at j;rw[<-y j];exact .refl _
    | scope c=>simp only[Cm]at j;exact u j
    | goto c=>simp only[Cm]at j;exact u j
    | refuse c=>simp only[Cm]at j;exact u j
   | inBlock id=>simp only[Cm]at j;rw[<-y j];exact .refl _
   | inLoop c=>simp only[Cm]at j;rw[<-y j];exact .refl _
   | beginRound=>
    simp only[Cm]at j;split at j
    ·split at j
     next F=>rw[<-y j];exact .put F _
     ·exact u j
    ·exact u j
   | _=>simp only[Cm]at j;exact u j
theorem g'.run{w:World}{e:List Nat}{f':Loc}
 (hs:Steps P (lone ((FB.mk fn (ds.map (Jo f)) (Dr.map f.b)).at (Bi f n tm) todo) cs w) (lone ((FB.mk fn (e.map (Jo f')) (Dr.map f'.b)).at (Bi f' n f_) je) cs w'))
 (hm:Move p f h w f' h' w') (hwf:Wf p h h') (j:Yz (grow p h h') ⟨fn,n,f_,je,e,false,Dr⟩):g' P p f w cs ⟨⟨fn,n,tm,todo,ds,false,Dr⟩,h⟩ ⟨⟨fn,n,f_,je,e,false,Dr⟩,h'⟩:=
 ⟨f',w',hs,hm,hwf,j,rfl,rfl⟩
theorem g'.lC{w:World}(j:Tw p h)(u:T8 f h w)(e:Yz p ⟨fn,n,tm,todo,ds,false,Dr⟩)
 (hs:step P (lone ((FB.mk fn (ds.map (Jo f)) (Dr.map f.b)).at (Bi f n tm) todo) cs w)=.next (lone ((FB.mk fn (ds.map (Jo f)) (Dr.map f.b)).at (Bi f n tm) je) cs w)) :
 g' P p f w cs ⟨⟨fn,n,tm,todo,ds,false,Dr⟩,h⟩ ⟨⟨fn,n,tm,je,ds,false,Dr⟩,h⟩:=
 g'.run (.one hs) (Move.refl u) (Wf.refl j) (by rw[Ks _ _ _ rfl];exact⟨e.tm,e.dfr,e.Dr,fun x=>by cases x⟩)
variable{w:World}
theorem RM(j:Tw p h)(u:T8 f h w)(e:Yz p ⟨fn,n,tm,todo,ds,false,Dr⟩)
 (y:leave fn n tm todo ds Dr h jump=.go s') (A:jump=none->todo = []) (h2:jump=some .ret->∃k,todo=.code .ret::k):g' P p f w cs ⟨⟨fn,n,tm,todo,ds,false,Dr⟩,h⟩ s':=by
 obtain⟨rfl,rfl,hj⟩:=yD y;refine g'.stay j u ?_ ⟨e.tm,e.dfr,e.Dr,fun _=>rfl⟩ rfl rfl;rw[yA,yB];rcases hj with rfl|rfl
 ·rw[A rfl];exact .one (Brx rfl)
 ·obtain⟨k,rfl⟩:=h2 rfl;exact .one (Bsc rfl)
include hT hC hR in
theorem Bdc{ops:Array Oper}(A:Tw p h)(B:T8 f h w)(u:Yz p ⟨fn,n,tm,k,ds,false,Dr⟩)
 (C:jl T call round n ops.toList ops.toList tm h=some (f_,h')):g' P p f w cs ⟨⟨fn,n,tm,.code (.region id ops false)::k,ds,false,Dr⟩,h⟩ ⟨⟨fn,n,f_,k,ds,false,Dr⟩,h'⟩:=by
 obtain⟨f',w',hs,hm,hwf,y⟩:=ym hT hC hR ops (i:=0) rfl u.tm A B C (FB.mk fn (ds.map (Jo f)) (Dr.map f.b)) k cs;have e:=u7 hm.agree u;simp only[oS]at e;refine g'.run (f':=f') (w':=w') ?_ hm hwf ?_
 ·refine .head Bg0 (.trans ?_ (.one (QA (ops:=ops))))
  rw[<-e];have e2:List.range' 0 (List.drop 0 ops.toList).length=List.range ops.size:=by rw[List.range_eq_range'];simp
  have j:Steps P _ _:=hs;rw[e2]at j;exact j
 ·have:=u.mono (q:=grow p h h') fun _ F=>.inl F
  exact⟨y,this.dfr,this.Dr,fun x=>by cases x⟩
include hT hC hR wC wR in
theorem Bj6{ops:Array Oper}(y:Tw p h)(A:T8 f h w)(j:Yz p ⟨fn,n,tm,k,ds,false,Dr⟩)
 (B:kZ T call round n ops.toList tm h=some (f_,h')):g' P p f w cs ⟨⟨fn,n,tm,.code (.region id ops true)::k,ds,false,Dr⟩,h⟩ ⟨⟨fn,n,f_,k,ds,false,Dr⟩,h'⟩:=by
 obtain⟨f',w',hs,hm,hwf,u⟩:=Bkt hT hC hR wC wR j.tm y A B (FB.mk fn (ds.map (Jo f)) (Dr.map f.b)) (w.tape w.drawn (.order fn id)) k cs (w.drawn+1);have e:=u7 hm.agree j;simp only[oS]at e;refine g'.run (f':=f') (w':=w') ?_ hm hwf ?_
 ·refine .head (Bqj hT.mixed) (.trans ?_ (.one (QA (ops:=ops))))
  rw[<-e];exact hs
 ·have:=j.mono (q:=grow p h h') fun _ C=>.inl C
  exact⟨u,this.dfr,this.Dr,fun x=>by cases x⟩
theorem RN {g:Nat}(y:Lv p n tm)(u:Cg tm fo=some (.func g first captured))(l:Nat)(w1:World)(e:Func)(A:P.funcs[g]? = some e)(h2:e.body.isSome=true)(B:(e.name == "runtime.NumGoroutine")=false):
 (do let d ←resolve (Jf (Bi f n tm)) { callee:=.value fo,args:=#[.const (.func (.yield l) #[] #[])],argTypes:=#[] } 0;invoke d.target d.args:Sem Next).run P w1 =
  .ok (.enter g ((Bo f first).toArray ++ #[.func (.yield l) #[] #[]]++(Bo f captured).toArray)) w1:=by
 have C:=T7 (f:=f) y;have hb:¬e.body=none:=by cases G:e.body<;>simp_all
 have F:¬e.name = "runtime.NumGoroutine":=by simpa using B
 have j:Jf (Bi f n tm) (.const (.func (.yield l) #[] #[]))=.func (.yield l) #[] #[]:=rfl;simp[resolve,Bj C u,Cl,Deferred.ofValue,invoke,callFunc,A,F,hb,j]
include hC in
theorem Bg3{ps:Array Tmp}{g:Nat}(hh:Tw p h)(rp:T8 f h w)(y:Yz p ⟨fn,n,tm,k,ds,false,none⟩)
 (F:Cg tm fo=some (.func g first captured))
 (X:behind fn n tm (h.next::ds) none (Nat.succ h.next) k (call g (first++(.U5 (Nat.succ h.next)::captured)) ((h.new (.deferred true)).new (.loop .ready none fn n tm ps.toList dT body h.next)))=.go s') :
 g' P p f w cs ⟨⟨fn,n,tm,.code (.rangeFunc fo ps dT body)::k,ds,false,none⟩,h⟩ s':=by
 have j:=E3 (v:=.func g first captured) y.tm F;have Y:(Ds.deferred true).ok (grow p h (h.new (.deferred true))):=trivial;have Z:Move p f h w (f.set h.next w.heap.size 0) (h.new (.deferred true)) { w with heap:=w.heap.push (.deferred (some [])) }:=Move.new hh rp 0 rfl rfl rfl rfl rfl;have A:Wf p h (h.new (.deferred true)):=Wf.new hh Y;have aa:Bi f n tm=Bi (f.set h.next w.heap.size 0) n tm:=Lf Z.agree y.tm;have ab:grow p h (h.new (.deferred true)) h.next:=.inr ⟨aD _,by rw[Ab.Dh];omega⟩
 have G:(Ds.loop .ready none fn n tm ps.toList dT body h.next).ok (grow p h (h.new (.deferred true))):=⟨y.tm.mono fun _ B=>.inl B,ab⟩;have m2:Move (grow p h (h.new (.deferred true))) (f.set h.next w.heap.size 0) (h.new (.deferred true)) { w with heap:=w.heap.push (.deferred (some [])) }
  ((f.set h.next w.heap.size 0).set (h.next+1) (w.heap.size+1) 0) ((h.new (.deferred true)).new (.loop .ready none fn n tm ps.toList dT body h.next))
  { w with heap:=(w.heap.push (.deferred (some []))).push (.loop ⟨.ready,none,fn,Bi f n tm,ps,dT,body,w.heap.size⟩) }:=by
  have hx:=Move.new (w':={ w with heap:=(w.heap.push (.deferred (some []))).push (.loop ⟨.ready,none,fn,Bi f n tm,ps,dT,body,w.heap.size⟩) }) (o:=.loop .ready none fn n tm ps.toList dT body h.next) (r:=.loop ⟨.ready,none,fn,Bi f n tm,ps,dT,body,w.heap.size⟩) A.hok Z.rep 0 rfl ?_ rfl rfl rfl
  ·have e1:(h.new (.deferred true)).next=h.next+1:=rfl
   have e2:({ w with heap:=w.heap.push (.deferred (some [])) }:World).heap.size=w.heap.size+1:=by simp
   rw[e1,e2]at hx;exact hx
  ·have ad:Bi f n tm=Bi ((f.set h.next w.heap.size 0).set (h.new (.deferred true)).next ({ w with heap:=w.heap.push (.deferred (some [])) }:World).heap.size 0) n tm:=by
    rw[aa];exact Lf (Loc.Nq _ _ _ (fun x=>absurd (A.hok.lt _ x) a_)) (y.tm.mono fun _ B=>.inl B)
   show Obj.loop _=Obj.loop _;rw[<-ad,eK];have e3:((f.set h.next w.heap.size 0).set (h.new (.deferred true)).next ({ w with heap:=w.heap.push (.deferred (some [])) }:World).heap.size 0).b h.next=w.heap.size:=by
    rw[(Loc.Uu _ _ _ (by rw[Ab.Dh];omega)).1,Loc.Xp]
   rw[e3]
 have ae:Wf (grow p h (h.new (.deferred true))) (h.new (.deferred true)) ((h.new (.deferred true)).new (.loop .ready none fn n tm ps.toList dT body h.next)):=Wf.new A.hok (G.mono fun _ B=>.inl B);have e:=Z.trans m2;have u:=A.trans ae;generalize H:(f.set h.next w.heap.size 0).set (h.next+1) (w.heap.size+1) 0=f2 at m2 e;have af:f2.b h.next=w.heap.size:=by rw[<-H,(Loc.Uu _ _ _ a_).1,Loc.Xp]
 have J:f2.b (h.next+1)=w.heap.size+1:=by rw[<-H,Loc.Xp]
 have ag:grow p h ((h.new (.deferred true)).new (.loop .ready none fn n tm ps.toList dT body h.next)) h.next:=.inr ⟨aD _,by rw[Ab.Dh,Ab.Dh];omega⟩
 have L:grow p h ((h.new (.deferred true)).new (.loop .ready none fn n tm ps.toList dT body h.next)) (h.next+1):=.inr ⟨a_,by rw[Ab.Dh,Ab.Dh];omega⟩;have C:EV.T4 (grow p h ((h.new (.deferred true)).new (.loop .ready none fn n tm ps.toList dT body h.next))) (first++(.U5 (Nat.succ h.next)::captured)):=
  qb (S9 j.1) ⟨L,S9 j.2⟩
 have M:Yz (grow p h ((h.new (.deferred true)).new (.loop .ready none fn n tm ps.toList dT body h.next))) ⟨fn,n,tm,k,h.next::ds,false,none⟩:=by
  refine⟨y.tm.mono fun _ B=>.inl B,fun d hd=>?_,fun l hl=>(by cases hl),fun x=>(by cases x)⟩;rcases bc.1 hd with rfl|hd
  ·exact ag
  ·exact .inl (y.dfr d hd)
 obtain⟨⟨gn,g1,g2,g3⟩,f',w',hb⟩:=RL (cs:=cs) hC X u.hok e.rep C M;obtain⟨hs,hm,hwf,O,Q,U⟩:=hb L;refine⟨f',w',?_,e.trans hm,u.trans hwf,?_,Q,U⟩
 ·rw[yA]
  refine .head ?_ hs;have W:=RK (P:=P) (b:=FB.mk fn (ds.map (Jo f)) none) (k:=k) (cs:=cs) (w:=w) (fo:=fo) (ps:=ps) (dT:=dT) (body:=body) (tmps:=Bi f n tm)
   (l:=w.heap.size+1) (mark:=[{ target:=.collected w.heap.size,args:=#[] }]) (w1:={ w with heap:=(w.heap.push (.deferred (some []))).push (.loop ⟨.ready,none,fn,Bi f n tm,ps,dT,body,w.heap.size⟩) })
   (g:=g) (args:=(Bo f first).toArray ++ #[.func (.yield (w.heap.size+1)) #[] #[]]++(Bo f captured).toArray) (by simp[Instr.enterLoop];rfl) (RN y.tm F _ _ gn g1 g2 g3)
  have e1:Bo f2 (first++(.U5 (Nat.succ h.next)::captured))=Bo f first++(.func (.yield (w.heap.size+1)) #[] #[]::Bo f captured):=by
   rw[Tc,Bo,<-F9 e.agree _ j.1,<-F9 e.agree _ j.2];simp only[Cl];rw[show f2.b (Nat.succ h.next)=w.heap.size+1 from J]
  have e2:(Bi f n tm)=Bi f2 n tm:=Lf e.agree y.tm;have e3:ds.map (Jo f)=ds.map (Jo f2):=by
   apply cr;intro d hd;unfold Jo;rw[(e.agree d (y.dfr d hd)).1]
  rw[e1,<-e2,cZ,<-e3];have e4:Jo f2 h.next = { target:=.collected w.heap.size,args:=#[] }:=by unfold Jo;rw[af]
  rw[e4,show f2.b (Nat.succ h.next)=w.heap.size+1 from J];have e5:((Bo f first).toArray ++ #[Value.func (.yield (w.heap.size+1)) #[] #[]]++(Bo f captured).toArray)=(Bo f first++(.func (.yield (w.heap.size+1)) #[] #[]::Bo f captured)).toArray:=by simp
  rw[e5]at W;exact W
 ·exact O.mono fun q hq=>by rw[pQ p u.next hwf.next]at hq;exact hq
include hC in
theorem A8o{l0:Nat}{ps:Array Tmp}{g:Nat}(C:Tw p h)(rp:T8 f h w)(j:Yz p ⟨fn,n,tm,k,ds,false,some l0⟩)
 (F:Cg tm fo=some (.func g first captured)) {X:LoopState} {Y n0:Nat} {Z:List Tmp} {G u:Code} {d0:Nat} (H:h.get l0=some (.loop X pd0 Y n0 ly Z G u d0))
 (aa:behind fn n tm ds (some l0) h.next k (call g (first++(.U5 h.next::captured)) (h.new (.loop .ready none fn n tm ps.toList dT body d0)))=.go s') :
 g' P p f w cs ⟨⟨fn,n,tm,.code (.rangeFunc fo ps dT body)::k,ds,false,some l0⟩,h⟩ s':=by
 have e:=E3 (v:=.func g first captured) j.tm F;have J:p d0:=(C.get l0 _ H).2.2;have y:Move p f h w (f.set h.next w.heap.size 0) (h.new (.loop .ready none fn n tm ps.toList dT body d0)) { w with heap:=w.heap.push (.loop ⟨.ready,none,fn,Bi f n tm,ps,dT,body,f.b d0⟩) }:=by
  refine Move.new C rp 0 rfl ?_ rfl rfl rfl;show Obj.loop _=Obj.loop _;rw[<-Lf (Loc.Nq f _ _ C.fresh) j.tm,eK,(Loc.Nq f w.heap.size 0 C.fresh d0 J).1]
 have A:Wf p h (h.new (.loop .ready none fn n tm ps.toList dT body d0)):=Wf.new C ⟨j.tm.mono fun _ hi=>.inl hi,.inl J⟩;generalize ad:f.set h.next w.heap.size 0=f2 at y
 have eb:f2.b h.next=w.heap.size:=by rw[<-ad,Loc.Xp]
 have L:grow p h (h.new (.loop .ready none fn n tm ps.toList dT body d0)) h.next:=.inr ⟨aD _,by rw[Ab.Dh];omega⟩
 have B:EV.T4 (grow p h (h.new (.loop .ready none fn n tm ps.toList dT body d0))) (first++(.U5 h.next::captured)):=qb (S9 e.1) ⟨L,S9 e.2⟩;have M:Yz (grow p h (h.new (.loop .ready none fn n tm ps.toList dT body d0))) ⟨fn,n,tm,k,ds,false,some l0⟩:=j.mono fun _ hi=>.inl hi
 obtain⟨⟨gn,g1,g2,g3⟩,f',w',hb⟩:=RL (cs:=cs) hC aa A.hok y.rep B M;obtain⟨hs,hm,hwf,O,Q,U⟩:=hb L;refine⟨f',w',?_,y.trans hm,A.trans hwf,?_,Q,U⟩
 ·rw[yA]
  refine .head ?_ hs;obtain⟨ae,aq⟩:=u9 (P:=P) rp H;have W:=RK (P:=P) (b:=FB.mk fn (ds.map (Jo f)) (some (f.b l0))) (k:=k) (cs:=cs) (w:=w) (fo:=fo) (ps:=ps) (dT:=dT) (body:=body) (tmps:=Bi f n tm)
   (l:=w.heap.size) (mark:=[]) (w1:={ w with heap:=w.heap.push (.loop ⟨.ready,none,fn,Bi f n tm,ps,dT,body,f.b d0⟩) })
   (g:=g) (args:=(Bo f first).toArray ++ #[.func (.yield w.heap.size) #[] #[]]++(Bo f captured).toArray) (by simp[Instr.enterLoop,ae]) (RN j.tm F _ _ gn g1 g2 g3)
  have e1:Bo f2 (first++(.U5 h.next::captured))=Bo f first++(.func (.yield w.heap.size) #[] #[]::Bo f captured):=by
   rw[Tc,Bo,<-F9 y.agree _ e.1,<-F9 y.agree _ e.2];simp only[Cl];rw[eb]
  have e2:=u7 y.agree j;simp only[oS]at e2;rw[e1,<-e2,eb,<-Lf y.agree j.tm];have e5:((Bo f first).toArray ++ #[Value.func (.yield w.heap.size) #[] #[]]++(Bo f captured).toArray)=(Bo f first++(.func (.yield w.heap.size) #[] #[]::Bo f captured)).toArray:=by simp
  rw[e5]at W;exact W
 ·exact O.mono fun q hq=>by rw[pQ p A.next hwf.next]at hq;exact hq
include hT hC hR wC wR in
theorem Bmj {s:Hz}(j:Cm T call round s=.go s')(u:Yz p s.fr)(A:Tw p s.h)(y:T8 f s.h w)(cs:List Frame):g' P p f w cs s s':=by
 obtain⟨⟨fn,n,tm,todo,ds,ret,Dr⟩,h⟩:=s;cases ret with
 | true=>
  have M:Dr=none:=u.ret rfl;subst M;cases ds with
  | cons d ds=>
   simp only[Cm]at j;split at j
   next C=>
    cases j;obtain⟨r0,F,rfl⟩:=y.obj d _ C;have B:(Instr.takeDeferred (f.b d)).run P w=.ok [] { w with heap:=w.heap.setIfInBounds (f.b d) (.deferred none) }:=by
     have L:=O3 (P:=P) F (by intros;simp);have h2:=Rg (P:=P) (o':=.deferred none) F (by intros;simp);simp only[bM]at L;simp only[Instr.takeDeferred,Sem.run_bind,L,aI,h2,aR]
    have hm:Move p f h w f (h.put d (.deferred false)) { w with heap:=w.heap.setIfInBounds (f.b d) (.deferred none) }:=Move.setObj y C rfl;have hwf:Wf p h (h.put d (.deferred false)):=Wf.put A C trivial;refine⟨f,_,.one ?_,hm,hwf,?_,rfl,rfl⟩
    ·rw[yB,yB];exact Bi2 B
    ·exact Yz.mono (p:=p) ⟨u.tm,fun x hx=>u.dfr x (aV _ hx),u.Dr,fun _=>rfl⟩ fun _ O=>.inl O
   ·cases j
  | nil=>
   simp only[Cm]at j;split at j
   ·split at j<;>cases j
   ·cases j
 | false=>
  have Y:=T7 (f:=f) u.tm;have G:∀{it:Item} {k:List Item},Yz p ⟨fn,n,tm,it::k,ds,false,Dr⟩->Yz p ⟨fn,n,tm,k,ds,false,Dr⟩:=fun h=>⟨h.tm,h.dfr,h.Dr,h.ret⟩
  cases todo with
  | nil=>simp only[Cm]at j;exact RM A y u j (fun _=>rfl) (fun e=>by cases e)
  | cons it k=>
   cases it with
   | code c=>
    cases c with
    | region id ops dr=>
     cases dr with
     | false=>
      simp only[Cm]at j;split at j
      next Q=>cases j;exact Bdc hT hC hR A y (G u) Q
      ·cases j
     | true=>
      simp only[Cm]at j;split at j
      next Q=>cases j;exact Bj6 hT hC hR wC wR A y (G u) Q
      ·cases j
    | cond c a b=>
     simp only[Cm]at j;split at j
     next U=>cases j;exact g'.lC A y u (RI (t:=true) (by rw[Bj Y U];rfl))
     next U=>cases j;exact g'.lC A y u (RI (t:=false) (by rw[Bj Y U];rfl))
     ·cases j
    | exit id=>
     simp only[Cm]at j;split at j
     next he=>cases j;exact g'.lC A y u (Boo he)
     ·obtain⟨_,_,hj⟩:=yD j
      rcases hj with hj|hj<;>cases hj
    | ret=>simp only[Cm]at j;exact RM A y u j (fun e=>by cases e) (fun _=>⟨k,rfl⟩)
    | rangeFunc fo ps dT body=>
     simp only[Cm]at j;split at j
     next g first captured H=>
      split at j
      ·exact Bg3 hC A y (G u) H j
      ·split at j
       next W=>exact A8o hC A y (G u) H W j
       ·cases j
     ·cases j
    | seq a b=>simp only[Cm]at j;cases j;exact g'.lC A y u Bq5
    | skip=>simp only[Cm]at j;cases j;exact g'.lC A y u Bo0
    | block id c=>simp only[Cm]at j;cases j;exact g'.lC A y u Bm1
    | loop c=>simp only[Cm]at j;cases j;exact g'.lC A y u Bpx
    | label l=>simp only[Cm]at j;cases j;exact g'.lC A y u Bm6
    | scope c=>simp only[Cm]at j;cases j
    | goto c=>simp only[Cm]at j;cases j
    | refuse c=>simp only[Cm]at j;cases j
   | inBlock id=>simp only[Cm]at j;cases j;exact g'.lC A y u Bcj
   | inLoop c=>simp only[Cm]at j;cases j;exact g'.lC A y u Bia
   | beginRound=>
    simp only[Cm]at j;split at j
    next l=>
     split at j
     next pd J Z f_ ps dT body d C=>
      cases j;obtain⟨L,h2⟩:=u9 (P:=P) y C;obtain⟨m1,X⟩:=yC (st':=.busy) (pd':=pd) A y C;have hs:=Rg (P:=P) (o':=.loop ⟨.busy,pd,J,Bi f Z f_,ps.toArray,dT,body,f.b d⟩) h2 (by intros;simp);have B:(Instr.beginRound (f.b l)).run P w=.ok () { w with heap:=w.heap.setIfInBounds (f.b l) (.loop ⟨.busy,pd,J,Bi f Z f_,ps.toArray,dT,body,f.b d⟩) }:=by
       simp only[Instr.beginRound,Sem.run_bind,L,aI,hs,aR]
      exact g'.run (.one (A2p (b:=FB.mk fn (ds.map (Jo f)) (some (f.b l))) rfl B)) m1 X ((G u).mono fun _ O=>.inl O)
     ·cases j
    ·cases j
   | _=>simp only[Cm]at j;cases j
end
end
section
section
variable(hT:Q4 P T){call:Ah}(hC:kC P call)(hR:oI P round)(wC:W8 call)(wR:W8 round)
variable{w:World}
include hT in
theorem OP {s:Hz}(j:Cm T call round s=.done v h')(L:Yz p s.fr)(B:Tw p s.h)(C:T8 f s.h w):Fin P p f w s v h':=by
 obtain⟨⟨fn,n,tm,todo,ds,ret,Dr⟩,h⟩:=s;cases ret with
 | true=>
  have F:Dr=none:=L.ret rfl;subst F;cases ds with
  | cons d ds=>
   simp only[Cm]at j;split at j<;>cases j
  | nil=>
   simp only[Cm]at j;split at j
   next y G=>
    have key:∀{vs:List EV} {v:EV},Np T tm h y.results.toList=some vs->(vs = [v]\/((∀x,vs≠[x])/\v=.tuple vs))->Fin P p f w ⟨⟨fn,n,tm,todo,[],true,none⟩,h⟩ v h:=by
     intro vs v M h2;obtain⟨O,Q⟩:=Bab hT B C L.tm M h2;exact⟨rfl,⟨rfl,rfl,rfl,y,(hT.fn fn y G).1,O⟩,Q⟩
    split at j
    next H=>cases j;exact key H (.inl rfl)
    next l J H=>cases j;exact key H (.inr ⟨fun x e=>by subst e;exact J x rfl,rfl⟩)
    ·cases j
   ·cases j
 | false=>
  cases todo with
  | nil=>simp only[Cm]at j;exact yE B C j (.inl ⟨rfl,rfl⟩)
  | cons it k=>
   have u:∀{A:List Nat} {l:Nat} {r:Option (EV × Ab)},behind fn n tm A Dr l k r=.done v h'->False:=by
    intro A l r hb;unfold behind at hb;split at hb
    ·cases hb
    ·split at hb
     ·split at hb<;>cases hb
     ·cases hb
   cases it with
   | code c=>
    cases c with
    | region id ops dr=>cases dr<;>(simp only[Cm]at j;split at j<;>cases j)
    | cond c a b=>simp only[Cm]at j;split at j<;>cases j
    | exit id=>
     simp only[Cm]at j;split at j
     ·cases j
     next he=>exact yE B C j (.inr (.inr ⟨id,k,rfl,he,rfl⟩))
    | ret=>simp only[Cm]at j;exact yE B C j (.inr (.inl ⟨k,rfl,rfl⟩))
    | rangeFunc fo ps dT body=>
     simp only[Cm]at j;split at j
     ·split at j
      ·exact(u j).elim
      ·split at j
       ·exact(u j).elim
       ·cases j
     ·cases j
    | _=>simp only[Cm]at j;cases j
   | beginRound=>
    simp only[Cm]at j;split at j
    ·split at j<;>cases j
    ·cases j
   | _=>simp only[Cm]at j;cases j
theorem g'.refl{s:Hz}(e:Yz p s.fr)(j:Tw p s.h)(u:T8 f s.h w):g' P p f w cs s s:=
 ⟨f,w,.refl _ _,Move.refl u,Wf.refl j,by rw[Ks _ _ _ rfl];exact e,rfl,rfl⟩
def pP(P:Program)(s s':Hz):Prop:=∀p f w cs,Yz p s.fr->Tw p s.h->T8 f s.h w->g' P p f w cs s s'
theorem pP.trans {s s1 s2:Hz}(a:pP P s s1)(b:pP P s1 s2):pP P s s2:=by
 intro p f w cs G H J;obtain⟨f1,w1,y,u,e,A,e1,e2⟩:=a p f w cs G H J;obtain⟨f2,w2,B,C,j,F,e3,e4⟩:=b _ f1 w1 cs A e.hok u.rep;exact⟨f2,w2,y.trans B,u.trans C,e.trans j,by rw[<-pQ p e.next j.next];exact F,e3.trans e1,e4.trans e2⟩
theorem u_:∀(l:List EV) (i:Nat) (t:Tr EV) (j:Nat),(setArgs l i t).get j=if i<=j/\j<i+l.length then l[j-i]? else t.get j
 | [],i,t,j=>by simp[setArgs];omega
 | v::r,i,t,j=>by
  simp only[setArgs];rw[u_ r (i+1) (t.put i (some v)) j,Tr.get_put];simp only[bP];by_cases e:i=j
  ·subst e
   rw[aK a_,aN rfl,aN a_];simp
  ·by_cases h2:i+1<=j/\j<i+1+r.length
   ·rw[aN h2,aN a_]
    rw[show j-i=(j-(i+1))+1 from a_,cM]
   ·rw[aK h2,aK e,aK a_]
theorem Bck(f:Loc)(h:args.length<=n):Bi f n (setArgs args 0 .nil)=(Bo f args).toArray++Array.replicate (n-(Bo f args).toArray.size) undef:=by
 apply fI;intro j;rw[rU];rw[Array.getElem?_append];simp only[cp,Cw,bX,oK,Array.getElem?_replicate];unfold tmp;rw[u_];by_cases hj:j<args.length
 ·rw[aN a_,aN a_,aN hj,gO]
  rw[aF hj];rfl
 ·rw[aK (show ¬(0<=j/\j<0+args.length) from a_),aK hj]
  by_cases e:j<n
  ·rw[aN e,aN a_];rfl
  ·rw[aK e,aK a_]
theorem Bmr(h:args.length<=n)(j:EV.T4 p args):Lv p n (setArgs args 0 .nil) where
 ok t v e:=by
  rw[u_]at e;split at e
  ·exact(Ie p args).1 j v (dR e)
  ·cases e
 out t u:=by
  rw[u_,aK a_];rfl
end
end
section
theorem vd:∀{a b:List EV} {r:Bool},Ey a b=some r->a.length=b.length
 | [],[],_,_=>rfl
 | x::a,y::b,r,h=>by
  simp only[Ey]at h;split at h
  ·simp[vd h]
  ·split at h
   next h2=>simp[vd h2]
   ·cases h
  ·cases h
 | [],_::_,_,h=>by cases h
 | _::_,[],_,h=>by cases h
theorem ve:∀(k:Nat) {a b:List EV} {r:Bool},Ey a b=some r->∃j e,Ey (a.take k) (b.take k)=some j/\Ey (a.drop k) (b.drop k)=some e/\r=(j&&e)
 | 0,a,b,r,h=>⟨true,r,rfl,h,by simp⟩
 | k+1,[],[],r,h=>by cases h;exact⟨true,true,rfl,rfl,rfl⟩
 | k+1,x::a,y::b,r,h=>by
  simp only[Ey]at h;split at h
  next u=>
   obtain⟨j,e,A,h2,B⟩:=ve k h;exact⟨j,e,by simp only[fY,Ey,u,A],by simpa using h2,B⟩
  next u=>
   split at h
   next r0 h0=>
    cases h;obtain⟨j,e,A,h2,B⟩:=ve k h0;exact⟨false,e,by simp only[fY,Ey,u,A],by simpa using h2,rfl⟩
   ·cases h
  ·cases h
 | k+1,[],_::_,_,h=>by cases h
 | k+1,_::_,[],_,h=>by cases h
theorem sv {b:Nat}{s:List Nat}{x:EV}{l:List EV}(h:shaped (b::s) (x::l)=true):shaped s l=true/\((b=0/\∃k n,x=.int k n)\/(b=1/\∃c,x=.bool c)\/(b=2/\∃c,x=.str c)):=by
 cases x with
 | int k n=>
  simp only[shaped]at h;rw[Br]at h;split at h
  next hb=>exact⟨h,.inl ⟨aJ hb,k,n,rfl⟩⟩
  ·cases h
 | bool c=>
  simp only[shaped]at h;rw[Br]at h;split at h
  next hb=>exact⟨h,.inr (.inl ⟨aJ hb,c,rfl⟩)⟩
  ·cases h
 | str c=>
  simp only[shaped]at h;rw[Br]at h;split at h
  next hb=>exact⟨h,.inr (.inr ⟨aJ hb,c,rfl⟩)⟩
  ·cases h
 | _=>cases h
theorem Lr:∀{sh:List Nat} {l:List EV},shaped sh l=true->l.length=sh.length
 | [],[],_=>rfl
 | b::s,x::l,h=>by rw[bP,bP,Lr (sv h).1]
 | [],_::_,h=>by cases h
 | _::_,[],h=>by cases h
theorem vf:∀{s1 s2:List Nat} {l:List EV},shaped (s1++s2) l=true->shaped s1 (l.take s1.length)=true/\shaped s2 (l.drop s1.length)=true
 | [],s2,l,h=>⟨rfl,h⟩
 | b::s1,s2,l,h=>by
  cases l with
  | nil=>have:=Lr h;simp at this
  | cons x l=>
   obtain⟨j,h2⟩:=sv (s:=s1++s2) h;obtain⟨e,h4⟩:=vf j;refine⟨?_,h4⟩;simp only[bP,fY];rcases h2 with⟨rfl,k,n,rfl⟩|⟨rfl,c,rfl⟩|⟨rfl,c,rfl⟩
   ·exact e
   ·exact e
   ·exact e
def oT(fl:TypeId->Option (List Nat)):List Field->Nat->Option (List Nat)
 | [],_=>some []
 | f::r,off=>match fl f.type with
  | some s=>if f.offset=off/\f.name≠"_" then(match oT fl r (off+s.length)with|some t=>some (s++t)|none=>none)else none
  | none=>none
def flat(P:Program):Nat->TypeId->Option (List Nat)
 | 0=>fun _=>none
 | d+1=>fun t=>match P.info? t with
  | some i=>match P.underlying t with
   | some (.int _)=>if i.size=1 then some [0]else none
   | some .bool=>if i.size=1 then some [1]else none
   | some .string=>if i.size=1 then some [2]else none
   | some (.struct j)=>if P.stoodInHeld t=false then(match oT (flat P d) j.toList 0 with
    | some s=>if s.length=i.size then some s else none
    | none=>none)else none
   | some (.array len e)=>match flat P d e with
    | some s=>if len*s.length=i.size then some (List.replicate len s).flatten else none
    | none=>none
   | _=>none
  | none=>none
def ik(P:Program)(t:TypeId):Bool:=match P.underlying t with|some (.struct _)=>true|some (.array _ _)=>true|_=>false
def lE(P:Program)(f:Loc)(t:TypeId)(l:List EV):Value:=if ik P t=true then .agg (Bo f l).toArray else(match l with|v::_=>Cl f v | []=>undef)
theorem Wc(n:Nat)(s:List Nat):(List.replicate n s).flatten.length=n*s.length:=by
 induction n with
 | zero=>simp
 | succ n e=>rw[dW,cJ,aE,e,fW];omega
theorem Wo{s:List Nat}(h:flat P d t=some s):(∃i,P.info? t=some i/\i.size=s.length)/\(ik P t=false->(s = [0]/\∃k,P.underlying t=some (.int k))\/(s = [1]/\P.underlying t=some .bool)\/(s = [2]/\P.underlying t=some .string))/\∀w,(isAgg t).run P w=.ok (ik P t) w:=by
 cases d with
 | zero=>simp[flat]at h
 | succ d=>
  simp only[flat]at h;split at h
  next i u=>
   split at h
   next k hu=>
    split at h
    next j=>cases h;exact⟨⟨i,u,j⟩,fun _=>.inl ⟨rfl,k,hu⟩,fun w=>by simp[isAgg,underlying,ik,hu]⟩
    ·cases h
   next hu=>
    split at h
    next j=>cases h;exact⟨⟨i,u,j⟩,fun _=>.inr (.inl ⟨rfl,hu⟩),fun w=>by simp[isAgg,underlying,ik,hu]⟩
    ·cases h
   next hu=>
    split at h
    next j=>cases h;exact⟨⟨i,u,j⟩,fun _=>.inr (.inr ⟨rfl,hu⟩),fun w=>by simp[isAgg,underlying,ik,hu]⟩
    ·cases h
   next y hu=>
    split at h
    ·split at h
     ·split at h
      next j=>cases h;exact⟨⟨i,u,j.symm⟩,fun e=>by simp[ik,hu]at e,fun w=>by simp[isAgg,underlying,ik,hu]⟩
      ·cases h
     ·cases h
    ·cases h
   next len e hu=>
    split at h
    ·split at h
     next j=>cases h;exact⟨⟨i,u,by rw[Wc];exact j.symm⟩,fun e=>by simp[ik,hu]at e,fun w=>by simp[isAgg,underlying,ik,hu]⟩
     ·cases h
    ·cases h
   ·cases h
  ·cases h
theorem Rc(f:Loc)(w:World){s:List Nat}(h:flat P d t=some s){xs:List EV}(A:off+s.length<=xs.length:=by omega):
 (Go.part t (Bo f xs).toArray off).run P w=.ok (lE P f t ((xs.drop off).take s.length)) w:=by
 obtain⟨⟨i,B,hs⟩,j,e⟩:=Wo h;have u:(sizeOf t).run P w=.ok s.length w:=by simp[sizeOf,typeInfo,B,hs]
 unfold lE;cases y:ik P t with
 | true=>
  simp only[Go.part,Sem.run_bind,e w,y,aI,bM,u,aR];congr 2;apply dX;simp[Pt,List.extract_eq_take_drop]
 | false=>
  have C:s.length=1:=by rcases j y with⟨rfl,_⟩|⟨rfl,_⟩|⟨rfl,_⟩<;>rfl
  rw[C]at A⊢;have F:xs[off]? = some xs[off]:=aF a_;have e1:(xs.drop off).take 1 = [xs[off]]:=by
   rw[cv a_];rfl
  have e2:(Bo f xs).toArray[off]? = some (Cl f xs[off]):=by simp[Pt,F]
  rw[e1];simp only[Go.part,Sem.run_bind,e w,y,aI,aT,ak,e2,aR]
def yF(P:Program)(d D:Nat):Prop:=∀(t:TypeId) (s:List Nat),flat P d t=some s->∀(f:Loc) (w:World) (a b:List EV) (r:Bool),shaped s a=true->Ey a b=some r->(Op.equalIn D t (lE P f t a) (lE P f t b)).run P w=.ok r w
theorem RO(f:Loc)(w:World){D:Nat}(F:yF P d D)(a b:List EV)(G:a.length=b.length):∀(B:List Field) (off:Nat) (s:List Nat) (r:Bool),oT (flat P d) B off=some s->shaped s (a.drop off)=true->Ey (a.drop off) (b.drop off)=some r ->
 (Op.eqFields D (Bo f a).toArray (Bo f b).toArray B).run P w=.ok r w
 | [],off,s,r,h,hs,y=>by
  simp only[oT]at h;cases h;have:=Lr hs;rw[fL,bh]at this;rw[this]at y;have h2:=vd y;rw[fL]at h2;rw[bh.1 h2.symm]at y;cases y;simp[Op.eqFields]
 | fd::B,off,s,r,h,hs,y=>by
  simp only[oT]at h;split at h
  next s1 e=>
   split at h
   next j=>
    split at h
    next s2 H=>
     cases h;obtain⟨J,U⟩:=vf hs;obtain⟨C,Y,L,h2,W⟩:=ve s1.length y;rw[cK]at U;rw[cK,cK]at h2;have hlen:=Lr hs;rw[aU,aE]at hlen;have X:=RO f w F a b G B (off+s1.length) s2 Y H U h2;by_cases Z:off+s1.length<=a.length
     ·have p1:=Rc f w e (xs:=a) (off:=off) Z
      have p2:=Rc f w e (xs:=b) (off:=off);have M:=F fd.type s1 e f w _ _ C J L;simp only[Op.eqFields,j.2,ne_eq,aH,bM,Sem.run_bind,j.1,p1,p2,M,aI];subst W;cases C
      ·simp
      ·simpa using X
     ·
      have h0:s1.length=0:=a_
      obtain⟨⟨i,hi,O⟩,Q,A⟩:=Wo e;have hA:ik P fd.type=true:=by
       cases ha:ik P fd.type with
       | true=>rfl
       | false=>rcases Q ha with⟨rfl,_⟩|⟨rfl,_⟩|⟨rfl,_⟩<;>simp at h0
      have u:(sizeOf fd.type).run P w=.ok 0 w:=by simp[sizeOf,typeInfo,hi,O,h0]
      have hp:∀xs:List EV,(Go.part fd.type (Bo f xs).toArray off).run P w=.ok (lE P f fd.type []) w:=by
       intro xs;simp only[Go.part,Sem.run_bind,A w,hA,aI,bM,u,aR,lE,dI];congr 2;apply dX;simp[Bo]
      rw[h0,gK,gK]at L;rw[h0,gK]at J;have M:=F fd.type s1 e f w [] [] C J L;simp only[Op.eqFields,j.2,ne_eq,aH,bM,Sem.run_bind,j.1,hp,M,aI];subst W;cases C
      ·simp
      ·simpa using X
    ·cases h
   ·cases h
  ·cases h
theorem RP(f:Loc)(w:World){D:Nat}(F:yF P d D){e:TypeId}{s:List Nat}(hs:flat P d e=some s)(a b:List EV)(B:a.length=b.length):∀(n k:Nat) (r:Bool),(k+n)*s.length=a.length->shaped (List.replicate n s).flatten (a.drop (k*s.length))=true ->
 Ey (a.drop (k*s.length)) (b.drop (k*s.length))=some r ->
 (Op.eqItems D e (P.cellsOf e) (Bo f a).toArray (Bo f b).toArray (List.range' k n)).run P w=.ok r w
 | 0,k,r,j,u,A=>by
  rw[dI]at j;rw[dG a_,dG a_]at A;cases A;simp[Op.eqItems]
 | n+1,k,r,j,u,A=>by
  obtain⟨⟨i,M,C⟩,_⟩:=Wo hs;have G:P.cellsOf e=s.length:=by simp[Program.cellsOf,M,C]
  rw[dW,cJ]at u;obtain⟨O,H⟩:=vf u;obtain⟨J,Q,U,h2,W⟩:=ve s.length A;have y:k*s.length+s.length=(k+1)*s.length:=by rw[fW];omega
  rw[cK,y]at H;rw[cK,cK,y]at h2;have L:=RP f w F hs a b B n (k+1) Q (by rw[<-j];congr 1;omega) H h2;have X:k*s.length+s.length<=a.length:=by
   rw[<-j,show k+(n+1)=(k+1)+n from a_,fW,fW];omega
  have p1:=Rc f w hs (xs:=a) (off:=k*s.length) X;have Y:=Rc f w hs (xs:=b) (off:=k*s.length);have Z:=F e s hs f w _ _ J O U;rw[List.range'_succ];simp only[Op.eqItems,Sem.run_bind,G,p1,Y,Z,aI];rw[G]at L;subst W;cases J
  ·simp
  ·simpa using L
theorem RQ:∀(d D:Nat),d<=D->yF P d D
 | 0,_,_=>fun t n h=>by simp[flat]at h
 | d+1,0,h=>a_
 | d+1,D+1,hd=>by
  have U:=RQ d D a_;intro t s h f w a b r j u;have A:=vd u;obtain⟨_,F,_⟩:=Wo h;by_cases C:ik P t=true
  ·simp only[flat]at h
   split at h
   next i hi=>
    split at h
    next k hu=>simp[ik,hu]at C
    next hu=>simp[ik,hu]at C
    next hu=>simp[ik,hu]at C
    next W hu=>
     split at h
     next J=>
      split at h
      next s' L=>
       split at h
       ·cases h
        have X:P.fieldsOf t=W:=by simp[Program.fieldsOf,hu]
        simp only[lE,C,bM];rw[run_equalIn_struct w D t _ _ (by rw[X];exact hu) J,X];exact RO f w U a b A W.toList 0 s r L (by simpa using j) (by simpa using u)
       ·cases h
      ·cases h
     ·cases h
    next len e hu=>
     split at h
     next s' hs=>
      split at h
      next hc=>
       cases h;obtain⟨⟨ie,M,_⟩,_⟩:=Wo hs;simp only[lE,C,bM];rw[run_equalIn_array w D _ _ hu M,List.range_eq_range'];refine RP f w U hs a b A len 0 r ?_ (by simpa using j) (by simpa using u);rw[Lr j,Wc,bI]
      ·cases h
     ·cases h
    ·cases h
   ·cases h
  ·have B:ik P t=false:=by simpa using C
   have hlen:=Lr j;have O:s.length=1:=by rcases F B with⟨rfl,_⟩|⟨rfl,_⟩|⟨rfl,_⟩<;>rfl
   rw[O]at hlen
   match a,b,hlen,A with
   | [x],[y],_,_=>
    simp only[lE,B,aT,ak];simp only[Ey]at u;have hle:jC x y=some r:=by
     split at u
     next Q=>cases u;exact Q
     next Q=>cases u;exact Q
     ·cases u
    rcases F B with⟨rfl,Y,hu⟩|⟨rfl,hu⟩|⟨rfl,hu⟩
    ·rcases(sv j).2 with⟨_,k,n,rfl⟩|⟨h0,_⟩|⟨h0,_⟩
     ·cases y with
      | int k' m=>
       simp only[jC]at hle;obtain⟨Z,G⟩:=Ap hle;have:=r8 Z;subst this;have hle:=ek G;simp only[Cl];rw[run_equalIn_int w D t k Y n m hu,<-hle,lr];congr 1
      | _=>cases hle
     ·cases h0
     ·cases h0
    ·rcases(sv j).2 with⟨h0,_⟩|⟨_,c,rfl⟩|⟨h0,_⟩
     ·cases h0
     ·cases y with
      | bool H=>
       simp only[jC,cV]at hle;simp only[Cl];rw[PE w D t c H hu,<-hle];cases c<;>cases H<;>rfl
      | _=>cases hle
     ·cases h0
    ·rcases(sv j).2 with⟨h0,_⟩|⟨h0,_⟩|⟨_,c,rfl⟩
     ·cases h0
     ·cases h0
     ·cases y with
      | str H=>
       simp only[jC,cV]at hle;simp only[Cl];rw[Bkp w D t c H hu,<-hle,uR]
      | _=>cases hle
def qX(P:Program)(t:TypeId):Bool:=
 match P.underlying t with
 | some (.struct e)=>e.toList.all fun f=>f.name != "_"&&(match P.underlying f.type with|some (.int _)=>true|some .bool=>true|_=>false)
 | _=>false
theorem RR(f:Loc)(w:World)(e:Bool)(D:Nat)(a:List EV):∀(u:List Field) (off:Nat) (s:List Nat) (d:Nat),(u.all fun f=>f.name != "_"&&(match P.underlying f.type with|some (.int _)=>true|some .bool=>true|_=>false))=true ->
 oT (flat P d) u off=some s->shaped s (a.drop off)=true ->
 (forIn u PUnit.unit fun(fd:Field) (_:PUnit)=>(do
  if fd.name≠"_" then do
   Instr.checkKey e (D+1) fd.type (←Go.part fd.type (Bo f a).toArray fd.offset)
   pure (.yield PUnit.unit)
  else pure (.yield PUnit.unit):Sem (ForInStep PUnit))).run P w=.ok PUnit.unit w
 | [],off,s,d,_,h,hs=>by simp
 | fd::u,off,s,d,j,h,hs=>by
  simp only[List.all_cons,bD]at j;simp only[oT]at h;split at h
  next s1 y=>
   split at h
   next A=>
    split at h
    next s2 B=>
     cases h;obtain⟨F,C⟩:=vf hs;rw[cK]at C;have G:=RR f w e D a u (off+s1.length) s2 d j.2 B C;have hlen:=Lr F;rw[bH,aU]at hlen;have H:s1.length=1:=by
      have J:ik P fd.type=false:=by
       have:=j.1.2;unfold ik;split at this<;>simp_all
      rcases(Wo y).2.1 J with⟨rfl,_⟩|⟨rfl,_⟩|⟨rfl,_⟩<;>rfl
     have p1:=Rc f w y (xs:=a) (off:=off);have L:∀v,(Instr.checkKey e (D+1) fd.type v).run P w=.ok () w:=by
      intro v;have:=j.1.2;rw[Instr.checkKey.eq_def];split at this
      next k hu=>simp[underlying,hu]
      next hu=>simp[underlying,hu]
      ·cases this
     rw[List.forIn_cons];simp only[A.2,ne_eq,aH,bM,Sem.run_bind,A.1,p1,L,aI,aR];exact G
    ·cases h
   ·cases h
  ·cases h
def qY(P:Program)(t:TypeId):Bool:=
 match P.underlying t with
 | some (.array _ e)=>(match P.underlying e with|some (.int _)=>true|_=>false)
 | _=>false
theorem RS(f:Loc)(w:World)(e:Bool)(D:Nat){u:TypeId}{k:IntKind}(hu:P.underlying u=some (.int k))(hs:flat P d u=some [0])(a:List EV):∀(n i:Nat),i+n<=a.length ->
 (forIn (List.range' i n) PUnit.unit fun(j:Nat) (_:PUnit)=>(do
  Instr.checkKey e (D+1) u (←Go.part u (Bo f a).toArray (j*(←sizeOf u)))
  pure (.yield PUnit.unit):Sem (ForInStep PUnit))).run P w=.ok PUnit.unit w
 | 0,i,_=>by simp
 | n+1,i,h=>by
  have A:=RS f w e D hu hs a n (i+1) a_;have p1:=Rc f w hs (xs:=a) (off:=i) (by simp;omega);have B:∀v,(Instr.checkKey e (D+1) u v).run P w=.ok () w:=by
   intro v;rw[Instr.checkKey.eq_def];simp[underlying,hu]
  obtain⟨⟨ii,C,y⟩,_⟩:=Wo hs;have F:(sizeOf u).run P w=.ok 1 w:=by simp[sizeOf,typeInfo,C,y]
  rw[List.range'_succ,List.forIn_cons];simp only[Sem.run_bind,F,aI,cD,p1,B,aR];exact A
theorem Bc4(u:qY P t=true){s:List Nat}(h:flat P d t=some s)(f:Loc)(w:World)(e:Bool)(a:List EV)(hs:shaped s a=true):
 (Instr.checkKey e 10000 t (.agg (Bo f a).toArray)).run P w=.ok () w:=by
 unfold qY at u;split at u
 next len B hu=>
  split at u
  next k j=>
   cases d with
   | zero=>simp[flat]at h
   | succ d=>
    simp only[flat]at h;split at h
    ·simp only[hu]at h
     split at h
     next s' y=>
      split at h
      next F=>
       cases h;have C:ik P B=false:=by simp[ik,j]
       have A:s' = [0]:=by
        rcases(Wo y).2.1 C with⟨rfl,_⟩|⟨_,h2⟩|⟨_,h2⟩
        ·rfl
        ·rw[j]at h2;cases h2
        ·rw[j]at h2;cases h2
       subst A;have hlen:=Lr hs;rw[Wc]at hlen;simp only[bP,fL,bI,cD]at hlen;have:=RS f w e 9998 j y a len 0 a_;rw[Instr.checkKey.eq_def];simp only[underlying,hu,Sem.run_bind,fX,aI,aR];simp only[Std.Legacy.Range.forIn_eq_forIn_range',Std.Legacy.Range.size,gO,Nat.add_one_sub_one,Nat.div_one];rw[this];rfl
      ·cases h
     ·cases h
    ·cases h
  ·cases u
 ·cases u
theorem A2v(j:qX P t=true){s:List Nat}(h:flat P d t=some s)(f:Loc)(w:World)(e:Bool)(a:List EV)(hs:shaped s a=true):
 (∃u,P.underlying t=some (.struct u))/\(Instr.checkKey e 10000 t (.agg (Bo f a).toArray)).run P w=.ok () w:=by
 unfold qX at j;split at j
 next u hu=>
  refine⟨⟨u,hu⟩,?_⟩;cases d with
  | zero=>simp[flat]at h
  | succ d=>
   simp only[flat]at h;split at h
   ·simp only[hu]at h
    split at h
    ·split at h
     next s' y=>
      split at h
      ·cases h
       have:=RR f w e 9998 a u.toList 0 s d j y (by simpa using hs);rw[Instr.checkKey.eq_def];simp only[underlying,hu,Sem.run_bind,fX,aI,aR];rw[<-Array.forIn_toList];rw[this];rfl
      ·cases h
     ·cases h
    ·cases h
   ·cases h
 ·cases j
end
def F4 {α:Type}:List α->Nat->Tr α->Tr α
 | [],_,t=>t
 | a::r,i,t=>F4 r (Nat.succ i) (t.put i (some a))
theorem RT:∀(l:List α) (i:Nat) (t:Tr α) (j:Nat),(F4 l i t).get j=if i<=j/\j<i+l.length then l[j-i]? else t.get j
 | [],i,t,j=>by simp[F4];omega
 | a::r,i,t,j=>by
  simp only[F4];rw[RT r (i+1) (t.put i (some a)) j,Tr.get_put];simp only[bP];by_cases e:i=j
  ·subst e
   rw[aK a_,aN rfl,aN a_];simp
  ·by_cases h2:i+1<=j/\j<i+1+r.length
   ·rw[aN h2,aN a_]
    rw[show j-i=(j-(i+1))+1 from a_,cM]
   ·rw[aK h2,aK e,aK a_]
theorem RU(l:List α)(j:Nat):(F4 l 0 .nil).get j=l[j]?:=by
 rw[RT];by_cases h:j<l.length
 ·rw[aN a_,gO]
 ·rw[aK a_,cN a_];rfl
def vg:List Nat->Nat->Bool
 | [],_=>false
 | a::r,x=>Bb (Nat.beq a x) true (vg r x)
theorem RW:∀{l:List Nat} {x:Nat},vg l x=true->x∈l
 | [],_,h=>by cases h
 | a::r,x,h=>by
  simp only[vg]at h;rw[Br]at h;split at h
  next e=>rw[aJ e];exact aW
  ·exact aV _ (RW h)
def vh:List (Nat × List Nat)->Nat->Option (List Nat)
 | [],_=>none
 | (a,s)::r,x=>Bb (Nat.beq a x) (some s) (vh r x)
theorem vi:∀{l:List (Nat × List Nat)} {x:Nat} {s:List Nat},vh l x=some s->(x,s)∈l
 | [],_,_,h=>by cases h
 | (a,s')::r,x,s,h=>by
  simp only[vh]at h;rw[Br]at h;split at h
  next e=>cases h;rw[aJ e];exact aW
  ·exact aV _ (vi h)
def vj(ty:Tr TypeInfo)(t:Nat):Option TypeDesc:=
 match ty.get t with
 | some i=>match i.desc with
  | .named _ u=>(match ty.get u with|some j=>some j.desc|none=>none)
  | d=>some d
 | none=>none
def sw(ty:Tr TypeInfo)(t:Nat):Option Bool:=match vj ty t with|some d=>some (Awz d)|none=>none
def yG(ty:Tr TypeInfo)(t:Nat):Option (List EV):=
 match ty.get t with
 | some i=>match i.zero with
  | some v=>match ofV v with
   | some x=>Bb x.plain (Bb (Nat.beq i.size (len x.cells)) (Bb (Nat.ble i.bytes 1048576) (match sw ty t with
    | some true=>(match x with | .agg l=>some l|_=>none)
    | some false=>Bb x.one (some [x]) none
    | none=>none) none) none) none
   | none=>none
  | none=>none
 | none=>none
def tA(e:Tr Func)(ty:Tr TypeInfo)(eqs:List (Nat × List Nat))(keys:List Nat):I5 where
 fn:=e.get
 Ud:=vj ty
 size t:=match ty.get t with|some i=>Bb (Nat.ble i.bytes 1048576) (some i.size) none|none=>none
 zero:=yG ty
 agg:=sw ty
 eqs:=vh eqs
 key:=vg keys
theorem Boe{t:Nat}{i:TypeInfo}(h:P.types[t]? = some i):P.info? t=some i:=by
 have e:t<P.types.size:=(br.1 h).1;unfold Tables.info?;rw[aN e];exact h
theorem Bmo{keys:List Nat}(hm:P.follows .mixedOrders=true)
 (C:(P.funcs.toList.all fun f=>!(f.name == "runtime.NumGoroutine"))=true)
 (B:∀x∈eqs,flat P 6 x.1=some x.2/\ik P x.1=true/\P.eqGuardType P.depth x.1=false) (H:∀t∈keys,qX P t=true\/qY P t=true) :
 Q4 P (tA (F4 P.funcs.toList 0 .nil) (F4 P.types.toList 0 .nil) eqs keys):=by
 have F:∀t i,(F4 P.types.toList 0 .nil).get t=some i->P.info? t=some i:=by
  intro t i h;rw[RU,cQ]at h;exact Boe h
 have G:∀t d,vj (F4 P.types.toList 0 .nil) t=some d->P.underlying t=some d:=by
  intro t d h;unfold vj at h;split at h
  next i Q=>
   have A:=F t i Q;split at h
   next s u hd=>
    split at h
    next j hj=>
     cases h;have h2:=F u j hj;obtain⟨desc,str,size,bytes,hp,al,fa,z⟩:=i;simp only at hd;subst hd;simp[Program.underlying,A,h2]
    ·cases h
   next hd=>
    cases h;unfold Program.underlying;rw[A];split
    next J=>cases J;exact absurd rfl (hd _ _)
    next J=>cases J;rfl
    next J=>cases J
  ·cases h
 have U:∀t b,sw (F4 P.types.toList 0 .nil) t=some b->∃d,P.underlying t=some d/\Awz d=b:=by
  intro t b h;unfold sw at h;split at h
  next d hd=>cases h;exact⟨d,G t d hd,rfl⟩
  ·cases h
 refine⟨hm,fun g fn h=>?_,G,fun t n h=>?_,fun t z h=>?_,U,fun t sh h=>?_,fun t h=>?_⟩
 ·have h':(F4 P.funcs.toList 0 .nil).get g=some fn:=h
  rw[RU]at h';refine⟨by rw[<-cQ];exact h',?_⟩;have:=dS.1 C fn (dR h');simpa using this
 ·simp only[tA]at h
  split at h
  next i Q=>
   obtain⟨A,h2⟩:=Ap h;cases h2;exact⟨i,F t i Q,rfl,bG A⟩
  ·cases h
 ·have h':yG (F4 P.types.toList 0 .nil) t=some z:=h
  unfold yG at h';split at h'
  next i Q=>
   split at h'
   next v hv=>
    split at h'
    next x J=>
     obtain⟨A,h'⟩:=Ap h';obtain⟨h2,h'⟩:=Ap h';obtain⟨Y,h'⟩:=Ap h';have W:i.size=x.cells.length:=by rw[<-Ux];exact aJ h2
     refine⟨i,v,x,F t i Q,hv,J,A,?_⟩;have X:∀b,sw (F4 P.types.toList 0 .nil) t=some b->(tA (F4 P.funcs.toList 0 .nil) (F4 P.types.toList 0 .nil) eqs keys).agg t=some b:=fun _ h=>h
     split at h'
     next Z=>
      have L:=X true Z;cases x with
      | agg l=>
       simp only[cV]at h';subst h';exact⟨rfl,W,bG Y,fun _=>rfl,fun e=>(by rw[L]at e;cases e)⟩
      | _=>cases h'
     next Z=>
      have L:=X false Z;obtain⟨ho,h'⟩:=Ap h';cases h';have hc:x.cells = [x]:=by
       cases x<;>first|rfl|(simp[EV.one]at ho)
      exact⟨hc.symm,by rw[W,hc],bG Y,fun e=>(by rw[L]at e;cases e),fun _=>rfl⟩
     ·cases h'
    ·cases h'
   ·cases h'
  ·cases h'
 ·obtain⟨A,h2,Y⟩:=B _ (vi h)
  refine⟨Y,fun f w a b r hl hs=>?_⟩;have:=RQ (P:=P) 6 10000 a_ t sh A f w a b r hs hl;simp only[lE,h2,bM]at this;exact this
 ·have M:=H t (RW h)
  rcases M with M|M
  ·constructor
   ·have y:=M
    unfold qX at y;split at y
    next fs hu=>exact⟨_,hu,rfl⟩
    ·cases y
   ·intro f w e a sh O hs
    obtain⟨A,_,_⟩:=B _ (vi O);exact(A2v M A f w e a hs).2
  ·constructor
   ·have y:=M
    unfold qY at y;split at y
    next n e hu=>exact⟨_,hu,rfl⟩
    ·cases y
   ·intro f w e a sh O hs
    obtain⟨A,_,_⟩:=B _ (vi O);exact Bc4 M A f w e a hs
theorem Bly(f:Loc)(w:World)(n m:Nat):T8 f ⟨.nil,n,m⟩ w:=⟨fun i o h=>(by cases h),fun i j o o' h=>(by cases h)⟩
theorem Bnj(n m:Nat):Tw (fun _=>False) ⟨.nil,n,m⟩:=⟨fun i h=>h.elim,fun i o h=>(by cases h)⟩
theorem RX{c:Ah}(hC:kC P c){g:Nat}(h:c g [] ⟨.nil,0,0⟩=some (v,h')){V:Value}(y:∀f,Cl f v=V)(w:World):
 Calls P g #[] w fun e w'=>e=.returned V/\RowKit.Below w.heap.size w w':=by
 obtain⟨_,A⟩:=hC _ _ _ _ _ h;intro cs;obtain⟨fr,f',w',hs,j,u,hm,hwf,B⟩:=A (fun _=>False) ⟨fun _=>0,fun _=>0⟩ w (Bnj 0 0) (Bly _ _ 0 0) trivial cs;rw[y]at u;exact⟨.returned V,w',fr,⟨rfl,hm.os,hm.tape,hm.output,hm.size,fun k C=>hm.kept k C (fun i o F=>(by cases F))⟩,hs,j,u⟩
def isTrue:Option (EV × Ab)->Bool
 | some (.bool b,_)=>b
 | _=>false
theorem A9j {r:Option (EV × Ab)}(h:isTrue r=true):∃h',r=some (.bool true,h'):=by
 unfold isTrue at h;split at h
 ·subst h;exact⟨_,rfl⟩
 ·cases h
def sy(g:Nat)(v:EV):Ah:=fun e args h=>Bb (Nat.beq e g) (match args with | []=>some (v,h)|_=>none) none
theorem RY{g:Nat}{V:Value}(H:∀f,Cl f v=V)(y:∀p,v.ok p){fn:Func}(J:P.funcs[g]? = some fn)(hb:fn.body.isSome=true)(L:(fn.name == "runtime.NumGoroutine")=false)
 (hC:∀w,Calls P g #[] w fun e w'=>e=.returned V/\RowKit.Below w.heap.size w w'):kC P (sy g v)/\W8 (sy g v):=by
 have key:∀A args h B h',sy g v A args h=some (B,h')->A=g/\args = []/\B=v/\h'=h:=by
  intro A args h B h' u;unfold sy at u;obtain⟨C,h2⟩:=Ap u;split at h2
  ·cases h2;exact⟨aJ C,rfl,rfl,rfl⟩
  ·cases h2
 constructor
 ·intro A args h B h' u
  obtain⟨rfl,rfl,rfl,rfl⟩:=key _ _ _ _ _ u;refine⟨⟨fn,J,hb,L⟩,fun p f w u F O cs=>?_⟩;obtain⟨e,w',fr,⟨rfl,j⟩,hs,G,M⟩:=hC w cs;refine⟨fr,f,w',hs,G,?_,⟨Loc.uI _ _,⟨fun i o y=>?_,F.inj⟩,fun b hb _=>j.block b hb,j.size,j.tape,j.os,j.output,fun i o y=>.inr ⟨i,o,y,rfl⟩⟩,Wf.refl u,y _⟩
  ·rw[H];exact M
  ·obtain⟨r,C,h2⟩:=F.obj i o y
   exact⟨r,by rw[j.block _ (F.lt y)];exact C,h2⟩
 ·intro A args h B h' u
  obtain⟨_,_,_,rfl⟩:=key _ _ _ _ _ u;exact .refl _
end
end Go.Ev
