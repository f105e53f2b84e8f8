import Derived.Test.YtllikommdogjcaaGreatEvOne
import Derived.Orders
import Derived.Laws.StructEq
import Derived.ChangeKeysEq
import Derived.KernelRfl
import Derived.Below
set_option linter.all false
namespace Go.Ev
noncomputable section
variable {x fo:Operand}{T:Ir}{op:Op}{h h' h0 hp:Ab}{round:Ah}{S p p0:Nat->Prop}{d i m n q fn id off base:Nat}{tm g_ mj:Bb}{t:TypeId}{v:EV}{a:Aj3}{o:Oper}{s':H3}{f f0 f1:Loc}{g:Nat->Option D5}{listed:Array Bool}{E E':Nat->Ab}{P:Program}{w':World}{pd pd0 jump:Option Code}{k todo jB:List Item}{caller:Frame}{cs:List Frame}{α:Type}{ps:List Tmp}{d' body:Code}{ds:List Nat}{Dy:Option Nat}{tmps:Array Value}{args first captured:List EV}{eqs:List (Nat × List Nat)}{V:Nat->EV}{σ:Nat->jk}
section
theorem tj:∀{l:List Operand},(∀x∈l,Cj tm x=Cj g_ x)->Nc tm l=Nc g_ l
 | [],_=>rfl
 | x::r,h=>by simp only[Nc];rw[h x aW,tj fun y e=>h y (aT _ e)]
theorem yV:∀{l:List (Nat × Operand)},(∀x∈l,Cj tm x.2=Cj g_ x.2)->Z8 tm l=Z8 g_ l
 | [],_=>rfl
 | (i,x)::r,h=>by simp only[Z8];rw[h (i,x) aW,yV fun y e=>h y (aT _ e)]
theorem yW {x:Option Operand}(h:∀y,x=some y->Cj tm y=Cj g_ y):jw tm x=jw g_ x:=by
 cases x with
 | none=>rfl
 | some y=>simp only[jw];rw[h y rfl]
theorem Bc5(h:∀x∈op.operands,Cj tm x=Cj g_ x):Fh T tm op=Fh T g_ op:=by
 cases op with
 | build t ps=>
  have:Z8 tm ps.toList=Z8 g_ ps.toList:=yV fun x e=>h x.2 (by
   simp only[Op.operands,List.mem_toArray,dK];exact⟨x,e,rfl⟩)
  simp only[Fh,this]
 | makeFunc fn a b=>
  have A:Nc tm a.toList=Nc g_ a.toList:=tj fun x e=>h x (by simp only[Op.operands,Array.mem_append];exact .inl (dL.1 e))
  have h2:Nc tm b.toList=Nc g_ b.toList:=tj fun x e=>h x (by simp only[Op.operands,Array.mem_append];exact .inr (dL.1 e))
  cases fn<;>simp only[Fh,A,h2]
 | slice t x B C F=>
  have h0:Cj tm x=Cj g_ x:=h x (by simp[Op.operands]);have A:jw tm B=jw g_ B:=yW fun y j=>h y (by subst j;simp[Op.operands])
  have h2:jw tm C=jw g_ C:=yW fun y j=>h y (by subst j;simp[Op.operands])
  have G:jw tm F=jw g_ F:=yW fun y j=>h y (by subst j;simp[Op.operands])
  simp only[Fh,h0,A,h2,G]
 | unOp u t x=>
  have h0:Cj tm x=Cj g_ x:=h x (by simp[Op.operands]);cases u<;>simp only[Fh,h0]
 | pick c a b=>simp only[Fh,h c (by simp[Op.operands]),h a (by simp[Op.operands]),h b (by simp[Op.operands])]
 | binOp op t x y u=>simp only[Fh,h x (by simp[Op.operands]),h y (by simp[Op.operands])]
 | indexAddr t x y=>simp only[Fh,h x (by simp[Op.operands]),h y (by simp[Op.operands])]
 | index t x y=>simp only[Fh,h x (by simp[Op.operands]),h y (by simp[Op.operands])]
 | move x=>simp only[Fh,h x (by simp[Op.operands])]
 | assign x=>simp only[Fh,h x (by simp[Op.operands])]
 | nilCheck x=>simp only[Fh,h x (by simp[Op.operands])]
 | fieldAddr s x H=>simp only[Fh,h x (by simp[Op.operands])]
 | field s x H=>simp only[Fh,h x (by simp[Op.operands])]
 | convert s d x=>simp only[Fh,h x (by simp[Op.operands])]
 | extract x ix=>simp only[Fh,h x (by simp[Op.operands])]
 | sliceToArrayPointer t x=>simp only[Fh,h x (by simp[Op.operands])]
 | _=>rfl
theorem Bch(h:∀x∈op.operands,Cj tm x=Cj g_ x):D3 T tm op hp=D3 T g_ op hp:=by
 cases op with
 | buildSlice t m ps=>
  have:Z8 tm ps.toList=Z8 g_ ps.toList:=yV fun x j=>h x.2 (by
   simp only[Op.operands,List.mem_toArray,dK];exact⟨x,j,rfl⟩)
  simp only[D3,this]
 | call c=>
  obtain⟨callee,args,A⟩:=c;cases callee with
  | builtin b=>
   have u:Nc tm args.toList=Nc g_ args.toList:=tj fun x j=>h x (by simp only[Op.operands,Call.operands,Array.mem_append];exact .inr (dL.1 j))
   simp only[D3,u]
  | _=>rfl
 | select cs bl=>
  cases bl with
  | true=>rfl
  | false=>
   simp only[D3];split
   next c B=>
    have e:c∈cs:=dL.1 (by rw[B];exact aW);have u:Cj tm c.chan=Cj g_ c.chan:=h c.chan (by
     simp only[Op.operands,Array.mem_flatMap];exact⟨c,e,by simp⟩)
    have h2:∀y,c.send=some y->Cj tm y=Cj g_ y:=fun y C=>h y (by
     simp only[Op.operands,Array.mem_flatMap];exact⟨c,e,by simp[C]⟩)
    rw[u];cases hs:c.send with
    | none=>
     cases Cj g_ c.chan with
     | none=>rfl
     | some v=>cases v<;>rfl
    | some y=>
     cases Cj g_ c.chan with
     | none=>rfl
     | some v=>cases v<;>first|rfl|(simp only[h2 y hs])
   ·rfl
 | makeMap t r=>cases r<;>rfl
 | load t x=>simp only[D3,h x (by simp[Op.operands])]
 | store t a x=>simp only[D3,h a (by simp[Op.operands]),h x (by simp[Op.operands])]
 | alloc t=>rfl
 | box t x=>simp only[D3,h x (by simp[Op.operands])]
 | makeSlice t a x=>simp only[D3,h a (by simp[Op.operands]),h x (by simp[Op.operands])]
 | makeChan t x=>simp only[D3,h x (by simp[Op.operands])]
 | lookup t a x ok=>simp only[D3,h a (by simp[Op.operands]),h x (by simp[Op.operands])]
 | mapUpdate t a x y=>simp only[D3,h a (by simp[Op.operands]),h x (by simp[Op.operands]),h y (by simp[Op.operands])]
 | _=>rfl
theorem Bin{call:Ah}(h:∀x∈op.operands,Cj tm x=Cj g_ x):aop T call round tm op hp=aop T call round g_ op hp:=by
 unfold aop;rw[Bc5 h];congr 1;split
 next f args e=>
  have h0:Cj tm f=Cj g_ f:=h f (by simp[Op.operands,Call.operands]);have j:Nc tm args.toList=Nc g_ args.toList:=tj fun x u=>h x (by simp only[Op.operands,Call.operands,Array.mem_append];exact .inr (dL.1 u))
  rw[h0,j]
 ·exact Bch h
theorem Bah {A j:Operand->Value}(o:Oper)(u:∀cs b,o.op=.select cs b->∃c,cs = #[c])(h:∀x∈o.op.operands,A x=j x):execOp A o=execOp j o:=by
 by_cases hs:∃cs b,o.op=.select cs b
 ·obtain⟨cs,b,B⟩:=hs
  obtain⟨c,rfl⟩:=u cs b B;rw[B]at h;have C:A c.chan=j c.chan:=h _ (by simp[Op.operands]);have h2:c.send.map A=c.send.map j:=by
   cases hs:c.send with
   | none=>rfl
   | some y=>simp only[eD];rw[h y (by simp[Op.operands,hs])]
  simp only[execOp,B];simp[C,h2]
 ·exact execOp_congr o (fun cs b e=>hs ⟨cs,b,e⟩) h
def jK(tm:Bb):List Operand->Bb
 | []=>.nil
 | .tmp t::r=>(jK tm r).put t (tm.get t)
 | _::r=>jK tm r
open Classical in
theorem pL(tm:Bb):∀(l:List Operand) (t:Nat),(jK tm l).get t=if .tmp t∈l then tm.get t else none
 | [],t=>by simp[jK,Tr.get_nil]
 | .tmp u::r,t=>by
  simp only[jK,Tr.get_put,pL tm r t,bX,Operand.tmp.injEq];by_cases h:u=t
  ·subst h;simp
  ·rw[aG h];simp[cR h]
 | .const v::r,t=>by simp only[jK,pL tm r t,bX,reduceCtorEq,false_or]
 | .global v::r,t=>by simp only[jK,pL tm r t,bX,reduceCtorEq,false_or]
 | .func v::r,t=>by simp only[jK,pL tm r t,bX,reduceCtorEq,false_or]
theorem Bdb(tm:Bb){l:List Operand}(e:x∈l):Cj (jK tm l) x=Cj tm x:=by
 cases x with
 | tmp t=>simp only[Cj];rw[pL,aI e]
 | const v=>rfl
 | global v=>rfl
 | func v=>rfl
theorem Bno{l:List Operand}(h:∀t,.tmp t∈l->∀v,tm.get t=some v->v.ok p)(j:∀t,n<=t->tm.get t=none):L9 p n (jK tm l) where
 ok t v e:=by
  rw[pL]at e;split at e
  next hm=>exact h t hm v e
  ·cases e
 out t u:=by
  rw[pL];split
  ·exact j t u
  ·rfl
theorem Bpx(C:Cj tm x=some (.ptr q off))(j:D3 T tm (.load t x) h=some (v,h')):
 ∃o,h.get q=some o/\∀h2:Ab,h2.get q=some o->D3 T tm (.load t x) h2=some (v,h2):=by
 have u:∀n l,Jo h q off n=some l->∃o,h.get q=some o/\∀h2:Ab,h2.get q=some o->Jo h2 q off n=some l:=by
  intro n l y;cases hg:h.get q with
  | none=>simp[Jo,hg]at y
  | some o=>exact⟨o,rfl,fun h2 e=>by unfold Jo at y⊢;rw[e];rw[hg]at y;exact y⟩
 simp only[D3,C]at j⊢;split at j
 next F=>
  split at j
  next n G=>
   split at j
   next l y=>
    cases j;obtain⟨o,A,h2⟩:=u n l y;exact⟨o,A,fun B e=>by simp only[h2 B e]⟩
   ·cases j
  ·cases j
 next F=>
  split at j
  next l y=>
   cases j;obtain⟨o,A,h2⟩:=u 1 _ y;exact⟨o,A,fun B e=>by simp only[h2 B e]⟩
  ·cases j
 ·cases j
theorem Bm6{a:Operand}(B:Cj tm a=some (.ptr q off))(j:D3 T tm (.store t a x) h=some (v,h')):
 ∃o o',h.get q=some o/\h'=h.put q o'/\∀h2:Ab,h2.get q=some o->D3 T tm (.store t a x) h2=some (v,h2.put q o'):=by
 have hw:∀vs h',My h q off vs=some h'->∃o o',h.get q=some o/\h'=h.put q o'/\∀h2:Ab,h2.get q=some o->My h2 q off vs=some (h2.put q o'):=by
  intro vs h' u;unfold My at u;split at u
  next l C hg=>
   split at u
   next l' hs=>
    cases u;exact⟨_,_,hg,rfl,fun h2 e=>by unfold My;rw[e];simp only[hs]⟩
   ·cases u
  next l C sz hg=>
   split at u
   next l' hs=>
    cases u;exact⟨_,_,hg,rfl,fun h2 e=>by unfold My;rw[e];simp only[hs]⟩
   ·cases u
  ·cases u
 simp only[D3,B]at j⊢;split at j
 next J A L M e1 e2 e3=>
  cases e1;obtain⟨c1,j⟩:=Ap j;obtain⟨c2,j⟩:=Ap j;split at j
  next O y=>
   cases j;obtain⟨o,o',F,G,H⟩:=hw _ _ y;refine⟨o,o',F,G,fun h2 e=>?_⟩;simp only[c1,c2,Al,H h2 e]
  ·cases j
 ·cases j
theorem RN(h:m' op=true):∃b args e,op=.call { callee:=.builtin b,args,argTypes:=e }/\(b=.len\/b=.min\/b=.max):=by
 cases op with
 | call c=>
  obtain⟨callee,args,e⟩:=c;cases callee with
  | builtin b=>cases b<;>first|(cases h;done)|exact⟨_,_,_,rfl,by simp⟩
  | _=>cases h
 | _=>cases h
theorem PR(hp:m' op=true)(e:D3 T tm op h=some (v,h')):h'=h:=by
 obtain⟨b,args,j,rfl,hb⟩:=RN hp;simp only[D3]at e;split at e
 next as has=>
  rcases hb with rfl|rfl|rfl
  ·match as,e with
   | [x],e=>
    simp only[builtin]at e
    repeat' split at e
    all_goals first|(cases e;done)|(cases e;rfl)
   | [],e=>cases e
   | _::_::_,e=>cases e
  ·match as,e with
   | x::l,e=>
    cases x<;>first|(cases e;done)|skip
    simp only[builtin]at e;split at e
    ·cases e;rfl
    ·cases e
   | [],e=>cases e
  ·match as,e with
   | x::l,e=>
    cases x<;>first|(cases e;done)|skip
    simp only[builtin]at e;split at e
    ·cases e;rfl
    ·cases e
   | [],e=>cases e
 ·cases e
theorem yq{call:Ah}(hp:m' op=true):aop T call round tm op h=D3 T tm op h:=by
 obtain⟨b,args,e,rfl,hb⟩:=RN hp;rfl
theorem sS(b c:Bool):Bc b l_.val (Bc c .pur .big)≠.new/\Bc b l_.val (Bc c .pur .big)≠.load/\Bc b l_.val (Bc c .pur .big)≠.sto:=by
 cases b<;>cases c<;>exact⟨fun h=>(by cases h),fun h=>(by cases h),fun h=>(by cases h)⟩
theorem yv(h:cls op=.new):(∃t,op=.alloc t)\/(∃t x,op=.box t x)\/(∃t n ps,op=.buildSlice t n ps)\/(∃t a b,op=.makeSlice t a b)\/(∃t r,op=.makeMap t r)\/(∃t x,op=.makeChan t x):=by
 cases op<;>first
  | (rename_i c;exact absurd (show Bc false l_.val (Bc (m' (.call c)) .pur .big)=.new from h) (sS _ _).1)
  | exact absurd h (sS _ _).1
  | (cases h;done)
  | exact .inl ⟨_,rfl⟩|exact .inr (.inl ⟨_,_,rfl⟩)|exact .inr (.inr (.inl ⟨_,_,_,rfl⟩))|exact .inr (.inr (.inr (.inl ⟨_,_,_,rfl⟩)))
  | exact .inr (.inr (.inr (.inr (.inl ⟨_,_,rfl⟩))))|exact .inr (.inr (.inr (.inr (.inr ⟨_,_,rfl⟩))))
theorem Bse(A:cls op=.new)(j:D3 T tm op h=some (v,h')):
 ∃o,h'=h.new o/\∀h2:Ab,h2.next=h.next->D3 T tm op h2=some (v,h2.new o):=by
 rcases yv A with⟨t,rfl⟩|⟨t,x,rfl⟩|⟨t,n,ps,rfl⟩|⟨t,a,b,rfl⟩|⟨t,r,rfl⟩|⟨t,x,rfl⟩
 ·simp only[D3]at j⊢
  split at j
  ·cases j;exact⟨_,rfl,fun h2 e=>by rw[e]⟩
  ·cases j
 ·simp only[D3]at j⊢
  split at j
  ·obtain⟨y,u⟩:=Ap j
   cases u;exact⟨_,rfl,fun h2 e=>by rw[y,e];rfl⟩
  ·cases j
 ·simp only[D3]at j⊢
  split at j
  ·split at j
   ·obtain⟨y,u⟩:=Ap j
    split at u
    next hf=>
     cases u;exact⟨_,rfl,fun h2 e=>by rw[y,e];rfl⟩
    ·cases u
   ·cases j
  ·cases j
 ·simp only[D3]at j⊢
  split at j
  ·split at j
   ·obtain⟨y,u⟩:=Ap j
    obtain⟨h4,B⟩:=Ap u;cases B;exact⟨_,rfl,fun h2 e=>by rw[y,h4,e];rfl⟩
   ·cases j
  ·cases j
 ·cases r with
  | none=>cases j;exact⟨_,rfl,fun h2 e=>by simp only[D3,e]⟩
  | some r=>cases j
 ·simp only[D3]at j⊢
  split at j
  ·split at j
   ·obtain⟨y,u⟩:=Ap j
    cases u;exact⟨_,rfl,fun h2 e=>by rw[y,e];rfl⟩
   ·cases j
  ·cases j
end
theorem Ia(i j:Nat):(Nat.shiftLeft 1 i).testBit j=decide (i=j):=by
 have:Nat.shiftLeft 1 i=2^i:=by
  have:=Nat.one_shiftLeft i;exact this
 rw[this,Nat.testBit_two_pow]
theorem Nn(a b j:Nat):(Nat.lor a b).testBit j=(a.testBit j||b.testBit j):=Nat.testBit_or a b j
theorem yX(a b j:Nat):(Nat.land a b).testBit j=(a.testBit j&&b.testBit j):=Nat.testBit_and a b j
theorem yY {x b:Nat}(h:within x b=true){j:Nat}(hj:x.testBit j=true):b.testBit j=true:=by
 have e:Nat.land x b=x:=aK h;rw[<-e,yX]at hj;simpa using(Bool.and_eq_true_iff.1 hj).2
theorem A7k {b:Nat}(h:b.testBit i=false):within (Nat.shiftLeft 1 i) b=false:=by
 cases hw:within (Nat.shiftLeft 1 i) b with
 | false=>rfl
 | true=>rw[yY hw (j:=i) (by rw[Ia];simp)]at h;cases h
theorem RO {x y:Nat}(h:Nat.land x y=0){t:Nat}(e:x.testBit t=true):y.testBit t=false:=by
 have:(Nat.land x y).testBit t=false:=by rw[h];exact dZ t
 rw[yX,e]at this;simpa using this
theorem Blp {x y:Nat}(h:Nat.lor x y=0):x=0/\y=0:=by
 have e:∀t,x.testBit t=false/\y.testBit t=false:=by
  intro t;have:(Nat.lor x y).testBit t=false:=by rw[h];exact dZ t
  rw[Nn]at this;simpa using this
 exact⟨Nat.eq_of_testBit_eq fun t=>by rw[(e t).1,dZ],Nat.eq_of_testBit_eq fun t=>by rw[(e t).2,dZ]⟩
theorem RP(bs:Tr Nat):∀(l:List Edge) (x:Nat) (j:Nat),(qM bs l x).testBit j=true ->
 x.testBit j=true\/∃e∈l,oD e=true/\(j=e.on\/∃y,bs.get e.on=some y/\y.testBit j=true)
 | [],x,j,h=>.inl h
 | e::r,x,j,h=>by
  simp only[qM]at h;rcases RP bs r _ j h with h|⟨e',he,u,h2⟩
  ·rw[Br]at h
   split at h
   next hb=>
    rw[Nn,Nn,Ia]at h;simp only[dY,aS]at h;rcases h with h|h|h
    ·exact .inl h
    ·exact .inr ⟨e,aW,hb,.inl h.symm⟩
    ·refine .inr ⟨e,aW,hb,.inr ?_⟩
     split at h
     next y A=>exact⟨y,A,h⟩
     ·rw[dZ]at h;cases h
   ·exact .inl h
  ·exact .inr ⟨e',aT _ he,u,h2⟩
theorem RQ(l:List Oper):∀(i:Nat) (bs:Tr Nat) (j:Nat),j<i->(Oy l i bs).get j=bs.get j:=by
 induction l with
 | nil=>intros;rfl
 | cons o r e=>
  intro i bs j hj;simp only[Oy];rw[e _ _ _ (Nat.lt_succ_of_lt hj),Tr.Af _ _ a_]
theorem yu(l:List Oper):∀(i:Nat) (bs:Tr Nat),(∀j,i<=j->bs.get j=none)->∀(k:Nat) (o:Oper),l[k]? = some o ->
 ∃b,(Oy l i bs).get (i+k)=some b/\∀j,b.testBit j=true->∃e∈o.after.toList,oD e=true/\(j=e.on\/∃y,(Oy l i bs).get e.on=some y/\y.testBit j=true):=by
 induction l with
 | nil=>intro i bs _ k o h;simp at h
 | cons o' r B=>
  intro i bs A k o h;simp only[Oy];cases k with
  | zero=>
   simp only[bL,cQ]at h;subst h;refine⟨qM bs o'.after.toList 0,?_,fun j hj=>?_⟩
   ·rw[dU,RQ _ _ _ _ a_,Tr.Ae]
   ·rcases RP bs _ _ j hj with h|⟨e,he,C,h2⟩
    ·rw[dZ]at h;cases h
    ·refine⟨e,he,C,h2.imp id ?_⟩
     rintro⟨y,u,hj⟩;have:e.on<i:=by
      cases dQ e.on i with
      | inl h=>exact h
      | inr h=>rw[A _ h]at u;cases u
     exact⟨y,by rw[RQ _ _ _ _ a_,Tr.Af _ _ a_];exact u,hj⟩
  | succ k=>
   have:=B (i+1) (bs.put i (some (qM bs o'.after.toList 0))) (fun j hj=>by rw[Tr.Af _ _ a_];exact A j a_) k o (by simpa using h);rw[show i+1+k=i+(k+1) from a_]at this;exact this
theorem Yd:∀(l:List Operand) (x t:Nat),(nj l x).testBit t=true↔x.testBit t=true\/.tmp t∈l
 | [],x,t=>by simp[nj]
 | .tmp u::r,x,t=>by
  simp only[nj];rw[Yd r,Nn,Ia];simp only[dY,aS,bX,Operand.tmp.injEq];constructor
  ·rintro((h|h)|h)
   ·exact .inl h
   ·exact .inr (.inl h.symm)
   ·exact .inr (.inr h)
  ·rintro(h|h|h)
   ·exact .inl (.inl h)
   ·exact .inl (.inr h.symm)
   ·exact .inr h
 | .const v::r,x,t=>by simp only[nj];rw[Yd r];simp
 | .global v::r,x,t=>by simp only[nj];rw[Yd r];simp
 | .func v::r,x,t=>by simp only[nj];rw[Yd r];simp
theorem vE(o:Oper)(t:Nat):(oF o).testBit t=true↔o.dst=some t:=by
 unfold oF;cases o.dst with
 | none=>simp
 | some d=>simp only[Ia,aS,cQ]
def tl(ops:List Oper)(o:Oper)(t:Nat):Prop:=.tmp t∈o.op.operands.toList\/∃j want g,o.guard=some (j,want)/\ops[j]? = some g/\g.dst=some t
theorem RR(ops:List Oper)(o:Oper)(t:Nat):(pH ops o).testBit t=true↔tl ops o t:=by
 unfold pH tl;rw[Nn,dY,Yd,dZ];apply or_congr
 ·simp
 ·cases hg:o.guard with
  | none=>simp
  | some x=>
   obtain⟨j,want⟩:=x;simp only[vo,cQ,Prod.mk.injEq];cases hj:ops[j]? with
   | none=>
    simp only[dZ,aX,false_iff];rintro⟨e,w',g,⟨rfl,_⟩,h2,_⟩;rw[hj]at h2;cases h2
   | some g=>
    simp only[];rw[vE];constructor
    ·intro h;exact⟨j,want,g,⟨rfl,rfl⟩,hj,h⟩
    ·rintro⟨e,w',y,⟨rfl,_⟩,h2,u⟩
     rw[hj]at h2;cases h2;exact u
theorem RS(u l' b:Nat):∀(ms:List (Nat × Nat)) (j k d l:Nat),sU u l' b ms j=true->ms[k]? = some (d,l)->vj (j+k) d l u l' b=true
 | [],_,_,_,_,_,h=>by simp at h
 | (d,l)::r,j,0,d0,l0,h,e=>by
  simp only[bL,cQ,Prod.mk.injEq]at e;simp only[sU]at h;rw[Br]at h;split at h
  next hp=>rw[<-e.1,<-e.2];exact hp
  ·cases h
 | (d,l)::r,j,k+1,d0,l0,h,e=>by
  simp only[sU]at h;rw[Br]at h;split at h
  ·have:=RS u l' b r (j+1) k d0 l0 h (by simpa using e)
   rw[show j+1+k=j+(k+1) from a_]at this;exact this
  ·cases h
theorem RT(ops:List Oper)(bs:Tr Nat):∀(l:List Oper) (i:Nat) (ms:List (Nat × Nat)),mX ops bs l i ms=true->ms.length=i->∀k o,l[k]? = some o ->
 ∃b,bs.get (i+k)=some b/\∀j d l',(ms++l.map fun o=>(oF o,pH ops o))[j]? = some (d,l')->j<i+k->vj j d l' (oF o) (pH ops o) b=true
 | [],_,_,_,_,_,_,h=>by simp at h
 | o'::r,i,ms,h,hm,0,o,e=>by
  simp only[bL,cQ]at e;subst e;simp only[mX]at h;split at h
  next b hb=>
   rw[Br]at h;split at h
   next hp=>
    refine⟨b,hb,fun j d l' hj u=>?_⟩;have:ms[j]? = some (d,l'):=by rw[cb a_]at hj;exact hj
    have:=RS _ _ _ ms 0 j d l' hp this
    rwa [bP]at this
   ·cases h
  ·cases h
 | o'::r,i,ms,h,hm,k+1,o,e=>by
  simp only[mX]at h;split at h
  next b hb=>
   rw[Br]at h;split at h
   ·obtain⟨y,A,h2⟩:=RT ops bs r (i+1) _ h (by simp[hm]) k o (by simpa using e)
    refine⟨y,by rw[<-A];congr 1;omega,fun j d l' hj u=>h2 j d l' ?_ a_⟩;rw[bZ];simpa using hj
   ·cases h
  ·cases h
theorem yZ {ops:List Oper}{bs:Tr Nat}(h:mX ops bs ops 0 []=true){y j:Oper}(C:ops[i]? = some y)(hm:ops[m]? = some j)(F:i<m){b:Nat}(hb:bs.get m=some b)(G:b.testBit i=false):
 (∀t,y.dst=some t->j.dst≠some t/\¬tl ops j t)/\(∀t,tl ops y t->j.dst≠some t):=by
 obtain⟨L,A,h2⟩:=RT ops bs ops 0 [] h rfl m j hm;rw[bP]at A;rw[hb]at A;cases A;have:=h2 i (oF y) (pH ops y) (by simp[C]) a_;unfold vj at this;have H:Nat.beq (Nat.land b (Nat.shiftLeft 1 i)) 0=true:=by
  have:Nat.land b (Nat.shiftLeft 1 i)=0:=Nat.eq_of_testBit_eq fun t=>by
   rw[yX,Ia,dZ];by_cases e:i=t
   ·subst e;simp[G]
   ·simp[e]
  rw[this];rfl
 rw[H,Al]at this;obtain⟨z1,J⟩:=Blp (aK this);refine⟨fun t B=>?_,fun t B hd=>?_⟩
 ·have u:=RO z1 ((vE y t).2 B)
  rw[Nn,Bool.or_eq_false_iff]at u;refine⟨fun e=>?_,fun e=>?_⟩
  ·rw[(vE j t).2 e]at u;exact absurd u.1 (by simp)
  ·rw[(RR ops j t).2 e]at u;exact absurd u.2 (by simp)
 ·have u:=RO J ((RR ops y t).2 B)
  rw[(vE j t).2 hd]at u;cases u
theorem RU(i:Nat):∀(l:List Edge),vk i l=true->∀e∈l,oD e=true->e.on<i
 | [],_,e,he,_=>by simp at he
 | a::r,h,e,he,hb=>by
  simp only[vk]at h;rw[Br]at h;split at h
  next j=>
   rcases bX.1 he with rfl|he
   ·rw[hb,Al]at j;exact bG j
   ·exact RU i r h e he hb
  ·cases h
theorem RW:∀(l:List Oper) (i:Nat),ov l i=true->∀k o,l[k]? = some o->∀e∈o.after.toList,oD e=true->e.on<i+k
 | [],_,_,_,_,h=>by simp at h
 | a::r,i,h,0,o,j=>by
  simp only[bL,cQ]at j;subst j;simp only[ov]at h;rw[Br]at h;split at h
  next hb=>exact RU i _ hb
  ·cases h
 | a::r,i,h,k+1,o,j=>by
  simp only[ov]at h;rw[Br]at h;split at h
  ·intro e he hb
   have:=RW r (i+1) h k o (by simpa using j) e he hb;omega
  ·cases h
section
open Classical
inductive Kd where
 | idle|load (q:Nat)|new|sto (q:Nat)|big (mw:Nat)
def bare(n:Nat):Ab:=⟨.nil,n,n⟩
theorem Bkj(n q:Nat):(bare n).get q=none:=rfl
def Aqn(n q:Nat)(o:D5):Ab:=⟨Tr.nil.put q (some o),n,n⟩
theorem Ot(n q:Nat)(o:D5)(r:Nat):(Aqn n q o).get r=if q=r then some o else none:=by
 show(Tr.nil.put q (some o)).get r=_;rw[Tr.get_put];rfl
structure Sd(T:Ir)(call round:Ah)(n:Nat)(ops:List Oper)(bs:Tr Nat)(base:Nat)(o:Oper)(i:Nat)(s s':jk)(v:EV)(E E':Ab)(kd:Kd):Prop where
 tm:s'.tm=Qm n s.tm o.dst v
 run:(wanted ops s.tm o.guard=false/\v=.tuple []/\E'=E)\/(wanted ops s.tm o.guard=true/\aop T call round s.tm o.op E=some (v,E'))
 Ahj:E.next=s.h.next
 Agm:E'.next=s'.h.next
 sub:∀q x,E.get q=some x->s.h.get q=some x
 Blu:∀q,s'.h.get q=if E'.get q=E.get q then s.h.get q else E'.get q
 w:AWf E E'
 mw:s'.h.mw<=s.h.mw/\∀q,q<s'.h.mw->q<s.h.next->E'.get q=E.get q
 kd:match kd with
  | .idle=>E=bare s.h.next/\E'=E/\s'.bg=s.bg/\s'.nw=s.nw/\s'.Cy=s.Cy/\s'.lou=s.lou/\s'.st=s.st
  | .load q=>(∃x,E=Aqn s.h.next q x)/\E'=E/\s'.bg=s.bg/\s'.nw=s.nw/\s'.Cy=(Nat.shiftLeft 1 i,q)::s.Cy/\s'.lou=s.lou/\s'.st=s.st /\
   ∃b,bs.get i=some b/\Fx b q s.st=true/\((q<base/\Yo b q s.lou=true)\/(base<=q/\within s.bg b=true/\loose b s.nw = []))
  | .new=>E=bare s.h.next/\(∃x,E'=E.new x)/\s'.bg=s.bg/\s'.nw=(Nat.shiftLeft 1 i,s.h.next)::s.nw/\s'.Cy=s.Cy/\s'.lou=s.lou/\s'.st=s.st
  | .sto q=>(∃x y,E=Aqn s.h.next q x/\E'=E.put q y)/\s'.bg=s.bg/\s'.nw=s.nw/\s'.Cy=s.Cy/\s'.lou=s.lou/\s'.st=(Nat.shiftLeft 1 i,q)::s.st /\
   ∃b,bs.get i=some b/\within s.bg b=true/\Fx b q s.st=true/\Fx b q s.Cy=true/\A1c q (loose b s.nw)=true
  | .big mw=>∃b,bs.get i=some b/\within s.bg b=true/\Azc b s.st=true/\(∀q,E.get q=if q∈loose b s.nw then none else s.h.get q)/\s'.bg=Nat.lor s.bg (Nat.shiftLeft 1 i)/\s'.nw=s.nw/\s'.Cy=s.Cy/\s'.st=s.st /\
   (∀q,q<mw->q<s.h.next->E'.get q=E.get q)/\((s.h.next<=mw/\s'.lou=s.lou)\/(Tg b mw s.Cy=true/\s'.lou=(Nat.shiftLeft 1 i,mw)::s.lou))
theorem vF {b:Nat}:∀{l:List (Nat × Nat)} {q:Nat},q∈loose b l↔∃m,(m,q)∈l/\within m b=false
 | [],q=>by simp[loose]
 | (m,r)::l,q=>by
  simp only[loose];rw[Br];split
  next h=>
   rw[vF];constructor
   ·rintro⟨u,j,h2⟩;exact⟨u,aT _ j,h2⟩
   ·rintro⟨u,j,h2⟩
    rcases bX.1 j with e|j
    ·cases e;rw[h]at h2;cases h2
    ·exact⟨u,j,h2⟩
  next h=>
   rw[bX,vF];constructor
   ·rintro(rfl|⟨u,j,h2⟩)
    ·exact⟨m,aW,by simpa using h⟩
    ·exact⟨u,aT _ j,h2⟩
   ·rintro⟨u,j,h2⟩
    rcases bX.1 j with e|j
    ·cases e;exact .inl rfl
    ·exact .inr ⟨u,j,h2⟩
theorem wM(t:Tr D5):∀(l:List Nat) (q:Nat),(kJ t l).get q=if q∈l then none else t.get q
 | [],q=>by simp[kJ]
 | a::r,q=>by
  simp only[kJ,Tr.get_put,wM t r q,bX];by_cases h:a=q
  ·subst h;simp
  ·rw[aG h];simp[cR h]
theorem wN(t e:Tr D5):∀(l:List Nat) (q:Nat),(kA t e l).get q=if q∈l then t.get q else e.get q
 | [],q=>by simp[kA]
 | a::r,q=>by
  simp only[kA,Tr.get_put,wN t e r q,bX];by_cases h:a=q
  ·subst h;simp
  ·rw[aG h];simp[cR h]
theorem Bmq{call:Ah}(j:oC op=true)(e:Fh T tm op=some v):aop T call round tm op h=some (v,h):=by
 unfold aop;rw[j,Al,e]
theorem RX {b c:Bool}(h:Bc b l_.val (Bc c .pur .big)=.val):b=true:=by
 cases b<;>cases c<;>first|rfl|(cases h)
theorem ys(h:cls op=.val):oC op=true:=by
 cases op<;>first|rfl|(rename_i c;exact absurd (RX (show Bc false l_.val (Bc (m' (.call c)) .pur .big)=.val from h)) (by simp))|exact RX h|(cases h)
theorem RY {b c:Bool}(h:Bc b l_.val (Bc c .pur .big)=.pur):c=true:=by
 cases b<;>cases c<;>first|rfl|(cases h)
theorem vd(h:cls op=.pur):m' op=true:=by
 cases op<;>first|(rename_i c;exact RY (show Bc false l_.val (Bc (m' (.call c)) .pur .big)=.pur from h))|exact RY h|(cases h)
theorem vG{call:Ah}(e:oC op=false)(j:∀c,op≠.call c):aop T call round tm op h=D3 T tm op h:=by
 unfold aop;rw[e,Bk];split
 ·exact absurd rfl (j _)
 ·rfl
theorem RZ(h:cls op=.new):oC op=false/\∀c,op≠.call c:=by
 rcases yv h with⟨t,rfl⟩|⟨t,x,rfl⟩|⟨t,n,ps,rfl⟩|⟨t,a,b,rfl⟩|⟨t,r,rfl⟩|⟨t,x,rfl⟩<;>exact⟨rfl,fun _ h=>by cases h⟩
section
variable{call:Ah}(hC:Wu call)(hR:Wu round){ops:List Oper}{bs:Tr Nat}
include hC hR in
theorem y8{s s':jk}(h:Xa T call round n ops bs base o i s=some s')(ag:∀x∈s.nw,x.2<s.h.next):
 ∃v E E' kd,Sd T call round n ops bs base o i s s' v E E' kd:=by
 obtain⟨dst,op,ty,ps,af,g⟩:=o;obtain⟨tm,hp,bg,nw,Cy,lou,st⟩:=s;simp only[Xa]at h;rw[Br]at h;split at h
 next hw=>
  split at h
  ·cases h
  next b hb=>
   split at h
   next G=>
    split at h
    next v hv=>
     cases h;exact⟨v,bare hp.next,bare hp.next,.idle,rfl,.inr ⟨hw,Bmq (ys G) hv⟩,rfl,rfl,fun q x C=>(by cases C),fun q=>(by simp),.refl _,⟨aE _,fun _ _ _=>rfl⟩,rfl,rfl,rfl,rfl,rfl,rfl,rfl⟩
    ·cases h
   next G=>
    split at h
    next t x=>
     split at h
     next q off C=>
      obtain⟨j,h⟩:=Ap h;split at h
      next v h' y=>
       cases h;obtain⟨ob,O,X⟩:=Bpx C y;refine⟨v,Aqn hp.next q ob,Aqn hp.next q ob,.load q,rfl,.inr ⟨hw,?_⟩,rfl,rfl,fun r x Q=>?_,fun q=>(by simp),.refl _,⟨aE _,fun _ _ _=>rfl⟩,⟨_,rfl⟩,rfl,rfl,rfl,rfl,rfl,rfl,b,hb,?_⟩
       ·rw[vG rfl (fun _ e=>by cases e)]
        exact X _ (by rw[Ot,aI rfl])
       ·rw[Ot]at Q
        split at Q
        next e=>subst e;cases Q;exact O
        ·cases Q
       ·rw[Br]at j
        split at j
        case isFalse=>cases j
        rename_i host;refine⟨host,?_⟩;rw[Br]at j;split at j
        next M=>exact .inl ⟨bG M,j⟩
        next M=>
         refine .inr ⟨?_,?_⟩
         ·cases dQ q base with
          | inl h=>exact absurd (oG h) M
          | inr h=>exact h
         ·rw[Br]at j
          split at j
          next H=>
           refine⟨H,?_⟩;simp only[];split at j
           next e=>exact e
           ·cases j
          ·cases j
      ·cases h
     ·cases h
    ·cases h
   next G=>
    split at h
    next v h' y=>
     cases h;obtain⟨x,rfl,ah⟩:=Bse G y;refine⟨v,bare hp.next,(bare hp.next).new x,.new,rfl,.inr ⟨hw,?_⟩,rfl,rfl,fun q x C=>(by cases C),fun q=>?_,.new _ _,⟨aE _,fun q _ h2=>?_⟩,rfl,⟨x,rfl⟩,rfl,rfl,rfl,rfl,rfl⟩
     ·rw[vG (RZ G).1 (RZ G).2]
      exact ah _ rfl
     ·show(hp.new x).get q=_
      rw[Ab.Lx,Ab.Lx,Bkj];show(if hp.next=q then some x else hp.get q)=if(if hp.next=q then some x else none)=none then hp.get q else if hp.next=q then some x else none
      by_cases e:hp.next=q
      ·rw[aI e,aI e,aG (by simp)]
      ·rw[aG e,aG e,aI rfl]
     ·have ao:q<hp.next:=h2
      rw[Ab.Lx,aG];show ¬hp.next=q
      omega
    ·cases h
   ·
    rename_i G;split at h
    next t a x=>
     split at h
     next q off ha=>
      obtain⟨j,h⟩:=Ap h;split at h
      next v h' y=>
       cases h;obtain⟨ob,J,O,rfl,X⟩:=Bm6 ha y;have ai:within bg b=true/\Fx b q st=true/\Fx b q Cy=true/\A1c q (loose b nw)=true:=by
        rw[Br]at j;split at j
        case isFalse=>cases j
        rename_i c1;rw[Br]at j;split at j
        case isFalse=>cases j
        rename_i c2;rw[Br]at j;split at j
        case isFalse=>cases j
        rename_i c3;exact⟨c1,c2,c3,j⟩
       have ab:(Aqn hp.next q ob).get q=some ob:=by rw[Ot,aI rfl]
       refine⟨v,Aqn hp.next q ob,(Aqn hp.next q ob).put q J,.sto q,rfl,.inr ⟨hw,?_⟩,rfl,rfl,fun r x Q=>?_,fun r=>?_,.put ab _,⟨?_,fun r F h2=>?_⟩,⟨_,_,rfl,rfl⟩,rfl,rfl,rfl,rfl,rfl,b,hb,ai⟩
       ·rw[vG rfl (fun _ e=>by cases e)]
        exact X _ ab
       ·rw[Ot]at Q
        split at Q
        next e=>subst e;cases Q;exact O
        ·cases Q
       ·show(hp.put q J).get r=_
        rw[Ab.get_put,Ab.get_put,Ot];by_cases e:q=r
        ·subst e
         rw[aI rfl,aI rfl,aI rfl];by_cases e2:some J=some ob
         ·rw[aI e2,e2];exact O.symm
         ·rw[aG e2]
        ·rw[aG e,aG e,aG e,aI rfl]
       ·show(hp.put q J).mw<=hp.mw
        rw[Ab.nU];exact Nat.min_le_right _ _
       ·have Y:r<(hp.put q J).mw:=F
        rw[Ab.nU]at Y;rw[Ab.get_put,aG a_]
      ·cases h
     ·cases h
    ·cases h
   ·
    rename_i G;split at h
    next v h' y=>
     cases h;have:=PR (vd G) y;subst this;exact⟨v,bare hp.next,bare hp.next,.idle,rfl,.inr ⟨hw,(yq (vd G)).trans y⟩,rfl,rfl,fun q x C=>(by cases C),fun q=>(by simp),.refl _,⟨aE _,fun _ _ _=>rfl⟩,rfl,rfl,rfl,rfl,rfl,rfl,rfl⟩
    ·cases h
   next G=>
    obtain⟨A,h⟩:=Ap h;have H:within bg b=true:=by
     rw[Br]at A;split at A
     next c1=>exact c1
     ·cases A
    have ad:Azc b st=true:=by rw[H,Al]at A;exact A
    obtain⟨t,nx,mw⟩:=hp;simp only[]at h;split at h
    next v L B u y=>
     have hwf:=RM hC hR y;have hE:∀q,(⟨kJ t (loose b nw),nx,nx⟩:Ab).get q=if q∈loose b nw then none else(⟨t,nx,mw⟩:Ab).get q:=fun q=>wM t _ q
     have U:∀q x,(⟨kJ t (loose b nw),nx,nx⟩:Ab).get q=some x->(⟨t,nx,mw⟩:Ab).get q=some x:=by
      intro q x C;rw[hE]at C;split at C
      ·cases C
      ·exact C
     have ae:∀Z q,(⟨kA t L (loose b nw),B,Z⟩:Ab).get q=if(⟨L,B,u⟩:Ab).get q=(⟨kJ t (loose b nw),nx,nx⟩:Ab).get q then(⟨t,nx,mw⟩:Ab).get q else(⟨L,B,u⟩:Ab).get q:=by
      intro Z q;have e1:(⟨kA t L (loose b nw),B,Z⟩:Ab).get q=if q∈loose b nw then t.get q else L.get q:=wN t L _ q
      rw[e1];by_cases M:q∈loose b nw
      ·rw[aI M]
       by_cases he:(⟨L,B,u⟩:Ab).get q=(⟨kJ t (loose b nw),nx,nx⟩:Ab).get q
       ·rw[aI he];rfl
       ·exfalso
        apply he;rw[hE,aI M];cases C:(⟨L,B,u⟩:Ab).get q with
        | none=>rfl
        | some o=>
         rcases hwf.live q o C with⟨o',F⟩|F
         ·rw[hE,aI M]at F;cases F
         ·obtain⟨m,hm,_⟩:=vF.1 M
          have h2:q<nx:=ag _ hm;have h3:nx<=q:=F;omega
      ·rw[aG M]
       by_cases he:(⟨L,B,u⟩:Ab).get q=(⟨kJ t (loose b nw),nx,nx⟩:Ab).get q
       ·rw[aI he]
        have:L.get q=(⟨L,B,u⟩:Ab).get q:=rfl;rw[this,he,hE,aG M]
       ·rw[aG he];rfl
     rw[Br]at h;split at h
     next hm=>
      cases h;exact⟨v,_,_,.big u,rfl,.inr ⟨hw,y⟩,rfl,rfl,U,ae _,hwf,⟨aE _,fun q F h2=>hwf.same q (aM h2 (bG hm)) h2⟩,b,hb,H,ad,hE,rfl,rfl,rfl,rfl,fun q F h2=>hwf.same q F h2,.inl ⟨bG hm,rfl⟩⟩
     ·obtain⟨aj,h⟩:=Ap h
      cases h;have W:Bc (Nat.ble mw u) mw u=min mw u:=by
       rw[Br];by_cases e:mw<=u
       ·rw[oG e,aI rfl,eU e]
       ·rw[qN e,aG (by simp),Nat.min_eq_right a_]
      refine⟨v,_,_,.big u,rfl,.inr ⟨hw,y⟩,rfl,rfl,U,ae _,hwf,⟨?_,fun q F h2=>hwf.same q ?_ h2⟩,b,hb,H,ad,hE,rfl,rfl,rfl,rfl,fun q F h2=>hwf.same q F h2,.inr ⟨aj,rfl⟩⟩
      ·show Bc (Nat.ble mw u) mw u<=mw
       rw[W];exact Nat.min_le_left _ _
      ·have Y:q<Bc (Nat.ble mw u) mw u:=F
       rw[W]at Y;show q<u;omega
    ·cases h
 next hw=>
  cases h;exact⟨.tuple [],bare hp.next,bare hp.next,.idle,rfl,.inl ⟨by simpa using hw,rfl,rfl⟩,rfl,rfl,fun q x C=>(by cases C),fun q=>(by simp),.refl _,⟨aE _,fun _ _ _=>rfl⟩,rfl,rfl,rfl,rfl,rfl,rfl,rfl⟩
end
end
variable {kd:Kd}{K:Nat->Kd}
section
open Classical
theorem R' {b:Nat}:∀{l:List (Nat × Nat)},Yo b q l=true->∀{m w:Nat},(m,w)∈l->within m b=true\/q<w
 | [],_,m,w,h=>by simp at h
 | (u,w')::r,h,m,w,hm=>by
  simp only[Yo]at h;rw[Br]at h;split at h
  next j=>
   rcases bX.1 hm with e|hm
   ·cases e
    rw[Br]at j;split at j
    next hw=>exact .inl hw
    ·exact .inr (bG j)
   ·exact R' h hm
  ·cases h
theorem R_ {b w:Nat}:∀{l:List (Nat × Nat)},Tg b w l=true->∀{m q:Nat},(m,q)∈l->within m b=true\/q<w
 | [],_,m,q,h=>by simp at h
 | (u,q')::r,h,m,q,hm=>by
  simp only[Tg]at h;rw[Br]at h;split at h
  next j=>
   rcases bX.1 hm with e|hm
   ·cases e
    rw[Br]at j;split at j
    next hw=>exact .inl hw
    ·exact .inr (bG j)
   ·exact R_ h hm
  ·cases h
theorem Yv {b:Nat}:∀{l:List (Nat × Nat)},Fx b q l=true->∀{m r:Nat},(m,r)∈l->within m b=true\/q≠r
 | [],_,m,r,h=>by simp at h
 | (u,y)::l,h,m,r,hm=>by
  simp only[Fx]at h;rw[Br]at h;split at h
  next j=>
   rcases bX.1 hm with e|hm
   ·cases e
    rw[Br]at j;split at j
    next hw=>exact .inl hw
    ·refine .inr fun e=>?_
     subst e;rw[show Nat.beq q q=true from cL q]at j;cases j
   ·exact Yv h hm
  ·cases h
theorem SA {b:Nat}:∀{l:List (Nat × Nat)},Azc b l=true->∀{m r:Nat},(m,r)∈l->within m b=true
 | [],_,m,r,h=>by simp at h
 | (u,y)::l,h,m,r,hm=>by
  simp only[Azc]at h;rw[Br]at h;split at h
  next j=>
   rcases bX.1 hm with e|hm
   ·cases e;exact j
   ·exact SA h hm
  ·cases h
theorem SB:∀{l:List Nat},A1c q l=true->q ∉ l
 | [],_=>by simp
 | r::l,h=>by
  simp only[A1c]at h;rw[Br]at h;split at h
  ·cases h
  next j=>
   intro hm;rcases bX.1 hm with e|hm
   ·subst e;exact j (cL q)
   ·exact SB h hm
section
variable{call:Ah}(hC:Wu call)(hR:Wu round){ops:List Oper}{bs:Tr Nat}
theorem SC:∀{l:List Oper} {i:Nat} {s r:jk},Tj T call round n ops bs base l i s=some r ->
 ∃σ:Nat->jk,σ i=s/\σ (i+l.length)=r/\∀k o,l[k]? = some o->Xa T call round n ops bs base o (i+k) (σ (i+k))=some (σ (i+k+1))
 | [],i,s,r,h=>by cases h;exact⟨fun _=>s,rfl,rfl,fun k o h=>by simp at h⟩
 | o::l,i,s,r,h=>by
  simp only[Tj]at h;split at h
  next s' hs=>
   obtain⟨σ,u,h2,y⟩:=SC h;have e:σ (i+1)=s':=u;refine⟨fun m=>if m=i then s else σ m,aI rfl,?_,fun k o' j=>?_⟩
   ·show(if i+(l.length+1)=i then s else σ (i+(l.length+1)))=r
    rw[aG a_,<-h2];congr 1;show i+(l.length+1)=i+1+l.length;omega
   ·cases k with
    | zero=>
     simp only[bL,cQ]at j;subst j;show Xa T call round n ops bs base o i (if i=i then s else σ i)=some (if i+1=i then s else σ (i+1));rw[aI rfl,aG a_,e];exact hs
    | succ k=>
     have:=y k o' (by simpa using j);have e1:i+(k+1)=i+1+k:=a_
     show Xa T call round n ops bs base o' (i+(k+1)) (if i+(k+1)=i then s else σ (i+(k+1)))=some (if i+(k+1)+1=i then s else σ (i+(k+1)+1));rw[aG a_,aG a_,e1];exact this
  ·cases h
structure ko(T:Ir)(call round:Ah)(n:Nat)(ops:List Oper)(bs:Tr Nat)(base:Nat)(σ:Nat->jk)(V:Nat->EV)(E E':Nat->Ab)(K:Nat->Kd):Prop where
 sd:∀i o,ops[i]? = some o->Sd T call round n ops bs base o i (σ i) (σ (i+1)) (V i) (E i) (E' i) (K i)
 lt:∀i,i<=ops.length->∀q x,(σ i).h.get q=some x->q<(σ i).h.next
 base:base=(σ 0).h.next
include hC hR in
theorem Bsy {s r:jk}(h:Tj T call round n ops bs s.h.next ops 0 s=some r)(A:∀q x,s.h.get q=some x->q<s.h.next)(B:s.nw = []):
 ∃σ V E E' K,σ 0=s/\σ ops.length=r/\ko T call round n ops bs s.h.next σ V E E' K:=by
 obtain⟨σ,C,h2,F⟩:=SC h;simp only[bP]at h2 F;have key:∀i,i<=ops.length->(∀x∈(σ i).nw,x.2<(σ i).h.next)/\∀q x,(σ i).h.get q=some x->q<(σ i).h.next:=by
  intro i;induction i with
  | zero=>intro _;rw[C,B];exact⟨fun x j=>by simp at j,A⟩
  | succ i H=>
   intro G;obtain⟨i1,i2⟩:=H a_;have u:ops[i]? = some ops[i]:=aD a_;obtain⟨v,E,E',kd,sd⟩:=y8 hC hR (F i _ u) i1;have e:(σ i).h.next<=(σ (i+1)).h.next:=by rw[<-sd.Ahj,<-sd.Agm];exact sd.w.next
   constructor
   ·intro x j
    have:=sd.kd;cases kd with
    | idle=>rw[this.2.2.2.1]at j;exact aM (i1 x j) e
    | load q=>rw[this.2.2.2.1]at j;exact aM (i1 x j) e
    | new=>
     obtain⟨a,⟨y,b⟩,c,d,_⟩:=this;rw[d]at j;rcases bX.1 j with rfl|j
     ·show(σ i).h.next<_
      rw[<-sd.Agm,b,Ab.D4,sd.Ahj];omega
     ·exact aM (i1 x j) e
    | sto q=>
     obtain⟨_,_,d,_⟩:=this;rw[d]at j;exact aM (i1 x j) e
    | big mw=>
     obtain⟨b,_,_,_,_,_,d,_⟩:=this;rw[d]at j;exact aM (i1 x j) e
   ·intro q x j
    rw[sd.Blu]at j;split at j
    ·exact aM (i2 q x j) e
    ·rw[<-sd.Agm]
     refine sd.w.lt (fun q x j=>?_) q x j;rw[sd.Ahj];exact i2 q x (sd.sub q x j)
 have ex:∀i,∃v E E' kd,∀o,ops[i]? = some o->Sd T call round n ops bs s.h.next o i (σ i) (σ (i+1)) v E E' kd:=by
  intro i;cases u:ops[i]? with
  | none=>exact⟨.tuple [],bare 0,bare 0,.idle,fun o h=>by cases h⟩
  | some o=>
   have G:i<ops.length:=(aY.1 u).1;obtain⟨v,E,E',kd,sd⟩:=y8 hC hR (F i _ u) (key i a_).1;exact⟨v,E,E',kd,fun o' h=>by cases h;exact sd⟩
 exact⟨σ,fun i=>(ex i).choose,fun i=>(ex i).choose_spec.choose,fun i=>(ex i).choose_spec.choose_spec.choose,fun i=>(ex i).choose_spec.choose_spec.choose_spec.choose,C,h2,
  fun i=>(ex i).choose_spec.choose_spec.choose_spec.choose_spec,fun i G=>(key i G).2,by rw[C]⟩
variable(tr:ko T call round n ops bs base σ V E E' K)
include tr
theorem ko.next(e:i<ops.length):(σ i).h.next<=(σ (i+1)).h.next:=by
 have sd:=tr.sd i _ (aD e);rw[<-sd.Ahj,<-sd.Agm];exact sd.w.next
theorem ko.y9(j:i<=m)(hm:m<=ops.length):(σ i).h.next<=(σ m).h.next:=by
 induction m with
 | zero=>
  have:i=0:=a_
  subst this;exact aE _
 | succ m u=>
  by_cases e:i=m+1
  ·subst e;exact aE _
  ·exact bQ (u a_ a_) (tr.next a_)
theorem ko.notes(C:i<=m)(hm:m<=ops.length):
 (∀x∈(σ i).nw,x∈(σ m).nw)/\(∀x∈(σ i).Cy,x∈(σ m).Cy)/\(∀x∈(σ i).lou,x∈(σ m).lou)/\(∀j,(σ i).bg.testBit j=true->(σ m).bg.testBit j=true)/\(∀x∈(σ i).st,x∈(σ m).st):=by
 induction m with
 | zero=>
  have:i=0:=a_
  subst this;exact⟨fun _ h=>h,fun _ h=>h,fun _ h=>h,fun _ h=>h,fun _ h=>h⟩
 | succ m F=>
  by_cases e:i=m+1
  ·subst e;exact⟨fun _ h=>h,fun _ h=>h,fun _ h=>h,fun _ h=>h,fun _ h=>h⟩
  ·obtain⟨a,b,c,d,f⟩:=F a_ a_
   have sd:=(tr.sd m _ (aD a_)).kd;cases B:K m with
   | idle=>
    rw[B]at sd;obtain⟨_,_,s1,s2,y,u,A⟩:=sd;rw[s1,s2,y,u,A];exact⟨a,b,c,d,f⟩
   | load q=>
    rw[B]at sd;obtain⟨_,_,s1,s2,y,u,A,_⟩:=sd;rw[s1,s2,y,u,A];exact⟨a,fun x h=>aT _ (b x h),c,d,f⟩
   | new=>
    rw[B]at sd;obtain⟨_,_,s1,s2,y,u,A⟩:=sd;rw[s1,s2,y,u,A];exact⟨fun x h=>aT _ (a x h),b,c,d,f⟩
   | sto q=>
    rw[B]at sd;obtain⟨_,s1,s2,y,u,A,_⟩:=sd;rw[s1,s2,y,u,A];exact⟨a,b,c,d,fun x h=>aT _ (f x h)⟩
   | big mw=>
    rw[B]at sd;obtain⟨_,_,_,_,_,s1,s2,y,A,_,u⟩:=sd;rw[s1,s2,y,A];refine⟨a,b,?_,fun j h=>by rw[Nn,d j h];rfl,f⟩;rcases u with⟨_,u⟩|⟨_,u⟩<;>rw[u]
    ·exact c
    ·exact fun x h=>aT _ (c x h)
theorem ko.vH(e:i<ops.length){x:D5}(h:(E i).get q=some x):q<(σ i).h.next:=
 tr.lt i a_ q x ((tr.sd i _ (aD e)).sub q x h)
theorem ko.Btc(e:i<ops.length){x:D5}(h:(E' i).get q=some x):q<(σ (i+1)).h.next:=by
 have sd:=tr.sd i _ (aD e);rw[<-sd.Agm];refine sd.w.lt (fun q x j=>?_) q x h;rw[sd.Ahj];exact tr.vH e j
theorem ko.Bi8(j:i<ops.length)(h:(E i).get q=none)(y:q<(σ i).h.next):(E' i).get q=(E i).get q:=by
 have sd:=tr.sd i _ (aD j);cases u:(E' i).get q with
 | none=>exact h.symm
 | some o=>
  rcases sd.w.live q o u with⟨o',e⟩|e
  ·rw[h]at e;cases e
  ·rw[sd.Ahj]at e;omega
theorem ko.pair(bb:i<m)(hm:m<ops.length){b:Nat}(hb:bs.get m=some b)(hn:b.testBit i=false):
 (∀q,(E' i).get q=(E i).get q\/(E' m).get q=(E m).get q)/\(∀q x,(E i).get q=some x->(E' m).get q=(E m).get q)/\(∀q x,(E m).get q=some x->(E' i).get q=(E i).get q):=by
 have hi:i<ops.length:=a_
 have au:=tr.sd i _ (aD hi);have a1:=tr.sd m _ (aD hm);obtain⟨n1,n2,n3,n4,n5⟩:=tr.notes (i:=i+1) (m:=m) a_ a_;have a5:=tr.y9 (i:=i+1) (m:=m) a_ a_;have a2:=tr.next hi
 have a6:base<=(σ i).h.next:=by rw[tr.base];exact tr.y9 a_ a_
 have Q:=A7k hn;have Z:=au.kd;have Y:=a1.kd;have H:K i=.new->(Nat.shiftLeft 1 i,(σ i).h.next)∈(σ m).nw/\(∀q,q≠(σ i).h.next->(E' i).get q=(E i).get q)/\(∀q,(E i).get q=none)/\(σ i).h.next<(σ (i+1)).h.next:=by
  intro hk;rw[hk]at Z;obtain⟨k1,⟨x,k2⟩,_,k4,_⟩:=Z;refine⟨n1 _ (by rw[k4];exact aW),fun q hq=>?_,fun q=>by rw[k1];rfl,?_⟩
  ·rw[k2,Ab.Lx,aG];rw[au.Ahj];exact fun e=>hq e.symm
  ·rw[<-au.Agm,k2,Ab.D4,au.Ahj];omega
 have J:K m=.new->(∀q,q≠(σ m).h.next->(E' m).get q=(E m).get q)/\(∀q,(E m).get q=none):=by
  intro hk;rw[hk]at Y;obtain⟨k1,⟨x,k2⟩,_⟩:=Y;refine⟨fun q hq=>?_,fun q=>by rw[k1];rfl⟩;rw[k2,Ab.Lx,aG];rw[a1.Ahj];exact fun e=>hq e.symm
 have L:∀r,K i=.sto r->(Nat.shiftLeft 1 i,r)∈(σ m).st/\(∀q,q≠r->(E' i).get q=(E i).get q)/\(∀q x,(E i).get q=some x->q=r)/\r<(σ i).h.next:=by
  intro r hk;rw[hk]at Z;obtain⟨⟨x,y,k1,k2⟩,_,_,_,_,k4,_⟩:=Z;have hr:(E i).get r=some x:=by rw[k1,Ot,aI rfl]
  refine⟨n5 _ (by rw[k4];exact aW),fun q hq=>?_,fun q z hz=>?_,tr.vH hi hr⟩
  ·rw[k2,Ab.get_put,aG];exact fun e=>hq e.symm
  ·rw[k1,Ot]at hz
   split at hz
   next e=>exact e.symm
   ·cases hz
 have A:∀r,K m=.sto r->within (σ m).bg b=true/\Fx b r (σ m).st=true/\Fx b r (σ m).Cy=true/\r ∉ loose b (σ m).nw/\(∀q,q≠r->(E' m).get q=(E m).get q)/\(∀q x,(E m).get q=some x->q=r):=by
  intro r hk;rw[hk]at Y;obtain⟨⟨x,y,k1,k2⟩,_,_,_,_,k4,b',M,c1,c2,c3,c4⟩:=Y;rw[hb]at M;cases M;refine⟨c1,c2,c3,SB c4,fun q hq=>?_,fun q z hz=>?_⟩
  ·rw[k2,Ab.get_put,aG];exact fun e=>hq e.symm
  ·rw[k1,Ot]at hz
   split at hz
   next e=>exact e.symm
   ·cases hz
 have O:∀r,K i=.load r->(Nat.shiftLeft 1 i,r)∈(σ m).Cy/\(∀q x,(E i).get q=some x->q=r):=by
  intro r hk;rw[hk]at Z;obtain⟨⟨y,k1⟩,_,_,_,k5,_⟩:=Z;refine⟨n2 _ (by rw[k5];exact aW),fun q z hz=>?_⟩;rw[k1,Ot]at hz;split at hz
  next e=>exact e.symm
  ·cases hz
 have F:∀r,K m=.load r->Fx b r (σ m).st=true/\((r<base/\Yo b r (σ m).lou=true)\/(base<=r/\within (σ m).bg b=true/\loose b (σ m).nw = []))/\(∀q x,(E m).get q=some x->q=r):=by
  intro r hk;rw[hk]at Y;obtain⟨⟨y,k1⟩,_,_,_,_,_,_,b',M,k7,k8⟩:=Y;rw[hb]at M;cases M;refine⟨k7,k8,fun q z hz=>?_⟩;rw[k1,Ot]at hz;split at hz
  next e=>exact e.symm
  ·cases hz
 have ay:∀mw,K i=.big mw->(σ m).bg.testBit i=true:=by
  intro mw h1;rw[h1]at Z;obtain⟨_,_,_,_,_,k5,_⟩:=Z;exact n4 i (by rw[k5,Nn,Ia];simp)
 have W:∀mw,K m=.big mw->within (σ m).bg b=true/\Azc b (σ m).st=true:=by
  intro mw h2;rw[h2]at Y;obtain⟨b',M,hw,a8,_⟩:=Y;rw[hb]at M;cases M;exact⟨hw,a8⟩
 have aj:∀{mw},K i=.big mw->within (σ m).bg b=true->False:=by
  intro mw h1 hw;rw[yY hw (ay mw h1)]at hn;cases hn
 have ae:∀{r mw},K i=.sto r->K m=.big mw->False:=by
  intro r mw h1 h2;have:=SA (W mw h2).2 (L r h1).1;rw[Q]at this;cases this
 have X:(K i=.idle\/∃q,K i=.load q)->∀q,(E' i).get q=(E i).get q:=by
  rintro(h|⟨r,h⟩) q<;>rw[h]at Z
  ·rw[Z.2.1]
  ·rw[Z.2.1]
 have B:(K m=.idle\/∃q,K m=.load q)->∀q,(E' m).get q=(E m).get q:=by
  rintro(h|⟨r,h⟩) q<;>rw[h]at Y
  ·rw[Y.2.1]
  ·rw[Y.2.1]
 have ah:K i=.idle->∀q,(E i).get q=none:=fun h q=>by rw[h]at Z;rw[Z.1];rfl
 have U:K m=.idle->∀q,(E m).get q=none:=fun h q=>by rw[h]at Y;rw[Y.1];rfl
 have C:K i=.new->(σ i).h.next∈loose b (σ m).nw:=fun h1=>vF.2 ⟨_,(H h1).1,Q⟩
 have ai:∀mw,K i=.new->K m=.big mw->(E m).get (σ i).h.next=none:=by
  intro mw h1 h2;rw[h2]at Y;obtain⟨b',M,_,_,he,_⟩:=Y;rw[hb]at M;cases M;rw[he,aI (C h1)]
 have af:∀{r r'},K i=.sto r->K m=.sto r'->r'≠r:=by
  intro r r' h1 h2;rcases Yv (A r' h2).2.1 (L r h1).1 with h|h
  ·rw[Q]at h;cases h
  ·exact h
 refine⟨fun q=>?_,fun q x G=>?_,fun q x G=>?_⟩
 ·cases u:K i with
  | idle=>exact .inl (X (.inl u) q)
  | load r=>exact .inl (X (.inr ⟨r,u⟩) q)
  | new=>
   by_cases hq:q=(σ i).h.next
   ·subst hq
    right;cases j:K m with
    | idle=>exact B (.inl j) _
    | load r=>exact B (.inr ⟨r,j⟩) _
    | new=>exact(J j).1 _ (by have:=(H u).2.2.2;omega)
    | sto r=>exact(A r j).2.2.2.2.1 _ (fun e=>(A r j).2.2.2.1 (e▸C u))
    | big mw=>exact tr.Bi8 hm (ai mw u j) (by have:=(H u).2.2.2;omega)
   ·exact .inl ((H u).2.1 q hq)
  | sto r=>
   by_cases hq:q=r
   ·subst hq
    right;cases j:K m with
    | idle=>exact B (.inl j) _
    | load r=>exact B (.inr ⟨r,j⟩) _
    | new=>exact(J j).1 _ (by have:=(L _ u).2.2.2;omega)
    | sto r'=>exact(A r' j).2.2.2.2.1 _ (fun e=>af u j e.symm)
    | big mw=>exact(ae u j).elim
   ·exact .inl ((L r u).2.1 q hq)
  | big mw=>
   cases j:K m with
   | idle=>exact .inr (B (.inl j) _)
   | load r=>exact .inr (B (.inr ⟨r,j⟩) _)
   | new=>
    by_cases hq:q=(σ m).h.next
    ·left
     have h1:(E' i).get q=none:=by
      cases h:(E' i).get q with
      | none=>rfl
      | some o=>have:=tr.Btc hi h;omega
     have h2:(E i).get q=none:=by
      cases h:(E i).get q with
      | none=>rfl
      | some o=>have:=tr.vH hi h;omega
     rw[h1,h2]
    ·exact .inr ((J j).1 q hq)
   | sto r=>exact(aj u (A r j).1).elim
   | big aq=>exact(aj u (W aq j).1).elim
 ·have bu:=tr.vH hi G
  cases j:K m with
  | idle=>exact B (.inl j) _
  | load r=>exact B (.inr ⟨r,j⟩) _
  | new=>exact(J j).1 q a_
  | sto r'=>
   cases u:K i with
   | idle=>rw[ah u]at G;cases G
   | new=>rw[(H u).2.2.1]at G;cases G
   | big aq=>exact(aj u (A r' j).1).elim
   | load r=>
    have:=(O r u).2 q x G;subst this;refine(A r' j).2.2.2.2.1 _ fun e=>?_
    rcases Yv (A r' j).2.2.1 (O _ u).1 with h|h
    ·rw[Q]at h;cases h
    ·exact h e.symm
   | sto r=>
    have:=(L r u).2.2.1 q x G;subst this;exact(A r' j).2.2.2.2.1 _ (fun e=>af u j e.symm)
  | big mw=>
   cases u:K i with
   | idle=>rw[ah u]at G;cases G
   | new=>rw[(H u).2.2.1]at G;cases G
   | big aq=>exact(aj u (W mw j).1).elim
   | sto r=>exact(ae u j).elim
   | load r=>
    have:=(O r u).2 q x G;subst this;rw[j]at Y;obtain⟨b',M,_,_,_,_,_,_,_,h8,h9⟩:=Y;rw[hb]at M;cases M;refine h8 _ ?_ a_;rcases h9 with⟨h9,_⟩|⟨h9,_⟩
    ·omega
    ·rcases R_ h9 (O _ u).1 with h|h
     ·rw[Q]at h;cases h
     ·exact h
 ·cases u:K i with
  | idle=>exact X (.inl u) q
  | load r=>exact X (.inr ⟨r,u⟩) q
  | new=>
   refine(H u).2.1 q fun e=>?_
   subst e;cases j:K m with
   | idle=>rw[U j]at G;cases G
   | new=>rw[(J j).2]at G;cases G
   | big mw=>rw[ai mw u j]at G;cases G
   | sto r=>exact(A r j).2.2.2.1 ((A r j).2.2.2.2.2 _ x G▸C u)
   | load r=>
    have e:=(F r j).2.2 _ x G;rcases(F r j).2.1 with⟨h1,_⟩|⟨_,_,h3⟩
    ·omega
    ·have:=C u
     rw[h3]at this;cases this
  | sto r=>
   refine(L r u).2.1 q fun e=>?_
   subst e;cases j:K m with
   | idle=>rw[U j]at G;cases G
   | new=>rw[(J j).2]at G;cases G
   | big mw=>exact(ae u j).elim
   | sto r'=>exact af u j ((A r' j).2.2.2.2.2 _ x G).symm
   | load r'=>
    have e:=(F r' j).2.2 _ x G;subst e;rcases Yv (F _ j).1 (L _ u).1 with h|h
    ·rw[Q]at h;cases h
    ·exact h rfl
  | big mw=>
   cases j:K m with
   | idle=>rw[U j]at G;cases G
   | new=>rw[(J j).2]at G;cases G
   | sto r=>exact(aj u (A r j).1).elim
   | big aq=>exact(aj u (W aq j).1).elim
   | load r=>
    have e:=(F r j).2.2 _ x G;subst e;rw[u]at Z;obtain⟨bi,_,_,_,_,kb,_,_,_,h8,h9⟩:=Z;rcases(F _ j).2.1 with⟨h1,h2⟩|⟨_,h2,_⟩
    ·refine h8 _ ?_ a_
     rcases h9 with⟨h9,_⟩|⟨_,h9⟩
     ·omega
     ·rcases R' h2 (n3 _ (by rw[h9];exact aW))with h|h
      ·rw[Q]at h;cases h
      ·exact h
    ·have:(σ m).bg.testBit i=true:=n4 i (by rw[kb,Nn,Ia];simp)
     rw[yY h2 this]at hn;cases hn
end
end
section
open Classical
structure Ajd(p:Nat->Prop)(f0:Loc)(h0:Ab)(w0:World)(f:Loc)(g:Nat->Option D5)(w:World):Prop where
 F0:Loc.F0 p f0 f
 obj:∀i o,g i=some o->∃r,w.heap[f.b i]? = some r/\Vw f i o r
 inj:∀i j o o',g i=some o->g j=some o'->f.b i=f.b j->i=j
 kept:∀b,b<w0.heap.size->(∀i o,h0.get i=some o->f0.b i≠b)->w.heap[b]? = w0.heap[b]?
 size:w0.heap.size<=w.heap.size
 tape:w.tape=w0.tape
 os:w.os=w0.os
 output:w.output=w0.output
 own:∀i o,g i=some o->w0.heap.size<=f.b i\/∃j o',h0.get j=some o'/\f.b i=f0.b j
theorem Ajd.start{w:World}(e:Uc f h w):Ajd p f h w f h.get w where
 F0:=Loc.vl _ _
 obj:=e.obj
 inj:=e.inj
 kept _ _ _:=rfl
 size:=aE _
 tape:=rfl
 os:=rfl
 output:=rfl
 own i o j:=.inr ⟨i,o,j,rfl⟩
theorem Ajd.drew{w0 w:World}(m:Ajd p f0 h0 w0 f g w)(k:Nat):Ajd p f0 h0 w0 f g { w with drawn:=k }:=
 ⟨m.F0,m.obj,m.inj,m.kept,m.size,m.tape,m.os,m.output,m.own⟩
theorem Ajd.move{w0 w:World}(m:Ajd p f0 h0 w0 f g w)(e:∀q,h.get q=g q):Move p f0 h0 w0 f h w where
 F0:=m.F0
 rep:=⟨fun i o u=>m.obj i o (by rw[<-e];exact u),fun i j o o' u y=>m.inj i j o o' (by rw[<-e];exact u) (by rw[<-e];exact y)⟩
 kept:=m.kept
 size:=m.size
 tape:=m.tape
 os:=m.os
 output:=m.output
 own i o u:=m.own i o (by rw[<-e];exact u)
def patch(n:Nat)(f1 f:Loc):Loc:=⟨fun q=>if q<n then f1.b q else f.b q,fun q=>if q<n then f1.sp q else f.sp q⟩
theorem SD(h:q<n):(patch n f1 f).b q=f1.b q/\(patch n f1 f).sp q=f1.sp q:=⟨aI h,aI h⟩
theorem Bmj(h:n<=q):(patch n f1 f).b q=f.b q/\(patch n f1 f).sp q=f.sp q:=⟨aG a_,aG a_⟩
def j6(D D':Ab)(g:Nat->Option D5)(q:Nat):Option D5:=if D'.get q=D.get q then g q else D'.get q
section
variable{w0:World}{w:World}{pq:Nat->Prop}{D D':Ab}{w1:World}
theorem SE(hm:Move (fun q=>pq q/\q<D.next) f D w f1 D' w1)(hw:Wf (fun q=>pq q/\q<D.next) D D')(e:∀q,pq q->q<D.next\/D'.next<=q):
 Loc.F0 pq f (patch D'.next f1 f):=by
 intro q j;rcases e q j with h|h
 ·obtain⟨e1,e2⟩:=SD (f1:=f1) (f:=f) (aM h hw.next)
  rw[e1,e2];exact hm.F0 q ⟨j,h⟩
 ·obtain⟨e1,e2⟩:=Bmj (f1:=f1) (f:=f) h
  rw[e1,e2];exact⟨rfl,rfl⟩
theorem SF(hw:Wf (fun q=>pq q/\q<D.next) D D'):Loc.F0 (grow (fun q=>pq q/\q<D.next) D D') f1 (patch D'.next f1 f):=by
 intro q e;have:q<D'.next:=by
  rcases e with h|h
  ·exact aM h.2 hw.next
  ·exact h.2
 obtain⟨e1,e2⟩:=SD (f1:=f1) (f:=f) this;rw[e1,e2];exact⟨rfl,rfl⟩
theorem Ajd.step(m:Ajd p0 f0 h0 w0 f g w)(F:∀q x,D.get q=some x->g q=some x)(hg:∀q x,g q=some x->pq q/\x.ok pq)
 (ab:∀q,p0 q->pq q) (hm:Move (fun q=>pq q/\q<D.next) f D w f1 D' w1) (hw:Wf (fun q=>pq q/\q<D.next) D D') (Z:∀q,pq q->q<D.next\/D'.next<=q) :
 Ajd p0 f0 h0 w0 (patch D'.next f1 f) (j6 D D' g) w1:=by
 have Y:=SE hm hw Z;have U:=SF (f1:=f1) (f:=f) hw;have ad:∀q x,D'.get q=some x->j6 D D' g q=some x:=by
  intro q x A;unfold j6;split
  next e=>exact F q x (by rw[<-e];exact A)
  ·exact A
 have B:∀q x,j6 D D' g q=some x->D'.get q=some x\/(D'.get q=none/\D.get q=none/\g q=some x):=by
  intro q x A;cases hd:D'.get q with
  | some y=>rw[ad q y hd]at A;exact .inl A
  | none=>
   unfold j6 at A;split at A
   next e=>rw[hd]at e;exact .inr ⟨rfl,e.symm,A⟩
   ·rw[hd]at A;cases A
 have G:∀q x,D'.get q=some x->(patch D'.next f1 f).b q=f1.b q:=fun q x A=>(U q (hw.hok.get q x A).1).1.symm
 have H:∀q x,g q=some x->(patch D'.next f1 f).b q=f.b q:=fun q x A=>(Y q (hg q x A).1).1.symm
 have aa:∀q x,g q=some x->f.b q<w.heap.size:=by
  intro q x A;obtain⟨r,O,_⟩:=m.obj q x A;exact(eV.1 O).1
 have W:∀q x,g q=some x->D.get q=none->∀i o,D.get i=some o->f.b i≠f.b q:=by
  intro q x A hd i o L e;have:=m.inj i q o x (F i o L) A e;subst this;rw[hd]at L;cases L
 refine⟨?_,?_,?_,?_,bQ m.size hm.size,hm.tape.trans m.tape,hm.os.trans m.os,hm.output.trans m.output,?_⟩
 ·exact m.F0.trans (Y.mono ab)
 ·intro q x A
  rcases B q x A with hd|⟨_,hd,M⟩
  ·obtain⟨r,O,h2⟩:=hm.rep.obj q x hd
   obtain⟨h3,h4⟩:=hw.hok.get q x hd;exact⟨r,by rw[G q x hd];exact O,h2.congr U h3 h4⟩
  ·obtain⟨r,O,h2⟩:=m.obj q x M
   obtain⟨h3,h4⟩:=hg q x M;refine⟨r,?_,h2.congr Y h3 h4⟩;rw[H q x M,hm.kept _ (aa q x M) (W q x M hd)];exact O
 ·
  have X:∀i j o o',D'.get i=some o->g j=some o'->D.get j=none->f1.b i≠f.b j:=by
   intro i j o o' L hj hd e;rcases hm.own i o L with h|⟨k,ok,hk,h⟩
   ·have:=aa j o' hj;omega
   ·exact W j o' hj hd k ok hk (by rw[<-h];exact e)
  intro i j o o' L hj e;rcases B i o L with u|⟨_,u,C⟩<;>rcases B j o' hj with J|⟨_,J,Q⟩
  ·rw[G i o u,G j o' J]at e;exact hm.rep.inj i j o o' u J e
  ·rw[G i o u,H j o' Q]at e;exact absurd e (X i j o o' u Q J)
  ·rw[H i o C,G j o' J]at e;exact absurd e.symm (X j i o' o J C u)
  ·rw[H i o C,H j o' Q]at e;exact m.inj i j o o' C Q e
 ·intro b hb hn
  rw[hm.kept b (aM hb m.size) ?_]
  ·exact m.kept b hb hn
  ·intro i o L e
   rcases m.own i o (F i o L)with h|⟨j,o',O,h2⟩
   ·omega
   ·exact hn j o' O (by rw[<-h2];exact e)
 ·intro i o L
  rcases B i o L with u|⟨_,u,C⟩
  ·rw[G i o u]
   rcases hm.own i o u with h|⟨j,o',O,h2⟩
   ·exact .inl (bQ m.size h)
   ·rw[h2];exact m.own j o' (F j o' O)
  ·rw[H i o C];exact m.own i o C
end
end
section
open Classical
def tp(ops:Array Oper)(m:Nat):Option Tmp:=(ops[m]?).bind (·.dst)
theorem qW {ops:Array Oper}(h:ops[m]? = some o):tp ops m=o.dst:=by rw[tp,h];rfl
def ik(n:Nat)(ops:Array Oper)(V:Nat->EV)(mj:Bb)(S:Nat->Prop):Nat->Bb
 | 0=>mj
 | m+1=>if S m then Qm n (ik n ops V mj S m) (tp ops m) (V m)else ik n ops V mj S m
def hS(E E':Nat->Ab)(e:Nat->Option D5)(S:Nat->Prop):Nat->Nat->Option D5
 | 0=>e
 | m+1=>if S m then j6 (E m) (E' m) (hS E E' e S m)else hS E E' e S m
theorem pM(n:Nat)(tm:Bb)(d:Option Tmp)(v:EV)(t:Nat):tmp (Qm n tm d v) t=if d=some t/\t<n then v else tmp tm t:=by
 cases d with
 | none=>simp[Qm]
 | some d=>
  rw[QH];by_cases h:d=t
  ·subst h;simp
  ·rw[aG (fun x=>h x.1),aG (fun x=>h (by simpa using x.1))]
theorem y_(f:Loc)(n:Nat){a b:Bb}(h:∀t,tmp a t=tmp b t):Bj f n a=Bj f n b:=by
 unfold Bj;simp only[h]
theorem Bl4(h:∀t,n<=t->tm.get t=none)(d:Option Tmp)(v:EV):∀t,n<=t->(Qm n tm d v).get t=none:=by
 intro t e;cases d with
 | none=>exact h t e
 | some d=>
  simp only[Qm];rw[Br];split
  next hd=>
   rw[Tr.Af _ _ (Nat.ne_of_lt (aM (bG hd) e))];exact h t e
  ·exact h t e
theorem Bpu{t:Nat}(h:tm.get t=some v):tmp tm t=v:=by unfold tmp;rw[h]
theorem Bc7{call:Ah}(j:aop T call round tm op h=some (v,h')):∀cs b,op=.select cs b->∃c,cs = #[c]:=by
 rintro cs b rfl;rw[vG rfl (fun _ e=>by cases e)]at j;cases b with
 | true=>cases j
 | false=>
  simp only[D3]at j;split at j
  next c u=>
   exact⟨c,by apply fC;simpa using u⟩
  ·cases j
section
variable{call:Ah}{ops:Array Oper}{bs:Tr Nat}
def nx(σ:Nat->jk)(m:Nat):Nat:=(σ m).h.next
def pS(p0:Nat->Prop)(σ:Nat->jk)(N:Nat)(S:Nat->Prop)(q:Nat):Prop:=p0 q\/∃j,S j/\j<N/\nx σ j<=q/\q<nx σ (j+1)
structure Inv(n:Nat)(ops:Array Oper)(bs:Tr Nat)(σ:Nat->jk)(V:Nat->EV)(E E':Nat->Ab)(p0:Nat->Prop)(f0:Loc)(w0:World)(S:Nat->Prop)(f:Loc)(w:World):Prop where
 dn:∀j,S j->j<ops.size/\∀b,bs.get j=some b->∀k,b.testBit k=true->S k
 vok:∀j,S j->(V j).ok (fun q=>pS p0 σ ops.size S q/\q<nx σ (j+1))
 eok:∀j,S j->∀q x,(E' j).get q=some x->(pS p0 σ ops.size S q/\q<nx σ (j+1))/\x.ok (fun q=>pS p0 σ ops.size S q/\q<nx σ (j+1))
 mv:Ajd p0 f0 (σ 0).h w0 f (hS E E' (σ 0).h.get S ops.size) w
variable (tr:ko T call round n ops.toList bs base σ V E E' K)
include tr
theorem ko.vI(h:ops[i]? = some o):Sd T call round n ops.toList bs base o i (σ i) (σ (i+1)) (V i) (E i) (E' i) (K i):=tr.sd i o (by rw[cP];exact h)
theorem ko.pN(e:i<=m)(hm:m<=ops.size):nx σ i<=nx σ m:=tr.y9 e (by simpa using hm)
theorem SG{t:Nat}(y:i<=ops.size)(h:∀j,j<i->¬S j->tp ops j≠some t):∀m,m<=i->tmp (ik n ops V (σ 0).tm S m) t=tmp (σ m).tm t
 | 0,_=>rfl
 | m+1,hm=>by
  have e:=SG y h m a_;have u:ops[m]? = some ops[m]:=cj a_;rw[(tr.vI u).tm,<-qW u,pM];simp only[ik];split
  ·rw[pM,e]
  next hs=>
   rw[e,aG (fun x=>h m a_ hs x.1)]
omit tr in
theorem SH{t:Nat}(mj:Bb)(h:∀j,i<=j->S j->tp ops j≠some t):∀m,i<=m->tmp (ik n ops V mj S m) t=tmp (ik n ops V mj S i) t:=by
 intro m;induction m with
 | zero=>
  intro hm;have:i=0:=a_
  subst this;rfl
 | succ m u=>
  intro hm;by_cases e:i=m+1
  ·subst e;rfl
  ·rw[<-u a_]
   simp only[ik];split
   next hs=>rw[pM,aG (fun x=>h m a_ hs x.1)]
   ·rfl
theorem zc(u:i<=ops.size)(h:∀j,j<i->¬S j->(E' j).get q=(E j).get q):∀m,m<=i->hS E E' (σ 0).h.get S m q=(σ m).h.get q
 | 0,_=>rfl
 | m+1,hm=>by
  have e:=zc u h m a_;have y:ops[m]? = some ops[m]:=cj a_;rw[(tr.vI y).Blu];simp only[hS];split
  ·simp only[j6,e]
  next hs=>
   rw[e,aI (h m a_ hs)]
omit tr in
theorem SI(u:Nat->Option D5)(h:∀j,i<=j->S j->(E' j).get q=(E j).get q):∀m,i<=m->hS E E' u S m q=hS E E' u S i q:=by
 intro m;induction m with
 | zero=>
  intro hm;have:i=0:=a_
  subst this;rfl
 | succ m y=>
  intro hm;by_cases e:i=m+1
  ·subst e;rfl
  ·rw[<-y a_]
   simp only[hS];split
   next hs=>simp only[j6];rw[aI (h m a_ hs)]
   ·rfl
theorem tq(h:∀j,j<ops.size->S j):∀m,m<=ops.size->ik n ops V (σ 0).tm S m=(σ m).tm
 | 0,_=>rfl
 | m+1,hm=>by
  have e:ops[m]? = some ops[m]:=cj a_;simp only[ik];rw[aI (h m a_),tq h m a_,(tr.vI e).tm,qW e]
theorem SJ(h:∀j,j<ops.size->S j)(q:Nat):hS E E' (σ 0).h.get S ops.size q=(σ ops.size).h.get q:=
 zc tr (aE _) (fun j hj hs=>absurd (h j hj) hs) _ (aE _)
omit tr in
theorem zd(h:∀t,n<=t->mj.get t=none)(S:Nat->Prop):∀m t,n<=t->(ik n ops V mj S m).get t=none
 | 0=>h
 | m+1=>by
  simp only[ik];split
  ·exact Bl4 (zd h S m) _ _
  ·exact zd h S m
variable{w0:World}{w:World}
theorem Inv.vJ(I:Inv n ops bs σ V E E' p0 f0 w0 S f w)(h0:L9 p0 n (σ 0).tm)(hp:∀q,p0 q->q<nx σ 0):∀m,m<=ops.size->L9 (fun q=>pS p0 σ ops.size S q/\q<nx σ m) n (ik n ops V (σ 0).tm S m)
 | 0,_=>h0.mono fun q e=>⟨.inl e,hp q e⟩
 | m+1,hm=>by
  have j:=Inv.vJ I h0 hp m a_;have u:=tr.pN (i:=m) (m:=m+1) a_ hm;simp only[ik];split
  next hs=>
   exact(j.mono fun q e=>⟨e.1,a_⟩).put _ (I.vok m hs)
  ·exact j.mono fun q e=>⟨e.1,a_⟩
theorem Inv.hok(I:Inv n ops bs σ V E E' p0 f0 w0 S f w)(h0:Ug p0 (σ 0).h):∀m,m<=ops.size->∀q x,hS E E' (σ 0).h.get S m q=some x ->
 (pS p0 σ ops.size S q/\q<nx σ m)/\x.ok (fun q=>pS p0 σ ops.size S q/\q<nx σ m)
 | 0,_,q,x,e=>⟨⟨.inl (h0.get q x e).1,h0.lt q (h0.get q x e).1⟩,(h0.get q x e).2.mono fun r j=>⟨.inl j,h0.lt r j⟩⟩
 | m+1,hm,q,x,e=>by
  have y:=tr.pN (i:=m) (m:=m+1) a_ hm;have up:∀{q x},hS E E' (σ 0).h.get S m q=some x->(pS p0 σ ops.size S q/\q<nx σ (m+1))/\x.ok (fun q=>pS p0 σ ops.size S q/\q<nx σ (m+1)):=by
   intro q x e;obtain⟨u,h2⟩:=Inv.hok I h0 m a_ q x e;exact⟨⟨u.1,a_⟩,h2.mono fun r j=>⟨j.1,a_⟩⟩
  simp only[hS]at e;split at e
  next hs=>
   unfold j6 at e;split at e
   ·exact up e
   ·exact I.eok m hs q x e
  ·exact up e
end
end
section
open Classical
section
variable(hT:Qu P T){call:Ah}(hC:kX P call)(hR:pF P round){ops:Array Oper}{bs:Tr Nat}
 (tr:ko T call round n ops.toList bs base σ V E E' K) (hbs:bs=Oy ops.toList 0 .nil) (htm:mX ops.toList bs ops.toList 0 []=true)
 {w0:World} {w:World}
include hbs in
theorem SK(j:i<ops.size):∃b,bs.get i=some b:=by
 have u:ops.toList[i]? = some ops[i]:=by rw[cP];exact cj j
 obtain⟨b,e,_⟩:=yu ops.toList 0 .nil (fun _ _=>rfl) i _ u;rw[bP]at e;exact⟨b,by rw[hbs];exact e⟩
include hT hC hR tr hbs htm in
theorem Inv.step(I:Inv n ops bs σ V E E' p0 f0 w0 S f w)(h0:L9 p0 n (σ 0).tm)(ah:Ug p0 (σ 0).h)(hi:i<ops.size)(Q:¬S i){bi:Nat}(aq:bs.get i=some bi)(a5:∀k,bi.testBit k=true->S k)
 {S':Nat->Prop} (C:∀j,S' j↔S j\/j=i) (fb:FB) (rest:List Nat) (k:List Item) (cs:List Frame) :
 ∃f' w',Steps P (lone (fb.at (Bj f n (ik n ops V (σ 0).tm S ops.size)) (.inRegion ops (i::rest)::k)) cs w) (lone (fb.at (Bj f' n (ik n ops V (σ 0).tm S' ops.size)) (.inRegion ops rest::k)) cs w') /\
  Inv n ops bs σ V E E' p0 f0 w0 S' f' w':=by
 have ho:ops[i]? = some ops[i]:=cj hi;generalize cf:ops[i]=o at ho;have sd:=tr.vI ho;have au:∀q,p0 q->q<nx σ 0:=ah.lt;have hlen:ops.toList.length=ops.size:=by simp
 have aj:∀j,j<i->¬S j->bi.testBit j=false:=by
  intro j _ hs;cases hb:bi.testBit j with
  | false=>rfl
  | true=>exact absurd (a5 j hb) hs
 have F:∀j,i<j->S j->∃b,bs.get j=some b/\b.testBit i=false:=by
  intro j hj hs;obtain⟨Y,hd⟩:=I.dn j hs;obtain⟨b,hb⟩:=SK hbs Y;refine⟨b,hb,?_⟩;cases a6:b.testBit i with
  | false=>rfl
  | true=>exact absurd (hd b hb i a6) Q
 have Y:∀j,S j->j<ops.size:=fun j hs=>(I.dn j hs).1
 have Z:∀j,j<ops.size->∃oj,ops[j]? = some oj/\ops.toList[j]? = some oj:=fun j hj=>⟨ops[j],cj hj,by rw[cP];exact cj hj⟩
 have aw:ops.toList[i]? = some o:=by rw[cP];exact ho
 have J:∀t,tl ops.toList o t->tmp (ik n ops V (σ 0).tm S ops.size) t=tmp (σ i).tm t/\tmp (ik n ops V (σ 0).tm S i) t=tmp (σ i).tm t:=by
  intro t ht;have e1:tmp (ik n ops V (σ 0).tm S i) t=tmp (σ i).tm t:=by
   refine SG tr a_ (fun j hj hs e=>?_) i (aE _);obtain⟨oj,U,h2⟩:=Z j a_;rw[qW U]at e;exact((yZ htm h2 aw hj aq (aj j hj hs)).1 t e).2 ht
  refine⟨?_,e1⟩;rw[<-e1];refine SH _ (fun j hj hs e=>?_) _ a_;have aa:i<j:=by
   rcases Nat.lt_or_eq_of_le hj with h|h
   ·exact h
   ·subst h;exact absurd hs Q
  obtain⟨oj,U,h2⟩:=Z j (Y j hs);obtain⟨b,hb,L⟩:=F j aa hs;rw[qW U]at e;exact(yZ htm aw h2 aa hb L).2 t ht e
 have B:∀q x,(E i).get q=some x->hS E E' (σ 0).h.get S i q=some x/\hS E E' (σ 0).h.get S ops.size q=some x:=by
  intro q x A;have e1:hS E E' (σ 0).h.get S i q=some x:=by
   rw[zc tr a_ (fun j hj hs=>?_) i (aE _)]
   ·exact sd.sub q x A
   ·exact(tr.pair hj a_ aq (aj j hj hs)).2.2 q x A
  refine⟨e1,?_⟩;rw[<-e1];refine SI _ (fun j hj hs=>?_) _ a_;have aa:i<j:=by
   rcases Nat.lt_or_eq_of_le hj with h|h
   ·exact h
   ·subst h;exact absurd hs Q
  obtain⟨b,hb,L⟩:=F j aa hs;exact(tr.pair aa (by have:=Y j hs;omega) hb L).2.1 q x A
 have ab:S' i:=(C i).2 (.inr rfl);have u:∀j,j≠i->(S' j↔S j):=fun j hj=>⟨fun h=>((C j).1 h).resolve_right hj,fun h=>(C j).2 (.inl h)⟩
 have ax:∀m,m<=i->ik n ops V (σ 0).tm S' m=ik n ops V (σ 0).tm S m:=by
  intro m;induction m with
  | zero=>intro _;rfl
  | succ m W=>
   intro hm;simp only[ik];rw[W a_];by_cases hs:S m
   ·rw[aI hs,aI ((u m a_).2 hs)]
   ·rw[aG hs,aG (fun h=>hs ((u m a_).1 h))]
 have ay:∀m,m<=i->hS E E' (σ 0).h.get S' m=hS E E' (σ 0).h.get S m:=by
  intro m;induction m with
  | zero=>intro _;rfl
  | succ m W=>
   intro hm;simp only[hS];rw[W a_];by_cases hs:S m
   ·rw[aI hs,aI ((u m a_).2 hs)]
   ·rw[aG hs,aG (fun h=>hs ((u m a_).1 h))]
 have O:∀m,i<m->m<=ops.size->∀t,tmp (ik n ops V (σ 0).tm S' m) t=tmp (Qm n (ik n ops V (σ 0).tm S m) o.dst (V i)) t:=by
  intro m;induction m with
  | zero=>intro h;omega
  | succ m W=>
   intro hm bw t;by_cases e:m=i
   ·subst e
    simp only[ik];rw[aI ab,aG Q,ax _ (aE _),qW ho]
   ·have W:=W a_ a_ t
    simp only[ik];by_cases hs:S m
    ·rw[aI hs,aI ((u m e).2 hs),pM,W,pM,pM,pM]
     obtain⟨b,hb,L⟩:=F m a_ hs;obtain⟨om,U,h2⟩:=Z m a_;have Qp:=(yZ htm aw h2 a_ hb L).1;rw[qW U];by_cases c1:om.dst=some t/\t<n
     ·rw[aI c1,aG,aI c1]
      rintro⟨c2,_⟩;exact(Qp t c2).1 c1.1
     ·rw[aG c1,aG c1]
    ·rw[aG hs,aG (fun h=>hs ((u m e).1 h))];exact W
 have ai:∀m,i<m->m<=ops.size->hS E E' (σ 0).h.get S' m=j6 (E i) (E' i) (hS E E' (σ 0).h.get S m):=by
  intro m;induction m with
  | zero=>intro h;omega
  | succ m W=>
   intro hm bw;by_cases e:m=i
   ·subst e
    simp only[hS];rw[aI ab,aG Q,ay _ (aE _)]
   ·have W:=W a_ a_
    simp only[hS];by_cases hs:S m
    ·rw[aI hs,aI ((u m e).2 hs),W]
     obtain⟨b,hb,L⟩:=F m a_ hs;have bx:=(tr.pair (i:=i) (m:=m) a_ a_ hb L).1;funext q;simp only[j6];rcases bx q with h|h
     ·rw[aI h,aI h]
     ·rw[aI h,aI h]
    ·rw[aG hs,aG (fun h=>hs ((u m e).1 h))];exact W
 have X:∀q,pS p0 σ ops.size S q->pS p0 σ ops.size S' q:=by
  rintro q (h|⟨j,U,h2⟩)
  ·exact .inl h
  ·exact .inr ⟨j,(C j).2 (.inl U),h2⟩
 have bz:∀q,nx σ i<=q->q<nx σ (i+1)->pS p0 σ ops.size S' q:=fun q U h2=>.inr ⟨i,ab,hi,U,h2⟩
 have ad:∀f' w',(V i).ok (fun q=>pS p0 σ ops.size S' q/\q<nx σ (i+1))->(∀q x,(E' i).get q=some x->(pS p0 σ ops.size S' q/\q<nx σ (i+1))/\x.ok (fun q=>pS p0 σ ops.size S' q/\q<nx σ (i+1))) ->
  Ajd p0 f0 (σ 0).h w0 f' (j6 (E i) (E' i) (hS E E' (σ 0).h.get S ops.size)) w'->Inv n ops bs σ V E E' p0 f0 w0 S' f' w':=by
  intro f' w' U h2 h3;refine⟨fun j hj=>?_,fun j hj=>?_,fun j hj=>?_,?_⟩
  ·rcases(C j).1 hj with hj|rfl
   ·exact⟨Y j hj,fun b hb k hk=>(C k).2 (.inl ((I.dn j hj).2 b hb k hk))⟩
   ·refine⟨hi,fun b hb k hk=>(C k).2 (.inl ?_)⟩
    rw[aq]at hb;cases hb;exact a5 k hk
  ·rcases(C j).1 hj with hj|rfl
   ·exact EV.ok.mono (fun q hq=>⟨X q hq.1,hq.2⟩) _ (I.vok j hj)
   ·exact U
  ·rcases(C j).1 hj with hj|rfl
   ·intro q x A
    obtain⟨a,b⟩:=I.eok j hj q x A;exact⟨⟨X q a.1,a.2⟩,b.mono fun r hr=>⟨X r hr.1,hr.2⟩⟩
   ·exact h2
  ·rw[ai ops.size hi (aE _)];exact h3
 have M:=I.vJ tr h0 au ops.size (aE _);have G:Region.wanted o (Go.yielded ops (Bj f n (ik n ops V (σ 0).tm S ops.size)))=Ev.wanted ops.toList (σ i).tm o.guard:=by
  rw[RK M];unfold Ev.wanted;cases hg:o.guard with
  | none=>rfl
  | some x=>
   obtain⟨j,want⟩:=x;simp only[];have:Ev.yielded ops.toList (ik n ops V (σ 0).tm S ops.size) j=Ev.yielded ops.toList (σ i).tm j:=by
    unfold Ev.yielded;rw[vo];cases hj:ops.toList[j]? with
    | none=>rfl
    | some g=>
     simp only[];cases hd:g.dst with
     | none=>rfl
     | some d=>
      simp only[];have:=(J d (.inr ⟨j,want,g,hg,hj,hd⟩)).1;unfold tmp at this;revert this;cases ik n ops V (σ 0).tm S ops.size|>.get d with
      | none=>
       cases(σ i).tm.get d with
       | none=>intro _;rfl
       | some v=>intro h;simp only[]at h;rw[<-h]
      | some v=>
       cases(σ i).tm.get d with
       | none=>intro h;simp only[]at h;rw[h]
       | some v'=>intro h;simp only[]at h;rw[h]
   rw[this]
 rcases sd.run with⟨hw,hv,hE⟩|⟨hw,a7⟩
 ·
  refine⟨f,w,.one ?_,ad f w ?_ ?_ ?_⟩
  ·rw[hw]at G
   have:=RD (P:=P) (b:=fb) (rest:=rest) (k:=k) (cs:=cs) (w:=w) ho G;rw[this,show(undef:Value)=Ct f (V i) by rw[hv];rfl,vD];rw[y_ f n (fun t=>(O ops.size hi (aE _) t).symm)]
  ·rw[hv];trivial
  ·rw[hE]
   intro q x A;obtain⟨a,b⟩:=I.hok tr ah i a_ q x (B q x A).1;have:=tr.pN (i:=i) (m:=i+1) a_ a_;exact⟨⟨X q a.1,a_⟩,b.mono fun r hr=>⟨X r hr.1,by have:=hr.2;omega⟩⟩
  ·have:j6 (E i) (E' i) (hS E E' (σ 0).h.get S ops.size)=hS E E' (σ 0).h.get S ops.size:=by
    funext q;simp only[j6];rw[hE,aI rfl]
   rw[this];exact I.mv
 ·have ae:(E i).next=nx σ i:=sd.Ahj
  have af:(E' i).next=nx σ (i+1):=sd.Agm
  rw[hw]at G;have a0:=I.vJ tr h0 au i a_;have a1:∀t,n<=t->(σ i).tm.get t=none:=by
   rw[<-tq tr (S:=fun _=>True) (fun _ _=>trivial) i a_];exact zd h0.out _ i
  have ag:∀x∈o.op.operands,Cj (jK (σ i).tm o.op.operands.toList) x=Cj (σ i).tm x:=fun x A=>Bdb _ (dL.2 A)
  have a8:aop T call round (jK (σ i).tm o.op.operands.toList) o.op (E i)=some (V i,E' i):=by rw[Bin ag];exact a7
  have a9:L9 (fun q=>pS p0 σ ops.size S q/\q<(E i).next) n (jK (σ i).tm o.op.operands.toList):=by
   refine Bno (fun t ht v hv=>?_) a1;have e:=(J t (.inl ht)).2;rw[Bpu hv]at e;rw[<-e,ae];exact a0.tmp t
  have b6:Ug (fun q=>pS p0 σ ops.size S q/\q<(E i).next) (E i):=by
   refine⟨fun q hq=>hq.2,fun q x A=>?_⟩;rw[ae];exact I.hok tr ah i a_ q x (B q x A).1
  have b7:Uc f (E i) w:=⟨fun q x A=>I.mv.obj q x (B q x A).2,fun q r x y A hy=>I.mv.inj q r x y (B q x A).2 (B r y hy).2⟩;have b8:execOp (Jk (Bj f n (ik n ops V (σ 0).tm S ops.size))) o=execOp (Jk (Bj f n (jK (σ i).tm o.op.operands.toList))) o:=by
   refine Bah o (Bc7 a7) fun x A=>?_
   cases x with
   | tmp t=>
    have e1:Jk (Bj f n (ik n ops V (σ 0).tm S ops.size)) (.tmp t)=Ct f (tmp (ik n ops V (σ 0).tm S ops.size) t):=sY f M t;have e2:Jk (Bj f n (jK (σ i).tm o.op.operands.toList)) (.tmp t)=Ct f (tmp (jK (σ i).tm o.op.operands.toList) t):=sY f a9 t;rw[e1,e2,(J t (.inl (dL.2 A))).1];have e3:=ag _ A;simp only[Cj,cQ]at e3;exact congrArg (Ct f) e3.symm
   | const v=>rfl
   | global g=>rfl
   | func g=>rfl
  obtain⟨f1,w1,bb,bf,H,bj⟩:=RJ hT hC hR a9 b6 b7 b8 a8 fb ops i rest k cs ho G;have ao:∀q,pS p0 σ ops.size S q->q<(E i).next\/(E' i).next<=q:=by
   rw[ae,af];rintro q (h|⟨j,U,h2,h3,h4⟩)
   ·left;have:=au q h;have:=tr.pN (i:=0) (m:=i) a_ a_;omega
   ·rcases Nat.lt_trichotomy j i with h|h|h
    ·left;have:=tr.pN (i:=j+1) (m:=i) a_ a_;omega
    ·subst h;exact absurd U Q
    ·right;have:=tr.pN (i:=i+1) (m:=j) a_ a_;omega
  have bn:∀q x,hS E E' (σ 0).h.get S ops.size q=some x->pS p0 σ ops.size S q/\x.ok (pS p0 σ ops.size S):=by
   intro q x A;obtain⟨a,b⟩:=I.hok tr ah ops.size (aE _) q x A;exact⟨a.1,b.mono fun r hr=>hr.1⟩
  have a2:∀q,grow (fun q=>pS p0 σ ops.size S q/\q<(E i).next) (E i) (E' i) q->pS p0 σ ops.size S' q/\q<nx σ (i+1):=by
   rintro q (h|h)
   ·have:=H.next
    rw[ae]at this h;rw[af]at this;exact⟨X q h.1,aM h.2 this⟩
   ·rw[ae,af]at h
    exact⟨bz q h.1 h.2,h.2⟩
  refine⟨patch (E' i).next f1 f,w1,?_,ad _ _ (EV.ok.mono a2 _ bj) (fun q x A=>?_) (Ajd.step I.mv (fun q x A=>(B q x A).2) bn (fun q hq=>.inl hq) bf H ao)⟩
  ·have e1:Ct f1 (V i)=Ct (patch (E' i).next f1 f) (V i):=qO (SF H) _ bj
   have e2:Bj f n (ik n ops V (σ 0).tm S ops.size)=Bj (patch (E' i).next f1 f) n (ik n ops V (σ 0).tm S ops.size):=Lw (SE bf H ao) (M.mono fun q hq=>hq.1);have e3:oJ (Bj f n (ik n ops V (σ 0).tm S ops.size)) o.dst (Ct f1 (V i))=Bj (patch (E' i).next f1 f) n (ik n ops V (σ 0).tm S' ops.size):=by
    rw[e1,e2,vD];exact y_ _ n (fun t=>(O ops.size hi (aE _) t).symm)
   rw[e3]at bb;exact bb
  ·obtain⟨a,b⟩:=H.hok.get q x A
   exact⟨a2 q a,b.mono a2⟩
theorem SL(e:Edge):oD e=Region.binds .any e:=by
 unfold oD Region.binds;split<;>simp_all
def jU(listed:Array Bool)(N:Nat):List Nat:=(List.range N).filter fun i=>!listed.getD i true
theorem Bpr{N:Nat}(y:listed.size=N)(u:i<N)(A:listed.getD i true=false):(jU (listed.setIfInBounds i true) N).length<(jU listed N).length:=by
 have e:jU (listed.setIfInBounds i true) N=(jU listed N).filter (fun j=>j != i):=by
  unfold jU;rw[List.filter_filter];apply List.filter_congr;intro j hj;rw[cm]at hj;by_cases h:i=j
  ·subst h
   simp[y,u]
  ·rw[getD_set_ne _ h]
   have:(j != i)=true:=by simp[cR h]
   rw[this];simp
 rw[e];refine List.length_filter_lt_length_iff_exists.2 ⟨i,?_,by simp⟩;unfold jU;rw[fK,cm];exact⟨u,by simp only[A];rfl⟩
include hT hC hR tr hbs htm in
theorem Bk3(W:ov ops.toList 0=true)(h0:L9 p0 n (σ 0).tm)(X:Ug p0 (σ 0).h)(Y:FB)(k:List Item)(cs:List Frame):∀(fuel t:Nat) (listed:Array Bool) (f:Loc) (w:World),listed.size=ops.size->(jU listed ops.size).length<=fuel ->
 Inv n ops bs σ V E E' p0 f0 w0 (fun j=>listed.getD j false=true) f w ->
 ∃f' w',Steps P (lone (Y.at (Bj f n (ik n ops V (σ 0).tm (fun j=>listed.getD j false=true) ops.size)) (.inRegion ops (Region.linearise.go .any ops fuel t listed [])::k)) cs w)
  (lone (Y.at (Bj f' n (σ ops.size).tm) (.inRegion ops []::k)) cs w') /\
  ∃S,(∀j,j<ops.size->S j)/\Inv n ops bs σ V E E' p0 f0 w0 S f' w':=by
 have C:∀listed:Array Bool,listed.size=ops.size->(jU listed ops.size).length=0->∀j,j<ops.size->listed.getD j false=true:=by
  intro listed F Z j hj;have:j ∉ jU listed ops.size:=by rw[cO.1 Z];simp
  unfold jU at this;rw[fK,cm]at this;have h2:(!listed.getD j true)=false:=by
   cases h:(!listed.getD j true)with
   | false=>rfl
   | true=>exact absurd ⟨hj,h⟩ this
  have u:j<listed.size:=a_
  simp[Array.getD,u]at h2⊢;exact h2
 intro fuel;induction fuel with
 | zero=>
  intro t listed f w F hf I;have hs:=C listed F a_;refine⟨f,w,?_,_,hs,I⟩;simp only[Region.linearise.go,List.reverse_nil];rw[tq tr hs _ (aE _)];exact .refl _ _
 | succ fuel ih=>
  intro t listed f w F hf I;simp only[Region.linearise.go];have aa:((List.range ops.size).filter fun i=>!listed.getD i true&&((ops[i]?).map (·.after.all fun e=>!Region.binds .any e||listed.getD e.on false)).getD false)=Region.ready .any ops listed:=rfl;rw[aa];split
  next i hi=>
   have A:i∈Region.ready .any ops listed:=bh hi;obtain⟨G,o,L,ab⟩:=mem_ready.1 A;have B:i<ops.size:=(eV.1 L).1;have ad:¬(listed.getD i false=true):=by
    have u:i<listed.size:=a_
    simp[Array.getD,u]at G⊢;exact G
   obtain⟨bi,M⟩:=SK hbs B;have H:ops.toList[i]? = some o:=by rw[cP];exact L
   obtain⟨b',h1,h2⟩:=yu ops.toList 0 .nil (fun _ _=>rfl) i o H;rw[bP,<-hbs,M]at h1;cases h1;have O:∀j,bi.testBit j=true->listed.getD j false=true:=by
    intro j hj;obtain⟨e,he,hb,ae⟩:=h2 j hj;have Q:=ab e (dL.1 he) (by rw[<-SL];exact hb);rcases ae with rfl|⟨y,hy,af⟩
    ·exact Q
    ·rw[<-hbs]at hy
     exact(I.dn e.on Q).2 y hy j af
   rw[linearise_go_acc];have ag:∀j,(listed.setIfInBounds i true).getD j false=true↔listed.getD j false=true\/j=i:=by
    intro j;by_cases h:i=j
    ·subst h
     have:(listed.setIfInBounds i true).getD i false=true:=by simp[F,B]
     simp[this]
    ·rw[getD_set_ne _ h]
     constructor
     ·exact .inl
     ·rintro(h'|h')
      ·exact h'
      ·exact absurd h'.symm h
   obtain⟨f1,w1,ah,I1⟩:=I.step hT hC hR tr hbs htm h0 X B ad M O (S':=fun j=>(listed.setIfInBounds i true).getD j false=true) ag Y (Region.linearise.go .any ops fuel (t/(Region.ready .any ops listed).length) (listed.setIfInBounds i true) []) k cs;obtain⟨f2,w2,ai,aj⟩:=ih (t/(Region.ready .any ops listed).length) (listed.setIfInBounds i true) f1 w1 (by simpa using F) (by have:=Bpr F B G;omega) I1;exact⟨f2,w2,ah.trans ai,aj⟩
  next J=>
   have Z:(jU listed ops.size).length=0:=by
    cases hc:jU listed ops.size with
    | nil=>rfl
    | cons a l=>
     exfalso;have hex:∃j,j<ops.size/\listed.getD j true=false:=by
      have:a∈jU listed ops.size:=by rw[hc];exact aW
      unfold jU at this;rw[fK,cm]at this;exact⟨a,this.1,by simpa using this.2⟩
     have U:∀N,∀j,j<N->j<ops.size->listed.getD j true=false->∃i,i<ops.size/\listed.getD i true=false/\∀k,k<i->listed.getD k true=true:=by
      intro N;induction N with
      | zero=>intro j h;omega
      | succ N al=>
       intro j hj ao aq;by_cases hk:∃k,k<j/\listed.getD k true=false
       ·obtain⟨k,a9,au⟩:=hk
        exact al k a_ a_ au
       ·refine⟨j,ao,aq,fun k aw=>?_⟩
        cases h:listed.getD k true with
        | true=>rfl
        | false=>exact absurd ⟨k,aw,h⟩ hk
     obtain⟨j,ax,ay⟩:=hex;obtain⟨i,az,a0,a1⟩:=U (j+1) j a_ ax ay;have L:ops[i]? = some ops[i]:=cj az;have H:ops.toList[i]? = some ops[i]:=by rw[cP];exact L
     have A:i∈Region.ready .any ops listed:=mem_ready.2 ⟨a0,_,L,fun e he hb=>by
      have bb:=RW ops.toList 0 W i _ H e (dL.2 he) (by rw[SL];exact hb);have:=a1 e.on a_;have u:e.on<listed.size:=a_
      simp[Array.getD,u]at this⊢;exact this⟩
     have hlen:0<(Region.ready .any ops listed).length:=List.length_pos_of_mem A;rw[List.getElem?_eq_none_iff]at J;have:=gR t hlen;omega
   have hs:=C listed F Z;refine⟨f,w,?_,_,hs,I⟩;simp only[List.reverse_nil];rw[tq tr hs _ (aE _)];exact .refl _ _
end
end
section
open Classical
section
variable{call:Ah}(hC:Wu call)(hR:Wu round){ops:List Oper}{bs:Tr Nat}
theorem Sd.SM{s s':jk}{E E':Ab}(sd:Sd T call round n ops bs base o i s s' v E E' kd):AWf s.h s'.h where
 next:=by rw[<-sd.Ahj,<-sd.Agm];exact sd.w.next
 mw:=sd.mw.1
 same q u h2:=by rw[sd.Blu,aI (sd.mw.2 q u h2)]
 live q x e:=by
  rw[sd.Blu]at e;split at e
  ·exact .inl ⟨x,e⟩
  ·rcases sd.w.live q x e with⟨o',h⟩|h
   ·exact .inl ⟨o',sd.sub q o' h⟩
   ·rw[sd.Ahj]at h;exact .inr h
 lt H q x e:=by
  have j:s.h.next<=s'.h.next:=by rw[<-sd.Ahj,<-sd.Agm];exact sd.w.next
  rw[sd.Blu]at e;split at e
  ·exact aM (H q x e) j
  ·rw[<-sd.Agm]
   refine sd.w.lt (fun q x e=>?_) q x e;rw[sd.Ahj];exact H q x (sd.sub q x e)
theorem Sd.nw{s s':jk}{E E':Ab}(sd:Sd T call round n ops bs base o i s s' v E E' kd)(h:∀x∈s.nw,x.2<s.h.next):∀x∈s'.nw,x.2<s'.h.next:=by
 have e:s.h.next<=s'.h.next:=sd.SM.next
 intro x j;have:=sd.kd;cases kd with
 | idle=>rw[this.2.2.2.1]at j;exact aM (h x j) e
 | load q=>rw[this.2.2.2.1]at j;exact aM (h x j) e
 | new=>
  obtain⟨a,⟨y,b⟩,c,d,_⟩:=this;rw[d]at j;rcases bX.1 j with rfl|j
  ·show s.h.next<_
   rw[<-sd.Agm,b,Ab.D4,sd.Ahj];omega
  ·exact aM (h x j) e
 | sto q=>
  obtain⟨_,_,d,_⟩:=this;rw[d]at j;exact aM (h x j) e
 | big mw=>
  obtain⟨b,_,_,_,_,_,d,_⟩:=this;rw[d]at j;exact aM (h x j) e
include hC hR in
theorem SN:∀{l:List Oper} {i:Nat} {s r:jk},Tj T call round n ops bs base l i s=some r->(∀x∈s.nw,x.2<s.h.next)->AWf s.h r.h
 | [],_,s,r,h,_=>by cases h;exact .refl _
 | o::l,i,s,r,h,e=>by
  simp only[Tj]at h;split at h
  next s' hs=>
   obtain⟨v,E,E',kd,sd⟩:=y8 hC hR hs e;exact sd.SM.trans (SN h (sd.nw e))
  ·cases h
include hC hR in
theorem SO(e:lY T call round n ops tm h=some (g_,h')):AWf h h':=by
 unfold lY at e;obtain⟨_,e⟩:=Ap e;obtain⟨_,e⟩:=Ap e;split at e
 next hs=>
  cases e;exact SN hC hR hs (fun x j=>by cases j)
 ·cases e
end
theorem Bnj(hT:Qu P T){call:Ah}(hC:kX P call)(hR:pF P round)(wC:Wu call)(wR:Wu round)
 {ops:Array Oper} {w:World} (W:L9 p n tm) (J:Ug p h) (X:Uc f h w)
 (u:lY T call round n ops.toList tm h=some (g_,h')) (b:FB) (t:Nat) (k:List Item) (cs:List Frame) (dr:Nat) :
 ∃f' w',Steps P (lone (b.at (Bj f n tm) (.inRegion ops (Region.linearise .any ops t)::k)) cs { w with drawn:=dr }) (lone (b.at (Bj f' n g_) (.inRegion ops []::k)) cs w') /\
  Move p f h w f' h' w'/\Wf p h h'/\L9 (grow p h h') n g_:=by
 have hwf:=SO wC wR u;unfold lY at u;obtain⟨M,u⟩:=Ap u;obtain⟨htm,u⟩:=Ap u;split at u
 next Y L b1 b2 b3 b4 b5 hs=>
  cases u;obtain⟨σ,V,E,E',K,e0,O,tr⟩:=Bsy (s:=⟨tm,h,0,[],[],[],[]⟩) wC wR hs (fun q x Q=>J.lt q (J.get q x Q).1) rfl;have hlen:ops.toList.length=ops.size:=by simp
  rw[hlen]at O;have C:L9 p n (σ 0).tm:=by rw[e0];exact W
  have A:Ug p (σ 0).h:=by rw[e0];exact J
  have e:∀j,¬((Array.replicate ops.size false).getD j false=true):=by
   intro j;simp only[Array.getD_eq_getD_getElem?,Array.getElem?_replicate];split<;>simp
  have Z:Inv n ops (Oy ops.toList 0 .nil) σ V E E' p f w (fun j=>(Array.replicate ops.size false).getD j false=true) f { w with drawn:=dr }:=by
   refine⟨fun j hj=>absurd hj (e j),fun j hj=>absurd hj (e j),fun j hj=>absurd hj (e j),?_⟩;have:hS E E' (σ 0).h.get (fun j=>(Array.replicate ops.size false).getD j false=true) ops.size=(σ 0).h.get:=by
    funext q;exact SI _ (fun j _ hs=>absurd hs (e j)) _ (cS _)
   rw[this];have U:Uc f (σ 0).h w:=by rw[e0];exact X
   exact(Ajd.start U).drew dr
  have F:Bj f n (ik n ops V (σ 0).tm (fun j=>(Array.replicate ops.size false).getD j false=true) ops.size)=Bj f n tm:=by
   rw[show tm=(σ 0).tm by rw[e0]];exact y_ f n fun t=>SH _ (fun j _ hs=>absurd hs (e j)) _ (cS _)
  obtain⟨f',w',B,S,hS,I⟩:=Bk3 hT hC hR tr rfl htm M C A b k cs ops.size t (Array.replicate ops.size false) f _ (by simp) (by
   unfold jU;exact bQ (fI _ _) (by simp)) Z
  rw[F]at B;have G:=I.mv.move (h:=(σ ops.size).h) (fun q=>(SJ tr hS q).symm);have e1:(σ ops.size).h=h':=by rw[O]
  have e2:(σ ops.size).tm=g_:=by rw[O]
  have e3:(σ 0).h=h:=by rw[e0]
  have y:∀q,pS p σ ops.size S q/\q<nx σ ops.size->grow p h h' q:=by
   rintro q ⟨L|⟨j,_,hj,L,h2⟩,h3⟩
   ·exact .inl L
   ·refine .inr ⟨?_,?_⟩
    ·have:=tr.pN (i:=0) (m:=j) a_ a_
     rw[<-e3];exact bQ this L
    ·rw[<-e1];exact h3
  rw[e2]at B;rw[e1,e3]at G;refine⟨f',w',B,G,⟨hwf.next,hwf.mw,hwf.same,hwf.live,⟨fun q H=>?_,fun q x Q=>?_⟩⟩,?_⟩
  ·rcases H with H|H
   ·exact aM (J.lt q H) hwf.next
   ·exact H.2
  ·obtain⟨a,b⟩:=I.hok tr A ops.size (aE _) q x (by rw[SJ tr hS q,e1];exact Q)
   exact⟨y q a,b.mono y⟩
  ·have:=I.vJ tr C A.lt ops.size (aE _)
   rw[tq tr hS _ (aE _),e2]at this;exact this.mono y
 ·cases u
end
section
def Jn(f:Loc)(d:Nat):Deferred:={ target:=.collected (f.b d),args:=#[] }
def pO(f:Loc)(a:Aj3):FB:=⟨a.fn,a.defers.map (Jn f),a.Dy.map f.b⟩
def O5(f:Loc)(a:Aj3):Frame:=
 { fn:=a.fn,tmps:=Bj f a.n a.tmps,todo:=a.todo,defers:=a.defers.map (Jn f),mode:=if a.ret=true then .returning else .run,kind:=.normal,roundOf:=a.Dy.map f.b }
structure X6(p:Nat->Prop)(a:Aj3):Prop where
 tm:L9 p a.n a.tmps
 dfr:∀d∈a.defers,p d
 Dy:∀l,a.Dy=some l->p l
 ret:a.ret=true->a.Dy=none
theorem X6.mono {q:Nat->Prop}(h:X6 p a)(e:∀i,p i->q i):X6 q a:=⟨h.tm.mono e,fun d hd=>e d (h.dfr d hd),fun l j=>e l (h.Dy l j),h.ret⟩
theorem A33{g:Loc}(e:Loc.F0 p f g)(h:X6 p a):O5 f a=O5 g a:=by
 unfold O5;rw[Lw e h.tm];have j:a.defers.map (Jn f)=a.defers.map (Jn g):=by
  apply cY;intro d hd;unfold Jn;rw[(e d (h.dfr d hd)).1]
 have h2:a.Dy.map f.b=a.Dy.map g.b:=by
  cases u:a.Dy with
  | none=>rfl
  | some l=>simp only[eD];rw[(e l (h.Dy l u)).1]
 rw[j,h2]
theorem vK{g:Loc}(e:Loc.F0 p f g)(h:X6 p a):pO f a=pO g a:=by
 have:=A33 e h;unfold O5 at this;unfold pO;injection this with _ _ _ h4 _ _ j;rw[h4,j]
section
variable{b:FB}{w:World}
theorem Boc:step P (lone (b.at tmps (.code .skip::k)) cs w)=.next (lone (b.at tmps k) cs w):=cJ (by simp[stepG,stepG.exec,FB.at])
theorem Bn2 {l:Nat}:step P (lone (b.at tmps (.code (.label l)::k)) cs w)=.next (lone (b.at tmps k) cs w):=cJ (by simp[stepG,stepG.exec,FB.at])
theorem Bcz:step P (lone (b.at tmps (.inBlock id::k)) cs w)=.next (lone (b.at tmps k) cs w):=cJ (by simp[stepG,stepG.exec,FB.at])
theorem Brg {x y:Code}:step P (lone (b.at tmps (.code (.seq x y)::k)) cs w)=.next (lone (b.at tmps (.code x :: .code y::k)) cs w):=cJ (by simp[stepG,stepG.exec,FB.at])
theorem SP {c:Operand}{x y:Code}{t:Bool}(h:Jk tmps c=.bool t):step P (lone (b.at tmps (.code (.cond c x y)::k)) cs w)=.next (lone (b.at tmps (.code (if t then x else y)::k)) cs w):=
 cJ (by
  have:=FB.eval_at b tmps (.code (.cond c x y)::k);simp only[FB.at]at this;simp[stepG,stepG.exec,FB.at,this,h])
theorem Bl3{c:Code}:step P (lone (b.at tmps (.code (.block id c)::k)) cs w)=.next (lone (b.at tmps (.code c :: .inBlock id::k)) cs w):=cJ (by simp[stepG,stepG.exec,FB.at])
theorem Bpc {c:Code}:step P (lone (b.at tmps (.code (.loop c)::k)) cs w)=.next (lone (b.at tmps (.code c :: .inLoop c::k)) cs w):=cJ (by simp[stepG,stepG.exec,FB.at])
theorem Bh9 {c:Code}:step P (lone (b.at tmps (.inLoop c::k)) cs w)=.next (lone (b.at tmps (.code c :: .inLoop c::k)) cs w):=cJ (by simp[stepG,stepG.exec,FB.at])
theorem Boe{e:List Item}(h:exitTo id k=some e):step P (lone (b.at tmps (.code (.exit id)::k)) cs w)=.next (lone (b.at tmps e) cs w):=cJ (by simp[stepG,stepG.exec,FB.at,h])
theorem Bsu(h:b.Dy=none):step P (lone (b.at tmps (.code .ret::k)) cs w)=.next (lone { b.at tmps (.code .ret::k)with mode:=.returning } cs w):=cJ (by simp[stepG,stepG.exec,FB.at,h])
theorem Bsv(h:b.Dy=none):step P (lone (b.at tmps []) cs w)=.next (lone { b.at tmps []with mode:=.returning } cs w):=cJ (by simp[stepG,stepG.exec,FB.at,h])
theorem Bjt{ops:Array Oper}:step P (lone (b.at tmps (.code (.region id ops false)::k)) cs w)=.next (lone (b.at tmps (.inRegion ops (List.range ops.size)::k)) cs w):=cJ (by simp[stepG,stepG.exec,FB.at])
theorem Bpi(hm:P.follows .mixedOrders=true){ops:Array Oper}:step P (lone (b.at tmps (.code (.region id ops true)::k)) cs w) =
 .next (lone (b.at tmps (.inRegion ops (Region.linearise .any ops (w.tape w.drawn (.order b.fn id)))::k)) cs { w with drawn:=w.drawn+1 }):=
 cJ (by simp[stepG,stepG.exec,FB.at,choose,Sem.run,Question.forced,Question.cut,hm,Region.schedule])
theorem A7r {l:Nat}(e:b.Dy=some l){v:Value}(he:(Instr.endRound l jump).run P w=.ok v w')
 (j:(todo = []/\jump=none)\/(∃k,todo=.code .ret::k/\jump=some .ret)\/(∃id k,todo=.code (.exit id)::k/\exitTo id k=none/\jump=some (.exit id))) :
 step P (lone (b.at tmps todo) (caller::cs) w)=.next (lone (caller.finish v) cs w'):=by
 refine cJ ?_;rcases j with⟨rfl,rfl⟩|⟨k,rfl,rfl⟩|⟨id,k,rfl,u,rfl⟩
 ·simp[stepG,stepG.exec,FB.at,e,he,doReturn]
 ·simp[stepG,stepG.exec,FB.at,e,he,doReturn]
 ·simp[stepG,stepG.exec,FB.at,e,u,he,doReturn]
end
section
variable(hT:Qu P T){w:World}
theorem Bbg(hT:Qu P T)(j:Ug p h)(u:Uc f h w){cs:List EV}(hs:T.size t=some n)(y:Jo h i off n=some cs){b:Bool}(e:T.agg t=some b)
 (A:(b=true/\v=.agg cs)\/(b=false/\cs = [v])):(loadVar t ⟨f.b i,off,none⟩).run P w=.ok (Ct f v) w/\v.ok p:=by
 obtain⟨B,h2,C,h4,F⟩:=vB (P:=P) j u y;rcases A with⟨rfl,rfl⟩|⟨rfl,rfl⟩
 ·refine⟨?_,h2,C⟩
  simp only[loadVar,Sem.run_bind,qU hT w e,aJ,bK,G7 hT w hs,B,aU,Ct]
 ·refine⟨?_,h2.1⟩
  have:=F 0 v rfl;simp only[loadVar,Sem.run_bind,qU hT w e,aJ,aX,ak];simp only[dU]at this;rw[run_load,this]
theorem SQ {β:Type}(P:Program)(w:World)(g:α->Sem β):∀(l:List α) (r:List β),(l.length=r.length)->(∀(i:Nat) a b,l[i]? = some a->r[i]? = some b->(g a).run P w=.ok b w)->(l.mapM g).run P w=.ok r w
 | [],[],_,_=>by simp
 | a::l,b::r,e,h=>by
  have h0:=h 0 a b rfl rfl;have j:=SQ P w g l r (by simpa using e) (fun i a b u h2=>h (i+1) a b (by simpa using u) (by simpa using h2));simp[List.mapM_cons,h0,j]
 | [],_::_,h,_=>by simp at h
 | _::_,[],h,_=>by simp at h
def nr(tmps:Array Value):ResultVar->Sem Value
 | .tmp t=>pure (tmps.getD t undef)
 | .cell a t=>do loadVar t (←asAddr (tmps.getD a undef))
theorem Bef(fn:Func)(tmps:Array Value):results fn tmps=(do
 let vs ←fn.results.mapM (nr tmps)
 pure (if h:vs.size=1 then vs[0]else .tuple vs)):=by
 unfold results;congr 1
theorem ze(hT:Qu P T)(G:Ug p h)(H:Uc f h w)(A:L9 p n tm):∀{l:List ResultVar} {vs:List EV},Ni T tm h l=some vs ->
 EV.Ud p vs/\l.length=(Bw f vs).length/\∀(i:Nat) a b,l[i]? = some a->(Bw f vs)[i]? = some b->(nr (Bj f n tm) a).run P w=.ok b w
 | [],vs,j=>by cases j;exact⟨trivial,rfl,fun i a b h=>by simp at h⟩
 | .tmp t::r,vs,j=>by
  simp only[Ni]at j;split at j
  next l J=>
   cases j;obtain⟨L,h2,M⟩:=ze hT G H A J;refine⟨⟨A.tmp t,L⟩,by simp[Bw,h2],fun i a b B hb=>?_⟩;cases i with
   | zero=>
    simp only[bL,cQ,Bw]at B hb;subst B hb;simp only[nr,aU,sY f A]
   | succ i=>exact M i a b (by simpa using B) (by simpa [Bw]using hb)
  ·cases j
 | .cell a t::r,vs,j=>by
  simp only[Ni]at j;split at j
  next i off l X B J O=>
   split at j
   next cs Q=>
    obtain⟨L,h2,M⟩:=ze hT G H A J;have key:∀(b:Bool) (v:EV),T.agg t=some b->((b=true/\v=.agg cs)\/(b=false/\cs = [v]))->some (v::l)=some vs->EV.Ud p vs/\(ResultVar.cell a t::r).length=(Bw f vs).length/\∀(i:Nat) C F,(ResultVar.cell a t::r)[i]? = some C->(Bw f vs)[i]? = some F->(nr (Bj f n tm) C).run P w=.ok F w:=by
     intro b v hb U e;cases e;obtain⟨l1,W⟩:=Bbg hT G H O Q hb U;refine⟨⟨W,L⟩,by simp[Bw,h2],fun i C F u y=>?_⟩;cases i with
     | zero=>
      simp only[bL,cQ,Bw]at u y;subst u y;simp only[nr,sY f A,B,Ct,asAddr,Sem.run_bind,aU,aJ,l1]
     | succ i=>exact M i C F (by simpa using u) (by simpa [Bw]using y)
    split at j
    next hb=>exact key true _ hb (.inl ⟨rfl,rfl⟩) j
    next hb=>
     split at j
     ·exact key false _ hb (.inr ⟨rfl,rfl⟩) j
     ·cases j
    ·cases j
   ·cases j
  ·cases j
theorem A9m(hT:Qu P T)(C:Ug p h)(F:Uc f h w)(G:L9 p n tm){fn:Func}{vs:List EV}(H:Ni T tm h fn.results.toList=some vs)
 (A:vs = [v]\/((∀x,vs≠[x])/\v=.tuple vs)):(results fn (Bj f n tm)).run P w=.ok (Ct f v) w/\v.ok p:=by
 obtain⟨B,h2,J⟩:=ze hT C F G H;have hm:(fn.results.toList.mapM (nr (Bj f n tm))).run P w=.ok (Bw f vs) w:=SQ P w _ _ _ h2 J;constructor
 ·have u:(fn.results.mapM (nr (Bj f n tm))).run P w=.ok (Bw f vs).toArray w:=by
   have e:fn.results.mapM (nr (Bj f n tm))=Functor.map List.toArray (fn.results.toList.mapM (nr (Bj f n tm))):=by
    rw[<-List.mapM_toArray,eK]
   rw[e,Sem.run_map,hm];rfl
  rw[Bef,Sem.run_bind,u,aJ,aU];congr 1;rcases A with rfl|⟨y,rfl⟩
  ·simp[Bw]
  ·rw[dif_neg]
   ·simp only[Ct]
   ·intro j
    simp only[dh,Dh]at j
    match vs,j with
    | [x],_=>exact y x rfl
 ·rcases A with rfl|⟨_,rfl⟩
  ·exact B.1
  ·exact B
end
end
section
theorem zf(f:Loc)(fn n:Nat)(tm:Bb)(todo:List Item)(ds:List Nat)(Dy:Option Nat):
 O5 f ⟨fn,n,tm,todo,ds,false,Dy⟩=(FB.mk fn (ds.map (Jn f)) (Dy.map f.b)).at (Bj f n tm) todo:=rfl
theorem zg(f:Loc)(fn n:Nat)(tm:Bb)(todo:List Item)(ds:List Nat):
 O5 f ⟨fn,n,tm,todo,ds,true,none⟩ = { (FB.mk fn (ds.map (Jn f)) none).at (Bj f n tm) todo with mode:=.returning }:=rfl
def iC(P:Program)(p:Nat->Prop)(f:Loc)(w:World)(cs:List Frame)(s s':H3):Prop:=
 ∃f' w',Steps P (lone (O5 f s.fr) cs w) (lone (O5 f' s'.fr) cs w')/\Move p f s.h w f' s'.h w'/\Wf p s.h s'.h/\X6 (grow p s.h s'.h) s'.fr/\s'.fr.fn=s.fr.fn/\s'.fr.Dy=s.fr.Dy
def Fin(P:Program)(p:Nat->Prop)(f:Loc)(w:World)(s:H3)(v:EV)(h':Ab):Prop:=
 match s.fr.Dy with
 | none=>h'=s.h/\(O5 f s.fr).leaving P w (.returned (Ct f v))/\v.ok p
 | some _=>∀caller cs,∃w',Steps P (lone (O5 f s.fr) (caller::cs) w) (lone (caller.finish (Ct f v)) cs w')/\Move p f s.h w f h' w'/\Wf p s.h h'/\v.ok p
section
variable{w:World}
theorem iC.stay {fr e:Aj3}(j:Ug p h)(u:Uc f h w)(hs:Steps P (lone (O5 f fr) cs w) (lone (O5 f e) cs w))(y:X6 p e)(A:e.fn=fr.fn)(h2:e.Dy=fr.Dy):iC P p f w cs ⟨fr,h⟩ ⟨e,h⟩:=
 ⟨f,w,hs,Move.refl u,Wf.refl j,by rw[Kt _ _ _ rfl];exact y,A,h2⟩
theorem vL(u:Uc f h w){l:Nat}{st:LoopState}(hg:h.get l=some (.loop st pd fn n tm ps d' body d)):
 (Instr.getLoop (f.b l)).run P w=.ok ⟨st,pd,fn,Bj f n tm,ps.toArray,d',body,f.b d⟩ w/\w.heap[f.b l]? = some (.loop ⟨st,pd,fn,Bj f n tm,ps.toArray,d',body,f.b d⟩):=by
 obtain⟨r,j,rfl⟩:=u.obj l _ hg;have e:=Om (P:=P) j (by intros;simp);refine⟨?_,j⟩;simp only[Instr.getLoop,Sem.run_bind,e,aJ,aU]
theorem zi(e:Ug p h)(j:Uc f h w){l:Nat}{st st':LoopState}{pd':Option Code}(hg:h.get l=some (.loop st pd fn n tm ps d' body d)):
 Move p f h w f (h.put l (.loop st' pd' fn n tm ps d' body d)) { w with heap:=w.heap.setIfInBounds (f.b l) (.loop ⟨st',pd',fn,Bj f n tm,ps.toArray,d',body,f.b d⟩) } /\
 Wf p h (h.put l (.loop st' pd' fn n tm ps d' body d)):=
 ⟨Move.setObj j hg rfl,Wf.put e hg (e.get l _ hg).2⟩
theorem A7l(e:Uc f h w){l:Nat}{st:LoopState}(hg:h.get l=some (.loop st pd fn n tm ps d' body d))(jump:Option Code):
 (Instr.endRound (f.b l) jump).run P w=.ok (.bool jump.isNone) { w with heap:=w.heap.setIfInBounds (f.b l) (.loop ⟨if jump.isNone then .ready else .done,jump,fn,Bj f n tm,ps.toArray,d',body,f.b d⟩) }:=by
 obtain⟨j,h2⟩:=vL (P:=P) e hg;have hs:=Q7 (P:=P) (o':=.loop ⟨if jump.isNone then .ready else .done,jump,fn,Bj f n tm,ps.toArray,d',body,f.b d⟩) h2 (by intros;simp);simp only[Instr.endRound,Sem.run_bind,j,aJ,hs,aU]
theorem zj(e:leave fn n tm todo ds Dy h jump=.go s'):
 Dy=none/\s'=⟨⟨fn,n,tm,todo,ds,true,none⟩,h⟩/\(jump=none\/jump=some .ret):=by
 unfold leave at e;split at e
 ·split at e
  ·cases e;exact⟨rfl,rfl,.inl rfl⟩
  ·cases e;exact⟨rfl,rfl,.inr rfl⟩
  ·cases e
 ·split at e
  ·split at e<;>cases e
  ·cases e
theorem zk(A:Ug p h)(y:Uc f h w)(e:leave fn n tm todo ds Dy h jump=.done v h')
 (B:(todo = []/\jump=none)\/(∃k,todo=.code .ret::k/\jump=some .ret)\/(∃id k,todo=.code (.exit id)::k/\exitTo id k=none/\jump=some (.exit id))) :
 Fin P p f w ⟨⟨fn,n,tm,todo,ds,false,Dy⟩,h⟩ v h':=by
 unfold leave at e;split at e
 ·split at e<;>cases e
 next l=>
  split at e
  next st pd j C g_ ps d' body d hg=>
   have key:∀(b:Bool) (st':LoopState),b=jump.isNone->st'=(if jump.isNone then .ready else .done)->Fin P p f w ⟨⟨fn,n,tm,todo,ds,false,some l⟩,h⟩ (.bool b) (h.put l (.loop st' jump j C g_ ps d' body d)):=by
    intro b st' hb u;intro caller cs;obtain⟨m1,m2⟩:=zi (st':=st') (pd':=jump) A y hg;refine⟨_,.one ?_,m1,m2,trivial⟩;have he:=A7l (P:=P) y hg jump;rw[<-u,<-hb]at he;exact A7r (b:=FB.mk fn (ds.map (Jn f)) (some (f.b l))) rfl he B
   split at e
   ·cases e;exact key true _ rfl rfl
   ·cases e;exact key false _ rfl rfl
  ·cases e
variable (hT:Qu P T){call:Ah}(hC:kX P call)(hR:pF P round)(wC:Wu call)(wR:Wu round)
theorem Bgc{ds:List Deferred}(h:(Instr.takeDeferred d).run P w=.ok [] w'):
 step P (lone { fn:=fn,tmps:=tmps,todo:=todo,defers:={ target:=.collected d,args:=#[] }::ds,mode:=.returning,kind:=.normal,roundOf:=none } cs w) =
  .next (lone { fn:=fn,tmps:=tmps,todo:=todo,defers:=ds,mode:=.returning,kind:=.normal,roundOf:=none } cs w'):=
 cJ (by simp[stepG,unwind,h])
theorem A3m {b:FB}{l:Nat}(e:b.Dy=some l)(h:(Instr.beginRound l).run P w=.ok () w'):
 step P (lone (b.at tmps (.beginRound::k)) cs w)=.next (lone (b.at tmps k) cs w'):=
 cJ (by simp[stepG,stepG.exec,stepG.apply,FB.at,e,h,Frame.finish])
theorem SR {b:FB}{ps:Array Tmp}{l:Nat}{mark:List Deferred}{w1:World}{g:FuncId}{args:Array Value}
 (e:(Instr.enterLoop b.fn tmps ps d' body b.Dy).run P w=.ok (l,mark) w1)
 (h2:(do let d ←resolve (Jk tmps) { callee:=.value fo,args:=#[.const (.func (.yield l) #[] #[])],argTypes:=#[] } 0;invoke d.target d.args:Sem Next).run P w1=.ok (.enter g args) w1) :
 step P (lone (b.at tmps (.code (.rangeFunc fo ps d' body)::k)) cs w)=.next (lone (Frame.enter P g args .normal) ((FB.mk b.fn (mark++b.defers) b.Dy).at tmps (.inRangeFunc l::k)::cs) w1):=by
 refine cJ ?_;have he:=FB.eval_at (FB.mk b.fn (mark++b.defers) b.Dy) tmps (.inRangeFunc l::k);simp only[FB.at]at he;simp only[stepG,stepG.exec,FB.at,Sem.runT_eq,e,GStep.bare_after,stepG.apply,he];rw[h2];simp
theorem A94 {b:FB}{l:Nat}{w1:World}(e:(Instr.endLoop l).run P w=.ok jump w1):
 step P (lone (b.at tmps (.endRangeFunc l::k)) cs w)=.next (lone (b.at tmps ((jump.map Item.code).toList++k)) cs w1):=
 cJ (by simp[stepG,stepG.exec,FB.at,e])
theorem A91(j:Uc f h w){l:Nat}{st:LoopState}(e:st≠.busy)(hg:h.get l=some (.loop st pd fn n tm ps d' body d)):
 (Instr.endLoop (f.b l)).run P w=.ok pd { w with heap:=w.heap.setIfInBounds (f.b l) (.loop ⟨.exhausted,pd,fn,Bj f n tm,ps.toArray,d',body,f.b d⟩) }:=by
 obtain⟨u,h2⟩:=vL (P:=P) j hg;have hs:=Q7 (P:=P) (o':=.loop ⟨.exhausted,pd,fn,Bj f n tm,ps.toArray,d',body,f.b d⟩) h2 (by intros;simp);have hb:(st == .busy)=false:=by cases st<;>first|rfl|exact absurd rfl e
 simp only[Instr.endLoop,Sem.run_bind,u,aJ,hb,aX,ak,aU,hs]
theorem SS(hC:kX P call){l:Nat}{g:Nat}
 (j:behind fn n tm ds Dy l k (call g args h)=.go s') (Q:Ug p h) (U:Uc f h w) (W:EV.Ud p args) (hf:X6 p ⟨fn,n,tm,k,ds,false,Dy⟩) :
 (∃F,P.funcs[g]? = some F/\F.body.isSome=true/\(F.name == "runtime.NumGoroutine")=false)/\∃f' w',p l ->
  Steps P (lone (Frame.enter P g (Bw f args).toArray .normal) ((FB.mk fn (ds.map (Jn f)) (Dy.map f.b)).at (Bj f n tm) (.inRangeFunc (f.b l)::k)::cs) w) (lone (O5 f' s'.fr) cs w') /\
  Move p f h w f' s'.h w'/\Wf p h s'.h/\X6 (grow p h s'.h) s'.fr/\s'.fr.fn=fn/\s'.fr.Dy=Dy:=by
 unfold behind at j;split at j
 ·cases j
 next v C y=>
  obtain⟨G,X⟩:=hC _ _ _ _ _ y;refine⟨G,?_⟩;split at j
  next st pd B O g_ ps d' body d hg=>
   have key:st≠.busy->∀todo:List Item,todo=(pd.map Item.code).toList++k->(AR.go ⟨⟨fn,n,tm,todo,ds,false,Dy⟩,C.put l (.loop .exhausted pd B O g_ ps d' body d)⟩=.go s')->∃f' w',p l ->
    Steps P (lone (Frame.enter P g (Bw f args).toArray .normal) ((FB.mk fn (ds.map (Jn f)) (Dy.map f.b)).at (Bj f n tm) (.inRangeFunc (f.b l)::k)::cs) w) (lone (O5 f' s'.fr) cs w') /\
    Move p f h w f' s'.h w'/\Wf p h s'.h/\X6 (grow p h s'.h) s'.fr/\s'.fr.fn=fn/\s'.fr.Dy=Dy:=by
    intro H todo A e;cases e;obtain⟨fr,f1,w1,hs,Y,Z,hm,hwf,aa⟩:=X p f w Q U W ((FB.mk fn (ds.map (Jn f)) (Dy.map f.b)).at (Bj f n tm) (.inRangeFunc (f.b l)::k)::cs);have u:X6 (grow p h C) ⟨fn,n,tm,k,ds,false,Dy⟩:=hf.mono fun _ hi=>.inl hi
    obtain⟨m1,m2⟩:=zi (st':=.exhausted) (pd':=pd) hwf.hok hm.rep hg;have J:grow p h (C.put l (.loop .exhausted pd B O g_ ps d' body d))=grow p h C:=by
     funext q;simp only[grow,Ab.Qv]
    refine⟨f1,_,fun L=>⟨hs.trans (.head (step_leave_returned Z) (.one ?_)),hm.trans m1,hwf.trans m2,?_,rfl,rfl⟩⟩
    ·have e1:((FB.mk fn (ds.map (Jn f)) (Dy.map f.b)).at (Bj f n tm) (.inRangeFunc (f.b l)::k)).finish (Ct f1 v)=(FB.mk fn (ds.map (Jn f1)) (Dy.map f1.b)).at (Bj f1 n tm) (.endRangeFunc (f1.b l)::k):=by
      have:=vK hm.F0 hf;simp only[pO]at this;rw[this,hm.Bj hf.tm,(hm.F0 l L).1];rfl
     rw[e1,A94 (A91 hm.rep H hg),<-A];rfl
    ·rw[J]
     exact⟨u.tm,u.dfr,u.Dy,fun x=>by cases x⟩
   split at j
   ·cases j
   next M=>exact key M _ (by cases pd<;>rfl) j
  ·cases j
end
end
section
section
variable(hT:Qu P T){call:Ah}(hC:kX P call)(hR:pF P round)(wC:Wu call)(wR:Wu round)
include wC wR in
theorem yB {s:H3}(j:(∃s',Cr T call round s=.go s'/\s'.h=h')\/∃v,Cr T call round s=.done v h'):AWf s.h h':=by
 obtain⟨⟨fn,n,tm,todo,ds,ret,Dy⟩,h⟩:=s;have A:∀{todo:List Item} {jump:Option Code} {h':Ab},((∃s',leave fn n tm todo ds Dy h jump=.go s'/\s'.h=h')\/∃v,leave fn n tm todo ds Dy h jump=.done v h')->AWf h h':=by
  intro todo jump h' J;rcases J with⟨s',C,h2⟩|⟨v,C⟩
  ·obtain⟨_,e,_⟩:=zj C
   rw[e]at h2;subst h2;exact .refl _
  ·unfold leave at C
   split at C
   ·split at C<;>cases C
   ·split at C
    next hg=>
     split at C
     ·cases C;exact .put hg _
     ·cases C;exact .put hg _
    ·cases C
 cases ret with
 | true=>
  cases ds with
  | cons d ds=>
   simp only[Cr]at j;split at j
   next hg=>
    rcases j with⟨s',e,rfl⟩|⟨v,e⟩
    ·cases e;exact .put hg _
    ·cases e
   ·rcases j with⟨s',e,_⟩|⟨v,e⟩<;>cases e
  | nil=>
   simp only[Cr]at j;rcases j with⟨s',e,rfl⟩|⟨v,e⟩
   ·split at e
    ·split at e<;>cases e
    ·cases e
   ·split at e
    ·split at e<;>first|(cases e;done)|(cases e;exact .refl _)
    ·cases e
 | false=>
  cases todo with
  | nil=>simp only[Cr]at j;exact A j
  | cons it k=>
   have y:∀{s0:H3},((∃s',AR.go s0=.go s'/\s'.h=h')\/∃v,AR.go s0=.done v h')->s0.h=h':=by
    rintro s0 (⟨s',e,rfl⟩|⟨v,e⟩)<;>cases e;rfl
   have u:((∃s',AR.fail=.go s'/\s'.h=h')\/∃v,AR.fail=.done v h')->AWf h h':=by
    rintro(⟨s',e,_⟩|⟨v,e⟩)<;>cases e
   have B:∀{F:List Nat} {l g:Nat} {args:List EV} {C:Ab},AWf h C->((∃s',behind fn n tm F Dy l k (call g args C)=.go s'/\s'.h=h')\/∃v,behind fn n tm F Dy l k (call g args C)=.done v h')->AWf h h':=by
    intro F l g args C G hb;unfold behind at hb;split at hb
    ·exact u hb
    next v h2 L=>
     split at hb
     next hg=>
      split at hb
      ·exact u hb
      ·rw[<-y hb]
       exact(G.trans (wC _ _ _ _ _ L)).trans (.put hg _)
     ·exact u hb
   cases it with
   | code c=>
    cases c with
    | region id ops dr=>
     cases dr with
     | false=>
      simp only[Cr]at j;split at j
      next H=>rw[<-y j];exact yU wC wR H
      ·exact u j
     | true=>
      simp only[Cr]at j;split at j
      next H=>rw[<-y j];exact SO wC wR H
      ·exact u j
    | cond c a b=>
     simp only[Cr]at j;split at j
     ·rw[<-y j];exact .refl _
     ·rw[<-y j];exact .refl _
     ·exact u j
    | exit id=>
     simp only[Cr]at j;split at j
     ·rw[<-y j];exact .refl _
     ·exact A j
    | ret=>simp only[Cr]at j;exact A j
    | rangeFunc fo ps d' body=>
     simp only[Cr]at j;split at j
     ·split at j
      ·exact B ((AWf.new _ _).trans (.new _ _)) j
      ·split at j
       ·exact B (.new _ _) j
       ·exact u j
     ·exact u j
    | seq a b=>simp only[Cr]at j;rw[<-y j];exact .refl _
    | skip=>simp only[Cr]at j;rw[<-y j];exact .refl _
    | block id c=>simp only[Cr]at j;rw[<-y j];exact .refl _
    | loop c=>simp only[Cr]at j;rw[<-y j];exact .refl _
    | label l=>simp only[Cr]at j;rw[<-y j];exact .refl _
    | scope c=>simp only[Cr]at j;exact u j
    | goto c=>simp only[Cr]at j;exact u j
    | refuse c=>simp only[Cr]at j;exact u j
   | inBlock id=>simp only[Cr]at j;rw[<-y j];exact .refl _
   | inLoop c=>simp only[Cr]at j;rw[<-y j];exact .refl _
   | beginRound=>
    simp only[Cr]at j;split at j
    ·split at j
     next hg=>rw[<-y j];exact .put hg _
     ·exact u j
    ·exact u j
   | _=>simp only[Cr]at j;exact u j
theorem iC.run{w:World}{e:List Nat}{f':Loc}
 (hs:Steps P (lone ((FB.mk fn (ds.map (Jn f)) (Dy.map f.b)).at (Bj f n tm) todo) cs w) (lone ((FB.mk fn (e.map (Jn f')) (Dy.map f'.b)).at (Bj f' n g_) jB) cs w'))
 (hm:Move p f h w f' h' w') (hwf:Wf p h h') (j:X6 (grow p h h') ⟨fn,n,g_,jB,e,false,Dy⟩):iC P p f w cs ⟨⟨fn,n,tm,todo,ds,false,Dy⟩,h⟩ ⟨⟨fn,n,g_,jB,e,false,Dy⟩,h'⟩:=
 ⟨f',w',hs,hm,hwf,j,rfl,rfl⟩
theorem iC.mm{w:World}(e:Ug p h)(j:Uc f h w)(hf:X6 p ⟨fn,n,tm,todo,ds,false,Dy⟩)
 (hs:step P (lone ((FB.mk fn (ds.map (Jn f)) (Dy.map f.b)).at (Bj f n tm) todo) cs w)=.next (lone ((FB.mk fn (ds.map (Jn f)) (Dy.map f.b)).at (Bj f n tm) jB) cs w)) :
 iC P p f w cs ⟨⟨fn,n,tm,todo,ds,false,Dy⟩,h⟩ ⟨⟨fn,n,tm,jB,ds,false,Dy⟩,h⟩:=
 iC.run (.one hs) (Move.refl j) (Wf.refl e) (by rw[Kt _ _ _ rfl];exact⟨hf.tm,hf.dfr,hf.Dy,fun x=>by cases x⟩)
variable{w:World}
theorem SU(e:Ug p h)(j:Uc f h w)(hf:X6 p ⟨fn,n,tm,todo,ds,false,Dy⟩)
 (u:leave fn n tm todo ds Dy h jump=.go s') (y:jump=none->todo = []) (h2:jump=some .ret->∃k,todo=.code .ret::k):iC P p f w cs ⟨⟨fn,n,tm,todo,ds,false,Dy⟩,h⟩ s':=by
 obtain⟨rfl,rfl,hj⟩:=zj u;refine iC.stay e j ?_ ⟨hf.tm,hf.dfr,hf.Dy,fun _=>rfl⟩ rfl rfl;rw[zf,zg];rcases hj with rfl|rfl
 ·rw[y rfl];exact .one (Bsv rfl)
 ·obtain⟨k,rfl⟩:=h2 rfl;exact .one (Bsu rfl)
include hT hC hR in
theorem Bec{ops:Array Oper}(y:Ug p h)(A:Uc f h w)(hf:X6 p ⟨fn,n,tm,k,ds,false,Dy⟩)
 (B:jJ T call round n ops.toList ops.toList tm h=some (g_,h')):iC P p f w cs ⟨⟨fn,n,tm,.code (.region id ops false)::k,ds,false,Dy⟩,h⟩ ⟨⟨fn,n,g_,k,ds,false,Dy⟩,h'⟩:=by
 obtain⟨f',w',hs,hm,hwf,u⟩:=yT hT hC hR ops (i:=0) rfl hf.tm y A B (FB.mk fn (ds.map (Jn f)) (Dy.map f.b)) k cs;have e:=vK hm.F0 hf;simp only[pO]at e;refine iC.run (f':=f') (w':=w') ?_ hm hwf ?_
 ·refine .head Bjt (.trans ?_ (.one (RE (ops:=ops))))
  rw[<-e];have e2:List.range' 0 (List.drop 0 ops.toList).length=List.range ops.size:=by rw[List.range_eq_range'];simp
  have j:Steps P _ _:=hs;rw[e2]at j;exact j
 ·have:=hf.mono (q:=grow p h h') fun _ C=>.inl C
  exact⟨u,this.dfr,this.Dy,fun x=>by cases x⟩
include hT hC hR wC wR in
theorem Blw{ops:Array Oper}(u:Ug p h)(y:Uc f h w)(hf:X6 p ⟨fn,n,tm,k,ds,false,Dy⟩)
 (A:lY T call round n ops.toList tm h=some (g_,h')):iC P p f w cs ⟨⟨fn,n,tm,.code (.region id ops true)::k,ds,false,Dy⟩,h⟩ ⟨⟨fn,n,g_,k,ds,false,Dy⟩,h'⟩:=by
 obtain⟨f',w',hs,hm,hwf,j⟩:=Bnj hT hC hR wC wR hf.tm u y A (FB.mk fn (ds.map (Jn f)) (Dy.map f.b)) (w.tape w.drawn (.order fn id)) k cs (w.drawn+1);have e:=vK hm.F0 hf;simp only[pO]at e;refine iC.run (f':=f') (w':=w') ?_ hm hwf ?_
 ·refine .head (Bpi hT.mixed) (.trans ?_ (.one (RE (ops:=ops))))
  rw[<-e];exact hs
 ·have:=hf.mono (q:=grow p h h') fun _ B=>.inl B
  exact⟨j,this.dfr,this.Dy,fun x=>by cases x⟩
theorem SV {g:Nat}(y:L9 p n tm)(u:Cj tm fo=some (.func g first captured))(l:Nat)(w1:World)(e:Func)(A:P.funcs[g]? = some e)(h2:e.body.isSome=true)(B:(e.name == "runtime.NumGoroutine")=false):
 (do let d ←resolve (Jk (Bj f n tm)) { callee:=.value fo,args:=#[.const (.func (.yield l) #[] #[])],argTypes:=#[] } 0;invoke d.target d.args:Sem Next).run P w1 =
  .ok (.enter g ((Bw f first).toArray ++ #[.func (.yield l) #[] #[]]++(Bw f captured).toArray)) w1:=by
 have C:=Tq (f:=f) y;have hb:¬e.body=none:=by cases G:e.body<;>simp_all
 have F:¬e.name = "runtime.NumGoroutine":=by simpa using B
 have j:Jk (Bj f n tm) (.const (.func (.yield l) #[] #[]))=.func (.yield l) #[] #[]:=rfl;simp[resolve,Bl C u,Ct,Deferred.ofValue,invoke,callFunc,A,F,hb,j]
include hC in
theorem Bh1{ps:Array Tmp}{g:Nat}(hh:Ug p h)(rp:Uc f h w)(hf:X6 p ⟨fn,n,tm,k,ds,false,none⟩)
 (C:Cj tm fo=some (.func g first captured))
 (W:behind fn n tm (h.next::ds) none (Nat.succ h.next) k (call g (first++(.Vz (Nat.succ h.next)::captured)) ((h.new (.deferred true)).new (.loop .ready none fn n tm ps.toList d' body h.next)))=.go s') :
 iC P p f w cs ⟨⟨fn,n,tm,.code (.rangeFunc fo ps d' body)::k,ds,false,none⟩,h⟩ s':=by
 have j:=Fg (v:=.func g first captured) hf.tm C;have X:(D5.deferred true).ok (grow p h (h.new (.deferred true))):=trivial;have m1:Move p f h w (f.set h.next w.heap.size 0) (h.new (.deferred true)) { w with heap:=w.heap.push (.deferred (some [])) }:=Move.new hh rp 0 rfl rfl rfl rfl rfl;have y:Wf p h (h.new (.deferred true)):=Wf.new hh X;have Y:Bj f n tm=Bj (f.set h.next w.heap.size 0) n tm:=Lw m1.F0 hf.tm;have Z:grow p h (h.new (.deferred true)) h.next:=.inr ⟨aE _,by rw[Ab.D4];omega⟩
 have F:(D5.loop .ready none fn n tm ps.toList d' body h.next).ok (grow p h (h.new (.deferred true))):=⟨hf.tm.mono fun _ A=>.inl A,Z⟩;have m2:Move (grow p h (h.new (.deferred true))) (f.set h.next w.heap.size 0) (h.new (.deferred true)) { w with heap:=w.heap.push (.deferred (some [])) }
  ((f.set h.next w.heap.size 0).set (h.next+1) (w.heap.size+1) 0) ((h.new (.deferred true)).new (.loop .ready none fn n tm ps.toList d' body h.next))
  { w with heap:=(w.heap.push (.deferred (some []))).push (.loop ⟨.ready,none,fn,Bj f n tm,ps,d',body,w.heap.size⟩) }:=by
  have hx:=Move.new (w':={ w with heap:=(w.heap.push (.deferred (some []))).push (.loop ⟨.ready,none,fn,Bj f n tm,ps,d',body,w.heap.size⟩) }) (o:=.loop .ready none fn n tm ps.toList d' body h.next) (r:=.loop ⟨.ready,none,fn,Bj f n tm,ps,d',body,w.heap.size⟩) y.hok m1.rep 0 rfl ?_ rfl rfl rfl
  ·have e1:(h.new (.deferred true)).next=h.next+1:=rfl
   have e2:({ w with heap:=w.heap.push (.deferred (some [])) }:World).heap.size=w.heap.size+1:=by simp
   rw[e1,e2]at hx;exact hx
  ·have aa:Bj f n tm=Bj ((f.set h.next w.heap.size 0).set (h.new (.deferred true)).next ({ w with heap:=w.heap.push (.deferred (some [])) }:World).heap.size 0) n tm:=by
    rw[Y];exact Lw (Loc.Rc _ _ _ (fun x=>absurd (y.hok.lt _ x) a_)) (hf.tm.mono fun _ A=>.inl A)
   show Obj.loop _=Obj.loop _;rw[<-aa,eK];have e3:((f.set h.next w.heap.size 0).set (h.new (.deferred true)).next ({ w with heap:=w.heap.push (.deferred (some [])) }:World).heap.size 0).b h.next=w.heap.size:=by
    rw[(Loc.Ut _ _ _ (by rw[Ab.D4];omega)).1,Loc.jA]
   rw[e3]
 have ab:Wf (grow p h (h.new (.deferred true))) (h.new (.deferred true)) ((h.new (.deferred true)).new (.loop .ready none fn n tm ps.toList d' body h.next)):=Wf.new y.hok (F.mono fun _ A=>.inl A);have e:=m1.trans m2;have u:=y.trans ab;generalize G:(f.set h.next w.heap.size 0).set (h.next+1) (w.heap.size+1) 0=f2 at m2 e;have ad:f2.b h.next=w.heap.size:=by rw[<-G,(Loc.Ut _ _ _ a_).1,Loc.jA]
 have H:f2.b (h.next+1)=w.heap.size+1:=by rw[<-G,Loc.jA]
 have ae:grow p h ((h.new (.deferred true)).new (.loop .ready none fn n tm ps.toList d' body h.next)) h.next:=.inr ⟨aE _,by rw[Ab.D4,Ab.D4];omega⟩
 have J:grow p h ((h.new (.deferred true)).new (.loop .ready none fn n tm ps.toList d' body h.next)) (h.next+1):=.inr ⟨a_,by rw[Ab.D4,Ab.D4];omega⟩;have B:EV.Ud (grow p h ((h.new (.deferred true)).new (.loop .ready none fn n tm ps.toList d' body h.next))) (first++(.Vz (Nat.succ h.next)::captured)):=
  qV (oI j.1) ⟨J,oI j.2⟩
 have L:X6 (grow p h ((h.new (.deferred true)).new (.loop .ready none fn n tm ps.toList d' body h.next))) ⟨fn,n,tm,k,h.next::ds,false,none⟩:=by
  refine⟨hf.tm.mono fun _ A=>.inl A,fun d hd=>?_,fun l hl=>(by cases hl),fun x=>(by cases x)⟩;rcases bX.1 hd with rfl|hd
  ·exact ae
  ·exact .inl (hf.dfr d hd)
 obtain⟨⟨gn,g1,g2,g3⟩,f',w',hb⟩:=SS (cs:=cs) hC W u.hok e.rep B L;obtain⟨hs,hm,hwf,M,O,Q⟩:=hb J;refine⟨f',w',?_,e.trans hm,u.trans hwf,?_,O,Q⟩
 ·rw[zf]
  refine .head ?_ hs;have U:=SR (P:=P) (b:=FB.mk fn (ds.map (Jn f)) none) (k:=k) (cs:=cs) (w:=w) (fo:=fo) (ps:=ps) (d':=d') (body:=body) (tmps:=Bj f n tm)
   (l:=w.heap.size+1) (mark:=[{ target:=.collected w.heap.size,args:=#[] }]) (w1:={ w with heap:=(w.heap.push (.deferred (some []))).push (.loop ⟨.ready,none,fn,Bj f n tm,ps,d',body,w.heap.size⟩) })
   (g:=g) (args:=(Bw f first).toArray ++ #[.func (.yield (w.heap.size+1)) #[] #[]]++(Bw f captured).toArray) (by simp[Instr.enterLoop];rfl) (SV hf.tm C _ _ gn g1 g2 g3)
  have e1:Bw f2 (first++(.Vz (Nat.succ h.next)::captured))=Bw f first++(.func (.yield (w.heap.size+1)) #[] #[]::Bw f captured):=by
   rw[Sv,Bw,<-Hj e.F0 _ j.1,<-Hj e.F0 _ j.2];simp only[Ct];rw[show f2.b (Nat.succ h.next)=w.heap.size+1 from H]
  have e2:(Bj f n tm)=Bj f2 n tm:=Lw e.F0 hf.tm;have e3:ds.map (Jn f)=ds.map (Jn f2):=by
   apply cY;intro d hd;unfold Jn;rw[(e.F0 d (hf.dfr d hd)).1]
  rw[e1,<-e2,dT,<-e3];have e4:Jn f2 h.next = { target:=.collected w.heap.size,args:=#[] }:=by unfold Jn;rw[ad]
  rw[e4,show f2.b (Nat.succ h.next)=w.heap.size+1 from H];have e5:((Bw f first).toArray ++ #[Value.func (.yield (w.heap.size+1)) #[] #[]]++(Bw f captured).toArray)=(Bw f first++(.func (.yield (w.heap.size+1)) #[] #[]::Bw f captured)).toArray:=by simp
  rw[e5]at U;exact U
 ·exact M.mono fun q hq=>by rw[qH p u.next hwf.next]at hq;exact hq
include hC in
theorem Bat{l0:Nat}{ps:Array Tmp}{g:Nat}(A:Ug p h)(rp:Uc f h w)(hf:X6 p ⟨fn,n,tm,k,ds,false,some l0⟩)
 (B:Cj tm fo=some (.func g first captured)) {U:LoopState} {W n0:Nat} {X:List Tmp} {C j:Code} {d0:Nat} (F:h.get l0=some (.loop U pd0 W n0 mj X C j d0))
 (Y:behind fn n tm ds (some l0) h.next k (call g (first++(.Vz h.next::captured)) (h.new (.loop .ready none fn n tm ps.toList d' body d0)))=.go s') :
 iC P p f w cs ⟨⟨fn,n,tm,.code (.rangeFunc fo ps d' body)::k,ds,false,some l0⟩,h⟩ s':=by
 have e:=Fg (v:=.func g first captured) hf.tm B;have G:p d0:=(A.get l0 _ F).2.2;have m1:Move p f h w (f.set h.next w.heap.size 0) (h.new (.loop .ready none fn n tm ps.toList d' body d0)) { w with heap:=w.heap.push (.loop ⟨.ready,none,fn,Bj f n tm,ps,d',body,f.b d0⟩) }:=by
  refine Move.new A rp 0 rfl ?_ rfl rfl rfl;show Obj.loop _=Obj.loop _;rw[<-Lw (Loc.Rc f _ _ A.fresh) hf.tm,eK,(Loc.Rc f w.heap.size 0 A.fresh d0 G).1]
 have u:Wf p h (h.new (.loop .ready none fn n tm ps.toList d' body d0)):=Wf.new A ⟨hf.tm.mono fun _ Z=>.inl Z,.inl G⟩;generalize aa:f.set h.next w.heap.size 0=f2 at m1
 have eb:f2.b h.next=w.heap.size:=by rw[<-aa,Loc.jA]
 have H:grow p h (h.new (.loop .ready none fn n tm ps.toList d' body d0)) h.next:=.inr ⟨aE _,by rw[Ab.D4];omega⟩
 have y:EV.Ud (grow p h (h.new (.loop .ready none fn n tm ps.toList d' body d0))) (first++(.Vz h.next::captured)):=qV (oI e.1) ⟨H,oI e.2⟩;have J:X6 (grow p h (h.new (.loop .ready none fn n tm ps.toList d' body d0))) ⟨fn,n,tm,k,ds,false,some l0⟩:=hf.mono fun _ Z=>.inl Z
 obtain⟨⟨gn,g1,g2,g3⟩,f',w',hb⟩:=SS (cs:=cs) hC Y u.hok m1.rep y J;obtain⟨hs,hm,hwf,L,M,O⟩:=hb H;refine⟨f',w',?_,m1.trans hm,u.trans hwf,?_,M,O⟩
 ·rw[zf]
  refine .head ?_ hs;obtain⟨ab,al⟩:=vL (P:=P) rp F;have Q:=SR (P:=P) (b:=FB.mk fn (ds.map (Jn f)) (some (f.b l0))) (k:=k) (cs:=cs) (w:=w) (fo:=fo) (ps:=ps) (d':=d') (body:=body) (tmps:=Bj f n tm)
   (l:=w.heap.size) (mark:=[]) (w1:={ w with heap:=w.heap.push (.loop ⟨.ready,none,fn,Bj f n tm,ps,d',body,f.b d0⟩) })
   (g:=g) (args:=(Bw f first).toArray ++ #[.func (.yield w.heap.size) #[] #[]]++(Bw f captured).toArray) (by simp[Instr.enterLoop,ab]) (SV hf.tm B _ _ gn g1 g2 g3)
  have e1:Bw f2 (first++(.Vz h.next::captured))=Bw f first++(.func (.yield w.heap.size) #[] #[]::Bw f captured):=by
   rw[Sv,Bw,<-Hj m1.F0 _ e.1,<-Hj m1.F0 _ e.2];simp only[Ct];rw[eb]
  have e2:=vK m1.F0 hf;simp only[pO]at e2;rw[e1,<-e2,eb,<-Lw m1.F0 hf.tm];have e5:((Bw f first).toArray ++ #[Value.func (.yield w.heap.size) #[] #[]]++(Bw f captured).toArray)=(Bw f first++(.func (.yield w.heap.size) #[] #[]::Bw f captured)).toArray:=by simp
  rw[e5]at Q;exact Q
 ·exact L.mono fun q hq=>by rw[qH p u.next hwf.next]at hq;exact hq
include hT hC hR wC wR in
theorem Bko {s:H3}(j:Cr T call round s=.go s')(hf:X6 p s.fr)(y:Ug p s.h)(u:Uc f s.h w)(cs:List Frame):iC P p f w cs s s':=by
 obtain⟨⟨fn,n,tm,todo,ds,ret,Dy⟩,h⟩:=s;cases ret with
 | true=>
  have J:Dy=none:=hf.ret rfl;subst J;cases ds with
  | cons d ds=>
   simp only[Cr]at j;split at j
   next hg=>
    cases j;obtain⟨r0,B,rfl⟩:=u.obj d _ hg;have A:(Instr.takeDeferred (f.b d)).run P w=.ok [] { w with heap:=w.heap.setIfInBounds (f.b d) (.deferred none) }:=by
     have H:=Om (P:=P) B (by intros;simp);have h2:=Q7 (P:=P) (o':=.deferred none) B (by intros;simp);simp only[bK]at H;simp only[Instr.takeDeferred,Sem.run_bind,H,aJ,h2,aU]
    have hm:Move p f h w f (h.put d (.deferred false)) { w with heap:=w.heap.setIfInBounds (f.b d) (.deferred none) }:=Move.setObj u hg rfl;have hwf:Wf p h (h.put d (.deferred false)):=Wf.put y hg trivial;refine⟨f,_,.one ?_,hm,hwf,?_,rfl,rfl⟩
    ·rw[zg,zg];exact Bgc A
    ·exact X6.mono (p:=p) ⟨hf.tm,fun x Y=>hf.dfr x (aT _ Y),hf.Dy,fun _=>rfl⟩ fun _ L=>.inl L
   ·cases j
  | nil=>
   simp only[Cr]at j;split at j
   ·split at j<;>cases j
   ·cases j
 | false=>
  have W:=Tq (f:=f) hf.tm;have C:∀{it:Item} {k:List Item},X6 p ⟨fn,n,tm,it::k,ds,false,Dy⟩->X6 p ⟨fn,n,tm,k,ds,false,Dy⟩:=fun h=>⟨h.tm,h.dfr,h.Dy,h.ret⟩
  cases todo with
  | nil=>simp only[Cr]at j;exact SU y u hf j (fun _=>rfl) (fun e=>by cases e)
  | cons it k=>
   cases it with
   | code c=>
    cases c with
    | region id ops dr=>
     cases dr with
     | false=>
      simp only[Cr]at j;split at j
      next M=>cases j;exact Bec hT hC hR y u (C hf) M
      ·cases j
     | true=>
      simp only[Cr]at j;split at j
      next M=>cases j;exact Blw hT hC hR wC wR y u (C hf) M
      ·cases j
    | cond c a b=>
     simp only[Cr]at j;split at j
     next O=>cases j;exact iC.mm y u hf (SP (t:=true) (by rw[Bl W O];rfl))
     next O=>cases j;exact iC.mm y u hf (SP (t:=false) (by rw[Bl W O];rfl))
     ·cases j
    | exit id=>
     simp only[Cr]at j;split at j
     next he=>cases j;exact iC.mm y u hf (Boe he)
     ·obtain⟨_,_,hj⟩:=zj j
      rcases hj with hj|hj<;>cases hj
    | ret=>simp only[Cr]at j;exact SU y u hf j (fun e=>by cases e) (fun _=>⟨k,rfl⟩)
    | rangeFunc fo ps d' body=>
     simp only[Cr]at j;split at j
     next g first captured F=>
      split at j
      ·exact Bh1 hC y u (C hf) F j
      ·split at j
       next Q=>exact Bat hC y u (C hf) F Q j
       ·cases j
     ·cases j
    | seq a b=>simp only[Cr]at j;cases j;exact iC.mm y u hf Brg
    | skip=>simp only[Cr]at j;cases j;exact iC.mm y u hf Boc
    | block id c=>simp only[Cr]at j;cases j;exact iC.mm y u hf Bl3
    | loop c=>simp only[Cr]at j;cases j;exact iC.mm y u hf Bpc
    | label l=>simp only[Cr]at j;cases j;exact iC.mm y u hf Bn2
    | scope c=>simp only[Cr]at j;cases j
    | goto c=>simp only[Cr]at j;cases j
    | refuse c=>simp only[Cr]at j;cases j
   | inBlock id=>simp only[Cr]at j;cases j;exact iC.mm y u hf Bcz
   | inLoop c=>simp only[Cr]at j;cases j;exact iC.mm y u hf Bh9
   | beginRound=>
    simp only[Cr]at j;split at j
    next l=>
     split at j
     next pd G X g_ ps d' body d hg=>
      cases j;obtain⟨H,h2⟩:=vL (P:=P) u hg;obtain⟨m1,U⟩:=zi (st':=.busy) (pd':=pd) y u hg;have hs:=Q7 (P:=P) (o':=.loop ⟨.busy,pd,G,Bj f X g_,ps.toArray,d',body,f.b d⟩) h2 (by intros;simp);have A:(Instr.beginRound (f.b l)).run P w=.ok () { w with heap:=w.heap.setIfInBounds (f.b l) (.loop ⟨.busy,pd,G,Bj f X g_,ps.toArray,d',body,f.b d⟩) }:=by
       simp only[Instr.beginRound,Sem.run_bind,H,aJ,hs,aU]
      exact iC.run (.one (A3m (b:=FB.mk fn (ds.map (Jn f)) (some (f.b l))) rfl A)) m1 U ((C hf).mono fun _ L=>.inl L)
     ·cases j
    ·cases j
   | _=>simp only[Cr]at j;cases j
end
end
section
section
variable(hT:Qu P T){call:Ah}(hC:kX P call)(hR:pF P round)(wC:Wu call)(wR:Wu round)
variable{w:World}
include hT in
theorem PW {s:H3}(j:Cr T call round s=.done v h')(hf:X6 p s.fr)(B:Ug p s.h)(C:Uc f s.h w):Fin P p f w s v h':=by
 obtain⟨⟨fn,n,tm,todo,ds,ret,Dy⟩,h⟩:=s;cases ret with
 | true=>
  have F:Dy=none:=hf.ret rfl;subst F;cases ds with
  | cons d ds=>
   simp only[Cr]at j;split at j<;>cases j
  | nil=>
   simp only[Cr]at j;split at j
   next y G=>
    have key:∀{vs:List EV} {v:EV},Ni T tm h y.results.toList=some vs->(vs = [v]\/((∀x,vs≠[x])/\v=.tuple vs))->Fin P p f w ⟨⟨fn,n,tm,todo,[],true,none⟩,h⟩ v h:=by
     intro vs v L h2;obtain⟨M,O⟩:=A9m hT B C hf.tm L h2;exact⟨rfl,⟨rfl,rfl,rfl,y,(hT.fn fn y G).1,M⟩,O⟩
    split at j
    next H=>cases j;exact key H (.inl rfl)
    next l J H=>cases j;exact key H (.inr ⟨fun x e=>by subst e;exact J x rfl,rfl⟩)
    ·cases j
   ·cases j
 | false=>
  cases todo with
  | nil=>simp only[Cr]at j;exact zk B C j (.inl ⟨rfl,rfl⟩)
  | cons it k=>
   have u:∀{A:List Nat} {l:Nat} {r:Option (EV × Ab)},behind fn n tm A Dy l k r=.done v h'->False:=by
    intro A l r hb;unfold behind at hb;split at hb
    ·cases hb
    ·split at hb
     ·split at hb<;>cases hb
     ·cases hb
   cases it with
   | code c=>
    cases c with
    | region id ops dr=>cases dr<;>(simp only[Cr]at j;split at j<;>cases j)
    | cond c a b=>simp only[Cr]at j;split at j<;>cases j
    | exit id=>
     simp only[Cr]at j;split at j
     ·cases j
     next he=>exact zk B C j (.inr (.inr ⟨id,k,rfl,he,rfl⟩))
    | ret=>simp only[Cr]at j;exact zk B C j (.inr (.inl ⟨k,rfl,rfl⟩))
    | rangeFunc fo ps d' body=>
     simp only[Cr]at j;split at j
     ·split at j
      ·exact(u j).elim
      ·split at j
       ·exact(u j).elim
       ·cases j
     ·cases j
    | _=>simp only[Cr]at j;cases j
   | beginRound=>
    simp only[Cr]at j;split at j
    ·split at j<;>cases j
    ·cases j
   | _=>simp only[Cr]at j;cases j
theorem iC.refl{s:H3}(hf:X6 p s.fr)(e:Ug p s.h)(j:Uc f s.h w):iC P p f w cs s s:=
 ⟨f,w,.refl _ _,Move.refl j,Wf.refl e,by rw[Kt _ _ _ rfl];exact hf,rfl,rfl⟩
def qG(P:Program)(s s':H3):Prop:=∀p f w cs,X6 p s.fr->Ug p s.h->Uc f s.h w->iC P p f w cs s s'
theorem qG.trans {s s1 s2:H3}(a:qG P s s1)(b:qG P s1 s2):qG P s s2:=by
 intro p f w cs hf G H;obtain⟨f1,w1,y,u,e,A,e1,e2⟩:=a p f w cs hf G H;obtain⟨f2,w2,B,C,j,F,e3,e4⟩:=b _ f1 w1 cs A e.hok u.rep;exact⟨f2,w2,y.trans B,u.trans C,e.trans j,by rw[<-qH p e.next j.next];exact F,e3.trans e1,e4.trans e2⟩
theorem vM:∀(l:List EV) (i:Nat) (t:Tr EV) (j:Nat),(setArgs l i t).get j=if i<=j/\j<i+l.length then l[j-i]? else t.get j
 | [],i,t,j=>by simp[setArgs];omega
 | v::r,i,t,j=>by
  simp only[setArgs];rw[vM r (i+1) (t.put i (some v)) j,Tr.get_put];simp only[bJ];by_cases e:i=j
  ·subst e
   rw[aG a_,aI rfl,aI a_];simp
  ·by_cases h2:i+1<=j/\j<i+1+r.length
   ·rw[aI h2,aI a_]
    rw[show j-i=(j-(i+1))+1 from a_,bm]
   ·rw[aG h2,aG e,aG a_]
theorem Bbx(f:Loc)(h:args.length<=n):Bj f n (setArgs args 0 .nil)=(Bw f args).toArray++Array.replicate (n-(Bw f args).toArray.size) undef:=by
 apply gK;intro j;rw[sX];rw[Array.getElem?_append];simp only[dh,Dh,cI,pI,Array.getElem?_replicate];unfold tmp;rw[vM];by_cases hj:j<args.length
 ·rw[aI a_,aI a_,aI hj,gk]
  rw[aD hj];rfl
 ·rw[aG (show ¬(0<=j/\j<0+args.length) from a_),aG hj]
  by_cases e:j<n
  ·rw[aI e,aI a_];rfl
  ·rw[aG e,aG a_]
theorem Bkd(h:args.length<=n)(j:EV.Ud p args):L9 p n (setArgs args 0 .nil) where
 ok t v e:=by
  rw[vM]at e;split at e
  ·exact(I9 p args).1 j v (bh e)
  ·cases e
 out t u:=by
  rw[vM,aG a_];rfl
end
end
section
theorem vN:∀{a b:List EV} {r:Bool},Fa a b=some r->a.length=b.length
 | [],[],_,_=>rfl
 | x::a,y::b,r,h=>by
  simp only[Fa]at h;split at h
  ·simp[vN h]
  ·split at h
   next h2=>simp[vN h2]
   ·cases h
  ·cases h
 | [],_::_,_,h=>by cases h
 | _::_,[],_,h=>by cases h
theorem vO:∀(k:Nat) {a b:List EV} {r:Bool},Fa a b=some r->∃j e,Fa (a.take k) (b.take k)=some j/\Fa (a.drop k) (b.drop k)=some e/\r=(j&&e)
 | 0,a,b,r,h=>⟨true,r,rfl,h,by simp⟩
 | k+1,[],[],r,h=>by cases h;exact⟨true,true,rfl,rfl,rfl⟩
 | k+1,x::a,y::b,r,h=>by
  simp only[Fa]at h;split at h
  next u=>
   obtain⟨j,e,A,h2,B⟩:=vO k h;exact⟨j,e,by simp only[gJ,Fa,u,A],by simpa using h2,B⟩
  next u=>
   split at h
   next r0 h0=>
    cases h;obtain⟨j,e,A,h2,B⟩:=vO k h0;exact⟨false,e,by simp only[gJ,Fa,u,A],by simpa using h2,rfl⟩
   ·cases h
  ·cases h
 | k+1,[],_::_,_,h=>by cases h
 | k+1,_::_,[],_,h=>by cases h
theorem tt {b:Nat}{s:List Nat}{x:EV}{l:List EV}(h:shaped (b::s) (x::l)=true):shaped s l=true/\((b=0/\∃k n,x=.int k n)\/(b=1/\∃c,x=.bool c)\/(b=2/\∃c,x=.str c)):=by
 cases x with
 | int k n=>
  simp only[shaped]at h;rw[Br]at h;split at h
  next hb=>exact⟨h,.inl ⟨aK hb,k,n,rfl⟩⟩
  ·cases h
 | bool c=>
  simp only[shaped]at h;rw[Br]at h;split at h
  next hb=>exact⟨h,.inr (.inl ⟨aK hb,c,rfl⟩)⟩
  ·cases h
 | str c=>
  simp only[shaped]at h;rw[Br]at h;split at h
  next hb=>exact⟨h,.inr (.inr ⟨aK hb,c,rfl⟩)⟩
  ·cases h
 | _=>cases h
theorem L5:∀{sh:List Nat} {l:List EV},shaped sh l=true->l.length=sh.length
 | [],[],_=>rfl
 | b::s,x::l,h=>by rw[bJ,bJ,L5 (tt h).1]
 | [],_::_,h=>by cases h
 | _::_,[],h=>by cases h
theorem vP:∀{s1 s2:List Nat} {l:List EV},shaped (s1++s2) l=true->shaped s1 (l.take s1.length)=true/\shaped s2 (l.drop s1.length)=true
 | [],s2,l,h=>⟨rfl,h⟩
 | b::s1,s2,l,h=>by
  cases l with
  | nil=>have:=L5 h;simp at this
  | cons x l=>
   obtain⟨j,h2⟩:=tt (s:=s1++s2) h;obtain⟨e,h4⟩:=vP j;refine⟨?_,h4⟩;simp only[bJ,gJ];rcases h2 with⟨rfl,k,n,rfl⟩|⟨rfl,c,rfl⟩|⟨rfl,c,rfl⟩
   ·exact e
   ·exact e
   ·exact e
def pP(fl:TypeId->Option (List Nat)):List Field->Nat->Option (List Nat)
 | [],_=>some []
 | f::r,off=>match fl f.type with
  | some s=>if f.offset=off/\f.name≠"_" then(match pP fl r (off+s.length)with|some t=>some (s++t)|none=>none)else none
  | none=>none
def flat(P:Program):Nat->TypeId->Option (List Nat)
 | 0=>fun _=>none
 | d+1=>fun t=>match P.info? t with
  | some i=>match P.underlying t with
   | some (.int _)=>if i.size=1 then some [0]else none
   | some .bool=>if i.size=1 then some [1]else none
   | some .string=>if i.size=1 then some [2]else none
   | some (.struct j)=>if P.stoodInHeld t=false then(match pP (flat P d) j.toList 0 with
    | some s=>if s.length=i.size then some s else none
    | none=>none)else none
   | some (.array len e)=>match flat P d e with
    | some s=>if len*s.length=i.size then some (List.replicate len s).flatten else none
    | none=>none
   | _=>none
  | none=>none
def iJ(P:Program)(t:TypeId):Bool:=match P.underlying t with|some (.struct _)=>true|some (.array _ _)=>true|_=>false
def mq(P:Program)(f:Loc)(t:TypeId)(l:List EV):Value:=if iJ P t=true then .agg (Bw f l).toArray else(match l with|v::_=>Ct f v | []=>undef)
theorem Vy(n:Nat)(s:List Nat):(List.replicate n s).flatten.length=n*s.length:=by
 induction n with
 | zero=>simp
 | succ n e=>rw[eQ,cK,aF,e,gH];omega
theorem Wo{s:List Nat}(h:flat P d t=some s):(∃i,P.info? t=some i/\i.size=s.length)/\(iJ P t=false->(s = [0]/\∃k,P.underlying t=some (.int k))\/(s = [1]/\P.underlying t=some .bool)\/(s = [2]/\P.underlying t=some .string))/\∀w,(isAgg t).run P w=.ok (iJ P t) w:=by
 cases d with
 | zero=>simp[flat]at h
 | succ d=>
  simp only[flat]at h;split at h
  next i u=>
   split at h
   next k hu=>
    split at h
    next j=>cases h;exact⟨⟨i,u,j⟩,fun _=>.inl ⟨rfl,k,hu⟩,fun w=>by simp[isAgg,underlying,iJ,hu]⟩
    ·cases h
   next hu=>
    split at h
    next j=>cases h;exact⟨⟨i,u,j⟩,fun _=>.inr (.inl ⟨rfl,hu⟩),fun w=>by simp[isAgg,underlying,iJ,hu]⟩
    ·cases h
   next hu=>
    split at h
    next j=>cases h;exact⟨⟨i,u,j⟩,fun _=>.inr (.inr ⟨rfl,hu⟩),fun w=>by simp[isAgg,underlying,iJ,hu]⟩
    ·cases h
   next y hu=>
    split at h
    ·split at h
     ·split at h
      next j=>cases h;exact⟨⟨i,u,j.symm⟩,fun e=>by simp[iJ,hu]at e,fun w=>by simp[isAgg,underlying,iJ,hu]⟩
      ·cases h
     ·cases h
    ·cases h
   next len e hu=>
    split at h
    ·split at h
     next j=>cases h;exact⟨⟨i,u,by rw[Vy];exact j.symm⟩,fun e=>by simp[iJ,hu]at e,fun w=>by simp[isAgg,underlying,iJ,hu]⟩
     ·cases h
    ·cases h
   ·cases h
  ·cases h
theorem Rf(f:Loc)(w:World){s:List Nat}(h:flat P d t=some s){xs:List EV}(A:off+s.length<=xs.length:=by omega):
 (Go.part t (Bw f xs).toArray off).run P w=.ok (mq P f t ((xs.drop off).take s.length)) w:=by
 obtain⟨⟨i,B,hs⟩,j,e⟩:=Wo h;have u:(sizeOf t).run P w=.ok s.length w:=by simp[sizeOf,typeInfo,B,hs]
 unfold mq;cases y:iJ P t with
 | true=>
  simp only[Go.part,Sem.run_bind,e w,y,aJ,bK,u,aU];congr 2;apply fC;simp[Q3,List.extract_eq_take_drop]
 | false=>
  have C:s.length=1:=by rcases j y with⟨rfl,_⟩|⟨rfl,_⟩|⟨rfl,_⟩<;>rfl
  rw[C]at A⊢;have hg:xs[off]? = some xs[off]:=aD a_;have e1:(xs.drop off).take 1 = [xs[off]]:=by
   rw[dH a_];rfl
  have e2:(Bw f xs).toArray[off]? = some (Ct f xs[off]):=by simp[Q3,hg]
  rw[e1];simp only[Go.part,Sem.run_bind,e w,y,aJ,aX,ak,e2,aU]
def zm(P:Program)(d D:Nat):Prop:=∀(t:TypeId) (s:List Nat),flat P d t=some s->∀(f:Loc) (w:World) (a b:List EV) (r:Bool),shaped s a=true->Fa a b=some r->(Op.equalIn D t (mq P f t a) (mq P f t b)).run P w=.ok r w
theorem SW(f:Loc)(w:World){D:Nat}(F:zm P d D)(a b:List EV)(G:a.length=b.length):∀(B:List Field) (off:Nat) (s:List Nat) (r:Bool),pP (flat P d) B off=some s->shaped s (a.drop off)=true->Fa (a.drop off) (b.drop off)=some r ->
 (Op.eqFields D (Bw f a).toArray (Bw f b).toArray B).run P w=.ok r w
 | [],off,s,r,h,hs,y=>by
  simp only[pP]at h;cases h;have:=L5 hs;rw[fS,cO]at this;rw[this]at y;have h2:=vN y;rw[fS]at h2;rw[cO.1 h2.symm]at y;cases y;simp[Op.eqFields]
 | fd::B,off,s,r,h,hs,y=>by
  simp only[pP]at h;split at h
  next s1 e=>
   split at h
   next j=>
    split at h
    next s2 H=>
     cases h;obtain⟨J,U⟩:=vP hs;obtain⟨C,Y,L,h2,W⟩:=vO s1.length y;rw[cV]at U;rw[cV,cV]at h2;have hlen:=L5 hs;rw[bA,aF]at hlen;have X:=SW f w F a b G B (off+s1.length) s2 Y H U h2;by_cases Z:off+s1.length<=a.length
     ·have p1:=Rf f w e (xs:=a) (off:=off) Z
      have p2:=Rf f w e (xs:=b) (off:=off);have M:=F fd.type s1 e f w _ _ C J L;simp only[Op.eqFields,j.2,ne_eq,aQ,bK,Sem.run_bind,j.1,p1,p2,M,aJ];subst W;cases C
      ·simp
      ·simpa using X
     ·
      have h0:s1.length=0:=a_
      obtain⟨⟨i,hi,O⟩,Q,A⟩:=Wo e;have hA:iJ P fd.type=true:=by
       cases ha:iJ P fd.type with
       | true=>rfl
       | false=>rcases Q ha with⟨rfl,_⟩|⟨rfl,_⟩|⟨rfl,_⟩<;>simp at h0
      have u:(sizeOf fd.type).run P w=.ok 0 w:=by simp[sizeOf,typeInfo,hi,O,h0]
      have hp:∀xs:List EV,(Go.part fd.type (Bw f xs).toArray off).run P w=.ok (mq P f fd.type []) w:=by
       intro xs;simp only[Go.part,Sem.run_bind,A w,hA,aJ,bK,u,aU,mq,dU];congr 2;apply fC;simp[Bw]
      rw[h0,List.take_zero,List.take_zero]at L;rw[h0,List.take_zero]at J;have M:=F fd.type s1 e f w [] [] C J L;simp only[Op.eqFields,j.2,ne_eq,aQ,bK,Sem.run_bind,j.1,hp,M,aJ];subst W;cases C
      ·simp
      ·simpa using X
    ·cases h
   ·cases h
  ·cases h
theorem SX(f:Loc)(w:World){D:Nat}(F:zm P d D){e:TypeId}{s:List Nat}(hs:flat P d e=some s)(a b:List EV)(B:a.length=b.length):∀(n k:Nat) (r:Bool),(k+n)*s.length=a.length->shaped (List.replicate n s).flatten (a.drop (k*s.length))=true ->
 Fa (a.drop (k*s.length)) (b.drop (k*s.length))=some r ->
 (Op.eqItems D e (P.cellsOf e) (Bw f a).toArray (Bw f b).toArray (List.range' k n)).run P w=.ok r w
 | 0,k,r,j,u,A=>by
  rw[dU]at j;rw[dc a_,dc a_]at A;cases A;simp[Op.eqItems]
 | n+1,k,r,j,u,A=>by
  obtain⟨⟨i,M,C⟩,_⟩:=Wo hs;have G:P.cellsOf e=s.length:=by simp[Program.cellsOf,M,C]
  rw[eQ,cK]at u;obtain⟨O,H⟩:=vP u;obtain⟨J,Q,U,h2,W⟩:=vO s.length A;have y:k*s.length+s.length=(k+1)*s.length:=by rw[gH];omega
  rw[cV,y]at H;rw[cV,cV,y]at h2;have L:=SX f w F hs a b B n (k+1) Q (by rw[<-j];congr 1;omega) H h2;have X:k*s.length+s.length<=a.length:=by
   rw[<-j,show k+(n+1)=(k+1)+n from a_,gH,gH];omega
  have p1:=Rf f w hs (xs:=a) (off:=k*s.length) X;have Y:=Rf f w hs (xs:=b) (off:=k*s.length);have Z:=F e s hs f w _ _ J O U;rw[gF];simp only[Op.eqItems,Sem.run_bind,G,p1,Y,Z,aJ];rw[G]at L;subst W;cases J
  ·simp
  ·simpa using L
theorem SY:∀(d D:Nat),d<=D->zm P d D
 | 0,_,_=>fun t n h=>by simp[flat]at h
 | d+1,0,h=>a_
 | d+1,D+1,hd=>by
  have U:=SY d D a_;intro t s h f w a b r j u;have A:=vN u;obtain⟨_,F,_⟩:=Wo h;by_cases C:iJ P t=true
  ·simp only[flat]at h
   split at h
   next i Z=>
    split at h
    next k hu=>simp[iJ,hu]at C
    next hu=>simp[iJ,hu]at C
    next hu=>simp[iJ,hu]at C
    next W hu=>
     split at h
     next J=>
      split at h
      next s' L=>
       split at h
       ·cases h
        have hf:P.fieldsOf t=W:=by simp[Program.fieldsOf,hu]
        simp only[mq,C,bK];rw[run_equalIn_struct w D t _ _ (by rw[hf];exact hu) J,hf];exact SW f w U a b A W.toList 0 s r L (by simpa using j) (by simpa using u)
       ·cases h
      ·cases h
     ·cases h
    next len e hu=>
     split at h
     next s' hs=>
      split at h
      next hc=>
       cases h;obtain⟨⟨ie,M,_⟩,_⟩:=Wo hs;simp only[mq,C,bK];rw[run_equalIn_array w D _ _ hu M,List.range_eq_range'];refine SX f w U hs a b A len 0 r ?_ (by simpa using j) (by simpa using u);rw[L5 j,Vy,bP]
      ·cases h
     ·cases h
    ·cases h
   ·cases h
  ·have B:iJ P t=false:=by simpa using C
   have hlen:=L5 j;have O:s.length=1:=by rcases F B with⟨rfl,_⟩|⟨rfl,_⟩|⟨rfl,_⟩<;>rfl
   rw[O]at hlen
   match a,b,hlen,A with
   | [x],[y],_,_=>
    simp only[mq,B,aX,ak];simp only[Fa]at u;have hle:jX x y=some r:=by
     split at u
     next Q=>cases u;exact Q
     next Q=>cases u;exact Q
     ·cases u
    rcases F B with⟨rfl,X,hu⟩|⟨rfl,hu⟩|⟨rfl,hu⟩
    ·rcases(tt j).2 with⟨_,k,n,rfl⟩|⟨h0,_⟩|⟨h0,_⟩
     ·cases y with
      | int k' m=>
       simp only[jX]at hle;obtain⟨Y,G⟩:=Ap hle;have:=tc Y;subst this;have hle:=gN G;simp only[Ct];rw[run_equalIn_int w D t k X n m hu,<-hle,mc];congr 1
      | _=>cases hle
     ·cases h0
     ·cases h0
    ·rcases(tt j).2 with⟨h0,_⟩|⟨_,c,rfl⟩|⟨h0,_⟩
     ·cases h0
     ·cases y with
      | bool H=>
       simp only[jX,cQ]at hle;simp only[Ct];rw[QL w D t c H hu,<-hle];cases c<;>cases H<;>rfl
      | _=>cases hle
     ·cases h0
    ·rcases(tt j).2 with⟨h0,_⟩|⟨h0,_⟩|⟨_,c,rfl⟩
     ·cases h0
     ·cases h0
     ·cases y with
      | str H=>
       simp only[jX,cQ]at hle;simp only[Ct];rw[Bnr w D t c H hu,<-hle,vv]
      | _=>cases hle
def sk(P:Program)(t:TypeId):Bool:=
 match P.underlying t with
 | some (.struct e)=>e.toList.all fun f=>f.name != "_"&&(match P.underlying f.type with|some (.int _)=>true|some .bool=>true|_=>false)
 | _=>false
theorem SZ(f:Loc)(w:World)(e:Bool)(D:Nat)(a:List EV):∀(u:List Field) (off:Nat) (s:List Nat) (d:Nat),(u.all fun f=>f.name != "_"&&(match P.underlying f.type with|some (.int _)=>true|some .bool=>true|_=>false))=true ->
 pP (flat P d) u off=some s->shaped s (a.drop off)=true ->
 (forIn u PUnit.unit fun(fd:Field) (_:PUnit)=>(do
  if fd.name≠"_" then do
   Instr.checkKey e (D+1) fd.type (←Go.part fd.type (Bw f a).toArray fd.offset)
   pure (.yield PUnit.unit)
  else pure (.yield PUnit.unit):Sem (ForInStep PUnit))).run P w=.ok PUnit.unit w
 | [],off,s,d,_,h,hs=>by simp
 | fd::u,off,s,d,j,h,hs=>by
  simp only[List.all_cons,aV]at j;simp only[pP]at h;split at h
  next s1 y=>
   split at h
   next A=>
    split at h
    next s2 B=>
     cases h;obtain⟨F,C⟩:=vP hs;rw[cV]at C;have G:=SZ f w e D a u (off+s1.length) s2 d j.2 B C;have hlen:=L5 F;rw[bW,bA]at hlen;have H:s1.length=1:=by
      have J:iJ P fd.type=false:=by
       have:=j.1.2;unfold iJ;split at this<;>simp_all
      rcases(Wo y).2.1 J with⟨rfl,_⟩|⟨rfl,_⟩|⟨rfl,_⟩<;>rfl
     have p1:=Rf f w y (xs:=a) (off:=off);have L:∀v,(Instr.checkKey e (D+1) fd.type v).run P w=.ok () w:=by
      intro v;have:=j.1.2;rw[Instr.checkKey.eq_def];split at this
      next k hu=>simp[underlying,hu]
      next hu=>simp[underlying,hu]
      ·cases this
     rw[List.forIn_cons];simp only[A.2,ne_eq,aQ,bK,Sem.run_bind,A.1,p1,L,aJ,aU];exact G
    ·cases h
   ·cases h
  ·cases h
def sr(P:Program)(t:TypeId):Bool:=
 match P.underlying t with
 | some (.array _ e)=>(match P.underlying e with|some (.int _)=>true|_=>false)
 | _=>false
theorem S_(f:Loc)(w:World)(e:Bool)(D:Nat){u:TypeId}{k:IntKind}(hu:P.underlying u=some (.int k))(hs:flat P d u=some [0])(a:List EV):∀(n i:Nat),i+n<=a.length ->
 (forIn (List.range' i n) PUnit.unit fun(j:Nat) (_:PUnit)=>(do
  Instr.checkKey e (D+1) u (←Go.part u (Bw f a).toArray (j*(←sizeOf u)))
  pure (.yield PUnit.unit):Sem (ForInStep PUnit))).run P w=.ok PUnit.unit w
 | 0,i,_=>by simp
 | n+1,i,h=>by
  have A:=S_ f w e D hu hs a n (i+1) a_;have p1:=Rf f w hs (xs:=a) (off:=i) (by simp;omega);have B:∀v,(Instr.checkKey e (D+1) u v).run P w=.ok () w:=by
   intro v;rw[Instr.checkKey.eq_def];simp[underlying,hu]
  obtain⟨⟨ii,C,y⟩,_⟩:=Wo hs;have F:(sizeOf u).run P w=.ok 1 w:=by simp[sizeOf,typeInfo,C,y]
  rw[gF,List.forIn_cons];simp only[Sem.run_bind,F,aJ,bc,p1,B,aU];exact A
theorem Bcj(u:sr P t=true){s:List Nat}(h:flat P d t=some s)(f:Loc)(w:World)(e:Bool)(a:List EV)(hs:shaped s a=true):
 (Instr.checkKey e 10000 t (.agg (Bw f a).toArray)).run P w=.ok () w:=by
 unfold sr at u;split at u
 next len B hu=>
  split at u
  next k j=>
   cases d with
   | zero=>simp[flat]at h
   | succ d=>
    simp only[flat]at h;split at h
    ·simp only[hu]at h
     split at h
     next s' y=>
      split at h
      next F=>
       cases h;have C:iJ P B=false:=by simp[iJ,j]
       have A:s' = [0]:=by
        rcases(Wo y).2.1 C with⟨rfl,_⟩|⟨_,h2⟩|⟨_,h2⟩
        ·rfl
        ·rw[j]at h2;cases h2
        ·rw[j]at h2;cases h2
       subst A;have hlen:=L5 hs;rw[Vy]at hlen;simp only[bJ,fS,bP,bc]at hlen;have:=S_ f w e 9998 j y a len 0 a_;rw[Instr.checkKey.eq_def];simp only[underlying,hu,Sem.run_bind,gI,aJ,aU];simp only[Std.Legacy.Range.forIn_eq_forIn_range',Std.Legacy.Range.size,gk,Nat.add_one_sub_one,Nat.div_one];rw[this];rfl
      ·cases h
     ·cases h
    ·cases h
  ·cases u
 ·cases u
theorem A3z(j:sk P t=true){s:List Nat}(h:flat P d t=some s)(f:Loc)(w:World)(e:Bool)(a:List EV)(hs:shaped s a=true):
 (∃u,P.underlying t=some (.struct u))/\(Instr.checkKey e 10000 t (.agg (Bw f a).toArray)).run P w=.ok () w:=by
 unfold sk at j;split at j
 next u hu=>
  refine⟨⟨u,hu⟩,?_⟩;cases d with
  | zero=>simp[flat]at h
  | succ d=>
   simp only[flat]at h;split at h
   ·simp only[hu]at h
    split at h
    ·split at h
     next s' y=>
      split at h
      ·cases h
       have:=SZ f w e 9998 a u.toList 0 s d j y (by simpa using hs);rw[Instr.checkKey.eq_def];simp only[underlying,hu,Sem.run_bind,gI,aJ,aU];rw[<-Array.forIn_toList];rw[this];rfl
      ·cases h
     ·cases h
    ·cases h
   ·cases h
 ·cases j
end
def Gi {α:Type}:List α->Nat->Tr α->Tr α
 | [],_,t=>t
 | a::r,i,t=>Gi r (Nat.succ i) (t.put i (some a))
theorem TA:∀(l:List α) (i:Nat) (t:Tr α) (j:Nat),(Gi l i t).get j=if i<=j/\j<i+l.length then l[j-i]? else t.get j
 | [],i,t,j=>by simp[Gi];omega
 | a::r,i,t,j=>by
  simp only[Gi];rw[TA r (i+1) (t.put i (some a)) j,Tr.get_put];simp only[bJ];by_cases e:i=j
  ·subst e
   rw[aG a_,aI rfl,aI a_];simp
  ·by_cases h2:i+1<=j/\j<i+1+r.length
   ·rw[aI h2,aI a_]
    rw[show j-i=(j-(i+1))+1 from a_,bm]
   ·rw[aG h2,aG e,aG a_]
theorem TB(l:List α)(j:Nat):(Gi l 0 .nil).get j=l[j]?:=by
 rw[TA];by_cases h:j<l.length
 ·rw[aI a_,gk]
 ·rw[aG a_,cD a_];rfl
def vQ:List Nat->Nat->Bool
 | [],_=>false
 | a::r,x=>Bc (Nat.beq a x) true (vQ r x)
theorem TC:∀{l:List Nat} {x:Nat},vQ l x=true->x∈l
 | [],_,h=>by cases h
 | a::r,x,h=>by
  simp only[vQ]at h;rw[Br]at h;split at h
  next e=>rw[aK e];exact aW
  ·exact aT _ (TC h)
def vR:List (Nat × List Nat)->Nat->Option (List Nat)
 | [],_=>none
 | (a,s)::r,x=>Bc (Nat.beq a x) (some s) (vR r x)
theorem vS:∀{l:List (Nat × List Nat)} {x:Nat} {s:List Nat},vR l x=some s->(x,s)∈l
 | [],_,_,h=>by cases h
 | (a,s')::r,x,s,h=>by
  simp only[vR]at h;rw[Br]at h;split at h
  next e=>cases h;rw[aK e];exact aW
  ·exact aT _ (vS h)
def vT(ty:Tr TypeInfo)(t:Nat):Option TypeDesc:=
 match ty.get t with
 | some i=>match i.desc with
  | .named _ u=>(match ty.get u with|some j=>some j.desc|none=>none)
  | d=>some d
 | none=>none
def tu(ty:Tr TypeInfo)(t:Nat):Option Bool:=match vT ty t with|some d=>some (Ax1 d)|none=>none
def zo(ty:Tr TypeInfo)(t:Nat):Option (List EV):=
 match ty.get t with
 | some i=>match i.zero with
  | some v=>match ofV v with
   | some x=>Bc x.plain (Bc (Nat.beq i.size (len x.cells)) (Bc (Nat.ble i.bytes 1048576) (match tu ty t with
    | some true=>(match x with | .agg l=>some l|_=>none)
    | some false=>Bc x.one (some [x]) none
    | none=>none) none) none) none
   | none=>none
  | none=>none
 | none=>none
def um(e:Tr Func)(ty:Tr TypeInfo)(eqs:List (Nat × List Nat))(keys:List Nat):Ir where
 fn:=e.get
 T8:=vT ty
 size t:=match ty.get t with|some i=>Bc (Nat.ble i.bytes 1048576) (some i.size) none|none=>none
 zero:=zo ty
 agg:=tu ty
 eqs:=vR eqs
 key:=vQ keys
theorem Bpk{t:Nat}{i:TypeInfo}(h:P.types[t]? = some i):P.info? t=some i:=by
 have e:t<P.types.size:=(eV.1 h).1;unfold Tables.info?;rw[aI e];exact h
theorem Blq{keys:List Nat}(hm:P.follows .mixedOrders=true)
 (C:(P.funcs.toList.all fun f=>!(f.name == "runtime.NumGoroutine"))=true)
 (B:∀x∈eqs,flat P 6 x.1=some x.2/\iJ P x.1=true/\P.eqGuardType P.depth x.1=false) (H:∀t∈keys,sk P t=true\/sr P t=true) :
 Qu P (um (Gi P.funcs.toList 0 .nil) (Gi P.types.toList 0 .nil) eqs keys):=by
 have F:∀t i,(Gi P.types.toList 0 .nil).get t=some i->P.info? t=some i:=by
  intro t i h;rw[TB,cP]at h;exact Bpk h
 have G:∀t d,vT (Gi P.types.toList 0 .nil) t=some d->P.underlying t=some d:=by
  intro t d h;unfold vT at h;split at h
  next i Q=>
   have A:=F t i Q;split at h
   next s u hd=>
    split at h
    next j hj=>
     cases h;have h2:=F u j hj;obtain⟨desc,str,size,bytes,hp,al,fa,z⟩:=i;simp only at hd;subst hd;simp[Program.underlying,A,h2]
    ·cases h
   next hd=>
    cases h;unfold Program.underlying;rw[A];split
    next J=>cases J;exact absurd rfl (hd _ _)
    next J=>cases J;rfl
    next J=>cases J
  ·cases h
 have U:∀t b,tu (Gi P.types.toList 0 .nil) t=some b->∃d,P.underlying t=some d/\Ax1 d=b:=by
  intro t b h;unfold tu at h;split at h
  next d hd=>cases h;exact⟨d,G t d hd,rfl⟩
  ·cases h
 refine⟨hm,fun g fn h=>?_,G,fun t n h=>?_,fun t z h=>?_,U,fun t sh h=>?_,fun t h=>?_⟩
 ·have h':(Gi P.funcs.toList 0 .nil).get g=some fn:=h
  rw[TB]at h';refine⟨by rw[<-cP];exact h',?_⟩;have:=dS.1 C fn (bh h');simpa using this
 ·simp only[um]at h
  split at h
  next i Q=>
   obtain⟨A,h2⟩:=Ap h;cases h2;exact⟨i,F t i Q,rfl,bG A⟩
  ·cases h
 ·have h':zo (Gi P.types.toList 0 .nil) t=some z:=h
  unfold zo at h';split at h'
  next i Q=>
   split at h'
   next v hv=>
    split at h'
    next x J=>
     obtain⟨A,h'⟩:=Ap h';obtain⟨h2,h'⟩:=Ap h';obtain⟨Y,h'⟩:=Ap h';have W:i.size=x.cells.length:=by rw[<-Wg];exact aK h2
     refine⟨i,v,x,F t i Q,hv,J,A,?_⟩;have X:∀b,tu (Gi P.types.toList 0 .nil) t=some b->(um (Gi P.funcs.toList 0 .nil) (Gi P.types.toList 0 .nil) eqs keys).agg t=some b:=fun _ h=>h
     split at h'
     next Z=>
      have L:=X true Z;cases x with
      | agg l=>
       simp only[cQ]at h';subst h';exact⟨rfl,W,bG Y,fun _=>rfl,fun e=>(by rw[L]at e;cases e)⟩
      | _=>cases h'
     next Z=>
      have L:=X false Z;obtain⟨ho,h'⟩:=Ap h';cases h';have hc:x.cells = [x]:=by
       cases x<;>first|rfl|(simp[EV.one]at ho)
      exact⟨hc.symm,by rw[W,hc],bG Y,fun e=>(by rw[L]at e;cases e),fun _=>rfl⟩
     ·cases h'
    ·cases h'
   ·cases h'
  ·cases h'
 ·obtain⟨A,h2,Y⟩:=B _ (vS h)
  refine⟨Y,fun f w a b r hl hs=>?_⟩;have:=SY (P:=P) 6 10000 a_ t sh A f w a b r hs hl;simp only[mq,h2,bK]at this;exact this
 ·have M:=H t (TC h)
  rcases M with M|M
  ·constructor
   ·have y:=M
    unfold sk at y;split at y
    next fs hu=>exact⟨_,hu,rfl⟩
    ·cases y
   ·intro f w e a sh O hs
    obtain⟨A,_,_⟩:=B _ (vS O);exact(A3z M A f w e a hs).2
  ·constructor
   ·have y:=M
    unfold sr at y;split at y
    next n e hu=>exact⟨_,hu,rfl⟩
    ·cases y
   ·intro f w e a sh O hs
    obtain⟨A,_,_⟩:=B _ (vS O);exact Bcj M A f w e a hs
theorem Bmu(f:Loc)(w:World)(n m:Nat):Uc f ⟨.nil,n,m⟩ w:=⟨fun i o h=>(by cases h),fun i j o o' h=>(by cases h)⟩
theorem Blg(n m:Nat):Ug (fun _=>False) ⟨.nil,n,m⟩:=⟨fun i h=>h.elim,fun i o h=>(by cases h)⟩
theorem Bcc{c:Ah}(hC:kX P c){g:Nat}(h:c g [] ⟨.nil,0,0⟩=some (v,h')){V:Value}(y:∀f,Ct f v=V)(w:World):
 Calls P g #[] w fun e w'=>e=.returned V/\RowKit.Below w.heap.size w w':=by
 obtain⟨_,A⟩:=hC _ _ _ _ _ h;intro cs;obtain⟨fr,f',w',hs,j,u,hm,hwf,B⟩:=A (fun _=>False) ⟨fun _=>0,fun _=>0⟩ w (Blg 0 0) (Bmu _ _ 0 0) trivial cs;rw[y]at u;exact⟨.returned V,w',fr,⟨rfl,hm.os,hm.tape,hm.output,hm.size,fun k C=>hm.kept k C (fun i o F=>(by cases F))⟩,hs,j,u⟩
def vU(g:Nat)(v:EV):Ah:=fun e args h=>Bc (Nat.beq e g) (match args with | []=>some (v,h)|_=>none) none
theorem Bb8{g:Nat}{V:Value}(H:∀f,Ct f v=V)(y:∀p,v.ok p){fn:Func}(hf:P.funcs[g]? = some fn)(hb:fn.body.isSome=true)(J:(fn.name == "runtime.NumGoroutine")=false)
 (hC:∀w,Calls P g #[] w fun e w'=>e=.returned V/\RowKit.Below w.heap.size w w'):kX P (vU g v)/\Wu (vU g v):=by
 have key:∀A args h B h',vU g v A args h=some (B,h')->A=g/\args = []/\B=v/\h'=h:=by
  intro A args h B h' u;unfold vU at u;obtain⟨C,h2⟩:=Ap u;split at h2
  ·cases h2;exact⟨aK C,rfl,rfl,rfl⟩
  ·cases h2
 constructor
 ·intro A args h B h' u
  obtain⟨rfl,rfl,rfl,rfl⟩:=key _ _ _ _ _ u;refine⟨⟨fn,hf,hb,J⟩,fun p f w u F M cs=>?_⟩;obtain⟨e,w',fr,⟨rfl,j⟩,hs,G,L⟩:=hC w cs;refine⟨fr,f,w',hs,G,?_,⟨Loc.vl _ _,⟨fun i o y=>?_,F.inj⟩,fun b hb _=>j.block b hb,j.size,j.tape,j.os,j.output,fun i o y=>.inr ⟨i,o,y,rfl⟩⟩,Wf.refl u,y _⟩
  ·rw[H];exact L
  ·obtain⟨r,C,h2⟩:=F.obj i o y
   exact⟨r,by rw[j.block _ (F.lt y)];exact C,h2⟩
 ·intro A args h B h' u
  obtain⟨_,_,_,rfl⟩:=key _ _ _ _ _ u;exact .refl _
end
end Go.Ev
