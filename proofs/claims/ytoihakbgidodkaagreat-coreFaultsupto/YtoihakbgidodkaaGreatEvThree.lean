import Derived.Test.YtoihakbgidodkaaGreatEvOne
import Derived.Orders
import Derived.Laws.StructEq
import Derived.ChangeKeysEq
import Derived.KernelRfl
import Derived.Below
set_option linter.all false
namespace Go.Ev
noncomputable section
variable {x fo:Operand}{T:Ij}{h h' h0 hp:Ab}{round:Ah}{S p p0:Nat->Prop}{d i m n q fn id off base:Nat}{tm fh kZ:Ay}{t:TypeId}{v:EV}{a:Aif}{o:Oper}{s':Hl}{f f0 f1:Loc}{listed:Array Bool}{E E':Nat->Ab}{P:Program}{w':World}{pd pd0 jump:Option Code}{k todo jf:List Item}{caller:Frame}{cs:List Frame}{α:Type}{ps:List Tmp}{d' body:Code}{ds:List Nat}{Dl:Option Nat}{tmps:Array Value}{args first captured:List EV}{eqs:List (Nat × List Nat)}{V:Nat->EV}{σ:Nat->iP}
section
theorem qZ:∀{l:List Operand},(∀x∈l,Cg tm x=Cg fh x)->Md tm l=Md fh l
 | [],_=>rfl
 | x::r,h=>by simp only[Md];rw[h x aQ,qZ fun y e=>h y (aP _ e)]
theorem xo:∀{l:List (Nat × Operand)},(∀x∈l,Cg tm x.2=Cg fh x.2)->Yt tm l=Yt fh l
 | [],_=>rfl
 | (i,x)::r,h=>by simp only[Yt];rw[h (i,x) aQ,xo fun y e=>h y (aP _ e)]
theorem xp {x:Option Operand}(h:∀y,x=some y->Cg tm y=Cg fh y):je tm x=je fh x:=by
 cases x with
 | none=>rfl
 | some y=>simp only[je];rw[h y rfl]
theorem A99{op:Op}(h:∀x∈op.operands,Cg tm x=Cg fh x):E2 T tm op=E2 T fh op:=by
 cases op with
 | build t ps=>
  have:Yt tm ps.toList=Yt fh ps.toList:=xo fun x e=>h x.2 (by
   simp only[Op.operands,List.mem_toArray,cN];exact⟨x,e,rfl⟩)
  simp only[E2,this]
 | makeFunc fn a b=>
  have A:Md tm a.toList=Md fh a.toList:=qZ fun x e=>h x (by simp only[Op.operands,Array.mem_append];exact .inl (cq.1 e))
  have h2:Md tm b.toList=Md fh b.toList:=qZ fun x e=>h x (by simp only[Op.operands,Array.mem_append];exact .inr (cq.1 e))
  cases fn<;>simp only[E2,A,h2]
 | slice t x B hi C=>
  have h0:Cg tm x=Cg fh x:=h x (by simp[Op.operands]);have A:je tm B=je fh B:=xp fun y j=>h y (by subst j;simp[Op.operands])
  have h2:je tm hi=je fh hi:=xp fun y j=>h y (by subst j;simp[Op.operands])
  have F:je tm C=je fh C:=xp fun y j=>h y (by subst j;simp[Op.operands])
  simp only[E2,h0,A,h2,F]
 | unOp u t x=>
  have h0:Cg tm x=Cg fh x:=h x (by simp[Op.operands]);cases u<;>simp only[E2,h0]
 | pick c a b=>simp only[E2,h c (by simp[Op.operands]),h a (by simp[Op.operands]),h b (by simp[Op.operands])]
 | binOp op t x y u=>simp only[E2,h x (by simp[Op.operands]),h y (by simp[Op.operands])]
 | indexAddr t x y=>simp only[E2,h x (by simp[Op.operands]),h y (by simp[Op.operands])]
 | index t x y=>simp only[E2,h x (by simp[Op.operands]),h y (by simp[Op.operands])]
 | move x=>simp only[E2,h x (by simp[Op.operands])]
 | assign x=>simp only[E2,h x (by simp[Op.operands])]
 | nilCheck x=>simp only[E2,h x (by simp[Op.operands])]
 | fieldAddr s x G=>simp only[E2,h x (by simp[Op.operands])]
 | field s x G=>simp only[E2,h x (by simp[Op.operands])]
 | convert s d x=>simp only[E2,h x (by simp[Op.operands])]
 | extract x ix=>simp only[E2,h x (by simp[Op.operands])]
 | sliceToArrayPointer t x=>simp only[E2,h x (by simp[Op.operands])]
 | _=>rfl
theorem Bbq{op:Op}(h:∀x∈op.operands,Cg tm x=Cg fh x):Dr T tm op hp=Dr T fh op hp:=by
 cases op with
 | buildSlice t m ps=>
  have:Yt tm ps.toList=Yt fh ps.toList:=xo fun x j=>h x.2 (by
   simp only[Op.operands,List.mem_toArray,cN];exact⟨x,j,rfl⟩)
  simp only[Dr,this]
 | call c=>
  obtain⟨callee,args,A⟩:=c;cases callee with
  | builtin b=>
   have u:Md tm args.toList=Md fh args.toList:=qZ fun x j=>h x (by simp only[Op.operands,Call.operands,Array.mem_append];exact .inr (cq.1 j))
   simp only[Dr,u]
  | _=>rfl
 | select cs bl=>
  cases bl with
  | true=>rfl
  | false=>
   simp only[Dr];split
   next c B=>
    have e:c∈cs:=cq.1 (by rw[B];exact aQ);have u:Cg tm c.chan=Cg fh c.chan:=h c.chan (by
     simp only[Op.operands,Array.mem_flatMap];exact⟨c,e,by simp⟩)
    have h2:∀y,c.send=some y->Cg tm y=Cg fh y:=fun y C=>h y (by
     simp only[Op.operands,Array.mem_flatMap];exact⟨c,e,by simp[C]⟩)
    rw[u];cases hs:c.send with
    | none=>
     cases Cg fh c.chan with
     | none=>rfl
     | some v=>cases v<;>rfl
    | some y=>
     cases Cg fh c.chan with
     | none=>rfl
     | some v=>cases v<;>first|rfl|(simp only[h2 y hs])
   ·rfl
 | makeMap t r=>cases r<;>rfl
 | load t x=>simp only[Dr,h x (by simp[Op.operands])]
 | store t a x=>simp only[Dr,h a (by simp[Op.operands]),h x (by simp[Op.operands])]
 | alloc t=>rfl
 | box t x=>simp only[Dr,h x (by simp[Op.operands])]
 | makeSlice t a x=>simp only[Dr,h a (by simp[Op.operands]),h x (by simp[Op.operands])]
 | makeChan t x=>simp only[Dr,h x (by simp[Op.operands])]
 | lookup t a x ok=>simp only[Dr,h a (by simp[Op.operands]),h x (by simp[Op.operands])]
 | mapUpdate t a x y=>simp only[Dr,h a (by simp[Op.operands]),h x (by simp[Op.operands]),h y (by simp[Op.operands])]
 | _=>rfl
theorem Bhe{call:Ah}{op:Op}(h:∀x∈op.operands,Cg tm x=Cg fh x):aop T call round tm op hp=aop T call round fh op hp:=by
 unfold aop;rw[A99 h];congr 1;split
 next f args e=>
  have h0:Cg tm f=Cg fh f:=h f (by simp[Op.operands,Call.operands]);have j:Md tm args.toList=Md fh args.toList:=qZ fun x u=>h x (by simp only[Op.operands,Call.operands,Array.mem_append];exact .inr (cq.1 u))
  rw[h0,j]
 ·exact Bbq h
theorem A8z {A j:Operand->Value}(o:Oper)(u:∀cs b,o.op=.select cs b->∃c,cs = #[c])(h:∀x∈o.op.operands,A x=j x):execOp A o=execOp j o:=by
 by_cases hs:∃cs b,o.op=.select cs b
 ·obtain⟨cs,b,B⟩:=hs
  obtain⟨c,rfl⟩:=u cs b B;rw[B]at h;have C:A c.chan=j c.chan:=h _ (by simp[Op.operands]);have h2:c.send.map A=c.send.map j:=by
   cases hs:c.send with
   | none=>rfl
   | some y=>simp only[dU];rw[h y (by simp[Op.operands,hs])]
  simp only[execOp,B];simp[C,h2]
 ·exact execOp_congr o (fun cs b e=>hs ⟨cs,b,e⟩) h
def jn(tm:Ay):List Operand->Ay
 | []=>.nil
 | .tmp t::r=>(jn tm r).put t (tm.get t)
 | _::r=>jn tm r
open Classical in
theorem Zt(tm:Ay):∀(l:List Operand) (t:Nat),(jn tm l).get t=if .tmp t∈l then tm.get t else none
 | [],t=>by simp[jn,Tr.get_nil]
 | .tmp u::r,t=>by
  simp only[jn,Tr.get_put,Zt tm r t,bZ,Operand.tmp.injEq];by_cases h:u=t
  ·subst h;simp
  ·rw[aH h];simp[cX h]
 | .const v::r,t=>by simp only[jn,Zt tm r t,bZ,reduceCtorEq,false_or]
 | .global v::r,t=>by simp only[jn,Zt tm r t,bZ,reduceCtorEq,false_or]
 | .func v::r,t=>by simp only[jn,Zt tm r t,bZ,reduceCtorEq,false_or]
theorem Bbf(tm:Ay){l:List Operand}(e:x∈l):Cg (jn tm l) x=Cg tm x:=by
 cases x with
 | tmp t=>simp only[Cg];rw[Zt,aK e]
 | const v=>rfl
 | global v=>rfl
 | func v=>rfl
theorem Bla{l:List Operand}(h:∀t,.tmp t∈l->∀v,tm.get t=some v->v.ok p)(j:∀t,n<=t->tm.get t=none):Ld p n (jn tm l) where
 ok t v e:=by
  rw[Zt]at e;split at e
  next hm=>exact h t hm v e
  ·cases e
 out t u:=by
  rw[Zt];split
  ·exact j t u
  ·rfl
theorem Bmi(F:Cg tm x=some (.ptr q off))(j:Dr T tm (.load t x) h=some (v,h')):
 ∃o,h.get q=some o/\∀h2:Ab,h2.get q=some o->Dr T tm (.load t x) h2=some (v,h2):=by
 have u:∀n l,I6 h q off n=some l->∃o,h.get q=some o/\∀h2:Ab,h2.get q=some o->I6 h2 q off n=some l:=by
  intro n l y;cases C:h.get q with
  | none=>simp[I6,C]at y
  | some o=>exact⟨o,rfl,fun h2 e=>by unfold I6 at y⊢;rw[e];rw[C]at y;exact y⟩
 simp only[Dr,F]at j⊢;split at j
 next G=>
  split at j
  next n H=>
   split at j
   next l y=>
    cases j;obtain⟨o,A,h2⟩:=u n l y;exact⟨o,A,fun B e=>by simp only[h2 B e]⟩
   ·cases j
  ·cases j
 next G=>
  split at j
  next l y=>
   cases j;obtain⟨o,A,h2⟩:=u 1 _ y;exact⟨o,A,fun B e=>by simp only[h2 B e]⟩
  ·cases j
 ·cases j
theorem Bi0{a:Operand}(C:Cg tm a=some (.ptr q off))(j:Dr T tm (.store t a x) h=some (v,h')):
 ∃o o',h.get q=some o/\h'=h.put q o'/\∀h2:Ab,h2.get q=some o->Dr T tm (.store t a x) h2=some (v,h2.put q o'):=by
 have hw:∀vs h',L9 h q off vs=some h'->∃o o',h.get q=some o/\h'=h.put q o'/\∀h2:Ab,h2.get q=some o->L9 h2 q off vs=some (h2.put q o'):=by
  intro vs h' u;unfold L9 at u;split at u
  next l F y=>
   split at u
   next l' hs=>
    cases u;exact⟨_,_,y,rfl,fun h2 e=>by unfold L9;rw[e];simp only[hs]⟩
   ·cases u
  next l F sz y=>
   split at u
   next l' hs=>
    cases u;exact⟨_,_,y,rfl,fun h2 e=>by unfold L9;rw[e];simp only[hs]⟩
   ·cases u
  ·cases u
 simp only[Dr,C]at j⊢;split at j
 next L B M O e1 e2 e3=>
  cases e1;obtain⟨c1,j⟩:=An j;obtain⟨c2,j⟩:=An j;split at j
  next Q A=>
   cases j;obtain⟨o,o',G,H,J⟩:=hw _ _ A;refine⟨o,o',G,H,fun h2 e=>?_⟩;simp only[c1,c2,Aj,J h2 e]
  ·cases j
 ·cases j
theorem NZ {op:Op}(h:lX op=true):∃b args e,op=.call { callee:=.builtin b,args,argTypes:=e }/\(b=.len\/b=.min\/b=.max):=by
 cases op with
 | call c=>
  obtain⟨callee,args,e⟩:=c;cases callee with
  | builtin b=>cases b<;>first|(cases h;done)|exact⟨_,_,_,rfl,by simp⟩
  | _=>cases h
 | _=>cases h
theorem LX{op:Op}(hp:lX op=true)(e:Dr T tm op h=some (v,h')):h'=h:=by
 obtain⟨b,args,j,rfl,hb⟩:=NZ hp;simp only[Dr]at e;split at e
 next as has=>
  rcases hb with rfl|rfl|rfl
  ·match as,e with
   | [x],e=>
    simp only[builtin]at e
    repeat' split at e
    all_goals first|(cases e;done)|(cases e;rfl)
   | [],e=>cases e
   | _::_::_,e=>cases e
  ·match as,e with
   | x::l,e=>
    cases x<;>first|(cases e;done)|skip
    simp only[builtin]at e;split at e
    ·cases e;rfl
    ·cases e
   | [],e=>cases e
  ·match as,e with
   | x::l,e=>
    cases x<;>first|(cases e;done)|skip
    simp only[builtin]at e;split at e
    ·cases e;rfl
    ·cases e
   | [],e=>cases e
 ·cases e
theorem wO{call:Ah}{op:Op}(hp:lX op=true):aop T call round tm op h=Dr T tm op h:=by
 obtain⟨b,args,e,rfl,hb⟩:=NZ hp;rfl
theorem qL(b c:Bool):Bc b kV.val (Bc c .pur .big)≠.new/\Bc b kV.val (Bc c .pur .big)≠.load/\Bc b kV.val (Bc c .pur .big)≠.sto:=by
 cases b<;>cases c<;>exact⟨fun h=>(by cases h),fun h=>(by cases h),fun h=>(by cases h)⟩
theorem wT {op:Op}(h:cls op=.new):(∃t,op=.alloc t)\/(∃t x,op=.box t x)\/(∃t n ps,op=.buildSlice t n ps)\/(∃t a b,op=.makeSlice t a b)\/(∃t r,op=.makeMap t r)\/(∃t x,op=.makeChan t x):=by
 cases op<;>first
  | (rename_i c;exact absurd (show Bc false kV.val (Bc (lX (.call c)) .pur .big)=.new from h) (qL _ _).1)
  | exact absurd h (qL _ _).1
  | (cases h;done)
  | exact .inl ⟨_,rfl⟩|exact .inr (.inl ⟨_,_,rfl⟩)|exact .inr (.inr (.inl ⟨_,_,_,rfl⟩))|exact .inr (.inr (.inr (.inl ⟨_,_,_,rfl⟩)))
  | exact .inr (.inr (.inr (.inr (.inl ⟨_,_,rfl⟩))))|exact .inr (.inr (.inr (.inr (.inr ⟨_,_,rfl⟩))))
theorem Bpq{op:Op}(A:cls op=.new)(j:Dr T tm op h=some (v,h')):
 ∃o,h'=h.new o/\∀h2:Ab,h2.next=h.next->Dr T tm op h2=some (v,h2.new o):=by
 rcases wT A with⟨t,rfl⟩|⟨t,x,rfl⟩|⟨t,n,ps,rfl⟩|⟨t,a,b,rfl⟩|⟨t,r,rfl⟩|⟨t,x,rfl⟩
 ·simp only[Dr]at j⊢
  split at j
  ·cases j;exact⟨_,rfl,fun h2 e=>by rw[e]⟩
  ·cases j
 ·simp only[Dr]at j⊢
  split at j
  ·obtain⟨y,u⟩:=An j
   cases u;exact⟨_,rfl,fun h2 e=>by rw[y,e];rfl⟩
  ·cases j
 ·simp only[Dr]at j⊢
  split at j
  ·split at j
   ·obtain⟨y,u⟩:=An j
    split at u
    next C=>
     cases u;exact⟨_,rfl,fun h2 e=>by rw[y,e];rfl⟩
    ·cases u
   ·cases j
  ·cases j
 ·simp only[Dr]at j⊢
  split at j
  ·split at j
   ·obtain⟨y,u⟩:=An j
    obtain⟨h4,B⟩:=An u;cases B;exact⟨_,rfl,fun h2 e=>by rw[y,h4,e];rfl⟩
   ·cases j
  ·cases j
 ·cases r with
  | none=>cases j;exact⟨_,rfl,fun h2 e=>by simp only[Dr,e]⟩
  | some r=>cases j
 ·simp only[Dr]at j⊢
  split at j
  ·split at j
   ·obtain⟨y,u⟩:=An j
    cases u;exact⟨_,rfl,fun h2 e=>by rw[y,e];rfl⟩
   ·cases j
  ·cases j
end
theorem H8(i j:Nat):(Nat.shiftLeft 1 i).testBit j=decide (i=j):=by
 have:Nat.shiftLeft 1 i=2^i:=by
  have:=Nat.one_shiftLeft i;exact this
 rw[this,Nat.testBit_two_pow]
theorem Mw(a b j:Nat):(Nat.lor a b).testBit j=(a.testBit j||b.testBit j):=Nat.testBit_or a b j
theorem xq(a b j:Nat):(Nat.land a b).testBit j=(a.testBit j&&b.testBit j):=Nat.testBit_and a b j
theorem xr {x b:Nat}(h:within x b=true){j:Nat}(hj:x.testBit j=true):b.testBit j=true:=by
 have e:Nat.land x b=x:=aJ h;rw[<-e,xq]at hj;simpa using(Bool.and_eq_true_iff.1 hj).2
theorem A3t {b:Nat}(h:b.testBit i=false):within (Nat.shiftLeft 1 i) b=false:=by
 cases hw:within (Nat.shiftLeft 1 i) b with
 | false=>rfl
 | true=>rw[xr hw (j:=i) (by rw[H8];simp)]at h;cases h
theorem N' {x y:Nat}(h:Nat.land x y=0){t:Nat}(e:x.testBit t=true):y.testBit t=false:=by
 have:(Nat.land x y).testBit t=false:=by rw[h];exact dO t
 rw[xq,e]at this;simpa using this
theorem Blm {x y:Nat}(h:Nat.lor x y=0):x=0/\y=0:=by
 have e:∀t,x.testBit t=false/\y.testBit t=false:=by
  intro t;have:(Nat.lor x y).testBit t=false:=by rw[h];exact dO t
  rw[Mw]at this;simpa using this
 exact⟨Nat.eq_of_testBit_eq fun t=>by rw[(e t).1,dO],Nat.eq_of_testBit_eq fun t=>by rw[(e t).2,dO]⟩
theorem N_(bs:Tr Nat):∀(l:List Edge) (x:Nat) (j:Nat),(pg bs l x).testBit j=true ->
 x.testBit j=true\/∃e∈l,mU e=true/\(j=e.on\/∃y,bs.get e.on=some y/\y.testBit j=true)
 | [],x,j,h=>.inl h
 | e::r,x,j,h=>by
  simp only[pg]at h;rcases N_ bs r _ j h with h|⟨e',he,u,h2⟩
  ·rw[Bq]at h
   split at h
   next hb=>
    rw[Mw,Mw,H8]at h;simp only[Bool.or_eq_true,aW]at h;rcases h with h|h|h
    ·exact .inl h
    ·exact .inr ⟨e,aQ,hb,.inl h.symm⟩
    ·refine .inr ⟨e,aQ,hb,.inr ?_⟩
     split at h
     next y A=>exact⟨y,A,h⟩
     ·rw[dO]at h;cases h
   ·exact .inl h
  ·exact .inr ⟨e',aP _ he,u,h2⟩
theorem OA(l:List Oper):∀(i:Nat) (bs:Tr Nat) (j:Nat),j<i->(Oj l i bs).get j=bs.get j:=by
 induction l with
 | nil=>intros;rfl
 | cons o r e=>
  intro i bs j hj;simp only[Oj];rw[e _ _ _ (Nat.lt_succ_of_lt hj),Tr.Af _ _ a_]
theorem wS(l:List Oper):∀(i:Nat) (bs:Tr Nat),(∀j,i<=j->bs.get j=none)->∀(k:Nat) (o:Oper),l[k]? = some o ->
 ∃b,(Oj l i bs).get (i+k)=some b/\∀j,b.testBit j=true->∃e∈o.after.toList,mU e=true/\(j=e.on\/∃y,(Oj l i bs).get e.on=some y/\y.testBit j=true):=by
 induction l with
 | nil=>intro i bs _ k o h;simp at h
 | cons o' r B=>
  intro i bs A k o h;simp only[Oj];cases k with
  | zero=>
   simp only[bR,cQ]at h;subst h;refine⟨pg bs o'.after.toList 0,?_,fun j hj=>?_⟩
   ·rw[dA,OA _ _ _ _ a_,Tr.Ae]
   ·rcases N_ bs _ _ j hj with h|⟨e,he,C,h2⟩
    ·rw[dO]at h;cases h
    ·refine⟨e,he,C,h2.imp id ?_⟩
     rintro⟨y,u,hj⟩;have:e.on<i:=by
      cases dC e.on i with
      | inl h=>exact h
      | inr h=>rw[A _ h]at u;cases u
     exact⟨y,by rw[OA _ _ _ _ a_,Tr.Af _ _ a_];exact u,hj⟩
  | succ k=>
   have:=B (i+1) (bs.put i (some (pg bs o'.after.toList 0))) (fun j hj=>by rw[Tr.Af _ _ a_];exact A j a_) k o (by simpa using h);rw[show i+1+k=i+(k+1) from a_]at this;exact this
theorem Xq:∀(l:List Operand) (x t:Nat),(ma l x).testBit t=true↔x.testBit t=true\/.tmp t∈l
 | [],x,t=>by simp[ma]
 | .tmp u::r,x,t=>by
  simp only[ma];rw[Xq r,Mw,H8];simp only[Bool.or_eq_true,aW,bZ,Operand.tmp.injEq];constructor
  ·rintro((h|h)|h)
   ·exact .inl h
   ·exact .inr (.inl h.symm)
   ·exact .inr (.inr h)
  ·rintro(h|h|h)
   ·exact .inl (.inl h)
   ·exact .inl (.inr h.symm)
   ·exact .inr h
 | .const v::r,x,t=>by simp only[ma];rw[Xq r];simp
 | .global v::r,x,t=>by simp only[ma];rw[Xq r];simp
 | .func v::r,x,t=>by simp only[ma];rw[Xq r];simp
theorem tZ(o:Oper)(t:Nat):(mV o).testBit t=true↔o.dst=some t:=by
 unfold mV;cases o.dst with
 | none=>simp
 | some d=>simp only[H8,aW,cQ]
def q6(ops:List Oper)(o:Oper)(t:Nat):Prop:=.tmp t∈o.op.operands.toList\/∃j want g,o.guard=some (j,want)/\ops[j]? = some g/\g.dst=some t
theorem OB(ops:List Oper)(o:Oper)(t:Nat):(Zf ops o).testBit t=true↔q6 ops o t:=by
 unfold Zf q6;rw[Mw,Bool.or_eq_true,Xq,dO];apply or_congr
 ·simp
 ·cases y:o.guard with
  | none=>simp
  | some x=>
   obtain⟨j,want⟩:=x;simp only[tO,cQ,eS];cases hj:ops[j]? with
   | none=>
    simp only[dO,aV,false_iff];rintro⟨e,w',g,⟨rfl,_⟩,h2,_⟩;rw[hj]at h2;cases h2
   | some g=>
    simp only[];rw[tZ];constructor
    ·intro h;exact⟨j,want,g,⟨rfl,rfl⟩,hj,h⟩
    ·rintro⟨e,w',A,⟨rfl,_⟩,h2,u⟩
     rw[hj]at h2;cases h2;exact u
theorem OC(e l' b:Nat):∀(ms:List (Nat × Nat)) (j k d l:Nat),qN e l' b ms j=true->ms[k]? = some (d,l)->tJ (j+k) d l e l' b=true
 | [],_,_,_,_,_,h=>by simp at h
 | (d,l)::r,j,0,d0,l0,h,hk=>by
  simp only[bR,cQ,eS]at hk;simp only[qN]at h;rw[Bq]at h;split at h
  next hp=>rw[<-hk.1,<-hk.2];exact hp
  ·cases h
 | (d,l)::r,j,k+1,d0,l0,h,hk=>by
  simp only[qN]at h;rw[Bq]at h;split at h
  ·have:=OC e l' b r (j+1) k d0 l0 h (by simpa using hk)
   rw[show j+1+k=j+(k+1) from a_]at this;exact this
  ·cases h
theorem OD(ops:List Oper)(bs:Tr Nat):∀(l:List Oper) (i:Nat) (ms:List (Nat × Nat)),lT ops bs l i ms=true->ms.length=i->∀k o,l[k]? = some o ->
 ∃b,bs.get (i+k)=some b/\∀j d l',(ms++l.map fun o=>(mV o,Zf ops o))[j]? = some (d,l')->j<i+k->tJ j d l' (mV o) (Zf ops o) b=true
 | [],_,_,_,_,_,_,h=>by simp at h
 | o'::r,i,ms,h,hm,0,o,hk=>by
  simp only[bR,cQ]at hk;subst hk;simp only[lT]at h;split at h
  next b hb=>
   rw[Bq]at h;split at h
   next hp=>
    refine⟨b,hb,fun j d l' hj e=>?_⟩;have:ms[j]? = some (d,l'):=by rw[bW a_]at hj;exact hj
    have:=OC _ _ _ ms 0 j d l' hp this
    rwa [bJ]at this
   ·cases h
  ·cases h
 | o'::r,i,ms,h,hm,k+1,o,hk=>by
  simp only[lT]at h;split at h
  next b hb=>
   rw[Bq]at h;split at h
   ·obtain⟨u,y,h2⟩:=OD ops bs r (i+1) _ h (by simp[hm]) k o (by simpa using hk)
    refine⟨u,by rw[<-y];congr 1;omega,fun j d l' hj e=>h2 j d l' ?_ a_⟩;rw[bm];simpa using hj
   ·cases h
  ·cases h
theorem xt {ops:List Oper}{bs:Tr Nat}(h:lT ops bs ops 0 []=true){y j:Oper}(hi:ops[i]? = some y)(hm:ops[m]? = some j)(C:i<m){b:Nat}(hb:bs.get m=some b)(F:b.testBit i=false):
 (∀t,y.dst=some t->j.dst≠some t/\¬q6 ops j t)/\(∀t,q6 ops y t->j.dst≠some t):=by
 obtain⟨J,A,h2⟩:=OD ops bs ops 0 [] h rfl m j hm;rw[bJ]at A;rw[hb]at A;cases A;have:=h2 i (mV y) (Zf ops y) (by simp[hi]) a_;unfold tJ at this;have G:Nat.beq (Nat.land b (Nat.shiftLeft 1 i)) 0=true:=by
  have:Nat.land b (Nat.shiftLeft 1 i)=0:=Nat.eq_of_testBit_eq fun t=>by
   rw[xq,H8,dO];by_cases e:i=t
   ·subst e;simp[F]
   ·simp[e]
  rw[this];rfl
 rw[G,Aj]at this;obtain⟨z1,H⟩:=Blm (aJ this);refine⟨fun t B=>?_,fun t B hd=>?_⟩
 ·have u:=N' z1 ((tZ y t).2 B)
  rw[Mw,Bool.or_eq_false_iff]at u;refine⟨fun e=>?_,fun e=>?_⟩
  ·rw[(tZ j t).2 e]at u;exact absurd u.1 (by simp)
  ·rw[(OB ops j t).2 e]at u;exact absurd u.2 (by simp)
 ·have u:=N' H ((OB ops y t).2 B)
  rw[(tZ j t).2 hd]at u;cases u
theorem OE(i:Nat):∀(l:List Edge),tK i l=true->∀e∈l,mU e=true->e.on<i
 | [],_,e,he,_=>by simp at he
 | a::r,h,e,he,hb=>by
  simp only[tK]at h;rw[Bq]at h;split at h
  next j=>
   rcases bZ.1 he with rfl|he
   ·rw[hb,Aj]at j;exact bL j
   ·exact OE i r h e he hb
  ·cases h
theorem OG:∀(l:List Oper) (i:Nat),mQ l i=true->∀k o,l[k]? = some o->∀e∈o.after.toList,mU e=true->e.on<i+k
 | [],_,_,_,_,h=>by simp at h
 | a::r,i,h,0,o,hk=>by
  simp only[bR,cQ]at hk;subst hk;simp only[mQ]at h;rw[Bq]at h;split at h
  next hb=>exact OE i _ hb
  ·cases h
 | a::r,i,h,k+1,o,hk=>by
  simp only[mQ]at h;rw[Bq]at h;split at h
  ·intro e he hb
   have:=OG r (i+1) h k o (by simpa using hk) e he hb;omega
  ·cases h
section
open Classical
inductive Kd where
 | idle|load (q:Nat)|new|sto (q:Nat)|big (mw:Nat)
def bare(n:Nat):Ab:=⟨.nil,n,n⟩
theorem Bkr(n q:Nat):(bare n).get q=none:=rfl
def Ao6(n q:Nat)(o:Ds):Ab:=⟨Tr.nil.put q (some o),n,n⟩
theorem N1(n q:Nat)(o:Ds)(r:Nat):(Ao6 n q o).get r=if q=r then some o else none:=by
 show(Tr.nil.put q (some o)).get r=_;rw[Tr.get_put];rfl
structure Sd(T:Ij)(call round:Ah)(n:Nat)(ops:List Oper)(bs:Tr Nat)(base:Nat)(o:Oper)(i:Nat)(s s':iP)(v:EV)(E E':Ab)(kd:Kd):Prop where
 tm:s'.tm=O9 n s.tm o.dst v
 run:(wanted ops s.tm o.guard=false/\v=.tuple []/\E'=E)\/(wanted ops s.tm o.guard=true/\aop T call round s.tm o.op E=some (v,E'))
 Ae5:E.next=s.h.next
 Ael:E'.next=s'.h.next
 sub:∀q x,E.get q=some x->s.h.get q=some x
 Bi6:∀q,s'.h.get q=if E'.get q=E.get q then s.h.get q else E'.get q
 w:AWf E E'
 mw:s'.h.mw<=s.h.mw/\∀q,q<s'.h.mw->q<s.h.next->E'.get q=E.get q
 kd:match kd with
  | .idle=>E=bare s.h.next/\E'=E/\s'.bg=s.bg/\s'.nw=s.nw/\s'.Cx=s.Cx/\s'.lou=s.lou/\s'.st=s.st
  | .load q=>(∃x,E=Ao6 s.h.next q x)/\E'=E/\s'.bg=s.bg/\s'.nw=s.nw/\s'.Cx=(Nat.shiftLeft 1 i,q)::s.Cx/\s'.lou=s.lou/\s'.st=s.st /\
   ∃b,bs.get i=some b/\Fc b q s.st=true/\((q<base/\Yl b q s.lou=true)\/(base<=q/\within s.bg b=true/\loose b s.nw = []))
  | .new=>E=bare s.h.next/\(∃x,E'=E.new x)/\s'.bg=s.bg/\s'.nw=(Nat.shiftLeft 1 i,s.h.next)::s.nw/\s'.Cx=s.Cx/\s'.lou=s.lou/\s'.st=s.st
  | .sto q=>(∃x y,E=Ao6 s.h.next q x/\E'=E.put q y)/\s'.bg=s.bg/\s'.nw=s.nw/\s'.Cx=s.Cx/\s'.lou=s.lou/\s'.st=(Nat.shiftLeft 1 i,q)::s.st /\
   ∃b,bs.get i=some b/\within s.bg b=true/\Fc b q s.st=true/\Fc b q s.Cx=true/\Az6 q (loose b s.nw)=true
  | .big mw=>∃b,bs.get i=some b/\within s.bg b=true/\Axm b s.st=true/\(∀q,E.get q=if q∈loose b s.nw then none else s.h.get q)/\s'.bg=Nat.lor s.bg (Nat.shiftLeft 1 i)/\s'.nw=s.nw/\s'.Cx=s.Cx/\s'.st=s.st /\
   (∀q,q<mw->q<s.h.next->E'.get q=E.get q)/\((s.h.next<=mw/\s'.lou=s.lou)\/(Yj b mw s.Cx=true/\s'.lou=(Nat.shiftLeft 1 i,mw)::s.lou))
theorem t_ {b:Nat}:∀{l:List (Nat × Nat)} {q:Nat},q∈loose b l↔∃m,(m,q)∈l/\within m b=false
 | [],q=>by simp[loose]
 | (m,r)::l,q=>by
  simp only[loose];rw[Bq];split
  next h=>
   rw[t_];constructor
   ·rintro⟨u,j,h2⟩;exact⟨u,aP _ j,h2⟩
   ·rintro⟨u,j,h2⟩
    rcases bZ.1 j with e|j
    ·cases e;rw[h]at h2;cases h2
    ·exact⟨u,j,h2⟩
  next h=>
   rw[bZ,t_];constructor
   ·rintro(rfl|⟨u,j,h2⟩)
    ·exact⟨m,aQ,by simpa using h⟩
    ·exact⟨u,aP _ j,h2⟩
   ·rintro⟨u,j,h2⟩
    rcases bZ.1 j with e|j
    ·cases e;exact .inl rfl
    ·exact .inr ⟨u,j,h2⟩
theorem u9(t:Tr Ds):∀(l:List Nat) (q:Nat),(j7 t l).get q=if q∈l then none else t.get q
 | [],q=>by simp[j7]
 | a::r,q=>by
  simp only[j7,Tr.get_put,u9 t r q,bZ];by_cases h:a=q
  ·subst h;simp
  ·rw[aH h];simp[cX h]
theorem u_(t e:Tr Ds):∀(l:List Nat) (q:Nat),(jU t e l).get q=if q∈l then t.get q else e.get q
 | [],q=>by simp[jU]
 | a::r,q=>by
  simp only[jU,Tr.get_put,u_ t e r q,bZ];by_cases h:a=q
  ·subst h;simp
  ·rw[aH h];simp[cX h]
theorem Bkd{call:Ah}{op:Op}(j:mT op=true)(e:E2 T tm op=some v):aop T call round tm op h=some (v,h):=by
 unfold aop;rw[j,Aj,e]
theorem OH {b c:Bool}(h:Bc b kV.val (Bc c .pur .big)=.val):b=true:=by
 cases b<;>cases c<;>first|rfl|(cases h)
theorem wQ {op:Op}(h:cls op=.val):mT op=true:=by
 cases op<;>first|rfl|(rename_i c;exact absurd (OH (show Bc false kV.val (Bc (lX (.call c)) .pur .big)=.val from h)) (by simp))|exact OH h|(cases h)
theorem OI {b c:Bool}(h:Bc b kV.val (Bc c .pur .big)=.pur):c=true:=by
 cases b<;>cases c<;>first|rfl|(cases h)
theorem tC {op:Op}(h:cls op=.pur):lX op=true:=by
 cases op<;>first|(rename_i c;exact OI (show Bc false kV.val (Bc (lX (.call c)) .pur .big)=.pur from h))|exact OI h|(cases h)
theorem ua{call:Ah}{op:Op}(e:mT op=false)(j:∀c,op≠.call c):aop T call round tm op h=Dr T tm op h:=by
 unfold aop;rw[e,Bo];split
 ·exact absurd rfl (j _)
 ·rfl
theorem OJ {op:Op}(h:cls op=.new):mT op=false/\∀c,op≠.call c:=by
 rcases wT h with⟨t,rfl⟩|⟨t,x,rfl⟩|⟨t,n,ps,rfl⟩|⟨t,a,b,rfl⟩|⟨t,r,rfl⟩|⟨t,x,rfl⟩<;>exact⟨rfl,fun _ h=>by cases h⟩
section
variable{call:Ah}(hC:Vu call)(hR:Vu round){ops:List Oper}{bs:Tr Nat}
include hC hR in
theorem xv{s s':iP}(h:Wa T call round n ops bs base o i s=some s')(ah:∀x∈s.nw,x.2<s.h.next):
 ∃v E E' kd,Sd T call round n ops bs base o i s s' v E E' kd:=by
 obtain⟨dst,op,ty,ps,af,g⟩:=o;obtain⟨tm,hp,bg,nw,Cx,lou,st⟩:=s;simp only[Wa]at h;rw[Bq]at h;split at h
 next hw=>
  split at h
  ·cases h
  next b hb=>
   split at h
   next G=>
    split at h
    next v hv=>
     cases h;exact⟨v,bare hp.next,bare hp.next,.idle,rfl,.inr ⟨hw,Bkd (wQ G) hv⟩,rfl,rfl,fun q x C=>(by cases C),fun q=>(by simp),.refl _,⟨aD _,fun _ _ _=>rfl⟩,rfl,rfl,rfl,rfl,rfl,rfl,rfl⟩
    ·cases h
   next G=>
    split at h
    next t x=>
     split at h
     next q off C=>
      obtain⟨j,h⟩:=An h;split at h
      next v h' y=>
       cases h;obtain⟨ob,O,X⟩:=Bmi C y;refine⟨v,Ao6 hp.next q ob,Ao6 hp.next q ob,.load q,rfl,.inr ⟨hw,?_⟩,rfl,rfl,fun r x Q=>?_,fun q=>(by simp),.refl _,⟨aD _,fun _ _ _=>rfl⟩,⟨_,rfl⟩,rfl,rfl,rfl,rfl,rfl,rfl,b,hb,?_⟩
       ·rw[ua rfl (fun _ e=>by cases e)]
        exact X _ (by rw[N1,aK rfl])
       ·rw[N1]at Q
        split at Q
        next e=>subst e;cases Q;exact O
        ·cases Q
       ·rw[Bq]at j
        split at j
        case isFalse=>cases j
        rename_i host;refine⟨host,?_⟩;rw[Bq]at j;split at j
        next M=>exact .inl ⟨bL M,j⟩
        next M=>
         refine .inr ⟨?_,?_⟩
         ·cases dC q base with
          | inl h=>exact absurd (mW h) M
          | inr h=>exact h
         ·rw[Bq]at j
          split at j
          next H=>
           refine⟨H,?_⟩;simp only[];split at j
           next e=>exact e
           ·cases j
          ·cases j
      ·cases h
     ·cases h
    ·cases h
   next G=>
    split at h
    next v h' y=>
     cases h;obtain⟨x,rfl,ai⟩:=Bpq G y;refine⟨v,bare hp.next,(bare hp.next).new x,.new,rfl,.inr ⟨hw,?_⟩,rfl,rfl,fun q x C=>(by cases C),fun q=>?_,.new _ _,⟨aD _,fun q _ h2=>?_⟩,rfl,⟨x,rfl⟩,rfl,rfl,rfl,rfl,rfl⟩
     ·rw[ua (OJ G).1 (OJ G).2]
      exact ai _ rfl
     ·show(hp.new x).get q=_
      rw[Ab.Kz,Ab.Kz,Bkr];show(if hp.next=q then some x else hp.get q)=if(if hp.next=q then some x else none)=none then hp.get q else if hp.next=q then some x else none
      by_cases e:hp.next=q
      ·rw[aK e,aK e,aH (by simp)]
      ·rw[aH e,aH e,aK rfl]
     ·have aq:q<hp.next:=h2
      rw[Ab.Kz,aH];show ¬hp.next=q
      omega
    ·cases h
   ·
    rename_i G;split at h
    next t a x=>
     split at h
     next q off ha=>
      obtain⟨j,h⟩:=An h;split at h
      next v h' y=>
       cases h;obtain⟨ob,J,O,rfl,X⟩:=Bi0 ha y;have aj:within bg b=true/\Fc b q st=true/\Fc b q Cx=true/\Az6 q (loose b nw)=true:=by
        rw[Bq]at j;split at j
        case isFalse=>cases j
        rename_i c1;rw[Bq]at j;split at j
        case isFalse=>cases j
        rename_i c2;rw[Bq]at j;split at j
        case isFalse=>cases j
        rename_i c3;exact⟨c1,c2,c3,j⟩
       have ad:(Ao6 hp.next q ob).get q=some ob:=by rw[N1,aK rfl]
       refine⟨v,Ao6 hp.next q ob,(Ao6 hp.next q ob).put q J,.sto q,rfl,.inr ⟨hw,?_⟩,rfl,rfl,fun r x Q=>?_,fun r=>?_,.put ad _,⟨?_,fun r F h2=>?_⟩,⟨_,_,rfl,rfl⟩,rfl,rfl,rfl,rfl,rfl,b,hb,aj⟩
       ·rw[ua rfl (fun _ e=>by cases e)]
        exact X _ ad
       ·rw[N1]at Q
        split at Q
        next e=>subst e;cases Q;exact O
        ·cases Q
       ·show(hp.put q J).get r=_
        rw[Ab.get_put,Ab.get_put,N1];by_cases e:q=r
        ·subst e
         rw[aK rfl,aK rfl,aK rfl];by_cases e2:some J=some ob
         ·rw[aK e2,e2];exact O.symm
         ·rw[aH e2]
        ·rw[aH e,aH e,aH e,aK rfl]
       ·show(hp.put q J).mw<=hp.mw
        rw[Ab.mI];exact Nat.min_le_right _ _
       ·have Y:r<(hp.put q J).mw:=F
        rw[Ab.mI]at Y;rw[Ab.get_put,aH a_]
      ·cases h
     ·cases h
    ·cases h
   ·
    rename_i G;split at h
    next v h' y=>
     cases h;have:=LX (tC G) y;subst this;exact⟨v,bare hp.next,bare hp.next,.idle,rfl,.inr ⟨hw,(wO (tC G)).trans y⟩,rfl,rfl,fun q x C=>(by cases C),fun q=>(by simp),.refl _,⟨aD _,fun _ _ _=>rfl⟩,rfl,rfl,rfl,rfl,rfl,rfl,rfl⟩
    ·cases h
   next G=>
    obtain⟨A,h⟩:=An h;have H:within bg b=true:=by
     rw[Bq]at A;split at A
     next c1=>exact c1
     ·cases A
    have ae:Axm b st=true:=by rw[H,Aj]at A;exact A
    obtain⟨t,nx,mw⟩:=hp;simp only[]at h;split at h
    next v L B u y=>
     have hwf:=NY hC hR y;have hE:∀q,(⟨j7 t (loose b nw),nx,nx⟩:Ab).get q=if q∈loose b nw then none else(⟨t,nx,mw⟩:Ab).get q:=fun q=>u9 t _ q
     have U:∀q x,(⟨j7 t (loose b nw),nx,nx⟩:Ab).get q=some x->(⟨t,nx,mw⟩:Ab).get q=some x:=by
      intro q x C;rw[hE]at C;split at C
      ·cases C
      ·exact C
     have ag:∀Z q,(⟨jU t L (loose b nw),B,Z⟩:Ab).get q=if(⟨L,B,u⟩:Ab).get q=(⟨j7 t (loose b nw),nx,nx⟩:Ab).get q then(⟨t,nx,mw⟩:Ab).get q else(⟨L,B,u⟩:Ab).get q:=by
      intro Z q;have e1:(⟨jU t L (loose b nw),B,Z⟩:Ab).get q=if q∈loose b nw then t.get q else L.get q:=u_ t L _ q
      rw[e1];by_cases M:q∈loose b nw
      ·rw[aK M]
       by_cases he:(⟨L,B,u⟩:Ab).get q=(⟨j7 t (loose b nw),nx,nx⟩:Ab).get q
       ·rw[aK he];rfl
       ·exfalso
        apply he;rw[hE,aK M];cases C:(⟨L,B,u⟩:Ab).get q with
        | none=>rfl
        | some o=>
         rcases hwf.live q o C with⟨o',F⟩|F
         ·rw[hE,aK M]at F;cases F
         ·obtain⟨m,hm,_⟩:=t_.1 M
          have h2:q<nx:=ah _ hm;have h3:nx<=q:=F;omega
      ·rw[aH M]
       by_cases he:(⟨L,B,u⟩:Ab).get q=(⟨j7 t (loose b nw),nx,nx⟩:Ab).get q
       ·rw[aK he]
        have:L.get q=(⟨L,B,u⟩:Ab).get q:=rfl;rw[this,he,hE,aH M]
       ·rw[aH he];rfl
     rw[Bq]at h;split at h
     next hm=>
      cases h;exact⟨v,_,_,.big u,rfl,.inr ⟨hw,y⟩,rfl,rfl,U,ag _,hwf,⟨aD _,fun q F h2=>hwf.same q (aL h2 (bL hm)) h2⟩,b,hb,H,ae,hE,rfl,rfl,rfl,rfl,fun q F h2=>hwf.same q F h2,.inl ⟨bL hm,rfl⟩⟩
     ·obtain⟨al,h⟩:=An h
      cases h;have W:Bc (Nat.ble mw u) mw u=min mw u:=by
       rw[Bq];by_cases e:mw<=u
       ·rw[mW e,aK rfl,dV e]
       ·rw[pj e,aH (by simp),Nat.min_eq_right a_]
      refine⟨v,_,_,.big u,rfl,.inr ⟨hw,y⟩,rfl,rfl,U,ag _,hwf,⟨?_,fun q F h2=>hwf.same q ?_ h2⟩,b,hb,H,ae,hE,rfl,rfl,rfl,rfl,fun q F h2=>hwf.same q F h2,.inr ⟨al,rfl⟩⟩
      ·show Bc (Nat.ble mw u) mw u<=mw
       rw[W];exact Nat.min_le_left _ _
      ·have Y:q<Bc (Nat.ble mw u) mw u:=F
       rw[W]at Y;show q<u;omega
    ·cases h
 next hw=>
  cases h;exact⟨.tuple [],bare hp.next,bare hp.next,.idle,rfl,.inl ⟨by simpa using hw,rfl,rfl⟩,rfl,rfl,fun q x C=>(by cases C),fun q=>(by simp),.refl _,⟨aD _,fun _ _ _=>rfl⟩,rfl,rfl,rfl,rfl,rfl,rfl,rfl⟩
end
end
variable {kd:Kd}{K:Nat->Kd}
section
open Classical
theorem OK {b:Nat}:∀{l:List (Nat × Nat)},Yl b q l=true->∀{m w:Nat},(m,w)∈l->within m b=true\/q<w
 | [],_,m,w,h=>by simp at h
 | (u,w')::r,h,m,w,hm=>by
  simp only[Yl]at h;rw[Bq]at h;split at h
  next j=>
   rcases bZ.1 hm with e|hm
   ·cases e
    rw[Bq]at j;split at j
    next hw=>exact .inl hw
    ·exact .inr (bL j)
   ·exact OK h hm
  ·cases h
theorem OL {b w:Nat}:∀{l:List (Nat × Nat)},Yj b w l=true->∀{m q:Nat},(m,q)∈l->within m b=true\/q<w
 | [],_,m,q,h=>by simp at h
 | (u,q')::r,h,m,q,hm=>by
  simp only[Yj]at h;rw[Bq]at h;split at h
  next j=>
   rcases bZ.1 hm with e|hm
   ·cases e
    rw[Bq]at j;split at j
    next hw=>exact .inl hw
    ·exact .inr (bL j)
   ·exact OL h hm
  ·cases h
theorem Yo {b:Nat}:∀{l:List (Nat × Nat)},Fc b q l=true->∀{m r:Nat},(m,r)∈l->within m b=true\/q≠r
 | [],_,m,r,h=>by simp at h
 | (u,y)::l,h,m,r,hm=>by
  simp only[Fc]at h;rw[Bq]at h;split at h
  next j=>
   rcases bZ.1 hm with e|hm
   ·cases e
    rw[Bq]at j;split at j
    next hw=>exact .inl hw
    ·refine .inr fun e=>?_
     subst e;rw[show Nat.beq q q=true from cO q]at j;cases j
   ·exact Yo h hm
  ·cases h
theorem OM {b:Nat}:∀{l:List (Nat × Nat)},Axm b l=true->∀{m r:Nat},(m,r)∈l->within m b=true
 | [],_,m,r,h=>by simp at h
 | (u,y)::l,h,m,r,hm=>by
  simp only[Axm]at h;rw[Bq]at h;split at h
  next j=>
   rcases bZ.1 hm with e|hm
   ·cases e;exact j
   ·exact OM h hm
  ·cases h
theorem ON:∀{l:List Nat},Az6 q l=true->q ∉ l
 | [],_=>by simp
 | r::l,h=>by
  simp only[Az6]at h;rw[Bq]at h;split at h
  ·cases h
  next j=>
   intro hm;rcases bZ.1 hm with e|hm
   ·subst e;exact j (cO q)
   ·exact ON h hm
section
variable{call:Ah}(hC:Vu call)(hR:Vu round){ops:List Oper}{bs:Tr Nat}
theorem OO:∀{l:List Oper} {i:Nat} {s r:iP},Sp T call round n ops bs base l i s=some r ->
 ∃σ:Nat->iP,σ i=s/\σ (i+l.length)=r/\∀k o,l[k]? = some o->Wa T call round n ops bs base o (i+k) (σ (i+k))=some (σ (i+k+1))
 | [],i,s,r,h=>by cases h;exact⟨fun _=>s,rfl,rfl,fun k o h=>by simp at h⟩
 | o::l,i,s,r,h=>by
  simp only[Sp]at h;split at h
  next s' hs=>
   obtain⟨σ,j,h2,u⟩:=OO h;have e:σ (i+1)=s':=j;refine⟨fun m=>if m=i then s else σ m,aK rfl,?_,fun k o' hk=>?_⟩
   ·show(if i+(l.length+1)=i then s else σ (i+(l.length+1)))=r
    rw[aH a_,<-h2];congr 1;show i+(l.length+1)=i+1+l.length;omega
   ·cases k with
    | zero=>
     simp only[bR,cQ]at hk;subst hk;show Wa T call round n ops bs base o i (if i=i then s else σ i)=some (if i+1=i then s else σ (i+1));rw[aK rfl,aH a_,e];exact hs
    | succ k=>
     have:=u k o' (by simpa using hk);have e1:i+(k+1)=i+1+k:=a_
     show Wa T call round n ops bs base o' (i+(k+1)) (if i+(k+1)=i then s else σ (i+(k+1)))=some (if i+(k+1)+1=i then s else σ (i+(k+1)+1));rw[aH a_,aH a_,e1];exact this
  ·cases h
structure jS(T:Ij)(call round:Ah)(n:Nat)(ops:List Oper)(bs:Tr Nat)(base:Nat)(σ:Nat->iP)(V:Nat->EV)(E E':Nat->Ab)(K:Nat->Kd):Prop where
 sd:∀i o,ops[i]? = some o->Sd T call round n ops bs base o i (σ i) (σ (i+1)) (V i) (E i) (E' i) (K i)
 lt:∀i,i<=ops.length->∀q x,(σ i).h.get q=some x->q<(σ i).h.next
 base:base=(σ 0).h.next
include hC hR in
theorem Bpo {s r:iP}(h:Sp T call round n ops bs s.h.next ops 0 s=some r)(A:∀q x,s.h.get q=some x->q<s.h.next)(B:s.nw = []):
 ∃σ V E E' K,σ 0=s/\σ ops.length=r/\jS T call round n ops bs s.h.next σ V E E' K:=by
 obtain⟨σ,C,h2,F⟩:=OO h;simp only[bJ]at h2 F;have key:∀i,i<=ops.length->(∀x∈(σ i).nw,x.2<(σ i).h.next)/\∀q x,(σ i).h.get q=some x->q<(σ i).h.next:=by
  intro i;induction i with
  | zero=>intro _;rw[C,B];exact⟨fun x j=>by simp at j,A⟩
  | succ i G=>
   intro hi;obtain⟨i1,i2⟩:=G a_;have u:ops[i]? = some ops[i]:=aE a_;obtain⟨v,E,E',kd,sd⟩:=xv hC hR (F i _ u) i1;have e:(σ i).h.next<=(σ (i+1)).h.next:=by rw[<-sd.Ae5,<-sd.Ael];exact sd.w.next
   constructor
   ·intro x j
    have:=sd.kd;cases kd with
    | idle=>rw[this.2.2.2.1]at j;exact aL (i1 x j) e
    | load q=>rw[this.2.2.2.1]at j;exact aL (i1 x j) e
    | new=>
     obtain⟨a,⟨y,b⟩,c,d,_⟩:=this;rw[d]at j;rcases bZ.1 j with rfl|j
     ·show(σ i).h.next<_
      rw[<-sd.Ael,b,Ab.Dd,sd.Ae5];omega
     ·exact aL (i1 x j) e
    | sto q=>
     obtain⟨_,_,d,_⟩:=this;rw[d]at j;exact aL (i1 x j) e
    | big mw=>
     obtain⟨b,_,_,_,_,_,d,_⟩:=this;rw[d]at j;exact aL (i1 x j) e
   ·intro q x j
    rw[sd.Bi6]at j;split at j
    ·exact aL (i2 q x j) e
    ·rw[<-sd.Ael]
     refine sd.w.lt (fun q x j=>?_) q x j;rw[sd.Ae5];exact i2 q x (sd.sub q x j)
 have ex:∀i,∃v E E' kd,∀o,ops[i]? = some o->Sd T call round n ops bs s.h.next o i (σ i) (σ (i+1)) v E E' kd:=by
  intro i;cases u:ops[i]? with
  | none=>exact⟨.tuple [],bare 0,bare 0,.idle,fun o h=>by cases h⟩
  | some o=>
   have hi:i<ops.length:=(aZ.1 u).1;obtain⟨v,E,E',kd,sd⟩:=xv hC hR (F i _ u) (key i a_).1;exact⟨v,E,E',kd,fun o' h=>by cases h;exact sd⟩
 exact⟨σ,fun i=>(ex i).choose,fun i=>(ex i).choose_spec.choose,fun i=>(ex i).choose_spec.choose_spec.choose,fun i=>(ex i).choose_spec.choose_spec.choose_spec.choose,C,h2,
  fun i=>(ex i).choose_spec.choose_spec.choose_spec.choose_spec,fun i hi=>(key i hi).2,by rw[C]⟩
variable(tr:jS T call round n ops bs base σ V E E' K)
include tr
theorem jS.next(hi:i<ops.length):(σ i).h.next<=(σ (i+1)).h.next:=by
 have sd:=tr.sd i _ (aE hi);rw[<-sd.Ae5,<-sd.Ael];exact sd.w.next
theorem jS.xw(j:i<=m)(hm:m<=ops.length):(σ i).h.next<=(σ m).h.next:=by
 induction m with
 | zero=>
  have:i=0:=a_
  subst this;exact aD _
 | succ m u=>
  by_cases e:i=m+1
  ·subst e;exact aD _
  ·exact bS (u a_ a_) (tr.next a_)
theorem jS.notes(B:i<=m)(hm:m<=ops.length):
 (∀x∈(σ i).nw,x∈(σ m).nw)/\(∀x∈(σ i).Cx,x∈(σ m).Cx)/\(∀x∈(σ i).lou,x∈(σ m).lou)/\(∀j,(σ i).bg.testBit j=true->(σ m).bg.testBit j=true)/\(∀x∈(σ i).st,x∈(σ m).st):=by
 induction m with
 | zero=>
  have:i=0:=a_
  subst this;exact⟨fun _ h=>h,fun _ h=>h,fun _ h=>h,fun _ h=>h,fun _ h=>h⟩
 | succ m C=>
  by_cases e:i=m+1
  ·subst e;exact⟨fun _ h=>h,fun _ h=>h,fun _ h=>h,fun _ h=>h,fun _ h=>h⟩
  ·obtain⟨a,b,c,d,f⟩:=C a_ a_
   have sd:=(tr.sd m _ (aE a_)).kd;cases hk:K m with
   | idle=>
    rw[hk]at sd;obtain⟨_,_,s1,s2,y,u,A⟩:=sd;rw[s1,s2,y,u,A];exact⟨a,b,c,d,f⟩
   | load q=>
    rw[hk]at sd;obtain⟨_,_,s1,s2,y,u,A,_⟩:=sd;rw[s1,s2,y,u,A];exact⟨a,fun x h=>aP _ (b x h),c,d,f⟩
   | new=>
    rw[hk]at sd;obtain⟨_,_,s1,s2,y,u,A⟩:=sd;rw[s1,s2,y,u,A];exact⟨fun x h=>aP _ (a x h),b,c,d,f⟩
   | sto q=>
    rw[hk]at sd;obtain⟨_,s1,s2,y,u,A,_⟩:=sd;rw[s1,s2,y,u,A];exact⟨a,b,c,d,fun x h=>aP _ (f x h)⟩
   | big mw=>
    rw[hk]at sd;obtain⟨_,_,_,_,_,s1,s2,y,A,_,u⟩:=sd;rw[s1,s2,y,A];refine⟨a,b,?_,fun j h=>by rw[Mw,d j h];rfl,f⟩;rcases u with⟨_,u⟩|⟨_,u⟩<;>rw[u]
    ·exact c
    ·exact fun x h=>aP _ (c x h)
theorem jS.uc(hi:i<ops.length){x:Ds}(h:(E i).get q=some x):q<(σ i).h.next:=
 tr.lt i a_ q x ((tr.sd i _ (aE hi)).sub q x h)
theorem jS.Brf(hi:i<ops.length){x:Ds}(h:(E' i).get q=some x):q<(σ (i+1)).h.next:=by
 have sd:=tr.sd i _ (aE hi);rw[<-sd.Ael];refine sd.w.lt (fun q x e=>?_) q x h;rw[sd.Ae5];exact tr.uc hi e
theorem jS.Bd5(hi:i<ops.length)(h:(E i).get q=none)(u:q<(σ i).h.next):(E' i).get q=(E i).get q:=by
 have sd:=tr.sd i _ (aE hi);cases j:(E' i).get q with
 | none=>exact h.symm
 | some o=>
  rcases sd.w.live q o j with⟨o',e⟩|e
  ·rw[h]at e;cases e
  ·rw[sd.Ae5]at e;omega
theorem jS.pair(bk:i<m)(hm:m<ops.length){b:Nat}(hb:bs.get m=some b)(hn:b.testBit i=false):
 (∀q,(E' i).get q=(E i).get q\/(E' m).get q=(E m).get q)/\(∀q x,(E i).get q=some x->(E' m).get q=(E m).get q)/\(∀q x,(E m).get q=some x->(E' i).get q=(E i).get q):=by
 have hi:i<ops.length:=a_
 have au:=tr.sd i _ (aE hi);have a1:=tr.sd m _ (aE hm);obtain⟨n1,n2,n3,n4,n5⟩:=tr.notes (i:=i+1) (m:=m) a_ a_;have a7:=tr.xw (i:=i+1) (m:=m) a_ a_;have a2:=tr.next hi
 have ba:base<=(σ i).h.next:=by rw[tr.base];exact tr.xw a_ a_
 have Q:=A3t hn;have Z:=au.kd;have Y:=a1.kd;have H:K i=.new->(Nat.shiftLeft 1 i,(σ i).h.next)∈(σ m).nw/\(∀q,q≠(σ i).h.next->(E' i).get q=(E i).get q)/\(∀q,(E i).get q=none)/\(σ i).h.next<(σ (i+1)).h.next:=by
  intro hk;rw[hk]at Z;obtain⟨k1,⟨x,k2⟩,_,k4,_⟩:=Z;refine⟨n1 _ (by rw[k4];exact aQ),fun q hq=>?_,fun q=>by rw[k1];rfl,?_⟩
  ·rw[k2,Ab.Kz,aH];rw[au.Ae5];exact fun e=>hq e.symm
  ·rw[<-au.Ael,k2,Ab.Dd,au.Ae5];omega
 have J:K m=.new->(∀q,q≠(σ m).h.next->(E' m).get q=(E m).get q)/\(∀q,(E m).get q=none):=by
  intro hk;rw[hk]at Y;obtain⟨k1,⟨x,k2⟩,_⟩:=Y;refine⟨fun q hq=>?_,fun q=>by rw[k1];rfl⟩;rw[k2,Ab.Kz,aH];rw[a1.Ae5];exact fun e=>hq e.symm
 have L:∀r,K i=.sto r->(Nat.shiftLeft 1 i,r)∈(σ m).st/\(∀q,q≠r->(E' i).get q=(E i).get q)/\(∀q x,(E i).get q=some x->q=r)/\r<(σ i).h.next:=by
  intro r hk;rw[hk]at Z;obtain⟨⟨x,y,k1,k2⟩,_,_,_,_,k4,_⟩:=Z;have hr:(E i).get r=some x:=by rw[k1,N1,aK rfl]
  refine⟨n5 _ (by rw[k4];exact aQ),fun q hq=>?_,fun q z hz=>?_,tr.uc hi hr⟩
  ·rw[k2,Ab.get_put,aH];exact fun e=>hq e.symm
  ·rw[k1,N1]at hz
   split at hz
   next e=>exact e.symm
   ·cases hz
 have A:∀r,K m=.sto r->within (σ m).bg b=true/\Fc b r (σ m).st=true/\Fc b r (σ m).Cx=true/\r ∉ loose b (σ m).nw/\(∀q,q≠r->(E' m).get q=(E m).get q)/\(∀q x,(E m).get q=some x->q=r):=by
  intro r hk;rw[hk]at Y;obtain⟨⟨x,y,k1,k2⟩,_,_,_,_,k4,b',M,c1,c2,c3,c4⟩:=Y;rw[hb]at M;cases M;refine⟨c1,c2,c3,ON c4,fun q hq=>?_,fun q z hz=>?_⟩
  ·rw[k2,Ab.get_put,aH];exact fun e=>hq e.symm
  ·rw[k1,N1]at hz
   split at hz
   next e=>exact e.symm
   ·cases hz
 have O:∀r,K i=.load r->(Nat.shiftLeft 1 i,r)∈(σ m).Cx/\(∀q x,(E i).get q=some x->q=r):=by
  intro r hk;rw[hk]at Z;obtain⟨⟨y,k1⟩,_,_,_,k5,_⟩:=Z;refine⟨n2 _ (by rw[k5];exact aQ),fun q z hz=>?_⟩;rw[k1,N1]at hz;split at hz
  next e=>exact e.symm
  ·cases hz
 have F:∀r,K m=.load r->Fc b r (σ m).st=true/\((r<base/\Yl b r (σ m).lou=true)\/(base<=r/\within (σ m).bg b=true/\loose b (σ m).nw = []))/\(∀q x,(E m).get q=some x->q=r):=by
  intro r hk;rw[hk]at Y;obtain⟨⟨y,k1⟩,_,_,_,_,_,_,b',M,k7,k8⟩:=Y;rw[hb]at M;cases M;refine⟨k7,k8,fun q z hz=>?_⟩;rw[k1,N1]at hz;split at hz
  next e=>exact e.symm
  ·cases hz
 have ay:∀mw,K i=.big mw->(σ m).bg.testBit i=true:=by
  intro mw h1;rw[h1]at Z;obtain⟨_,_,_,_,_,k5,_⟩:=Z;exact n4 i (by rw[k5,Mw,H8];simp)
 have W:∀mw,K m=.big mw->within (σ m).bg b=true/\Axm b (σ m).st=true:=by
  intro mw h2;rw[h2]at Y;obtain⟨b',M,hw,bf,_⟩:=Y;rw[hb]at M;cases M;exact⟨hw,bf⟩
 have al:∀{mw},K i=.big mw->within (σ m).bg b=true->False:=by
  intro mw h1 hw;rw[xr hw (ay mw h1)]at hn;cases hn
 have af:∀{r mw},K i=.sto r->K m=.big mw->False:=by
  intro r mw h1 h2;have:=OM (W mw h2).2 (L r h1).1;rw[Q]at this;cases this
 have X:(K i=.idle\/∃q,K i=.load q)->∀q,(E' i).get q=(E i).get q:=by
  rintro(h|⟨r,h⟩) q<;>rw[h]at Z
  ·rw[Z.2.1]
  ·rw[Z.2.1]
 have B:(K m=.idle\/∃q,K m=.load q)->∀q,(E' m).get q=(E m).get q:=by
  rintro(h|⟨r,h⟩) q<;>rw[h]at Y
  ·rw[Y.2.1]
  ·rw[Y.2.1]
 have ai:K i=.idle->∀q,(E i).get q=none:=fun h q=>by rw[h]at Z;rw[Z.1];rfl
 have U:K m=.idle->∀q,(E m).get q=none:=fun h q=>by rw[h]at Y;rw[Y.1];rfl
 have C:K i=.new->(σ i).h.next∈loose b (σ m).nw:=fun h1=>t_.2 ⟨_,(H h1).1,Q⟩
 have aj:∀mw,K i=.new->K m=.big mw->(E m).get (σ i).h.next=none:=by
  intro mw h1 h2;rw[h2]at Y;obtain⟨b',M,_,_,he,_⟩:=Y;rw[hb]at M;cases M;rw[he,aK (C h1)]
 have ag:∀{r r'},K i=.sto r->K m=.sto r'->r'≠r:=by
  intro r r' h1 h2;rcases Yo (A r' h2).2.1 (L r h1).1 with h|h
  ·rw[Q]at h;cases h
  ·exact h
 refine⟨fun q=>?_,fun q x G=>?_,fun q x G=>?_⟩
 ·cases u:K i with
  | idle=>exact .inl (X (.inl u) q)
  | load r=>exact .inl (X (.inr ⟨r,u⟩) q)
  | new=>
   by_cases hq:q=(σ i).h.next
   ·subst hq
    right;cases j:K m with
    | idle=>exact B (.inl j) _
    | load r=>exact B (.inr ⟨r,j⟩) _
    | new=>exact(J j).1 _ (by have:=(H u).2.2.2;omega)
    | sto r=>exact(A r j).2.2.2.2.1 _ (fun e=>(A r j).2.2.2.1 (e▸C u))
    | big mw=>exact tr.Bd5 hm (aj mw u j) (by have:=(H u).2.2.2;omega)
   ·exact .inl ((H u).2.1 q hq)
  | sto r=>
   by_cases hq:q=r
   ·subst hq
    right;cases j:K m with
    | idle=>exact B (.inl j) _
    | load r=>exact B (.inr ⟨r,j⟩) _
    | new=>exact(J j).1 _ (by have:=(L _ u).2.2.2;omega)
    | sto r'=>exact(A r' j).2.2.2.2.1 _ (fun e=>ag u j e.symm)
    | big mw=>exact(af u j).elim
   ·exact .inl ((L r u).2.1 q hq)
  | big mw=>
   cases j:K m with
   | idle=>exact .inr (B (.inl j) _)
   | load r=>exact .inr (B (.inr ⟨r,j⟩) _)
   | new=>
    by_cases hq:q=(σ m).h.next
    ·left
     have h1:(E' i).get q=none:=by
      cases h:(E' i).get q with
      | none=>rfl
      | some o=>have:=tr.Brf hi h;omega
     have h2:(E i).get q=none:=by
      cases h:(E i).get q with
      | none=>rfl
      | some o=>have:=tr.uc hi h;omega
     rw[h1,h2]
    ·exact .inr ((J j).1 q hq)
   | sto r=>exact(al u (A r j).1).elim
   | big aq=>exact(al u (W aq j).1).elim
 ·have bx:=tr.uc hi G
  cases j:K m with
  | idle=>exact B (.inl j) _
  | load r=>exact B (.inr ⟨r,j⟩) _
  | new=>exact(J j).1 q a_
  | sto r'=>
   cases u:K i with
   | idle=>rw[ai u]at G;cases G
   | new=>rw[(H u).2.2.1]at G;cases G
   | big aq=>exact(al u (A r' j).1).elim
   | load r=>
    have:=(O r u).2 q x G;subst this;refine(A r' j).2.2.2.2.1 _ fun e=>?_
    rcases Yo (A r' j).2.2.1 (O _ u).1 with h|h
    ·rw[Q]at h;cases h
    ·exact h e.symm
   | sto r=>
    have:=(L r u).2.2.1 q x G;subst this;exact(A r' j).2.2.2.2.1 _ (fun e=>ag u j e.symm)
  | big mw=>
   cases u:K i with
   | idle=>rw[ai u]at G;cases G
   | new=>rw[(H u).2.2.1]at G;cases G
   | big aq=>exact(al u (W mw j).1).elim
   | sto r=>exact(af u j).elim
   | load r=>
    have:=(O r u).2 q x G;subst this;rw[j]at Y;obtain⟨b',M,_,_,_,_,_,_,_,h8,h9⟩:=Y;rw[hb]at M;cases M;refine h8 _ ?_ a_;rcases h9 with⟨h9,_⟩|⟨h9,_⟩
    ·omega
    ·rcases OL h9 (O _ u).1 with h|h
     ·rw[Q]at h;cases h
     ·exact h
 ·cases u:K i with
  | idle=>exact X (.inl u) q
  | load r=>exact X (.inr ⟨r,u⟩) q
  | new=>
   refine(H u).2.1 q fun e=>?_
   subst e;cases j:K m with
   | idle=>rw[U j]at G;cases G
   | new=>rw[(J j).2]at G;cases G
   | big mw=>rw[aj mw u j]at G;cases G
   | sto r=>exact(A r j).2.2.2.1 ((A r j).2.2.2.2.2 _ x G▸C u)
   | load r=>
    have e:=(F r j).2.2 _ x G;rcases(F r j).2.1 with⟨h1,_⟩|⟨_,_,h3⟩
    ·omega
    ·have:=C u
     rw[h3]at this;cases this
  | sto r=>
   refine(L r u).2.1 q fun e=>?_
   subst e;cases j:K m with
   | idle=>rw[U j]at G;cases G
   | new=>rw[(J j).2]at G;cases G
   | big mw=>exact(af u j).elim
   | sto r'=>exact ag u j ((A r' j).2.2.2.2.2 _ x G).symm
   | load r'=>
    have e:=(F r' j).2.2 _ x G;subst e;rcases Yo (F _ j).1 (L _ u).1 with h|h
    ·rw[Q]at h;cases h
    ·exact h rfl
  | big mw=>
   cases j:K m with
   | idle=>rw[U j]at G;cases G
   | new=>rw[(J j).2]at G;cases G
   | sto r=>exact(al u (A r j).1).elim
   | big aq=>exact(al u (W aq j).1).elim
   | load r=>
    have e:=(F r j).2.2 _ x G;subst e;rw[u]at Z;obtain⟨bi,_,_,_,_,kb,_,_,_,h8,h9⟩:=Z;rcases(F _ j).2.1 with⟨h1,h2⟩|⟨_,h2,_⟩
    ·refine h8 _ ?_ a_
     rcases h9 with⟨h9,_⟩|⟨_,h9⟩
     ·omega
     ·rcases OK h2 (n3 _ (by rw[h9];exact aQ))with h|h
      ·rw[Q]at h;cases h
      ·exact h
    ·have:(σ m).bg.testBit i=true:=n4 i (by rw[kb,Mw,H8];simp)
     rw[xr h2 this]at hn;cases hn
end
end
section
open Classical
structure Ah8(p:Nat->Prop)(f0:Loc)(h0:Ab)(w0:World)(f:Loc)(g:Nat->Option Ds)(w:World):Prop where
 agree:Loc.agree p f0 f
 obj:∀i o,g i=some o->∃r,w.heap[f.b i]? = some r/\Td f i o r
 inj:∀i j o o',g i=some o->g j=some o'->f.b i=f.b j->i=j
 kept:∀b,b<w0.heap.size->(∀i o,h0.get i=some o->f0.b i≠b)->w.heap[b]? = w0.heap[b]?
 size:w0.heap.size<=w.heap.size
 tape:w.tape=w0.tape
 os:w.os=w0.os
 output:w.output=w0.output
 own:∀i o,g i=some o->w0.heap.size<=f.b i\/∃j o',h0.get j=some o'/\f.b i=f0.b j
theorem Ah8.start{w:World}(e:Tt f h w):Ah8 p f h w f h.get w where
 agree:=Loc.tL _ _
 obj:=e.obj
 inj:=e.inj
 kept _ _ _:=rfl
 size:=aD _
 tape:=rfl
 os:=rfl
 output:=rfl
 own i o j:=.inr ⟨i,o,j,rfl⟩
theorem Ah8.drew{w0 w:World}{g:Nat->Option Ds}(m:Ah8 p f0 h0 w0 f g w)(k:Nat):Ah8 p f0 h0 w0 f g { w with drawn:=k }:=
 ⟨m.agree,m.obj,m.inj,m.kept,m.size,m.tape,m.os,m.output,m.own⟩
theorem Ah8.move{w0 w:World}{g:Nat->Option Ds}(m:Ah8 p f0 h0 w0 f g w)(e:∀q,h.get q=g q):Move p f0 h0 w0 f h w where
 agree:=m.agree
 rep:=⟨fun i o u=>m.obj i o (by rw[<-e];exact u),fun i j o o' u y=>m.inj i j o o' (by rw[<-e];exact u) (by rw[<-e];exact y)⟩
 kept:=m.kept
 size:=m.size
 tape:=m.tape
 os:=m.os
 output:=m.output
 own i o u:=m.own i o (by rw[<-e];exact u)
def patch(n:Nat)(f1 f:Loc):Loc:=⟨fun q=>if q<n then f1.b q else f.b q,fun q=>if q<n then f1.sp q else f.sp q⟩
theorem OP(h:q<n):(patch n f1 f).b q=f1.b q/\(patch n f1 f).sp q=f1.sp q:=⟨aK h,aK h⟩
theorem Bhr(h:n<=q):(patch n f1 f).b q=f.b q/\(patch n f1 f).sp q=f.sp q:=⟨aH a_,aH a_⟩
def jH(D D':Ab)(g:Nat->Option Ds)(q:Nat):Option Ds:=if D'.get q=D.get q then g q else D'.get q
section
variable{w0:World}{g:Nat->Option Ds}{w:World}{pq:Nat->Prop}{D D':Ab}{w1:World}
theorem OQ(hm:Move (fun q=>pq q/\q<D.next) f D w f1 D' w1)(hw:Wf (fun q=>pq q/\q<D.next) D D')(e:∀q,pq q->q<D.next\/D'.next<=q):
 Loc.agree pq f (patch D'.next f1 f):=by
 intro q j;rcases e q j with h|h
 ·obtain⟨e1,e2⟩:=OP (f1:=f1) (f:=f) (aL h hw.next)
  rw[e1,e2];exact hm.agree q ⟨j,h⟩
 ·obtain⟨e1,e2⟩:=Bhr (f1:=f1) (f:=f) h
  rw[e1,e2];exact⟨rfl,rfl⟩
theorem OR(hw:Wf (fun q=>pq q/\q<D.next) D D'):Loc.agree (grow (fun q=>pq q/\q<D.next) D D') f1 (patch D'.next f1 f):=by
 intro q e;have:q<D'.next:=by
  rcases e with h|h
  ·exact aL h.2 hw.next
  ·exact h.2
 obtain⟨e1,e2⟩:=OP (f1:=f1) (f:=f) this;rw[e1,e2];exact⟨rfl,rfl⟩
theorem Ah8.step(m:Ah8 p0 f0 h0 w0 f g w)(F:∀q x,D.get q=some x->g q=some x)(hg:∀q x,g q=some x->pq q/\x.ok pq)
 (aa:∀q,p0 q->pq q) (hm:Move (fun q=>pq q/\q<D.next) f D w f1 D' w1) (hw:Wf (fun q=>pq q/\q<D.next) D D') (Y:∀q,pq q->q<D.next\/D'.next<=q) :
 Ah8 p0 f0 h0 w0 (patch D'.next f1 f) (jH D D' g) w1:=by
 have X:=OQ hm hw Y;have Q:=OR (f1:=f1) (f:=f) hw;have ad:∀q x,D'.get q=some x->jH D D' g q=some x:=by
  intro q x A;unfold jH;split
  next e=>exact F q x (by rw[<-e];exact A)
  ·exact A
 have B:∀q x,jH D D' g q=some x->D'.get q=some x\/(D'.get q=none/\D.get q=none/\g q=some x):=by
  intro q x A;cases hd:D'.get q with
  | some y=>rw[ad q y hd]at A;exact .inl A
  | none=>
   unfold jH at A;split at A
   next e=>rw[hd]at e;exact .inr ⟨rfl,e.symm,A⟩
   ·rw[hd]at A;cases A
 have G:∀q x,D'.get q=some x->(patch D'.next f1 f).b q=f1.b q:=fun q x A=>(Q q (hw.hok.get q x A).1).1.symm
 have H:∀q x,g q=some x->(patch D'.next f1 f).b q=f.b q:=fun q x A=>(X q (hg q x A).1).1.symm
 have Z:∀q x,g q=some x->f.b q<w.heap.size:=by
  intro q x A;obtain⟨r,M,_⟩:=m.obj q x A;exact(bh.1 M).1
 have U:∀q x,g q=some x->D.get q=none->∀i o,D.get i=some o->f.b i≠f.b q:=by
  intro q x A hd i o hi e;have:=m.inj i q o x (F i o hi) A e;subst this;rw[hd]at hi;cases hi
 refine⟨?_,?_,?_,?_,bS m.size hm.size,hm.tape.trans m.tape,hm.os.trans m.os,hm.output.trans m.output,?_⟩
 ·exact m.agree.trans (X.mono aa)
 ·intro q x A
  rcases B q x A with hd|⟨_,hd,L⟩
  ·obtain⟨r,M,h2⟩:=hm.rep.obj q x hd
   obtain⟨h3,h4⟩:=hw.hok.get q x hd;exact⟨r,by rw[G q x hd];exact M,h2.congr Q h3 h4⟩
  ·obtain⟨r,M,h2⟩:=m.obj q x L
   obtain⟨h3,h4⟩:=hg q x L;refine⟨r,?_,h2.congr X h3 h4⟩;rw[H q x L,hm.kept _ (Z q x L) (U q x L hd)];exact M
 ·
  have W:∀i j o o',D'.get i=some o->g j=some o'->D.get j=none->f1.b i≠f.b j:=by
   intro i j o o' hi hj hd e;rcases hm.own i o hi with h|⟨k,ok,hk,h⟩
   ·have:=Z j o' hj;omega
   ·exact U j o' hj hd k ok hk (by rw[<-h];exact e)
  intro i j o o' hi hj e;rcases B i o hi with u|⟨_,u,C⟩<;>rcases B j o' hj with J|⟨_,J,O⟩
  ·rw[G i o u,G j o' J]at e;exact hm.rep.inj i j o o' u J e
  ·rw[G i o u,H j o' O]at e;exact absurd e (W i j o o' u O J)
  ·rw[H i o C,G j o' J]at e;exact absurd e.symm (W j i o' o J C u)
  ·rw[H i o C,H j o' O]at e;exact m.inj i j o o' C O e
 ·intro b hb hn
  rw[hm.kept b (aL hb m.size) ?_]
  ·exact m.kept b hb hn
  ·intro i o hi e
   rcases m.own i o (F i o hi)with h|⟨j,o',M,h2⟩
   ·omega
   ·exact hn j o' M (by rw[<-h2];exact e)
 ·intro i o hi
  rcases B i o hi with u|⟨_,u,C⟩
  ·rw[G i o u]
   rcases hm.own i o u with h|⟨j,o',M,h2⟩
   ·exact .inl (bS m.size h)
   ·rw[h2];exact m.own j o' (F j o' M)
  ·rw[H i o C];exact m.own i o C
end
end
section
open Classical
def q7(ops:Array Oper)(m:Nat):Option Tmp:=(ops[m]?).bind (·.dst)
theorem pA {ops:Array Oper}(h:ops[m]? = some o):q7 ops m=o.dst:=by rw[q7,h];rfl
def gU(n:Nat)(ops:Array Oper)(V:Nat->EV)(kZ:Ay)(S:Nat->Prop):Nat->Ay
 | 0=>kZ
 | m+1=>if S m then O9 n (gU n ops V kZ S m) (q7 ops m) (V m)else gU n ops V kZ S m
def hS(E E':Nat->Ab)(e:Nat->Option Ds)(S:Nat->Prop):Nat->Nat->Option Ds
 | 0=>e
 | m+1=>if S m then jH (E m) (E' m) (hS E E' e S m)else hS E E' e S m
theorem oh(n:Nat)(tm:Ay)(d:Option Tmp)(v:EV)(t:Nat):tmp (O9 n tm d v) t=if d=some t/\t<n then v else tmp tm t:=by
 cases d with
 | none=>simp[O9]
 | some d=>
  rw[MO];by_cases h:d=t
  ·subst h;simp
  ·rw[aH (fun x=>h x.1),aH (fun x=>h (by simpa using x.1))]
theorem xy(f:Loc)(n:Nat){a b:Ay}(h:∀t,tmp a t=tmp b t):Bg f n a=Bg f n b:=by
 unfold Bg;simp only[h]
theorem Bhy(h:∀t,n<=t->tm.get t=none)(d:Option Tmp)(v:EV):∀t,n<=t->(O9 n tm d v).get t=none:=by
 intro t e;cases d with
 | none=>exact h t e
 | some d=>
  simp only[O9];rw[Bq];split
  next hd=>
   rw[Tr.Af _ _ (Nat.ne_of_lt (aL (bL hd) e))];exact h t e
  ·exact h t e
theorem Bn1{t:Nat}(h:tm.get t=some v):tmp tm t=v:=by unfold tmp;rw[h]
theorem Bb3{call:Ah}{op:Op}(j:aop T call round tm op h=some (v,h')):∀cs b,op=.select cs b->∃c,cs = #[c]:=by
 rintro cs b rfl;rw[ua rfl (fun _ e=>by cases e)]at j;cases b with
 | true=>cases j
 | false=>
  simp only[Dr]at j;split at j
  next c u=>
   exact⟨c,by apply dQ;simpa using u⟩
  ·cases j
section
variable{call:Ah}{ops:Array Oper}{bs:Tr Nat}
def nx(σ:Nat->iP)(m:Nat):Nat:=(σ m).h.next
def pS(p0:Nat->Prop)(σ:Nat->iP)(N:Nat)(S:Nat->Prop)(q:Nat):Prop:=p0 q\/∃j,S j/\j<N/\nx σ j<=q/\q<nx σ (j+1)
structure Inv(n:Nat)(ops:Array Oper)(bs:Tr Nat)(σ:Nat->iP)(V:Nat->EV)(E E':Nat->Ab)(p0:Nat->Prop)(f0:Loc)(w0:World)(S:Nat->Prop)(f:Loc)(w:World):Prop where
 dn:∀j,S j->j<ops.size/\∀b,bs.get j=some b->∀k,b.testBit k=true->S k
 vok:∀j,S j->(V j).ok (fun q=>pS p0 σ ops.size S q/\q<nx σ (j+1))
 eok:∀j,S j->∀q x,(E' j).get q=some x->(pS p0 σ ops.size S q/\q<nx σ (j+1))/\x.ok (fun q=>pS p0 σ ops.size S q/\q<nx σ (j+1))
 mv:Ah8 p0 f0 (σ 0).h w0 f (hS E E' (σ 0).h.get S ops.size) w
variable (tr:jS T call round n ops.toList bs base σ V E E' K)
include tr
theorem jS.ue(h:ops[i]? = some o):Sd T call round n ops.toList bs base o i (σ i) (σ (i+1)) (V i) (E i) (E' i) (K i):=tr.sd i o (by rw[cK];exact h)
theorem jS.oi(e:i<=m)(hm:m<=ops.size):nx σ i<=nx σ m:=tr.xw e (by simpa using hm)
theorem OS{t:Nat}(hi:i<=ops.size)(h:∀j,j<i->¬S j->q7 ops j≠some t):∀m,m<=i->tmp (gU n ops V (σ 0).tm S m) t=tmp (σ m).tm t
 | 0,_=>rfl
 | m+1,hm=>by
  have e:=OS hi h m a_;have u:ops[m]? = some ops[m]:=cP a_;rw[(tr.ue u).tm,<-pA u,oh];simp only[gU];split
  ·rw[oh,e]
  next hs=>
   rw[e,aH (fun x=>h m a_ hs x.1)]
omit tr in
theorem OT{t:Nat}(kZ:Ay)(h:∀j,i<=j->S j->q7 ops j≠some t):∀m,i<=m->tmp (gU n ops V kZ S m) t=tmp (gU n ops V kZ S i) t:=by
 intro m;induction m with
 | zero=>
  intro hm;have:i=0:=a_
  subst this;rfl
 | succ m u=>
  intro hm;by_cases e:i=m+1
  ·subst e;rfl
  ·rw[<-u a_]
   simp only[gU];split
   next hs=>rw[oh,aH (fun x=>h m a_ hs x.1)]
   ·rfl
theorem xz(hi:i<=ops.size)(h:∀j,j<i->¬S j->(E' j).get q=(E j).get q):∀m,m<=i->hS E E' (σ 0).h.get S m q=(σ m).h.get q
 | 0,_=>rfl
 | m+1,hm=>by
  have e:=xz hi h m a_;have u:ops[m]? = some ops[m]:=cP a_;rw[(tr.ue u).Bi6];simp only[hS];split
  ·simp only[jH,e]
  next hs=>
   rw[e,aK (h m a_ hs)]
omit tr in
theorem OU(u:Nat->Option Ds)(h:∀j,i<=j->S j->(E' j).get q=(E j).get q):∀m,i<=m->hS E E' u S m q=hS E E' u S i q:=by
 intro m;induction m with
 | zero=>
  intro hm;have:i=0:=a_
  subst this;rfl
 | succ m y=>
  intro hm;by_cases e:i=m+1
  ·subst e;rfl
  ·rw[<-y a_]
   simp only[hS];split
   next hs=>simp only[jH];rw[aK (h m a_ hs)]
   ·rfl
theorem q8(h:∀j,j<ops.size->S j):∀m,m<=ops.size->gU n ops V (σ 0).tm S m=(σ m).tm
 | 0,_=>rfl
 | m+1,hm=>by
  have e:ops[m]? = some ops[m]:=cP a_;simp only[gU];rw[aK (h m a_),q8 h m a_,(tr.ue e).tm,pA e]
theorem OV(h:∀j,j<ops.size->S j)(q:Nat):hS E E' (σ 0).h.get S ops.size q=(σ ops.size).h.get q:=
 xz tr (aD _) (fun j hj hs=>absurd (h j hj) hs) _ (aD _)
omit tr in
theorem xA(h:∀t,n<=t->kZ.get t=none)(S:Nat->Prop):∀m t,n<=t->(gU n ops V kZ S m).get t=none
 | 0=>h
 | m+1=>by
  simp only[gU];split
  ·exact Bhy (xA h S m) _ _
  ·exact xA h S m
variable{w0:World}{w:World}
theorem Inv.uf(I:Inv n ops bs σ V E E' p0 f0 w0 S f w)(h0:Ld p0 n (σ 0).tm)(hp:∀q,p0 q->q<nx σ 0):∀m,m<=ops.size->Ld (fun q=>pS p0 σ ops.size S q/\q<nx σ m) n (gU n ops V (σ 0).tm S m)
 | 0,_=>h0.mono fun q e=>⟨.inl e,hp q e⟩
 | m+1,hm=>by
  have j:=Inv.uf I h0 hp m a_;have u:=tr.oi (i:=m) (m:=m+1) a_ hm;simp only[gU];split
  next hs=>
   exact(j.mono fun q e=>⟨e.1,a_⟩).put _ (I.vok m hs)
  ·exact j.mono fun q e=>⟨e.1,a_⟩
theorem Inv.hok(I:Inv n ops bs σ V E E' p0 f0 w0 S f w)(h0:Tg p0 (σ 0).h):∀m,m<=ops.size->∀q x,hS E E' (σ 0).h.get S m q=some x ->
 (pS p0 σ ops.size S q/\q<nx σ m)/\x.ok (fun q=>pS p0 σ ops.size S q/\q<nx σ m)
 | 0,_,q,x,e=>⟨⟨.inl (h0.get q x e).1,h0.lt q (h0.get q x e).1⟩,(h0.get q x e).2.mono fun r j=>⟨.inl j,h0.lt r j⟩⟩
 | m+1,hm,q,x,e=>by
  have y:=tr.oi (i:=m) (m:=m+1) a_ hm;have up:∀{q x},hS E E' (σ 0).h.get S m q=some x->(pS p0 σ ops.size S q/\q<nx σ (m+1))/\x.ok (fun q=>pS p0 σ ops.size S q/\q<nx σ (m+1)):=by
   intro q x e;obtain⟨u,h2⟩:=Inv.hok I h0 m a_ q x e;exact⟨⟨u.1,a_⟩,h2.mono fun r j=>⟨j.1,a_⟩⟩
  simp only[hS]at e;split at e
  next hs=>
   unfold jH at e;split at e
   ·exact up e
   ·exact I.eok m hs q x e
  ·exact up e
end
end
section
open Classical
section
variable(hT:Qc P T){call:Ah}(hC:ks P call)(hR:nX P round){ops:Array Oper}{bs:Tr Nat}
 (tr:jS T call round n ops.toList bs base σ V E E' K) (hbs:bs=Oj ops.toList 0 .nil) (htm:lT ops.toList bs ops.toList 0 []=true)
 {w0:World} {w:World}
include hbs in
theorem OW(hi:i<ops.size):∃b,bs.get i=some b:=by
 have j:ops.toList[i]? = some ops[i]:=by rw[cK];exact cP hi
 obtain⟨b,e,_⟩:=wS ops.toList 0 .nil (fun _ _=>rfl) i _ j;rw[bJ]at e;exact⟨b,by rw[hbs];exact e⟩
include hT hC hR tr hbs htm in
theorem Inv.step(I:Inv n ops bs σ V E E' p0 f0 w0 S f w)(h0:Ld p0 n (σ 0).tm)(ai:Tg p0 (σ 0).h)(hi:i<ops.size)(Q:¬S i){bi:Nat}(au:bs.get i=some bi)(ba:∀k,bi.testBit k=true->S k)
 {S':Nat->Prop} (C:∀j,S' j↔S j\/j=i) (fb:FB) (rest:List Nat) (k:List Item) (cs:List Frame) :
 ∃f' w',Steps P (lone (fb.at (Bg f n (gU n ops V (σ 0).tm S ops.size)) (.inRegion ops (i::rest)::k)) cs w) (lone (fb.at (Bg f' n (gU n ops V (σ 0).tm S' ops.size)) (.inRegion ops rest::k)) cs w') /\
  Inv n ops bs σ V E E' p0 f0 w0 S' f' w':=by
 have ho:ops[i]? = some ops[i]:=cP hi;generalize ch:ops[i]=o at ho;have sd:=tr.ue ho;have aw:∀q,p0 q->q<nx σ 0:=ai.lt;have hlen:ops.toList.length=ops.size:=by simp
 have al:∀j,j<i->¬S j->bi.testBit j=false:=by
  intro j _ hs;cases hb:bi.testBit j with
  | false=>rfl
  | true=>exact absurd (ba j hb) hs
 have F:∀j,i<j->S j->∃b,bs.get j=some b/\b.testBit i=false:=by
  intro j hj hs;obtain⟨Y,hd⟩:=I.dn j hs;obtain⟨b,hb⟩:=OW hbs Y;refine⟨b,hb,?_⟩;cases bb:b.testBit i with
  | false=>rfl
  | true=>exact absurd (hd b hb i bb) Q
 have Y:∀j,S j->j<ops.size:=fun j hs=>(I.dn j hs).1
 have Z:∀j,j<ops.size->∃oj,ops[j]? = some oj/\ops.toList[j]? = some oj:=fun j hj=>⟨ops[j],cP hj,by rw[cK];exact cP hj⟩
 have ax:ops.toList[i]? = some o:=by rw[cK];exact ho
 have J:∀t,q6 ops.toList o t->tmp (gU n ops V (σ 0).tm S ops.size) t=tmp (σ i).tm t/\tmp (gU n ops V (σ 0).tm S i) t=tmp (σ i).tm t:=by
  intro t ht;have e1:tmp (gU n ops V (σ 0).tm S i) t=tmp (σ i).tm t:=by
   refine OS tr a_ (fun j hj hs e=>?_) i (aD _);obtain⟨oj,U,h2⟩:=Z j a_;rw[pA U]at e;exact((xt htm h2 ax hj au (al j hj hs)).1 t e).2 ht
  refine⟨?_,e1⟩;rw[<-e1];refine OT _ (fun j hj hs e=>?_) _ a_;have aa:i<j:=by
   rcases Nat.lt_or_eq_of_le hj with h|h
   ·exact h
   ·subst h;exact absurd hs Q
  obtain⟨oj,U,h2⟩:=Z j (Y j hs);obtain⟨b,hb,L⟩:=F j aa hs;rw[pA U]at e;exact(xt htm ax h2 aa hb L).2 t ht e
 have B:∀q x,(E i).get q=some x->hS E E' (σ 0).h.get S i q=some x/\hS E E' (σ 0).h.get S ops.size q=some x:=by
  intro q x A;have e1:hS E E' (σ 0).h.get S i q=some x:=by
   rw[xz tr a_ (fun j hj hs=>?_) i (aD _)]
   ·exact sd.sub q x A
   ·exact(tr.pair hj a_ au (al j hj hs)).2.2 q x A
  refine⟨e1,?_⟩;rw[<-e1];refine OU _ (fun j hj hs=>?_) _ a_;have aa:i<j:=by
   rcases Nat.lt_or_eq_of_le hj with h|h
   ·exact h
   ·subst h;exact absurd hs Q
  obtain⟨b,hb,L⟩:=F j aa hs;exact(tr.pair aa (by have:=Y j hs;omega) hb L).2.1 q x A
 have ad:S' i:=(C i).2 (.inr rfl);have u:∀j,j≠i->(S' j↔S j):=fun j hj=>⟨fun h=>((C j).1 h).resolve_right hj,fun h=>(C j).2 (.inl h)⟩
 have ay:∀m,m<=i->gU n ops V (σ 0).tm S' m=gU n ops V (σ 0).tm S m:=by
  intro m;induction m with
  | zero=>intro _;rfl
  | succ m W=>
   intro hm;simp only[gU];rw[W a_];by_cases hs:S m
   ·rw[aK hs,aK ((u m a_).2 hs)]
   ·rw[aH hs,aH (fun h=>hs ((u m a_).1 h))]
 have az:∀m,m<=i->hS E E' (σ 0).h.get S' m=hS E E' (σ 0).h.get S m:=by
  intro m;induction m with
  | zero=>intro _;rfl
  | succ m W=>
   intro hm;simp only[hS];rw[W a_];by_cases hs:S m
   ·rw[aK hs,aK ((u m a_).2 hs)]
   ·rw[aH hs,aH (fun h=>hs ((u m a_).1 h))]
 have O:∀m,i<m->m<=ops.size->∀t,tmp (gU n ops V (σ 0).tm S' m) t=tmp (O9 n (gU n ops V (σ 0).tm S m) o.dst (V i)) t:=by
  intro m;induction m with
  | zero=>intro h;omega
  | succ m W=>
   intro hm b5 t;by_cases e:m=i
   ·subst e
    simp only[gU];rw[aK ad,aH Q,ay _ (aD _),pA ho]
   ·have W:=W a_ a_ t
    simp only[gU];by_cases hs:S m
    ·rw[aK hs,aK ((u m e).2 hs),oh,W,oh,oh,oh]
     obtain⟨b,hb,L⟩:=F m a_ hs;obtain⟨om,U,h2⟩:=Z m a_;have Le:=(xt htm ax h2 a_ hb L).1;rw[pA U];by_cases c1:om.dst=some t/\t<n
     ·rw[aK c1,aH,aK c1]
      rintro⟨c2,_⟩;exact(Le t c2).1 c1.1
     ·rw[aH c1,aH c1]
    ·rw[aH hs,aH (fun h=>hs ((u m e).1 h))];exact W
 have aj:∀m,i<m->m<=ops.size->hS E E' (σ 0).h.get S' m=jH (E i) (E' i) (hS E E' (σ 0).h.get S m):=by
  intro m;induction m with
  | zero=>intro h;omega
  | succ m W=>
   intro hm b5;by_cases e:m=i
   ·subst e
    simp only[hS];rw[aK ad,aH Q,az _ (aD _)]
   ·have W:=W a_ a_
    simp only[hS];by_cases hs:S m
    ·rw[aK hs,aK ((u m e).2 hs),W]
     obtain⟨b,hb,L⟩:=F m a_ hs;have b6:=(tr.pair (i:=i) (m:=m) a_ a_ hb L).1;funext q;simp only[jH];rcases b6 q with h|h
     ·rw[aK h,aK h]
     ·rw[aK h,aK h]
    ·rw[aH hs,aH (fun h=>hs ((u m e).1 h))];exact W
 have X:∀q,pS p0 σ ops.size S q->pS p0 σ ops.size S' q:=by
  rintro q (h|⟨j,U,h2⟩)
  ·exact .inl h
  ·exact .inr ⟨j,(C j).2 (.inl U),h2⟩
 have b7:∀q,nx σ i<=q->q<nx σ (i+1)->pS p0 σ ops.size S' q:=fun q U h2=>.inr ⟨i,ad,hi,U,h2⟩
 have ae:∀f' w',(V i).ok (fun q=>pS p0 σ ops.size S' q/\q<nx σ (i+1))->(∀q x,(E' i).get q=some x->(pS p0 σ ops.size S' q/\q<nx σ (i+1))/\x.ok (fun q=>pS p0 σ ops.size S' q/\q<nx σ (i+1))) ->
  Ah8 p0 f0 (σ 0).h w0 f' (jH (E i) (E' i) (hS E E' (σ 0).h.get S ops.size)) w'->Inv n ops bs σ V E E' p0 f0 w0 S' f' w':=by
  intro f' w' U h2 h3;refine⟨fun j hj=>?_,fun j hj=>?_,fun j hj=>?_,?_⟩
  ·rcases(C j).1 hj with hj|rfl
   ·exact⟨Y j hj,fun b hb k hk=>(C k).2 (.inl ((I.dn j hj).2 b hb k hk))⟩
   ·refine⟨hi,fun b hb k hk=>(C k).2 (.inl ?_)⟩
    rw[au]at hb;cases hb;exact ba k hk
  ·rcases(C j).1 hj with hj|rfl
   ·exact EV.ok.mono (fun q hq=>⟨X q hq.1,hq.2⟩) _ (I.vok j hj)
   ·exact U
  ·rcases(C j).1 hj with hj|rfl
   ·intro q x A
    obtain⟨a,b⟩:=I.eok j hj q x A;exact⟨⟨X q a.1,a.2⟩,b.mono fun r hr=>⟨X r hr.1,hr.2⟩⟩
   ·exact h2
  ·rw[aj ops.size hi (aD _)];exact h3
 have M:=I.uf tr h0 aw ops.size (aD _);have G:Region.wanted o (Go.yielded ops (Bg f n (gU n ops V (σ 0).tm S ops.size)))=Ev.wanted ops.toList (σ i).tm o.guard:=by
  rw[NW M];unfold Ev.wanted;cases hg:o.guard with
  | none=>rfl
  | some x=>
   obtain⟨j,want⟩:=x;simp only[];have:Ev.yielded ops.toList (gU n ops V (σ 0).tm S ops.size) j=Ev.yielded ops.toList (σ i).tm j:=by
    unfold Ev.yielded;rw[tO];cases hj:ops.toList[j]? with
    | none=>rfl
    | some g=>
     simp only[];cases hd:g.dst with
     | none=>rfl
     | some d=>
      simp only[];have:=(J d (.inr ⟨j,want,g,hg,hj,hd⟩)).1;unfold tmp at this;revert this;cases gU n ops V (σ 0).tm S ops.size|>.get d with
      | none=>
       cases(σ i).tm.get d with
       | none=>intro _;rfl
       | some v=>intro h;simp only[]at h;rw[<-h]
      | some v=>
       cases(σ i).tm.get d with
       | none=>intro h;simp only[]at h;rw[h]
       | some v'=>intro h;simp only[]at h;rw[h]
   rw[this]
 rcases sd.run with⟨hw,hv,hE⟩|⟨hw,bf⟩
 ·
  refine⟨f,w,.one ?_,ae f w ?_ ?_ ?_⟩
  ·rw[hw]at G
   have:=NP (P:=P) (b:=fb) (rest:=rest) (k:=k) (cs:=cs) (w:=w) ho G;rw[this,show(undef:Value)=Cm f (V i) by rw[hv];rfl,tY];rw[xy f n (fun t=>(O ops.size hi (aD _) t).symm)]
  ·rw[hv];trivial
  ·rw[hE]
   intro q x A;obtain⟨a,b⟩:=I.hok tr ai i a_ q x (B q x A).1;have:=tr.oi (i:=i) (m:=i+1) a_ a_;exact⟨⟨X q a.1,a_⟩,b.mono fun r hr=>⟨X r hr.1,by have:=hr.2;omega⟩⟩
  ·have:jH (E i) (E' i) (hS E E' (σ 0).h.get S ops.size)=hS E E' (σ 0).h.get S ops.size:=by
    funext q;simp only[jH];rw[hE,aK rfl]
   rw[this];exact I.mv
 ·have af:(E i).next=nx σ i:=sd.Ae5
  have ag:(E' i).next=nx σ (i+1):=sd.Ael
  rw[hw]at G;have a2:=I.uf tr h0 aw i a_;have a5:∀t,n<=t->(σ i).tm.get t=none:=by
   rw[<-q8 tr (S:=fun _=>True) (fun _ _=>trivial) i a_];exact xA h0.out _ i
  have ah:∀x∈o.op.operands,Cg (jn (σ i).tm o.op.operands.toList) x=Cg (σ i).tm x:=fun x A=>Bbf _ (cq.2 A)
  have bj:aop T call round (jn (σ i).tm o.op.operands.toList) o.op (E i)=some (V i,E' i):=by rw[Bhe ah];exact bf
  have bk:Ld (fun q=>pS p0 σ ops.size S q/\q<(E i).next) n (jn (σ i).tm o.op.operands.toList):=by
   refine Bla (fun t ht v hv=>?_) a5;have e:=(J t (.inl ht)).2;rw[Bn1 hv]at e;rw[<-e,af];exact a2.tmp t
  have b8:Tg (fun q=>pS p0 σ ops.size S q/\q<(E i).next) (E i):=by
   refine⟨fun q hq=>hq.2,fun q x A=>?_⟩;rw[af];exact I.hok tr ai i a_ q x (B q x A).1
  have ca:Tt f (E i) w:=⟨fun q x A=>I.mv.obj q x (B q x A).2,fun q r x y A hy=>I.mv.inj q r x y (B q x A).2 (B r y hy).2⟩;have cb:execOp (Is (Bg f n (gU n ops V (σ 0).tm S ops.size))) o=execOp (Is (Bg f n (jn (σ i).tm o.op.operands.toList))) o:=by
   refine A8z o (Bb3 bf) fun x A=>?_
   cases x with
   | tmp t=>
    have e1:Is (Bg f n (gU n ops V (σ 0).tm S ops.size)) (.tmp t)=Cm f (tmp (gU n ops V (σ 0).tm S ops.size) t):=qR f M t;have e2:Is (Bg f n (jn (σ i).tm o.op.operands.toList)) (.tmp t)=Cm f (tmp (jn (σ i).tm o.op.operands.toList) t):=qR f bk t;rw[e1,e2,(J t (.inl (cq.2 A))).1];have e3:=ah _ A;simp only[Cg,cQ]at e3;exact congrArg (Cm f) e3.symm
   | const v=>rfl
   | global g=>rfl
   | func g=>rfl
  obtain⟨f1,w1,bn,bo,H,bp⟩:=NV hT hC hR bk b8 ca cb bj fb ops i rest k cs ho G;have aq:∀q,pS p0 σ ops.size S q->q<(E i).next\/(E' i).next<=q:=by
   rw[af,ag];rintro q (h|⟨j,U,h2,h3,h4⟩)
   ·left;have:=aw q h;have:=tr.oi (i:=0) (m:=i) a_ a_;omega
   ·rcases Nat.lt_trichotomy j i with h|h|h
    ·left;have:=tr.oi (i:=j+1) (m:=i) a_ a_;omega
    ·subst h;exact absurd U Q
    ·right;have:=tr.oi (i:=i+1) (m:=j) a_ a_;omega
  have bt:∀q x,hS E E' (σ 0).h.get S ops.size q=some x->pS p0 σ ops.size S q/\x.ok (pS p0 σ ops.size S):=by
   intro q x A;obtain⟨a,b⟩:=I.hok tr ai ops.size (aD _) q x A;exact⟨a.1,b.mono fun r hr=>hr.1⟩
  have a6:∀q,grow (fun q=>pS p0 σ ops.size S q/\q<(E i).next) (E i) (E' i) q->pS p0 σ ops.size S' q/\q<nx σ (i+1):=by
   rintro q (h|h)
   ·have:=H.next
    rw[af]at this h;rw[ag]at this;exact⟨X q h.1,aL h.2 this⟩
   ·rw[af,ag]at h
    exact⟨b7 q h.1 h.2,h.2⟩
  refine⟨patch (E' i).next f1 f,w1,?_,ae _ _ (EV.ok.mono a6 _ bp) (fun q x A=>?_) (Ah8.step I.mv (fun q x A=>(B q x A).2) bt (fun q hq=>.inl hq) bo H aq)⟩
  ·have e1:Cm f1 (V i)=Cm (patch (E' i).next f1 f) (V i):=po (OR H) _ bp
   have e2:Bg f n (gU n ops V (σ 0).tm S ops.size)=Bg (patch (E' i).next f1 f) n (gU n ops V (σ 0).tm S ops.size):=Ku (OQ bo H aq) (M.mono fun q hq=>hq.1);have e3:mZ (Bg f n (gU n ops V (σ 0).tm S ops.size)) o.dst (Cm f1 (V i))=Bg (patch (E' i).next f1 f) n (gU n ops V (σ 0).tm S' ops.size):=by
    rw[e1,e2,tY];exact xy _ n (fun t=>(O ops.size hi (aD _) t).symm)
   rw[e3]at bn;exact bn
  ·obtain⟨a,b⟩:=H.hok.get q x A
   exact⟨a6 q a,b.mono a6⟩
theorem OX(e:Edge):mU e=Region.binds .any e:=by
 unfold mU Region.binds;split<;>simp_all
def jA(listed:Array Bool)(N:Nat):List Nat:=(List.range N).filter fun i=>!listed.getD i true
theorem Bnv{N:Nat}(u:listed.size=N)(hi:i<N)(y:listed.getD i true=false):(jA (listed.setIfInBounds i true) N).length<(jA listed N).length:=by
 have e:jA (listed.setIfInBounds i true) N=(jA listed N).filter (fun j=>j != i):=by
  unfold jA;rw[List.filter_filter];apply List.filter_congr;intro j hj;rw[eW]at hj;by_cases h:i=j
  ·subst h
   simp[u,hi]
  ·rw[getD_set_ne _ h]
   have:(j != i)=true:=by simp[cX h]
   rw[this];simp
 rw[e];refine List.length_filter_lt_length_iff_exists.2 ⟨i,?_,by simp⟩;unfold jA;rw[dS,eW];exact⟨hi,by simp only[y];rfl⟩
include hT hC hR tr hbs htm in
theorem Bii(W:mQ ops.toList 0=true)(h0:Ld p0 n (σ 0).tm)(X:Tg p0 (σ 0).h)(Y:FB)(k:List Item)(cs:List Frame):∀(fuel t:Nat) (listed:Array Bool) (f:Loc) (w:World),listed.size=ops.size->(jA listed ops.size).length<=fuel ->
 Inv n ops bs σ V E E' p0 f0 w0 (fun j=>listed.getD j false=true) f w ->
 ∃f' w',Steps P (lone (Y.at (Bg f n (gU n ops V (σ 0).tm (fun j=>listed.getD j false=true) ops.size)) (.inRegion ops (Region.linearise.go .any ops fuel t listed [])::k)) cs w)
  (lone (Y.at (Bg f' n (σ ops.size).tm) (.inRegion ops []::k)) cs w') /\
  ∃S,(∀j,j<ops.size->S j)/\Inv n ops bs σ V E E' p0 f0 w0 S f' w':=by
 have C:∀listed:Array Bool,listed.size=ops.size->(jA listed ops.size).length=0->∀j,j<ops.size->listed.getD j false=true:=by
  intro listed F Z j hj;have:j ∉ jA listed ops.size:=by rw[bc.1 Z];simp
  unfold jA at this;rw[dS,eW]at this;have h2:(!listed.getD j true)=false:=by
   cases h:(!listed.getD j true)with
   | false=>rfl
   | true=>exact absurd ⟨hj,h⟩ this
  have u:j<listed.size:=a_
  simp[Array.getD,u]at h2⊢;exact h2
 intro fuel;induction fuel with
 | zero=>
  intro t listed f w F hf I;have hs:=C listed F a_;refine⟨f,w,?_,_,hs,I⟩;simp only[Region.linearise.go,List.reverse_nil];rw[q8 tr hs _ (aD _)];exact .refl _ _
 | succ fuel ih=>
  intro t listed f w F hf I;simp only[Region.linearise.go];have aa:((List.range ops.size).filter fun i=>!listed.getD i true&&((ops[i]?).map (·.after.all fun e=>!Region.binds .any e||listed.getD e.on false)).getD false)=Region.ready .any ops listed:=rfl;rw[aa];split
  next i hi=>
   have A:i∈Region.ready .any ops listed:=dJ hi;obtain⟨G,o,L,ad⟩:=mem_ready.1 A;have B:i<ops.size:=(bh.1 L).1;have ae:¬(listed.getD i false=true):=by
    have u:i<listed.size:=a_
    simp[Array.getD,u]at G⊢;exact G
   obtain⟨bi,M⟩:=OW hbs B;have H:ops.toList[i]? = some o:=by rw[cK];exact L
   obtain⟨b',h1,h2⟩:=wS ops.toList 0 .nil (fun _ _=>rfl) i o H;rw[bJ,<-hbs,M]at h1;cases h1;have O:∀j,bi.testBit j=true->listed.getD j false=true:=by
    intro j hj;obtain⟨e,he,hb,af⟩:=h2 j hj;have Q:=ad e (cq.1 he) (by rw[<-OX];exact hb);rcases af with rfl|⟨y,hy,ag⟩
    ·exact Q
    ·rw[<-hbs]at hy
     exact(I.dn e.on Q).2 y hy j ag
   rw[linearise_go_acc];have ah:∀j,(listed.setIfInBounds i true).getD j false=true↔listed.getD j false=true\/j=i:=by
    intro j;by_cases h:i=j
    ·subst h
     have:(listed.setIfInBounds i true).getD i false=true:=by simp[F,B]
     simp[this]
    ·rw[getD_set_ne _ h]
     constructor
     ·exact .inl
     ·rintro(h'|h')
      ·exact h'
      ·exact absurd h'.symm h
   obtain⟨f1,w1,ai,I1⟩:=I.step hT hC hR tr hbs htm h0 X B ae M O (S':=fun j=>(listed.setIfInBounds i true).getD j false=true) ah Y (Region.linearise.go .any ops fuel (t/(Region.ready .any ops listed).length) (listed.setIfInBounds i true) []) k cs;obtain⟨f2,w2,aj,al⟩:=ih (t/(Region.ready .any ops listed).length) (listed.setIfInBounds i true) f1 w1 (by simpa using F) (by have:=Bnv F B G;omega) I1;exact⟨f2,w2,ai.trans aj,al⟩
  next J=>
   have Z:(jA listed ops.size).length=0:=by
    cases hc:jA listed ops.size with
    | nil=>rfl
    | cons a l=>
     exfalso;have hex:∃j,j<ops.size/\listed.getD j true=false:=by
      have:a∈jA listed ops.size:=by rw[hc];exact aQ
      unfold jA at this;rw[dS,eW]at this;exact⟨a,this.1,by simpa using this.2⟩
     have U:∀N,∀j,j<N->j<ops.size->listed.getD j true=false->∃i,i<ops.size/\listed.getD i true=false/\∀k,k<i->listed.getD k true=true:=by
      intro N;induction N with
      | zero=>intro j h;omega
      | succ N ao=>
       intro j hj aq au;by_cases hk:∃k,k<j/\listed.getD k true=false
       ·obtain⟨k,bk,aw⟩:=hk
        exact ao k a_ a_ aw
       ·refine⟨j,aq,au,fun k ax=>?_⟩
        cases h:listed.getD k true with
        | true=>rfl
        | false=>exact absurd ⟨k,ax,h⟩ hk
     obtain⟨j,ay,az⟩:=hex;obtain⟨i,a1,a2,a5⟩:=U (j+1) j a_ ay az;have L:ops[i]? = some ops[i]:=cP a1;have H:ops.toList[i]? = some ops[i]:=by rw[cK];exact L
     have A:i∈Region.ready .any ops listed:=mem_ready.2 ⟨a2,_,L,fun e he hb=>by
      have bn:=OG ops.toList 0 W i _ H e (cq.2 he) (by rw[OX];exact hb);have:=a5 e.on a_;have u:e.on<listed.size:=a_
      simp[Array.getD,u]at this⊢;exact this⟩
     have hlen:0<(Region.ready .any ops listed).length:=List.length_pos_of_mem A;rw[List.getElem?_eq_none_iff]at J;have:=fU t hlen;omega
   have hs:=C listed F Z;refine⟨f,w,?_,_,hs,I⟩;simp only[List.reverse_nil];rw[q8 tr hs _ (aD _)];exact .refl _ _
end
end
section
open Classical
section
variable{call:Ah}(hC:Vu call)(hR:Vu round){ops:List Oper}{bs:Tr Nat}
theorem Sd.OY{s s':iP}{E E':Ab}(sd:Sd T call round n ops bs base o i s s' v E E' kd):AWf s.h s'.h where
 next:=by rw[<-sd.Ae5,<-sd.Ael];exact sd.w.next
 mw:=sd.mw.1
 same q u h2:=by rw[sd.Bi6,aK (sd.mw.2 q u h2)]
 live q x e:=by
  rw[sd.Bi6]at e;split at e
  ·exact .inl ⟨x,e⟩
  ·rcases sd.w.live q x e with⟨o',h⟩|h
   ·exact .inl ⟨o',sd.sub q o' h⟩
   ·rw[sd.Ae5]at h;exact .inr h
 lt H q x e:=by
  have j:s.h.next<=s'.h.next:=by rw[<-sd.Ae5,<-sd.Ael];exact sd.w.next
  rw[sd.Bi6]at e;split at e
  ·exact aL (H q x e) j
  ·rw[<-sd.Ael]
   refine sd.w.lt (fun q x e=>?_) q x e;rw[sd.Ae5];exact H q x (sd.sub q x e)
theorem Sd.nw{s s':iP}{E E':Ab}(sd:Sd T call round n ops bs base o i s s' v E E' kd)(h:∀x∈s.nw,x.2<s.h.next):∀x∈s'.nw,x.2<s'.h.next:=by
 have e:s.h.next<=s'.h.next:=sd.OY.next
 intro x j;have:=sd.kd;cases kd with
 | idle=>rw[this.2.2.2.1]at j;exact aL (h x j) e
 | load q=>rw[this.2.2.2.1]at j;exact aL (h x j) e
 | new=>
  obtain⟨a,⟨y,b⟩,c,d,_⟩:=this;rw[d]at j;rcases bZ.1 j with rfl|j
  ·show s.h.next<_
   rw[<-sd.Ael,b,Ab.Dd,sd.Ae5];omega
  ·exact aL (h x j) e
 | sto q=>
  obtain⟨_,_,d,_⟩:=this;rw[d]at j;exact aL (h x j) e
 | big mw=>
  obtain⟨b,_,_,_,_,_,d,_⟩:=this;rw[d]at j;exact aL (h x j) e
include hC hR in
theorem OZ:∀{l:List Oper} {i:Nat} {s r:iP},Sp T call round n ops bs base l i s=some r->(∀x∈s.nw,x.2<s.h.next)->AWf s.h r.h
 | [],_,s,r,h,_=>by cases h;exact .refl _
 | o::l,i,s,r,h,e=>by
  simp only[Sp]at h;split at h
  next s' hs=>
   obtain⟨v,E,E',kd,sd⟩:=xv hC hR hs e;exact sd.OY.trans (OZ h (sd.nw e))
  ·cases h
include hC hR in
theorem O'(e:kU T call round n ops tm h=some (fh,h')):AWf h h':=by
 unfold kU at e;obtain⟨_,e⟩:=An e;obtain⟨_,e⟩:=An e;split at e
 next hs=>
  cases e;exact OZ hC hR hs (fun x j=>by cases j)
 ·cases e
end
theorem Bj7(hT:Qc P T){call:Ah}(hC:ks P call)(hR:nX P round)(wC:Vu call)(wR:Vu round)
 {ops:Array Oper} {w:World} (W:Ld p n tm) (J:Tg p h) (X:Tt f h w)
 (u:kU T call round n ops.toList tm h=some (fh,h')) (b:FB) (t:Nat) (k:List Item) (cs:List Frame) (dr:Nat) :
 ∃f' w',Steps P (lone (b.at (Bg f n tm) (.inRegion ops (Region.linearise .any ops t)::k)) cs { w with drawn:=dr }) (lone (b.at (Bg f' n fh) (.inRegion ops []::k)) cs w') /\
  Move p f h w f' h' w'/\Wf p h h'/\Ld (grow p h h') n fh:=by
 have hwf:=O' wC wR u;unfold kU at u;obtain⟨M,u⟩:=An u;obtain⟨htm,u⟩:=An u;split at u
 next Y L b1 b2 b3 b4 b5 hs=>
  cases u;obtain⟨σ,V,E,E',K,e0,O,tr⟩:=Bpo (s:=⟨tm,h,0,[],[],[],[]⟩) wC wR hs (fun q x Q=>J.lt q (J.get q x Q).1) rfl;have hlen:ops.toList.length=ops.size:=by simp
  rw[hlen]at O;have C:Ld p n (σ 0).tm:=by rw[e0];exact W
  have A:Tg p (σ 0).h:=by rw[e0];exact J
  have e:∀j,¬((Array.replicate ops.size false).getD j false=true):=by
   intro j;simp only[eG,Array.getElem?_replicate];split<;>simp
  have Z:Inv n ops (Oj ops.toList 0 .nil) σ V E E' p f w (fun j=>(Array.replicate ops.size false).getD j false=true) f { w with drawn:=dr }:=by
   refine⟨fun j hj=>absurd hj (e j),fun j hj=>absurd hj (e j),fun j hj=>absurd hj (e j),?_⟩;have:hS E E' (σ 0).h.get (fun j=>(Array.replicate ops.size false).getD j false=true) ops.size=(σ 0).h.get:=by
    funext q;exact OU _ (fun j _ hs=>absurd hs (e j)) _ (cF _)
   rw[this];have U:Tt f (σ 0).h w:=by rw[e0];exact X
   exact(Ah8.start U).drew dr
  have F:Bg f n (gU n ops V (σ 0).tm (fun j=>(Array.replicate ops.size false).getD j false=true) ops.size)=Bg f n tm:=by
   rw[show tm=(σ 0).tm by rw[e0]];exact xy f n fun t=>OT _ (fun j _ hs=>absurd hs (e j)) _ (cF _)
  obtain⟨f',w',B,S,hS,I⟩:=Bii hT hC hR tr rfl htm M C A b k cs ops.size t (Array.replicate ops.size false) f _ (by simp) (by
   unfold jA;exact bS (eL _ _) (by simp)) Z
  rw[F]at B;have G:=I.mv.move (h:=(σ ops.size).h) (fun q=>(OV tr hS q).symm);have e1:(σ ops.size).h=h':=by rw[O]
  have e2:(σ ops.size).tm=fh:=by rw[O]
  have e3:(σ 0).h=h:=by rw[e0]
  have y:∀q,pS p σ ops.size S q/\q<nx σ ops.size->grow p h h' q:=by
   rintro q ⟨L|⟨j,_,hj,L,h2⟩,h3⟩
   ·exact .inl L
   ·refine .inr ⟨?_,?_⟩
    ·have:=tr.oi (i:=0) (m:=j) a_ a_
     rw[<-e3];exact bS this L
    ·rw[<-e1];exact h3
  rw[e2]at B;rw[e1,e3]at G;refine⟨f',w',B,G,⟨hwf.next,hwf.mw,hwf.same,hwf.live,⟨fun q H=>?_,fun q x Q=>?_⟩⟩,?_⟩
  ·rcases H with H|H
   ·exact aL (J.lt q H) hwf.next
   ·exact H.2
  ·obtain⟨a,b⟩:=I.hok tr A ops.size (aD _) q x (by rw[OV tr hS q,e1];exact Q)
   exact⟨y q a,b.mono y⟩
  ·have:=I.uf tr C A.lt ops.size (aD _)
   rw[q8 tr hS _ (aD _),e2]at this;exact this.mono y
 ·cases u
end
section
def Ix(f:Loc)(d:Nat):Deferred:={ target:=.collected (f.b d),args:=#[] }
def oo(f:Loc)(a:Aif):FB:=⟨a.fn,a.defers.map (Ix f),a.Dl.map f.b⟩
def Ob(f:Loc)(a:Aif):Frame:=
 { fn:=a.fn,tmps:=Bg f a.n a.tmps,todo:=a.todo,defers:=a.defers.map (Ix f),mode:=if a.ret=true then .returning else .run,kind:=.normal,roundOf:=a.Dl.map f.b }
structure Xy(p:Nat->Prop)(a:Aif):Prop where
 tm:Ld p a.n a.tmps
 dfr:∀d∈a.defers,p d
 Dl:∀l,a.Dl=some l->p l
 ret:a.ret=true->a.Dl=none
theorem Xy.mono {q:Nat->Prop}(h:Xy p a)(e:∀i,p i->q i):Xy q a:=⟨h.tm.mono e,fun d hd=>e d (h.dfr d hd),fun l j=>e l (h.Dl l j),h.ret⟩
theorem A0y{g:Loc}(e:Loc.agree p f g)(h:Xy p a):Ob f a=Ob g a:=by
 unfold Ob;rw[Ku e h.tm];have j:a.defers.map (Ix f)=a.defers.map (Ix g):=by
  apply cY;intro d hd;unfold Ix;rw[(e d (h.dfr d hd)).1]
 have h2:a.Dl.map f.b=a.Dl.map g.b:=by
  cases u:a.Dl with
  | none=>rfl
  | some l=>simp only[dU];rw[(e l (h.Dl l u)).1]
 rw[j,h2]
theorem ug{g:Loc}(e:Loc.agree p f g)(h:Xy p a):oo f a=oo g a:=by
 have:=A0y e h;unfold Ob at this;unfold oo;injection this with _ _ _ h4 _ _ j;rw[h4,j]
section
variable{b:FB}{w:World}
theorem Bl4:step P (lone (b.at tmps (.code .skip::k)) cs w)=.next (lone (b.at tmps k) cs w):=cL (by simp[stepG,stepG.exec,FB.at])
theorem Biv {l:Nat}:step P (lone (b.at tmps (.code (.label l)::k)) cs w)=.next (lone (b.at tmps k) cs w):=cL (by simp[stepG,stepG.exec,FB.at])
theorem A90:step P (lone (b.at tmps (.inBlock id::k)) cs w)=.next (lone (b.at tmps k) cs w):=cL (by simp[stepG,stepG.exec,FB.at])
theorem Bpp {x y:Code}:step P (lone (b.at tmps (.code (.seq x y)::k)) cs w)=.next (lone (b.at tmps (.code x :: .code y::k)) cs w):=cL (by simp[stepG,stepG.exec,FB.at])
theorem O_ {c:Operand}{x y:Code}{t:Bool}(h:Is tmps c=.bool t):step P (lone (b.at tmps (.code (.cond c x y)::k)) cs w)=.next (lone (b.at tmps (.code (if t then x else y)::k)) cs w):=
 cL (by
  have:=FB.eval_at b tmps (.code (.cond c x y)::k);simp only[FB.at]at this;simp[stepG,stepG.exec,FB.at,this,h])
theorem Bib{c:Code}:step P (lone (b.at tmps (.code (.block id c)::k)) cs w)=.next (lone (b.at tmps (.code c :: .inBlock id::k)) cs w):=cL (by simp[stepG,stepG.exec,FB.at])
theorem Bob {c:Code}:step P (lone (b.at tmps (.code (.loop c)::k)) cs w)=.next (lone (b.at tmps (.code c :: .inLoop c::k)) cs w):=cL (by simp[stepG,stepG.exec,FB.at])
theorem Bg0 {c:Code}:step P (lone (b.at tmps (.inLoop c::k)) cs w)=.next (lone (b.at tmps (.code c :: .inLoop c::k)) cs w):=cL (by simp[stepG,stepG.exec,FB.at])
theorem Bn9{e:List Item}(h:exitTo id k=some e):step P (lone (b.at tmps (.code (.exit id)::k)) cs w)=.next (lone (b.at tmps e) cs w):=cL (by simp[stepG,stepG.exec,FB.at,h])
theorem Bqb(h:b.Dl=none):step P (lone (b.at tmps (.code .ret::k)) cs w)=.next (lone { b.at tmps (.code .ret::k)with mode:=.returning } cs w):=cL (by simp[stepG,stepG.exec,FB.at,h])
theorem Bpf(h:b.Dl=none):step P (lone (b.at tmps []) cs w)=.next (lone { b.at tmps []with mode:=.returning } cs w):=cL (by simp[stepG,stepG.exec,FB.at,h])
theorem Beh{ops:Array Oper}:step P (lone (b.at tmps (.code (.region id ops false)::k)) cs w)=.next (lone (b.at tmps (.inRegion ops (List.range ops.size)::k)) cs w):=cL (by simp[stepG,stepG.exec,FB.at])
theorem Bnj(hm:P.follows .mixedOrders=true){ops:Array Oper}:step P (lone (b.at tmps (.code (.region id ops true)::k)) cs w) =
 .next (lone (b.at tmps (.inRegion ops (Region.linearise .any ops (w.tape w.drawn (.order b.fn id)))::k)) cs { w with drawn:=w.drawn+1 }):=
 cL (by simp[stepG,stepG.exec,FB.at,choose,Sem.run,Question.forced,Question.cut,hm,Region.schedule])
theorem A5m {l:Nat}(e:b.Dl=some l){v:Value}(he:(Instr.endRound l jump).run P w=.ok v w')
 (j:(todo = []/\jump=none)\/(∃k,todo=.code .ret::k/\jump=some .ret)\/(∃id k,todo=.code (.exit id)::k/\exitTo id k=none/\jump=some (.exit id))) :
 step P (lone (b.at tmps todo) (caller::cs) w)=.next (lone (caller.finish v) cs w'):=by
 refine cL ?_;rcases j with⟨rfl,rfl⟩|⟨k,rfl,rfl⟩|⟨id,k,rfl,u,rfl⟩
 ·simp[stepG,stepG.exec,FB.at,e,he,doReturn]
 ·simp[stepG,stepG.exec,FB.at,e,he,doReturn]
 ·simp[stepG,stepG.exec,FB.at,e,u,he,doReturn]
end
section
variable(hT:Qc P T){w:World}
theorem A8t(hT:Qc P T)(j:Tg p h)(u:Tt f h w){cs:List EV}(hs:T.size t=some n)(y:I6 h i off n=some cs){b:Bool}(e:T.agg t=some b)
 (A:(b=true/\v=.agg cs)\/(b=false/\cs = [v])):(loadVar t ⟨f.b i,off,none⟩).run P w=.ok (Cm f v) w/\v.ok p:=by
 obtain⟨B,h2,C,h4,F⟩:=tW (P:=P) j u y;rcases A with⟨rfl,rfl⟩|⟨rfl,rfl⟩
 ·refine⟨?_,h2,C⟩
  simp only[loadVar,Sem.run_bind,py hT w e,aI,bN,Gt hT w hs,B,aS,Cm]
 ·refine⟨?_,h2.1⟩
  have:=F 0 v rfl;simp only[loadVar,Sem.run_bind,py hT w e,aI,aV,ak];simp only[dA]at this;rw[run_load,this]
theorem PB {β:Type}(P:Program)(w:World)(g:α->Sem β):∀(l:List α) (r:List β),(l.length=r.length)->(∀(i:Nat) a b,l[i]? = some a->r[i]? = some b->(g a).run P w=.ok b w)->(l.mapM g).run P w=.ok r w
 | [],[],_,_=>by simp
 | a::l,b::r,e,h=>by
  have h0:=h 0 a b rfl rfl;have j:=PB P w g l r (by simpa using e) (fun i a b u h2=>h (i+1) a b (by simpa using u) (by simpa using h2));simp[List.mapM_cons,h0,j]
 | [],_::_,h,_=>by simp at h
 | _::_,[],h,_=>by simp at h
def mb(tmps:Array Value):ResultVar->Sem Value
 | .tmp t=>pure (tmps.getD t undef)
 | .cell a t=>do loadVar t (←asAddr (tmps.getD a undef))
theorem Bb5(fn:Func)(tmps:Array Value):results fn tmps=(do
 let vs ←fn.results.mapM (mb tmps)
 pure (if h:vs.size=1 then vs[0]else .tuple vs)):=by
 unfold results;congr 1
theorem xB(hT:Qc P T)(G:Tg p h)(H:Tt f h w)(A:Ld p n tm):∀{l:List ResultVar} {vs:List EV},Mr T tm h l=some vs ->
 EV.Tp p vs/\l.length=(Bp f vs).length/\∀(i:Nat) a b,l[i]? = some a->(Bp f vs)[i]? = some b->(mb (Bg f n tm) a).run P w=.ok b w
 | [],vs,j=>by cases j;exact⟨trivial,rfl,fun i a b h=>by simp at h⟩
 | .tmp t::r,vs,j=>by
  simp only[Mr]at j;split at j
  next l J=>
   cases j;obtain⟨L,h2,M⟩:=xB hT G H A J;refine⟨⟨A.tmp t,L⟩,by simp[Bp,h2],fun i a b B hb=>?_⟩;cases i with
   | zero=>
    simp only[bR,cQ,Bp]at B hb;subst B hb;simp only[mb,aS,qR f A]
   | succ i=>exact M i a b (by simpa using B) (by simpa [Bp]using hb)
  ·cases j
 | .cell a t::r,vs,j=>by
  simp only[Mr]at j;split at j
  next i off l X B J O=>
   split at j
   next cs Q=>
    obtain⟨L,h2,M⟩:=xB hT G H A J;have key:∀(b:Bool) (v:EV),T.agg t=some b->((b=true/\v=.agg cs)\/(b=false/\cs = [v]))->some (v::l)=some vs->EV.Tp p vs/\(ResultVar.cell a t::r).length=(Bp f vs).length/\∀(i:Nat) C F,(ResultVar.cell a t::r)[i]? = some C->(Bp f vs)[i]? = some F->(mb (Bg f n tm) C).run P w=.ok F w:=by
     intro b v hb U e;cases e;obtain⟨l1,W⟩:=A8t hT G H O Q hb U;refine⟨⟨W,L⟩,by simp[Bp,h2],fun i C F u y=>?_⟩;cases i with
     | zero=>
      simp only[bR,cQ,Bp]at u y;subst u y;simp only[mb,qR f A,B,Cm,asAddr,Sem.run_bind,aS,aI,l1]
     | succ i=>exact M i C F (by simpa using u) (by simpa [Bp]using y)
    split at j
    next hb=>exact key true _ hb (.inl ⟨rfl,rfl⟩) j
    next hb=>
     split at j
     ·exact key false _ hb (.inr ⟨rfl,rfl⟩) j
     ·cases j
    ·cases j
   ·cases j
  ·cases j
theorem A6e(hT:Qc P T)(C:Tg p h)(F:Tt f h w)(G:Ld p n tm){fn:Func}{vs:List EV}(H:Mr T tm h fn.results.toList=some vs)
 (A:vs = [v]\/((∀x,vs≠[x])/\v=.tuple vs)):(results fn (Bg f n tm)).run P w=.ok (Cm f v) w/\v.ok p:=by
 obtain⟨B,h2,J⟩:=xB hT C F G H;have hm:(fn.results.toList.mapM (mb (Bg f n tm))).run P w=.ok (Bp f vs) w:=PB P w _ _ _ h2 J;constructor
 ·have u:(fn.results.mapM (mb (Bg f n tm))).run P w=.ok (Bp f vs).toArray w:=by
   have e:fn.results.mapM (mb (Bg f n tm))=Functor.map List.toArray (fn.results.toList.mapM (mb (Bg f n tm))):=by
    rw[<-List.mapM_toArray,eA]
   rw[e,Sem.run_map,hm];rfl
  rw[Bb5,Sem.run_bind,u,aI,aS];congr 1;rcases A with rfl|⟨y,rfl⟩
  ·simp[Bp]
  ·rw[dif_neg]
   ·simp only[Cm]
   ·intro j
    simp only[cU,Cv]at j
    match vs,j with
    | [x],_=>exact y x rfl
 ·rcases A with rfl|⟨_,rfl⟩
  ·exact B.1
  ·exact B
end
end
section
theorem xC(f:Loc)(fn n:Nat)(tm:Ay)(todo:List Item)(ds:List Nat)(Dl:Option Nat):
 Ob f ⟨fn,n,tm,todo,ds,false,Dl⟩=(FB.mk fn (ds.map (Ix f)) (Dl.map f.b)).at (Bg f n tm) todo:=rfl
theorem xD(f:Loc)(fn n:Nat)(tm:Ay)(todo:List Item)(ds:List Nat):
 Ob f ⟨fn,n,tm,todo,ds,true,none⟩ = { (FB.mk fn (ds.map (Ix f)) none).at (Bg f n tm) todo with mode:=.returning }:=rfl
def g_(P:Program)(p:Nat->Prop)(f:Loc)(w:World)(cs:List Frame)(s s':Hl):Prop:=
 ∃f' w',Steps P (lone (Ob f s.fr) cs w) (lone (Ob f' s'.fr) cs w')/\Move p f s.h w f' s'.h w'/\Wf p s.h s'.h/\Xy (grow p s.h s'.h) s'.fr/\s'.fr.fn=s.fr.fn/\s'.fr.Dl=s.fr.Dl
def Fin(P:Program)(p:Nat->Prop)(f:Loc)(w:World)(s:Hl)(v:EV)(h':Ab):Prop:=
 match s.fr.Dl with
 | none=>h'=s.h/\(Ob f s.fr).leaving P w (.returned (Cm f v))/\v.ok p
 | some _=>∀caller cs,∃w',Steps P (lone (Ob f s.fr) (caller::cs) w) (lone (caller.finish (Cm f v)) cs w')/\Move p f s.h w f h' w'/\Wf p s.h h'/\v.ok p
section
variable{w:World}
theorem g_.stay {fr e:Aif}(j:Tg p h)(u:Tt f h w)(hs:Steps P (lone (Ob f fr) cs w) (lone (Ob f e) cs w))(y:Xy p e)(A:e.fn=fr.fn)(h2:e.Dl=fr.Dl):g_ P p f w cs ⟨fr,h⟩ ⟨e,h⟩:=
 ⟨f,w,hs,Move.refl u,Wf.refl j,by rw[J3 _ _ _ rfl];exact y,A,h2⟩
theorem uh(u:Tt f h w){l:Nat}{st:LoopState}(y:h.get l=some (.loop st pd fn n tm ps d' body d)):
 (Instr.getLoop (f.b l)).run P w=.ok ⟨st,pd,fn,Bg f n tm,ps.toArray,d',body,f.b d⟩ w/\w.heap[f.b l]? = some (.loop ⟨st,pd,fn,Bg f n tm,ps.toArray,d',body,f.b d⟩):=by
 obtain⟨r,j,rfl⟩:=u.obj l _ y;have e:=N4 (P:=P) j (by intros;simp);refine⟨?_,j⟩;simp only[Instr.getLoop,Sem.run_bind,e,aI,aS]
theorem xE(j:Tg p h)(u:Tt f h w){l:Nat}{st st':LoopState}{pd':Option Code}(e:h.get l=some (.loop st pd fn n tm ps d' body d)):
 Move p f h w f (h.put l (.loop st' pd' fn n tm ps d' body d)) { w with heap:=w.heap.setIfInBounds (f.b l) (.loop ⟨st',pd',fn,Bg f n tm,ps.toArray,d',body,f.b d⟩) } /\
 Wf p h (h.put l (.loop st' pd' fn n tm ps d' body d)):=
 ⟨Move.setObj u e rfl,Wf.put j e (j.get l _ e).2⟩
theorem A3r(e:Tt f h w){l:Nat}{st:LoopState}(j:h.get l=some (.loop st pd fn n tm ps d' body d))(jump:Option Code):
 (Instr.endRound (f.b l) jump).run P w=.ok (.bool jump.isNone) { w with heap:=w.heap.setIfInBounds (f.b l) (.loop ⟨if jump.isNone then .ready else .done,jump,fn,Bg f n tm,ps.toArray,d',body,f.b d⟩) }:=by
 obtain⟨u,h2⟩:=uh (P:=P) e j;have hs:=Qo (P:=P) (o':=.loop ⟨if jump.isNone then .ready else .done,jump,fn,Bg f n tm,ps.toArray,d',body,f.b d⟩) h2 (by intros;simp);simp only[Instr.endRound,Sem.run_bind,u,aI,hs,aS]
theorem xF(e:leave fn n tm todo ds Dl h jump=.go s'):
 Dl=none/\s'=⟨⟨fn,n,tm,todo,ds,true,none⟩,h⟩/\(jump=none\/jump=some .ret):=by
 unfold leave at e;split at e
 ·split at e
  ·cases e;exact⟨rfl,rfl,.inl rfl⟩
  ·cases e;exact⟨rfl,rfl,.inr rfl⟩
  ·cases e
 ·split at e
  ·split at e<;>cases e
  ·cases e
theorem xG(B:Tg p h)(y:Tt f h w)(e:leave fn n tm todo ds Dl h jump=.done v h')
 (C:(todo = []/\jump=none)\/(∃k,todo=.code .ret::k/\jump=some .ret)\/(∃id k,todo=.code (.exit id)::k/\exitTo id k=none/\jump=some (.exit id))) :
 Fin P p f w ⟨⟨fn,n,tm,todo,ds,false,Dl⟩,h⟩ v h':=by
 unfold leave at e;split at e
 ·split at e<;>cases e
 next l=>
  split at e
  next st pd j F fh ps d' body d A=>
   have key:∀(b:Bool) (st':LoopState),b=jump.isNone->st'=(if jump.isNone then .ready else .done)->Fin P p f w ⟨⟨fn,n,tm,todo,ds,false,some l⟩,h⟩ (.bool b) (h.put l (.loop st' jump j F fh ps d' body d)):=by
    intro b st' hb u;intro caller cs;obtain⟨G,H⟩:=xE (st':=st') (pd':=jump) B y A;refine⟨_,.one ?_,G,H,trivial⟩;have he:=A3r (P:=P) y A jump;rw[<-u,<-hb]at he;exact A5m (b:=FB.mk fn (ds.map (Ix f)) (some (f.b l))) rfl he C
   split at e
   ·cases e;exact key true _ rfl rfl
   ·cases e;exact key false _ rfl rfl
  ·cases e
variable (hT:Qc P T){call:Ah}(hC:ks P call)(hR:nX P round)(wC:Vu call)(wR:Vu round)
theorem Bft{ds:List Deferred}(h:(Instr.takeDeferred d).run P w=.ok [] w'):
 step P (lone { fn:=fn,tmps:=tmps,todo:=todo,defers:={ target:=.collected d,args:=#[] }::ds,mode:=.returning,kind:=.normal,roundOf:=none } cs w) =
  .next (lone { fn:=fn,tmps:=tmps,todo:=todo,defers:=ds,mode:=.returning,kind:=.normal,roundOf:=none } cs w'):=
 cL (by simp[stepG,unwind,h])
theorem A1m {b:FB}{l:Nat}(e:b.Dl=some l)(h:(Instr.beginRound l).run P w=.ok () w'):
 step P (lone (b.at tmps (.beginRound::k)) cs w)=.next (lone (b.at tmps k) cs w'):=
 cL (by simp[stepG,stepG.exec,stepG.apply,FB.at,e,h,Frame.finish])
theorem PC {b:FB}{ps:Array Tmp}{l:Nat}{mark:List Deferred}{w1:World}{g:FuncId}{args:Array Value}
 (e:(Instr.enterLoop b.fn tmps ps d' body b.Dl).run P w=.ok (l,mark) w1)
 (h2:(do let d ←resolve (Is tmps) { callee:=.value fo,args:=#[.const (.func (.yield l) #[] #[])],argTypes:=#[] } 0;invoke d.target d.args:Sem Next).run P w1=.ok (.enter g args) w1) :
 step P (lone (b.at tmps (.code (.rangeFunc fo ps d' body)::k)) cs w)=.next (lone (Frame.enter P g args .normal) ((FB.mk b.fn (mark++b.defers) b.Dl).at tmps (.inRangeFunc l::k)::cs) w1):=by
 refine cL ?_;have he:=FB.eval_at (FB.mk b.fn (mark++b.defers) b.Dl) tmps (.inRangeFunc l::k);simp only[FB.at]at he;simp only[stepG,stepG.exec,FB.at,Sem.runT_eq,e,GStep.bare_after,stepG.apply,he];rw[h2];simp
theorem A8s {b:FB}{l:Nat}{w1:World}(e:(Instr.endLoop l).run P w=.ok jump w1):
 step P (lone (b.at tmps (.endRangeFunc l::k)) cs w)=.next (lone (b.at tmps ((jump.map Item.code).toList++k)) cs w1):=
 cL (by simp[stepG,stepG.exec,FB.at,e])
theorem A89(j:Tt f h w){l:Nat}{st:LoopState}(e:st≠.busy)(u:h.get l=some (.loop st pd fn n tm ps d' body d)):
 (Instr.endLoop (f.b l)).run P w=.ok pd { w with heap:=w.heap.setIfInBounds (f.b l) (.loop ⟨.exhausted,pd,fn,Bg f n tm,ps.toArray,d',body,f.b d⟩) }:=by
 obtain⟨y,h2⟩:=uh (P:=P) j u;have hs:=Qo (P:=P) (o':=.loop ⟨.exhausted,pd,fn,Bg f n tm,ps.toArray,d',body,f.b d⟩) h2 (by intros;simp);have hb:(st == .busy)=false:=by cases st<;>first|rfl|exact absurd rfl e
 simp only[Instr.endLoop,Sem.run_bind,y,aI,hb,aV,ak,aS,hs]
theorem PD(hC:ks P call){l:Nat}{g:Nat}
 (j:behind fn n tm ds Dl l k (call g args h)=.go s') (W:Tg p h) (X:Tt f h w) (Y:EV.Tp p args) (F:Xy p ⟨fn,n,tm,k,ds,false,Dl⟩) :
 (∃G,P.funcs[g]? = some G/\G.body.isSome=true/\(G.name == "runtime.NumGoroutine")=false)/\∃f' w',p l ->
  Steps P (lone (Frame.enter P g (Bp f args).toArray .normal) ((FB.mk fn (ds.map (Ix f)) (Dl.map f.b)).at (Bg f n tm) (.inRangeFunc (f.b l)::k)::cs) w) (lone (Ob f' s'.fr) cs w') /\
  Move p f h w f' s'.h w'/\Wf p h s'.h/\Xy (grow p h s'.h) s'.fr/\s'.fr.fn=fn/\s'.fr.Dl=Dl:=by
 unfold behind at j;split at j
 ·cases j
 next v C y=>
  obtain⟨H,Z⟩:=hC _ _ _ _ _ y;refine⟨H,?_⟩;split at j
  next st pd B Q fh ps d' body d U=>
   have key:st≠.busy->∀todo:List Item,todo=(pd.map Item.code).toList++k->(AR.go ⟨⟨fn,n,tm,todo,ds,false,Dl⟩,C.put l (.loop .exhausted pd B Q fh ps d' body d)⟩=.go s')->∃f' w',p l ->
    Steps P (lone (Frame.enter P g (Bp f args).toArray .normal) ((FB.mk fn (ds.map (Ix f)) (Dl.map f.b)).at (Bg f n tm) (.inRangeFunc (f.b l)::k)::cs) w) (lone (Ob f' s'.fr) cs w') /\
    Move p f h w f' s'.h w'/\Wf p h s'.h/\Xy (grow p h s'.h) s'.fr/\s'.fr.fn=fn/\s'.fr.Dl=Dl:=by
    intro J todo A e;cases e;obtain⟨fr,f1,w1,hs,aa,hl,hm,hwf,ae⟩:=Z p f w W X Y ((FB.mk fn (ds.map (Ix f)) (Dl.map f.b)).at (Bg f n tm) (.inRangeFunc (f.b l)::k)::cs);have u:Xy (grow p h C) ⟨fn,n,tm,k,ds,false,Dl⟩:=F.mono fun _ hi=>.inl hi
    obtain⟨m1,m2⟩:=xE (st':=.exhausted) (pd':=pd) hwf.hok hm.rep U;have L:grow p h (C.put l (.loop .exhausted pd B Q fh ps d' body d))=grow p h C:=by
     funext q;simp only[grow,Ab.P9]
    refine⟨f1,_,fun M=>⟨hs.trans (.head (step_leave_returned hl) (.one ?_)),hm.trans m1,hwf.trans m2,?_,rfl,rfl⟩⟩
    ·have e1:((FB.mk fn (ds.map (Ix f)) (Dl.map f.b)).at (Bg f n tm) (.inRangeFunc (f.b l)::k)).finish (Cm f1 v)=(FB.mk fn (ds.map (Ix f1)) (Dl.map f1.b)).at (Bg f1 n tm) (.endRangeFunc (f1.b l)::k):=by
      have:=ug hm.agree F;simp only[oo]at this;rw[this,hm.Bg F.tm,(hm.agree l M).1];rfl
     rw[e1,A8s (A89 hm.rep J U),<-A];rfl
    ·rw[L]
     exact⟨u.tm,u.dfr,u.Dl,fun x=>by cases x⟩
   split at j
   ·cases j
   next O=>exact key O _ (by cases pd<;>rfl) j
  ·cases j
end
end
section
section
variable(hT:Qc P T){call:Ah}(hC:ks P call)(hR:nX P round)(wC:Vu call)(wR:Vu round)
include wC wR in
theorem wY {s:Hl}(j:(∃s',Cq T call round s=.go s'/\s'.h=h')\/∃v,Cq T call round s=.done v h'):AWf s.h h':=by
 obtain⟨⟨fn,n,tm,todo,ds,ret,Dl⟩,h⟩:=s;have A:∀{todo:List Item} {jump:Option Code} {h':Ab},((∃s',leave fn n tm todo ds Dl h jump=.go s'/\s'.h=h')\/∃v,leave fn n tm todo ds Dl h jump=.done v h')->AWf h h':=by
  intro todo jump h' L;rcases L with⟨s',C,h2⟩|⟨v,C⟩
  ·obtain⟨_,e,_⟩:=xF C
   rw[e]at h2;subst h2;exact .refl _
  ·unfold leave at C
   split at C
   ·split at C<;>cases C
   ·split at C
    next F=>
     split at C
     ·cases C;exact .put F _
     ·cases C;exact .put F _
    ·cases C
 cases ret with
 | true=>
  cases ds with
  | cons d ds=>
   simp only[Cq]at j;split at j
   next F=>
    rcases j with⟨s',e,rfl⟩|⟨v,e⟩
    ·cases e;exact .put F _
    ·cases e
   ·rcases j with⟨s',e,_⟩|⟨v,e⟩<;>cases e
  | nil=>
   simp only[Cq]at j;rcases j with⟨s',e,rfl⟩|⟨v,e⟩
   ·split at e
    ·split at e<;>cases e
    ·cases e
   ·split at e
    ·split at e<;>first|(cases e;done)|(cases e;exact .refl _)
    ·cases e
 | false=>
  cases todo with
  | nil=>simp only[Cq]at j;exact A j
  | cons it k=>
   have y:∀{s0:Hl},((∃s',AR.go s0=.go s'/\s'.h=h')\/∃v,AR.go s0=.done v h')->s0.h=h':=by
    rintro s0 (⟨s',e,rfl⟩|⟨v,e⟩)<;>cases e;rfl
   have u:((∃s',AR.fail=.go s'/\s'.h=h')\/∃v,AR.fail=.done v h')->AWf h h':=by
    rintro(⟨s',e,_⟩|⟨v,e⟩)<;>cases e
   have B:∀{G:List Nat} {l g:Nat} {args:List EV} {C:Ab},AWf h C->((∃s',behind fn n tm G Dl l k (call g args C)=.go s'/\s'.h=h')\/∃v,behind fn n tm G Dl l k (call g args C)=.done v h')->AWf h h':=by
    intro G l g args C H hb;unfold behind at hb;split at hb
    ·exact u hb
    next v h2 M=>
     split at hb
     next F=>
      split at hb
      ·exact u hb
      ·rw[<-y hb]
       exact(H.trans (wC _ _ _ _ _ M)).trans (.put F _)
     ·exact u hb
   cases it with
   | code c=>
    cases c with
    | region id ops dr=>
     cases dr with
     | false=>
      simp only[Cq]at j;split at j
      next J=>rw[<-y j];exact xn wC wR J
      ·exact u j
     | true=>
      simp only[Cq]at j;split at j
      next J=>rw[<-y j];exact O' wC wR J
      ·exact u j
    | cond c a b=>
     simp only[Cq]at j;split at j
     ·rw[<-y j];exact .refl _
     ·rw[<-y j];exact .refl _
     ·exact u j
    | exit id=>
     simp only[Cq]at j;split at j
     ·rw[<-y j];exact .refl _
     ·exact A j
    | ret=>simp only[Cq]at j;exact A j
    | rangeFunc fo ps d' body=>
     simp only[Cq]at j;split at j
     ·split at j
      ·exact B ((AWf.new _ _).trans (.new _ _)) j
      ·split at j
       ·exact B (.new _ _) j
       ·exact u j
     ·exact u j
    | seq a b=>simp only[Cq]at j;rw[<-y j];exact .refl _
    | skip=>simp only[Cq]at j;rw[<-y j];exact .refl _
    | block id c=>simp only[Cq]at j;rw[<-y j];exact .refl _
    | loop c=>simp only[Cq]at j;rw[<-y j];exact .refl _
    | label l=>simp only[Cq]at j;rw[<-y j];exact .refl _
    | scope c=>simp only[Cq]at j;exact u j
    | goto c=>simp only[Cq]at j;exact u j
    | refuse c=>simp only[Cq]at j;exact u j
   | inBlock id=>simp only[Cq]at j;rw[<-y j];exact .refl _
   | inLoop c=>simp only[Cq]at j;rw[<-y j];exact .refl _
   | beginRound=>
    simp only[Cq]at j;split at j
    ·split at j
     next F=>rw[<-y j];exact .put F _
     ·exact u j
    ·exact u j
   | _=>simp only[Cq]at j;exact u j
theorem g_.run{w:World}{e:List Nat}{f':Loc}
 (hs:Steps P (lone ((FB.mk fn (ds.map (Ix f)) (Dl.map f.b)).at (Bg f n tm) todo) cs w) (lone ((FB.mk fn (e.map (Ix f')) (Dl.map f'.b)).at (Bg f' n fh) jf) cs w'))
 (hm:Move p f h w f' h' w') (hwf:Wf p h h') (j:Xy (grow p h h') ⟨fn,n,fh,jf,e,false,Dl⟩):g_ P p f w cs ⟨⟨fn,n,tm,todo,ds,false,Dl⟩,h⟩ ⟨⟨fn,n,fh,jf,e,false,Dl⟩,h'⟩:=
 ⟨f',w',hs,hm,hwf,j,rfl,rfl⟩
theorem g_.Z2{w:World}(j:Tg p h)(u:Tt f h w)(e:Xy p ⟨fn,n,tm,todo,ds,false,Dl⟩)
 (hs:step P (lone ((FB.mk fn (ds.map (Ix f)) (Dl.map f.b)).at (Bg f n tm) todo) cs w)=.next (lone ((FB.mk fn (ds.map (Ix f)) (Dl.map f.b)).at (Bg f n tm) jf) cs w)) :
 g_ P p f w cs ⟨⟨fn,n,tm,todo,ds,false,Dl⟩,h⟩ ⟨⟨fn,n,tm,jf,ds,false,Dl⟩,h⟩:=
 g_.run (.one hs) (Move.refl u) (Wf.refl j) (by rw[J3 _ _ _ rfl];exact⟨e.tm,e.dfr,e.Dl,fun x=>by cases x⟩)
variable{w:World}
theorem PE(j:Tg p h)(u:Tt f h w)(e:Xy p ⟨fn,n,tm,todo,ds,false,Dl⟩)
 (y:leave fn n tm todo ds Dl h jump=.go s') (A:jump=none->todo = []) (h2:jump=some .ret->∃k,todo=.code .ret::k):g_ P p f w cs ⟨⟨fn,n,tm,todo,ds,false,Dl⟩,h⟩ s':=by
 obtain⟨rfl,rfl,hj⟩:=xF y;refine g_.stay j u ?_ ⟨e.tm,e.dfr,e.Dl,fun _=>rfl⟩ rfl rfl;rw[xC,xD];rcases hj with rfl|rfl
 ·rw[A rfl];exact .one (Bpf rfl)
 ·obtain⟨k,rfl⟩:=h2 rfl;exact .one (Bqb rfl)
include hT hC hR in
theorem A9x{ops:Array Oper}(A:Tg p h)(B:Tt f h w)(u:Xy p ⟨fn,n,tm,k,ds,false,Dl⟩)
 (C:jm T call round n ops.toList ops.toList tm h=some (fh,h')):g_ P p f w cs ⟨⟨fn,n,tm,.code (.region id ops false)::k,ds,false,Dl⟩,h⟩ ⟨⟨fn,n,fh,k,ds,false,Dl⟩,h'⟩:=by
 obtain⟨f',w',hs,hm,hwf,y⟩:=xm hT hC hR ops (i:=0) rfl u.tm A B C (FB.mk fn (ds.map (Ix f)) (Dl.map f.b)) k cs;have e:=ug hm.agree u;simp only[oo]at e;refine g_.run (f':=f') (w':=w') ?_ hm hwf ?_
 ·refine .head Beh (.trans ?_ (.one (NQ (ops:=ops))))
  rw[<-e];have e2:List.range' 0 (List.drop 0 ops.toList).length=List.range ops.size:=by rw[List.range_eq_range'];simp
  have j:Steps P _ _:=hs;rw[e2]at j;exact j
 ·have:=u.mono (q:=grow p h h') fun _ hi=>.inl hi
  exact⟨y,this.dfr,this.Dl,fun x=>by cases x⟩
include hT hC hR wC wR in
theorem Blf{ops:Array Oper}(y:Tg p h)(A:Tt f h w)(j:Xy p ⟨fn,n,tm,k,ds,false,Dl⟩)
 (B:kU T call round n ops.toList tm h=some (fh,h')):g_ P p f w cs ⟨⟨fn,n,tm,.code (.region id ops true)::k,ds,false,Dl⟩,h⟩ ⟨⟨fn,n,fh,k,ds,false,Dl⟩,h'⟩:=by
 obtain⟨f',w',hs,hm,hwf,u⟩:=Bj7 hT hC hR wC wR j.tm y A B (FB.mk fn (ds.map (Ix f)) (Dl.map f.b)) (w.tape w.drawn (.order fn id)) k cs (w.drawn+1);have e:=ug hm.agree j;simp only[oo]at e;refine g_.run (f':=f') (w':=w') ?_ hm hwf ?_
 ·refine .head (Bnj hT.mixed) (.trans ?_ (.one (NQ (ops:=ops))))
  rw[<-e];exact hs
 ·have:=j.mono (q:=grow p h h') fun _ hi=>.inl hi
  exact⟨u,this.dfr,this.Dl,fun x=>by cases x⟩
theorem PF {g:Nat}(y:Ld p n tm)(u:Cg tm fo=some (.func g first captured))(l:Nat)(w1:World)(e:Func)(A:P.funcs[g]? = some e)(h2:e.body.isSome=true)(B:(e.name == "runtime.NumGoroutine")=false):
 (do let d ←resolve (Is (Bg f n tm)) { callee:=.value fo,args:=#[.const (.func (.yield l) #[] #[])],argTypes:=#[] } 0;invoke d.target d.args:Sem Next).run P w1 =
  .ok (.enter g ((Bp f first).toArray ++ #[.func (.yield l) #[] #[]]++(Bp f captured).toArray)) w1:=by
 have C:=Tq (f:=f) y;have hb:¬e.body=none:=by cases G:e.body<;>simp_all
 have F:¬e.name = "runtime.NumGoroutine":=by simpa using B
 have j:Is (Bg f n tm) (.const (.func (.yield l) #[] #[]))=.func (.yield l) #[] #[]:=rfl;simp[resolve,Bl C u,Cm,Deferred.ofValue,invoke,callFunc,A,F,hb,j]
include hC in
theorem Bg2{ps:Array Tmp}{g:Nat}(hh:Tg p h)(rp:Tt f h w)(y:Xy p ⟨fn,n,tm,k,ds,false,none⟩)
 (C:Cg tm fo=some (.func g first captured))
 (W:behind fn n tm (h.next::ds) none (Nat.succ h.next) k (call g (first++(.Vh (Nat.succ h.next)::captured)) ((h.new (.deferred true)).new (.loop .ready none fn n tm ps.toList d' body h.next)))=.go s') :
 g_ P p f w cs ⟨⟨fn,n,tm,.code (.rangeFunc fo ps d' body)::k,ds,false,none⟩,h⟩ s':=by
 have j:=Ey (v:=.func g first captured) y.tm C;have X:(Ds.deferred true).ok (grow p h (h.new (.deferred true))):=trivial;have Y:Move p f h w (f.set h.next w.heap.size 0) (h.new (.deferred true)) { w with heap:=w.heap.push (.deferred (some [])) }:=Move.new hh rp 0 rfl rfl rfl rfl rfl;have A:Wf p h (h.new (.deferred true)):=Wf.new hh X;have Z:Bg f n tm=Bg (f.set h.next w.heap.size 0) n tm:=Ku Y.agree y.tm;have aa:grow p h (h.new (.deferred true)) h.next:=.inr ⟨aD _,by rw[Ab.Dd];omega⟩
 have F:(Ds.loop .ready none fn n tm ps.toList d' body h.next).ok (grow p h (h.new (.deferred true))):=⟨y.tm.mono fun _ hi=>.inl hi,aa⟩;have m2:Move (grow p h (h.new (.deferred true))) (f.set h.next w.heap.size 0) (h.new (.deferred true)) { w with heap:=w.heap.push (.deferred (some [])) }
  ((f.set h.next w.heap.size 0).set (h.next+1) (w.heap.size+1) 0) ((h.new (.deferred true)).new (.loop .ready none fn n tm ps.toList d' body h.next))
  { w with heap:=(w.heap.push (.deferred (some []))).push (.loop ⟨.ready,none,fn,Bg f n tm,ps,d',body,w.heap.size⟩) }:=by
  have hx:=Move.new (w':={ w with heap:=(w.heap.push (.deferred (some []))).push (.loop ⟨.ready,none,fn,Bg f n tm,ps,d',body,w.heap.size⟩) }) (o:=.loop .ready none fn n tm ps.toList d' body h.next) (r:=.loop ⟨.ready,none,fn,Bg f n tm,ps,d',body,w.heap.size⟩) A.hok Y.rep 0 rfl ?_ rfl rfl rfl
  ·have e1:(h.new (.deferred true)).next=h.next+1:=rfl
   have e2:({ w with heap:=w.heap.push (.deferred (some [])) }:World).heap.size=w.heap.size+1:=by simp
   rw[e1,e2]at hx;exact hx
  ·have ad:Bg f n tm=Bg ((f.set h.next w.heap.size 0).set (h.new (.deferred true)).next ({ w with heap:=w.heap.push (.deferred (some [])) }:World).heap.size 0) n tm:=by
    rw[Z];exact Ku (Loc.Ms _ _ _ (fun x=>absurd (A.hok.lt _ x) a_)) (y.tm.mono fun _ hi=>.inl hi)
   show Obj.loop _=Obj.loop _;rw[<-ad,eA];have e3:((f.set h.next w.heap.size 0).set (h.new (.deferred true)).next ({ w with heap:=w.heap.push (.deferred (some [])) }:World).heap.size 0).b h.next=w.heap.size:=by
    rw[(Loc.Uh _ _ _ (by rw[Ab.Dd];omega)).1,Loc.X2]
   rw[e3]
 have ae:Wf (grow p h (h.new (.deferred true))) (h.new (.deferred true)) ((h.new (.deferred true)).new (.loop .ready none fn n tm ps.toList d' body h.next)):=Wf.new A.hok (F.mono fun _ hi=>.inl hi);have e:=Y.trans m2;have u:=A.trans ae;generalize G:(f.set h.next w.heap.size 0).set (h.next+1) (w.heap.size+1) 0=f2 at m2 e;have af:f2.b h.next=w.heap.size:=by rw[<-G,(Loc.Uh _ _ _ a_).1,Loc.X2]
 have H:f2.b (h.next+1)=w.heap.size+1:=by rw[<-G,Loc.X2]
 have ag:grow p h ((h.new (.deferred true)).new (.loop .ready none fn n tm ps.toList d' body h.next)) h.next:=.inr ⟨aD _,by rw[Ab.Dd,Ab.Dd];omega⟩
 have J:grow p h ((h.new (.deferred true)).new (.loop .ready none fn n tm ps.toList d' body h.next)) (h.next+1):=.inr ⟨a_,by rw[Ab.Dd,Ab.Dd];omega⟩;have B:EV.Tp (grow p h ((h.new (.deferred true)).new (.loop .ready none fn n tm ps.toList d' body h.next))) (first++(.Vh (Nat.succ h.next)::captured)):=
  Zq (Ss j.1) ⟨J,Ss j.2⟩
 have L:Xy (grow p h ((h.new (.deferred true)).new (.loop .ready none fn n tm ps.toList d' body h.next))) ⟨fn,n,tm,k,h.next::ds,false,none⟩:=by
  refine⟨y.tm.mono fun _ hi=>.inl hi,fun d hd=>?_,fun l hl=>(by cases hl),fun x=>(by cases x)⟩;rcases bZ.1 hd with rfl|hd
  ·exact ag
  ·exact .inl (y.dfr d hd)
 obtain⟨⟨gn,g1,g2,g3⟩,f',w',hb⟩:=PD (cs:=cs) hC W u.hok e.rep B L;obtain⟨hs,hm,hwf,M,O,Q⟩:=hb J;refine⟨f',w',?_,e.trans hm,u.trans hwf,?_,O,Q⟩
 ·rw[xC]
  refine .head ?_ hs;have U:=PC (P:=P) (b:=FB.mk fn (ds.map (Ix f)) none) (k:=k) (cs:=cs) (w:=w) (fo:=fo) (ps:=ps) (d':=d') (body:=body) (tmps:=Bg f n tm)
   (l:=w.heap.size+1) (mark:=[{ target:=.collected w.heap.size,args:=#[] }]) (w1:={ w with heap:=(w.heap.push (.deferred (some []))).push (.loop ⟨.ready,none,fn,Bg f n tm,ps,d',body,w.heap.size⟩) })
   (g:=g) (args:=(Bp f first).toArray ++ #[.func (.yield (w.heap.size+1)) #[] #[]]++(Bp f captured).toArray) (by simp[Instr.enterLoop];rfl) (PF y.tm C _ _ gn g1 g2 g3)
  have e1:Bp f2 (first++(.Vh (Nat.succ h.next)::captured))=Bp f first++(.func (.yield (w.heap.size+1)) #[] #[]::Bp f captured):=by
   rw[Ta,Bp,<-Fy e.agree _ j.1,<-Fy e.agree _ j.2];simp only[Cm];rw[show f2.b (Nat.succ h.next)=w.heap.size+1 from H]
  have e2:(Bg f n tm)=Bg f2 n tm:=Ku e.agree y.tm;have e3:ds.map (Ix f)=ds.map (Ix f2):=by
   apply cY;intro d hd;unfold Ix;rw[(e.agree d (y.dfr d hd)).1]
  rw[e1,<-e2,dH,<-e3];have e4:Ix f2 h.next = { target:=.collected w.heap.size,args:=#[] }:=by unfold Ix;rw[af]
  rw[e4,show f2.b (Nat.succ h.next)=w.heap.size+1 from H];have e5:((Bp f first).toArray ++ #[Value.func (.yield (w.heap.size+1)) #[] #[]]++(Bp f captured).toArray)=(Bp f first++(.func (.yield (w.heap.size+1)) #[] #[]::Bp f captured)).toArray:=by simp
  rw[e5]at U;exact U
 ·exact M.mono fun q hq=>by rw[pa p u.next hwf.next]at hq;exact hq
include hC in
theorem A64{l0:Nat}{ps:Array Tmp}{g:Nat}(C:Tg p h)(rp:Tt f h w)(j:Xy p ⟨fn,n,tm,k,ds,false,some l0⟩)
 (F:Cg tm fo=some (.func g first captured)) {X:LoopState} {Y n0:Nat} {Z:List Tmp} {G u:Code} {d0:Nat} (H:h.get l0=some (.loop X pd0 Y n0 kZ Z G u d0))
 (aa:behind fn n tm ds (some l0) h.next k (call g (first++(.Vh h.next::captured)) (h.new (.loop .ready none fn n tm ps.toList d' body d0)))=.go s') :
 g_ P p f w cs ⟨⟨fn,n,tm,.code (.rangeFunc fo ps d' body)::k,ds,false,some l0⟩,h⟩ s':=by
 have e:=Ey (v:=.func g first captured) j.tm F;have J:p d0:=(C.get l0 _ H).2.2;have y:Move p f h w (f.set h.next w.heap.size 0) (h.new (.loop .ready none fn n tm ps.toList d' body d0)) { w with heap:=w.heap.push (.loop ⟨.ready,none,fn,Bg f n tm,ps,d',body,f.b d0⟩) }:=by
  refine Move.new C rp 0 rfl ?_ rfl rfl rfl;show Obj.loop _=Obj.loop _;rw[<-Ku (Loc.Ms f _ _ C.fresh) j.tm,eA,(Loc.Ms f w.heap.size 0 C.fresh d0 J).1]
 have A:Wf p h (h.new (.loop .ready none fn n tm ps.toList d' body d0)):=Wf.new C ⟨j.tm.mono fun _ hi=>.inl hi,.inl J⟩;generalize ad:f.set h.next w.heap.size 0=f2 at y
 have eb:f2.b h.next=w.heap.size:=by rw[<-ad,Loc.X2]
 have L:grow p h (h.new (.loop .ready none fn n tm ps.toList d' body d0)) h.next:=.inr ⟨aD _,by rw[Ab.Dd];omega⟩
 have B:EV.Tp (grow p h (h.new (.loop .ready none fn n tm ps.toList d' body d0))) (first++(.Vh h.next::captured)):=Zq (Ss e.1) ⟨L,Ss e.2⟩;have M:Xy (grow p h (h.new (.loop .ready none fn n tm ps.toList d' body d0))) ⟨fn,n,tm,k,ds,false,some l0⟩:=j.mono fun _ hi=>.inl hi
 obtain⟨⟨gn,g1,g2,g3⟩,f',w',hb⟩:=PD (cs:=cs) hC aa A.hok y.rep B M;obtain⟨hs,hm,hwf,O,Q,U⟩:=hb L;refine⟨f',w',?_,y.trans hm,A.trans hwf,?_,Q,U⟩
 ·rw[xC]
  refine .head ?_ hs;obtain⟨ae,aq⟩:=uh (P:=P) rp H;have W:=PC (P:=P) (b:=FB.mk fn (ds.map (Ix f)) (some (f.b l0))) (k:=k) (cs:=cs) (w:=w) (fo:=fo) (ps:=ps) (d':=d') (body:=body) (tmps:=Bg f n tm)
   (l:=w.heap.size) (mark:=[]) (w1:={ w with heap:=w.heap.push (.loop ⟨.ready,none,fn,Bg f n tm,ps,d',body,f.b d0⟩) })
   (g:=g) (args:=(Bp f first).toArray ++ #[.func (.yield w.heap.size) #[] #[]]++(Bp f captured).toArray) (by simp[Instr.enterLoop,ae]) (PF j.tm F _ _ gn g1 g2 g3)
  have e1:Bp f2 (first++(.Vh h.next::captured))=Bp f first++(.func (.yield w.heap.size) #[] #[]::Bp f captured):=by
   rw[Ta,Bp,<-Fy y.agree _ e.1,<-Fy y.agree _ e.2];simp only[Cm];rw[eb]
  have e2:=ug y.agree j;simp only[oo]at e2;rw[e1,<-e2,eb,<-Ku y.agree j.tm];have e5:((Bp f first).toArray ++ #[Value.func (.yield w.heap.size) #[] #[]]++(Bp f captured).toArray)=(Bp f first++(.func (.yield w.heap.size) #[] #[]::Bp f captured)).toArray:=by simp
  rw[e5]at W;exact W
 ·exact O.mono fun q hq=>by rw[pa p A.next hwf.next]at hq;exact hq
include hT hC hR wC wR in
theorem Bkp {s:Hl}(j:Cq T call round s=.go s')(u:Xy p s.fr)(A:Tg p s.h)(y:Tt f s.h w)(cs:List Frame):g_ P p f w cs s s':=by
 obtain⟨⟨fn,n,tm,todo,ds,ret,Dl⟩,h⟩:=s;cases ret with
 | true=>
  have L:Dl=none:=u.ret rfl;subst L;cases ds with
  | cons d ds=>
   simp only[Cq]at j;split at j
   next C=>
    cases j;obtain⟨r0,F,rfl⟩:=y.obj d _ C;have B:(Instr.takeDeferred (f.b d)).run P w=.ok [] { w with heap:=w.heap.setIfInBounds (f.b d) (.deferred none) }:=by
     have J:=N4 (P:=P) F (by intros;simp);have h2:=Qo (P:=P) (o':=.deferred none) F (by intros;simp);simp only[bN]at J;simp only[Instr.takeDeferred,Sem.run_bind,J,aI,h2,aS]
    have hm:Move p f h w f (h.put d (.deferred false)) { w with heap:=w.heap.setIfInBounds (f.b d) (.deferred none) }:=Move.setObj y C rfl;have hwf:Wf p h (h.put d (.deferred false)):=Wf.put A C trivial;refine⟨f,_,.one ?_,hm,hwf,?_,rfl,rfl⟩
    ·rw[xD,xD];exact Bft B
    ·exact Xy.mono (p:=p) ⟨u.tm,fun x Y=>u.dfr x (aP _ Y),u.Dl,fun _=>rfl⟩ fun _ hi=>.inl hi
   ·cases j
  | nil=>
   simp only[Cq]at j;split at j
   ·split at j<;>cases j
   ·cases j
 | false=>
  have W:=Tq (f:=f) u.tm;have hk:∀{it:Item} {k:List Item},Xy p ⟨fn,n,tm,it::k,ds,false,Dl⟩->Xy p ⟨fn,n,tm,k,ds,false,Dl⟩:=fun h=>⟨h.tm,h.dfr,h.Dl,h.ret⟩
  cases todo with
  | nil=>simp only[Cq]at j;exact PE A y u j (fun _=>rfl) (fun e=>by cases e)
  | cons it k=>
   cases it with
   | code c=>
    cases c with
    | region id ops dr=>
     cases dr with
     | false=>
      simp only[Cq]at j;split at j
      next M=>cases j;exact A9x hT hC hR A y (hk u) M
      ·cases j
     | true=>
      simp only[Cq]at j;split at j
      next M=>cases j;exact Blf hT hC hR wC wR A y (hk u) M
      ·cases j
    | cond c a b=>
     simp only[Cq]at j;split at j
     next O=>cases j;exact g_.Z2 A y u (O_ (t:=true) (by rw[Bl W O];rfl))
     next O=>cases j;exact g_.Z2 A y u (O_ (t:=false) (by rw[Bl W O];rfl))
     ·cases j
    | exit id=>
     simp only[Cq]at j;split at j
     next he=>cases j;exact g_.Z2 A y u (Bn9 he)
     ·obtain⟨_,_,hj⟩:=xF j
      rcases hj with hj|hj<;>cases hj
    | ret=>simp only[Cq]at j;exact PE A y u j (fun e=>by cases e) (fun _=>⟨k,rfl⟩)
    | rangeFunc fo ps d' body=>
     simp only[Cq]at j;split at j
     next g first captured G=>
      split at j
      ·exact Bg2 hC A y (hk u) G j
      ·split at j
       next Q=>exact A64 hC A y (hk u) G Q j
       ·cases j
     ·cases j
    | seq a b=>simp only[Cq]at j;cases j;exact g_.Z2 A y u Bpp
    | skip=>simp only[Cq]at j;cases j;exact g_.Z2 A y u Bl4
    | block id c=>simp only[Cq]at j;cases j;exact g_.Z2 A y u Bib
    | loop c=>simp only[Cq]at j;cases j;exact g_.Z2 A y u Bob
    | label l=>simp only[Cq]at j;cases j;exact g_.Z2 A y u Biv
    | scope c=>simp only[Cq]at j;cases j
    | goto c=>simp only[Cq]at j;cases j
    | refuse c=>simp only[Cq]at j;cases j
   | inBlock id=>simp only[Cq]at j;cases j;exact g_.Z2 A y u A90
   | inLoop c=>simp only[Cq]at j;cases j;exact g_.Z2 A y u Bg0
   | beginRound=>
    simp only[Cq]at j;split at j
    next l=>
     split at j
     next pd H X fh ps d' body d C=>
      cases j;obtain⟨J,h2⟩:=uh (P:=P) y C;obtain⟨Z,U⟩:=xE (st':=.busy) (pd':=pd) A y C;have hs:=Qo (P:=P) (o':=.loop ⟨.busy,pd,H,Bg f X fh,ps.toArray,d',body,f.b d⟩) h2 (by intros;simp);have B:(Instr.beginRound (f.b l)).run P w=.ok () { w with heap:=w.heap.setIfInBounds (f.b l) (.loop ⟨.busy,pd,H,Bg f X fh,ps.toArray,d',body,f.b d⟩) }:=by
       simp only[Instr.beginRound,Sem.run_bind,J,aI,hs,aS]
      exact g_.run (.one (A1m (b:=FB.mk fn (ds.map (Ix f)) (some (f.b l))) rfl B)) Z U ((hk u).mono fun _ hi=>.inl hi)
     ·cases j
    ·cases j
   | _=>simp only[Cq]at j;cases j
end
end
section
section
variable(hT:Qc P T){call:Ah}(hC:ks P call)(hR:nX P round)(wC:Vu call)(wR:Vu round)
variable{w:World}
include hT in
theorem MC {s:Hl}(j:Cq T call round s=.done v h')(L:Xy p s.fr)(B:Tg p s.h)(C:Tt f s.h w):Fin P p f w s v h':=by
 obtain⟨⟨fn,n,tm,todo,ds,ret,Dl⟩,h⟩:=s;cases ret with
 | true=>
  have F:Dl=none:=L.ret rfl;subst F;cases ds with
  | cons d ds=>
   simp only[Cq]at j;split at j<;>cases j
  | nil=>
   simp only[Cq]at j;split at j
   next y G=>
    have key:∀{vs:List EV} {v:EV},Mr T tm h y.results.toList=some vs->(vs = [v]\/((∀x,vs≠[x])/\v=.tuple vs))->Fin P p f w ⟨⟨fn,n,tm,todo,[],true,none⟩,h⟩ v h:=by
     intro vs v M h2;obtain⟨O,Q⟩:=A6e hT B C L.tm M h2;exact⟨rfl,⟨rfl,rfl,rfl,y,(hT.fn fn y G).1,O⟩,Q⟩
    split at j
    next H=>cases j;exact key H (.inl rfl)
    next l J H=>cases j;exact key H (.inr ⟨fun x e=>by subst e;exact J x rfl,rfl⟩)
    ·cases j
   ·cases j
 | false=>
  cases todo with
  | nil=>simp only[Cq]at j;exact xG B C j (.inl ⟨rfl,rfl⟩)
  | cons it k=>
   have u:∀{A:List Nat} {l:Nat} {r:Option (EV × Ab)},behind fn n tm A Dl l k r=.done v h'->False:=by
    intro A l r hb;unfold behind at hb;split at hb
    ·cases hb
    ·split at hb
     ·split at hb<;>cases hb
     ·cases hb
   cases it with
   | code c=>
    cases c with
    | region id ops dr=>cases dr<;>(simp only[Cq]at j;split at j<;>cases j)
    | cond c a b=>simp only[Cq]at j;split at j<;>cases j
    | exit id=>
     simp only[Cq]at j;split at j
     ·cases j
     next he=>exact xG B C j (.inr (.inr ⟨id,k,rfl,he,rfl⟩))
    | ret=>simp only[Cq]at j;exact xG B C j (.inr (.inl ⟨k,rfl,rfl⟩))
    | rangeFunc fo ps d' body=>
     simp only[Cq]at j;split at j
     ·split at j
      ·exact(u j).elim
      ·split at j
       ·exact(u j).elim
       ·cases j
     ·cases j
    | _=>simp only[Cq]at j;cases j
   | beginRound=>
    simp only[Cq]at j;split at j
    ·split at j<;>cases j
    ·cases j
   | _=>simp only[Cq]at j;cases j
theorem g_.refl{s:Hl}(e:Xy p s.fr)(j:Tg p s.h)(u:Tt f s.h w):g_ P p f w cs s s:=
 ⟨f,w,.refl _ _,Move.refl u,Wf.refl j,by rw[J3 _ _ _ rfl];exact e,rfl,rfl⟩
def o_(P:Program)(s s':Hl):Prop:=∀p f w cs,Xy p s.fr->Tg p s.h->Tt f s.h w->g_ P p f w cs s s'
theorem o_.trans {s s1 s2:Hl}(a:o_ P s s1)(b:o_ P s1 s2):o_ P s s2:=by
 intro p f w cs G H J;obtain⟨f1,w1,y,u,e,A,e1,e2⟩:=a p f w cs G H J;obtain⟨f2,w2,B,C,j,F,e3,e4⟩:=b _ f1 w1 cs A e.hok u.rep;exact⟨f2,w2,y.trans B,u.trans C,e.trans j,by rw[<-pa p e.next j.next];exact F,e3.trans e1,e4.trans e2⟩
theorem ui:∀(l:List EV) (i:Nat) (t:Tr EV) (j:Nat),(setArgs l i t).get j=if i<=j/\j<i+l.length then l[j-i]? else t.get j
 | [],i,t,j=>by simp[setArgs];omega
 | v::r,i,t,j=>by
  simp only[setArgs];rw[ui r (i+1) (t.put i (some v)) j,Tr.get_put];simp only[bP];by_cases e:i=j
  ·subst e
   rw[aH a_,aK rfl,aK a_];simp
  ·by_cases h2:i+1<=j/\j<i+1+r.length
   ·rw[aK h2,aK a_]
    rw[show j-i=(j-(i+1))+1 from a_,cC]
   ·rw[aH h2,aH e,aH a_]
theorem Ba8(f:Loc)(h:args.length<=n):Bg f n (setArgs args 0 .nil)=(Bp f args).toArray++Array.replicate (n-(Bp f args).toArray.size) undef:=by
 apply fC;intro j;rw[qQ];rw[Array.getElem?_append];simp only[cU,Cv,bV,nY,Array.getElem?_replicate];unfold tmp;rw[ui];by_cases hj:j<args.length
 ·rw[aK a_,aK a_,aK hj,Nat.sub_zero]
  rw[aE hj];rfl
 ·rw[aH (show ¬(0<=j/\j<0+args.length) from a_),aH hj]
  by_cases e:j<n
  ·rw[aK e,aK a_];rfl
  ·rw[aH e,aH a_]
theorem Blq(h:args.length<=n)(j:EV.Tp p args):Ld p n (setArgs args 0 .nil) where
 ok t v e:=by
  rw[ui]at e;split at e
  ·exact(H0 p args).1 j v (dJ e)
  ·cases e
 out t u:=by
  rw[ui,aH a_];rfl
end
end
section
theorem uj:∀{a b:List EV} {r:Bool},Fk a b=some r->a.length=b.length
 | [],[],_,_=>rfl
 | x::a,y::b,r,h=>by
  simp only[Fk]at h;split at h
  ·simp[uj h]
  ·split at h
   next h2=>simp[uj h2]
   ·cases h
  ·cases h
 | [],_::_,_,h=>by cases h
 | _::_,[],_,h=>by cases h
theorem uk:∀(k:Nat) {a b:List EV} {r:Bool},Fk a b=some r->∃j e,Fk (a.take k) (b.take k)=some j/\Fk (a.drop k) (b.drop k)=some e/\r=(j&&e)
 | 0,a,b,r,h=>⟨true,r,rfl,h,by simp⟩
 | k+1,[],[],r,h=>by cases h;exact⟨true,true,rfl,rfl,rfl⟩
 | k+1,x::a,y::b,r,h=>by
  simp only[Fk]at h;split at h
  next u=>
   obtain⟨j,e,A,h2,B⟩:=uk k h;exact⟨j,e,by simp only[fS,Fk,u,A],by simpa using h2,B⟩
  next u=>
   split at h
   next r0 h0=>
    cases h;obtain⟨j,e,A,h2,B⟩:=uk k h0;exact⟨false,e,by simp only[fS,Fk,u,A],by simpa using h2,rfl⟩
   ·cases h
  ·cases h
 | k+1,[],_::_,_,h=>by cases h
 | k+1,_::_,[],_,h=>by cases h
theorem q9 {b:Nat}{s:List Nat}{x:EV}{l:List EV}(h:shaped (b::s) (x::l)=true):shaped s l=true/\((b=0/\∃k n,x=.int k n)\/(b=1/\∃c,x=.bool c)\/(b=2/\∃c,x=.str c)):=by
 cases x with
 | int k n=>
  simp only[shaped]at h;rw[Bq]at h;split at h
  next hb=>exact⟨h,.inl ⟨aJ hb,k,n,rfl⟩⟩
  ·cases h
 | bool c=>
  simp only[shaped]at h;rw[Bq]at h;split at h
  next hb=>exact⟨h,.inr (.inl ⟨aJ hb,c,rfl⟩)⟩
  ·cases h
 | str c=>
  simp only[shaped]at h;rw[Bq]at h;split at h
  next hb=>exact⟨h,.inr (.inr ⟨aJ hb,c,rfl⟩)⟩
  ·cases h
 | _=>cases h
theorem Lb:∀{sh:List Nat} {l:List EV},shaped sh l=true->l.length=sh.length
 | [],[],_=>rfl
 | b::s,x::l,h=>by rw[bP,bP,Lb (q9 h).1]
 | [],_::_,h=>by cases h
 | _::_,[],h=>by cases h
theorem um:∀{s1 s2:List Nat} {l:List EV},shaped (s1++s2) l=true->shaped s1 (l.take s1.length)=true/\shaped s2 (l.drop s1.length)=true
 | [],s2,l,h=>⟨rfl,h⟩
 | b::s1,s2,l,h=>by
  cases l with
  | nil=>have:=Lb h;simp at this
  | cons x l=>
   obtain⟨j,h2⟩:=q9 (s:=s1++s2) h;obtain⟨e,h4⟩:=um j;refine⟨?_,h4⟩;simp only[bP,fS];rcases h2 with⟨rfl,k,n,rfl⟩|⟨rfl,c,rfl⟩|⟨rfl,c,rfl⟩
   ·exact e
   ·exact e
   ·exact e
def oq(fl:TypeId->Option (List Nat)):List Field->Nat->Option (List Nat)
 | [],_=>some []
 | f::r,off=>match fl f.type with
  | some s=>if f.offset=off/\f.name≠"_" then(match oq fl r (off+s.length)with|some t=>some (s++t)|none=>none)else none
  | none=>none
def flat(P:Program):Nat->TypeId->Option (List Nat)
 | 0=>fun _=>none
 | d+1=>fun t=>match P.info? t with
  | some i=>match P.underlying t with
   | some (.int _)=>if i.size=1 then some [0]else none
   | some .bool=>if i.size=1 then some [1]else none
   | some .string=>if i.size=1 then some [2]else none
   | some (.struct j)=>if P.stoodInHeld t=false then(match oq (flat P d) j.toList 0 with
    | some s=>if s.length=i.size then some s else none
    | none=>none)else none
   | some (.array len e)=>match flat P d e with
    | some s=>if len*s.length=i.size then some (List.replicate len s).flatten else none
    | none=>none
   | _=>none
  | none=>none
def hY(P:Program)(t:TypeId):Bool:=match P.underlying t with|some (.struct _)=>true|some (.array _ _)=>true|_=>false
def k_(P:Program)(f:Loc)(t:TypeId)(l:List EV):Value:=if hY P t=true then .agg (Bp f l).toArray else(match l with|v::_=>Cm f v | []=>undef)
theorem Vb(n:Nat)(s:List Nat):(List.replicate n s).flatten.length=n*s.length:=by
 induction n with
 | zero=>simp
 | succ n e=>rw[eF,b9,aF,e,fQ];omega
theorem Vw{s:List Nat}(h:flat P d t=some s):(∃i,P.info? t=some i/\i.size=s.length)/\(hY P t=false->(s = [0]/\∃k,P.underlying t=some (.int k))\/(s = [1]/\P.underlying t=some .bool)\/(s = [2]/\P.underlying t=some .string))/\∀w,(isAgg t).run P w=.ok (hY P t) w:=by
 cases d with
 | zero=>simp[flat]at h
 | succ d=>
  simp only[flat]at h;split at h
  next i hi=>
   split at h
   next k hu=>
    split at h
    next j=>cases h;exact⟨⟨i,hi,j⟩,fun _=>.inl ⟨rfl,k,hu⟩,fun w=>by simp[isAgg,underlying,hY,hu]⟩
    ·cases h
   next hu=>
    split at h
    next j=>cases h;exact⟨⟨i,hi,j⟩,fun _=>.inr (.inl ⟨rfl,hu⟩),fun w=>by simp[isAgg,underlying,hY,hu]⟩
    ·cases h
   next hu=>
    split at h
    next j=>cases h;exact⟨⟨i,hi,j⟩,fun _=>.inr (.inr ⟨rfl,hu⟩),fun w=>by simp[isAgg,underlying,hY,hu]⟩
    ·cases h
   next u hu=>
    split at h
    ·split at h
     ·split at h
      next j=>cases h;exact⟨⟨i,hi,j.symm⟩,fun e=>by simp[hY,hu]at e,fun w=>by simp[isAgg,underlying,hY,hu]⟩
      ·cases h
     ·cases h
    ·cases h
   next len e hu=>
    split at h
    ·split at h
     next j=>cases h;exact⟨⟨i,hi,by rw[Vb];exact j.symm⟩,fun e=>by simp[hY,hu]at e,fun w=>by simp[isAgg,underlying,hY,hu]⟩
     ·cases h
    ·cases h
   ·cases h
  ·cases h
theorem Qp(f:Loc)(w:World){s:List Nat}(h:flat P d t=some s){xs:List EV}(A:off+s.length<=xs.length:=by omega):
 (Go.part t (Bp f xs).toArray off).run P w=.ok (k_ P f t ((xs.drop off).take s.length)) w:=by
 obtain⟨⟨i,hi,hs⟩,j,e⟩:=Vw h;have u:(sizeOf t).run P w=.ok s.length w:=by simp[sizeOf,typeInfo,hi,hs]
 unfold k_;cases y:hY P t with
 | true=>
  simp only[Go.part,Sem.run_bind,e w,y,aI,bN,u,aS];congr 2;apply dQ;simp[Ot,List.extract_eq_take_drop]
 | false=>
  have B:s.length=1:=by rcases j y with⟨rfl,_⟩|⟨rfl,_⟩|⟨rfl,_⟩<;>rfl
  rw[B]at A⊢;have C:xs[off]? = some xs[off]:=aE a_;have e1:(xs.drop off).take 1 = [xs[off]]:=by
   rw[cm a_];rfl
  have e2:(Bp f xs).toArray[off]? = some (Cm f xs[off]):=by simp[Ot,C]
  rw[e1];simp only[Go.part,Sem.run_bind,e w,y,aI,aV,ak,e2,aS]
def xH(P:Program)(d D:Nat):Prop:=∀(t:TypeId) (s:List Nat),flat P d t=some s->∀(f:Loc) (w:World) (a b:List EV) (r:Bool),shaped s a=true->Fk a b=some r->(Op.equalIn D t (k_ P f t a) (k_ P f t b)).run P w=.ok r w
theorem PG(f:Loc)(w:World){D:Nat}(F:xH P d D)(a b:List EV)(G:a.length=b.length):∀(B:List Field) (off:Nat) (s:List Nat) (r:Bool),oq (flat P d) B off=some s->shaped s (a.drop off)=true->Fk (a.drop off) (b.drop off)=some r ->
 (Op.eqFields D (Bp f a).toArray (Bp f b).toArray B).run P w=.ok r w
 | [],off,s,r,h,hs,y=>by
  simp only[oq]at h;cases h;have:=Lb hs;rw[fF,bc]at this;rw[this]at y;have h2:=uj y;rw[fF]at h2;rw[bc.1 h2.symm]at y;cases y;simp[Op.eqFields]
 | fd::B,off,s,r,h,hs,y=>by
  simp only[oq]at h;split at h
  next s1 e=>
   split at h
   next j=>
    split at h
    next s2 H=>
     cases h;obtain⟨J,U⟩:=um hs;obtain⟨C,Y,L,h2,W⟩:=uk s1.length y;rw[cV]at U;rw[cV,cV]at h2;have hlen:=Lb hs;rw[av,aF]at hlen;have X:=PG f w F a b G B (off+s1.length) s2 Y H U h2;by_cases Z:off+s1.length<=a.length
     ·have p1:=Qp f w e (xs:=a) (off:=off) Z
      have p2:=Qp f w e (xs:=b) (off:=off);have M:=F fd.type s1 e f w _ _ C J L;simp only[Op.eqFields,j.2,ne_eq,aG,bN,Sem.run_bind,j.1,p1,p2,M,aI];subst W;cases C
      ·simp
      ·simpa using X
     ·
      have h0:s1.length=0:=a_
      obtain⟨⟨i,hi,O⟩,Q,A⟩:=Vw e;have hA:hY P fd.type=true:=by
       cases ha:hY P fd.type with
       | true=>rfl
       | false=>rcases Q ha with⟨rfl,_⟩|⟨rfl,_⟩|⟨rfl,_⟩<;>simp at h0
      have u:(sizeOf fd.type).run P w=.ok 0 w:=by simp[sizeOf,typeInfo,hi,O,h0]
      have hp:∀xs:List EV,(Go.part fd.type (Bp f xs).toArray off).run P w=.ok (k_ P f fd.type []) w:=by
       intro xs;simp only[Go.part,Sem.run_bind,A w,hA,aI,bN,u,aS,k_,dA];congr 2;apply dQ;simp[Bp]
      rw[h0,List.take_zero,List.take_zero]at L;rw[h0,List.take_zero]at J;have M:=F fd.type s1 e f w [] [] C J L;simp only[Op.eqFields,j.2,ne_eq,aG,bN,Sem.run_bind,j.1,hp,M,aI];subst W;cases C
      ·simp
      ·simpa using X
    ·cases h
   ·cases h
  ·cases h
theorem PH(f:Loc)(w:World){D:Nat}(F:xH P d D){e:TypeId}{s:List Nat}(hs:flat P d e=some s)(a b:List EV)(B:a.length=b.length):∀(n k:Nat) (r:Bool),(k+n)*s.length=a.length->shaped (List.replicate n s).flatten (a.drop (k*s.length))=true ->
 Fk (a.drop (k*s.length)) (b.drop (k*s.length))=some r ->
 (Op.eqItems D e (P.cellsOf e) (Bp f a).toArray (Bp f b).toArray (List.range' k n)).run P w=.ok r w
 | 0,k,r,j,u,A=>by
  rw[dA]at j;rw[cr a_,cr a_]at A;cases A;simp[Op.eqItems]
 | n+1,k,r,j,u,A=>by
  obtain⟨⟨i,hi,C⟩,_⟩:=Vw hs;have G:P.cellsOf e=s.length:=by simp[Program.cellsOf,hi,C]
  rw[eF,b9]at u;obtain⟨M,H⟩:=um u;obtain⟨J,O,Q,h2,U⟩:=uk s.length A;have y:k*s.length+s.length=(k+1)*s.length:=by rw[fQ];omega
  rw[cV,y]at H;rw[cV,cV,y]at h2;have L:=PH f w F hs a b B n (k+1) O (by rw[<-j];congr 1;omega) H h2;have hk:k*s.length+s.length<=a.length:=by
   rw[<-j,show k+(n+1)=(k+1)+n from a_,fQ,fQ];omega
  have p1:=Qp f w hs (xs:=a) (off:=k*s.length) hk;have p2:=Qp f w hs (xs:=b) (off:=k*s.length);have W:=F e s hs f w _ _ J M Q;rw[List.range'_succ];simp only[Op.eqItems,Sem.run_bind,G,p1,p2,W,aI];rw[G]at L;subst U;cases J
  ·simp
  ·simpa using L
theorem PI:∀(d D:Nat),d<=D->xH P d D
 | 0,_,_=>fun t n h=>by simp[flat]at h
 | d+1,0,h=>a_
 | d+1,D+1,hd=>by
  have U:=PI d D a_;intro t s h f w a b r j u;have A:=uj u;obtain⟨_,F,_⟩:=Vw h;by_cases C:hY P t=true
  ·simp only[flat]at h
   split at h
   next i hi=>
    split at h
    next k hu=>simp[hY,hu]at C
    next hu=>simp[hY,hu]at C
    next hu=>simp[hY,hu]at C
    next W hu=>
     split at h
     next J=>
      split at h
      next s' L=>
       split at h
       ·cases h
        have X:P.fieldsOf t=W:=by simp[Program.fieldsOf,hu]
        simp only[k_,C,bN];rw[run_equalIn_struct w D t _ _ (by rw[X];exact hu) J,X];exact PG f w U a b A W.toList 0 s r L (by simpa using j) (by simpa using u)
       ·cases h
      ·cases h
     ·cases h
    next len e hu=>
     split at h
     next s' hs=>
      split at h
      next Z=>
       cases h;obtain⟨⟨ie,M,_⟩,_⟩:=Vw hs;simp only[k_,C,bN];rw[run_equalIn_array w D _ _ hu M,List.range_eq_range'];refine PH f w U hs a b A len 0 r ?_ (by simpa using j) (by simpa using u);rw[Lb j,Vb,bJ]
      ·cases h
     ·cases h
    ·cases h
   ·cases h
  ·have B:hY P t=false:=by simpa using C
   have hlen:=Lb j;have O:s.length=1:=by rcases F B with⟨rfl,_⟩|⟨rfl,_⟩|⟨rfl,_⟩<;>rfl
   rw[O]at hlen
   match a,b,hlen,A with
   | [x],[y],_,_=>
    simp only[k_,B,aV,ak];simp only[Fk]at u;have hle:jL x y=some r:=by
     split at u
     next Q=>cases u;exact Q
     next Q=>cases u;exact Q
     ·cases u
    rcases F B with⟨rfl,Y,hu⟩|⟨rfl,hu⟩|⟨rfl,hu⟩
    ·rcases(q9 j).2 with⟨_,k,n,rfl⟩|⟨h0,_⟩|⟨h0,_⟩
     ·cases y with
      | int k' m=>
       simp only[jL]at hle;obtain⟨hk,G⟩:=An hle;have:=qU hk;subst this;have hle:=fZ G;simp only[Cm];rw[run_equalIn_int w D t k Y n m hu,<-hle,kX];congr 1
      | _=>cases hle
     ·cases h0
     ·cases h0
    ·rcases(q9 j).2 with⟨h0,_⟩|⟨_,c,rfl⟩|⟨h0,_⟩
     ·cases h0
     ·cases y with
      | bool H=>
       simp only[jL,cQ]at hle;simp only[Cm];rw[MS w D t c H hu,<-hle];cases c<;>cases H<;>rfl
      | _=>cases hle
     ·cases h0
    ·rcases(q9 j).2 with⟨h0,_⟩|⟨h0,_⟩|⟨_,c,rfl⟩
     ·cases h0
     ·cases h0
     ·cases y with
      | str H=>
       simp only[jL,cQ]at hle;simp only[Cm];rw[Bjs w D t c H hu,<-hle,tV]
      | _=>cases hle
def qm(P:Program)(t:TypeId):Bool:=
 match P.underlying t with
 | some (.struct e)=>e.toList.all fun f=>f.name != "_"&&(match P.underlying f.type with|some (.int _)=>true|some .bool=>true|_=>false)
 | _=>false
theorem PJ(f:Loc)(w:World)(e:Bool)(D:Nat)(a:List EV):∀(u:List Field) (off:Nat) (s:List Nat) (d:Nat),(u.all fun f=>f.name != "_"&&(match P.underlying f.type with|some (.int _)=>true|some .bool=>true|_=>false))=true ->
 oq (flat P d) u off=some s->shaped s (a.drop off)=true ->
 (forIn u PUnit.unit fun(fd:Field) (_:PUnit)=>(do
  if fd.name≠"_" then do
   Instr.checkKey e (D+1) fd.type (←Go.part fd.type (Bp f a).toArray fd.offset)
   pure (.yield PUnit.unit)
  else pure (.yield PUnit.unit):Sem (ForInStep PUnit))).run P w=.ok PUnit.unit w
 | [],off,s,d,_,h,hs=>by simp
 | fd::u,off,s,d,j,h,hs=>by
  simp only[List.all_cons,aX]at j;simp only[oq]at h;split at h
  next s1 y=>
   split at h
   next A=>
    split at h
    next s2 B=>
     cases h;obtain⟨F,C⟩:=um hs;rw[cV]at C;have G:=PJ f w e D a u (off+s1.length) s2 d j.2 B C;have hlen:=Lb F;rw[bK,av]at hlen;have H:s1.length=1:=by
      have J:hY P fd.type=false:=by
       have:=j.1.2;unfold hY;split at this<;>simp_all
      rcases(Vw y).2.1 J with⟨rfl,_⟩|⟨rfl,_⟩|⟨rfl,_⟩<;>rfl
     have p1:=Qp f w y (xs:=a) (off:=off);have p2:∀v,(Instr.checkKey e (D+1) fd.type v).run P w=.ok () w:=by
      intro v;have:=j.1.2;rw[Instr.checkKey.eq_def];split at this
      next k hu=>simp[underlying,hu]
      next hu=>simp[underlying,hu]
      ·cases this
     rw[List.forIn_cons];simp only[A.2,ne_eq,aG,bN,Sem.run_bind,A.1,p1,p2,aI,aS];exact G
    ·cases h
   ·cases h
  ·cases h
def qn(P:Program)(t:TypeId):Bool:=
 match P.underlying t with
 | some (.array _ e)=>(match P.underlying e with|some (.int _)=>true|_=>false)
 | _=>false
theorem PK(f:Loc)(w:World)(e:Bool)(D:Nat){u:TypeId}{k:IntKind}(hu:P.underlying u=some (.int k))(hs:flat P d u=some [0])(a:List EV):∀(n i:Nat),i+n<=a.length ->
 (forIn (List.range' i n) PUnit.unit fun(j:Nat) (_:PUnit)=>(do
  Instr.checkKey e (D+1) u (←Go.part u (Bp f a).toArray (j*(←sizeOf u)))
  pure (.yield PUnit.unit):Sem (ForInStep PUnit))).run P w=.ok PUnit.unit w
 | 0,i,_=>by simp
 | n+1,i,h=>by
  have A:=PK f w e D hu hs a n (i+1) a_;have p1:=Qp f w hs (xs:=a) (off:=i) (by simp;omega);have p2:∀v,(Instr.checkKey e (D+1) u v).run P w=.ok () w:=by
   intro v;rw[Instr.checkKey.eq_def];simp[underlying,hu]
  obtain⟨⟨ii,hi,y⟩,_⟩:=Vw hs;have B:(sizeOf u).run P w=.ok 1 w:=by simp[sizeOf,typeInfo,hi,y]
  rw[List.range'_succ,List.forIn_cons];simp only[Sem.run_bind,B,aI,br,p1,p2,aS];exact A
theorem Bb2(hk:qn P t=true){s:List Nat}(h:flat P d t=some s)(f:Loc)(w:World)(e:Bool)(a:List EV)(hs:shaped s a=true):
 (Instr.checkKey e 10000 t (.agg (Bp f a).toArray)).run P w=.ok () w:=by
 unfold qn at hk;split at hk
 next len A hu=>
  split at hk
  next k j=>
   cases d with
   | zero=>simp[flat]at h
   | succ d=>
    simp only[flat]at h;split at h
    ·simp only[hu]at h
     split at h
     next s' u=>
      split at h
      next C=>
       cases h;have B:hY P A=false:=by simp[hY,j]
       have y:s' = [0]:=by
        rcases(Vw u).2.1 B with⟨rfl,_⟩|⟨_,h2⟩|⟨_,h2⟩
        ·rfl
        ·rw[j]at h2;cases h2
        ·rw[j]at h2;cases h2
       subst y;have hlen:=Lb hs;rw[Vb]at hlen;simp only[bP,fF,bJ,br]at hlen;have:=PK f w e 9998 j u a len 0 a_;rw[Instr.checkKey.eq_def];simp only[underlying,hu,Sem.run_bind,fR,aI,aS];simp only[Std.Legacy.Range.forIn_eq_forIn_range',Std.Legacy.Range.size,Nat.sub_zero,Nat.add_one_sub_one,Nat.div_one];rw[this];rfl
      ·cases h
     ·cases h
    ·cases h
  ·cases hk
 ·cases hk
theorem A06(hk:qm P t=true){s:List Nat}(h:flat P d t=some s)(f:Loc)(w:World)(e:Bool)(a:List EV)(hs:shaped s a=true):
 (∃j,P.underlying t=some (.struct j))/\(Instr.checkKey e 10000 t (.agg (Bp f a).toArray)).run P w=.ok () w:=by
 unfold qm at hk;split at hk
 next j hu=>
  refine⟨⟨j,hu⟩,?_⟩;cases d with
  | zero=>simp[flat]at h
  | succ d=>
   simp only[flat]at h;split at h
   ·simp only[hu]at h
    split at h
    ·split at h
     next s' u=>
      split at h
      ·cases h
       have:=PJ f w e 9998 a j.toList 0 s d hk u (by simpa using hs);rw[Instr.checkKey.eq_def];simp only[underlying,hu,Sem.run_bind,fR,aI,aS];rw[<-Array.forIn_toList];rw[this];rfl
      ·cases h
     ·cases h
    ·cases h
   ·cases h
 ·cases hk
end
def F0 {α:Type}:List α->Nat->Tr α->Tr α
 | [],_,t=>t
 | a::r,i,t=>F0 r (Nat.succ i) (t.put i (some a))
theorem PL:∀(l:List α) (i:Nat) (t:Tr α) (j:Nat),(F0 l i t).get j=if i<=j/\j<i+l.length then l[j-i]? else t.get j
 | [],i,t,j=>by simp[F0];omega
 | a::r,i,t,j=>by
  simp only[F0];rw[PL r (i+1) (t.put i (some a)) j,Tr.get_put];simp only[bP];by_cases e:i=j
  ·subst e
   rw[aH a_,aK rfl,aK a_];simp
  ·by_cases h2:i+1<=j/\j<i+1+r.length
   ·rw[aK h2,aK a_]
    rw[show j-i=(j-(i+1))+1 from a_,cC]
   ·rw[aH h2,aH e,aH a_]
theorem PM(l:List α)(j:Nat):(F0 l 0 .nil).get j=l[j]?:=by
 rw[PL];by_cases h:j<l.length
 ·rw[aK a_,Nat.sub_zero]
 ·rw[aH a_,cD a_];rfl
def uo:List Nat->Nat->Bool
 | [],_=>false
 | a::r,x=>Bc (Nat.beq a x) true (uo r x)
theorem PN:∀{l:List Nat} {x:Nat},uo l x=true->x∈l
 | [],_,h=>by cases h
 | a::r,x,h=>by
  simp only[uo]at h;rw[Bq]at h;split at h
  next e=>rw[aJ e];exact aQ
  ·exact aP _ (PN h)
def uq:List (Nat × List Nat)->Nat->Option (List Nat)
 | [],_=>none
 | (a,s)::r,x=>Bc (Nat.beq a x) (some s) (uq r x)
theorem ur:∀{l:List (Nat × List Nat)} {x:Nat} {s:List Nat},uq l x=some s->(x,s)∈l
 | [],_,_,h=>by cases h
 | (a,s')::r,x,s,h=>by
  simp only[uq]at h;rw[Bq]at h;split at h
  next e=>cases h;rw[aJ e];exact aQ
  ·exact aP _ (ur h)
def uu(ty:Tr TypeInfo)(t:Nat):Option TypeDesc:=
 match ty.get t with
 | some i=>match i.desc with
  | .named _ u=>(match ty.get u with|some j=>some j.desc|none=>none)
  | d=>some d
 | none=>none
def q_(ty:Tr TypeInfo)(t:Nat):Option Bool:=match uu ty t with|some d=>some (Awd d)|none=>none
def xI(ty:Tr TypeInfo)(t:Nat):Option (List EV):=
 match ty.get t with
 | some i=>match i.zero with
  | some v=>match ofV v with
   | some x=>Bc x.plain (Bc (Nat.beq i.size (len x.cells)) (Bc (Nat.ble i.bytes 1048576) (match q_ ty t with
    | some true=>(match x with | .agg l=>some l|_=>none)
    | some false=>Bc x.one (some [x]) none
    | none=>none) none) none) none
   | none=>none
  | none=>none
 | none=>none
def sF(e:Tr Func)(ty:Tr TypeInfo)(eqs:List (Nat × List Nat))(keys:List Nat):Ij where
 fn:=e.get
 T6:=uu ty
 size t:=match ty.get t with|some i=>Bc (Nat.ble i.bytes 1048576) (some i.size) none|none=>none
 zero:=xI ty
 agg:=q_ ty
 eqs:=uq eqs
 key:=uo keys
theorem Bl0{t:Nat}{i:TypeInfo}(h:P.types[t]? = some i):P.info? t=some i:=by
 have e:t<P.types.size:=(bh.1 h).1;unfold Tables.info?;rw[aK e];exact h
theorem ζ{keys:List Nat}(hm:P.follows .mixedOrders=true)
 (C:(P.funcs.toList.all fun f=>!(f.name == "runtime.NumGoroutine"))=true)
 (B:∀x∈eqs,flat P 6 x.1=some x.2/\hY P x.1=true/\P.eqGuardType P.depth x.1=false) (H:∀t∈keys,qm P t=true\/qn P t=true) :
 Qc P (sF (F0 P.funcs.toList 0 .nil) (F0 P.types.toList 0 .nil) eqs keys):=by
 have F:∀t i,(F0 P.types.toList 0 .nil).get t=some i->P.info? t=some i:=by
  intro t i h;rw[PM,cK]at h;exact Bl0 h
 have G:∀t d,uu (F0 P.types.toList 0 .nil) t=some d->P.underlying t=some d:=by
  intro t d h;unfold uu at h;split at h
  next i hi=>
   have A:=F t i hi;split at h
   next s u hd=>
    split at h
    next j hj=>
     cases h;have h2:=F u j hj;obtain⟨desc,str,size,bytes,hp,al,fa,z⟩:=i;simp only at hd;subst hd;simp[Program.underlying,A,h2]
    ·cases h
   next hd=>
    cases h;unfold Program.underlying;rw[A];split
    next J=>cases J;exact absurd rfl (hd _ _)
    next J=>cases J;rfl
    next J=>cases J
  ·cases h
 have O:∀t b,q_ (F0 P.types.toList 0 .nil) t=some b->∃d,P.underlying t=some d/\Awd d=b:=by
  intro t b h;unfold q_ at h;split at h
  next d hd=>cases h;exact⟨d,G t d hd,rfl⟩
  ·cases h
 refine⟨hm,fun g fn h=>?_,G,fun t n h=>?_,fun t z h=>?_,O,fun t sh h=>?_,fun t h=>?_⟩
 ·have h':(F0 P.funcs.toList 0 .nil).get g=some fn:=h
  rw[PM]at h';refine⟨by rw[<-cK];exact h',?_⟩;have:=dG.1 C fn (dJ h');simpa using this
 ·simp only[sF]at h
  split at h
  next i hi=>
   obtain⟨A,h2⟩:=An h;cases h2;exact⟨i,F t i hi,rfl,bL A⟩
  ·cases h
 ·have h':xI (F0 P.types.toList 0 .nil) t=some z:=h
  unfold xI at h';split at h'
  next i hi=>
   split at h'
   next v Z=>
    split at h'
    next x J=>
     obtain⟨A,h'⟩:=An h';obtain⟨h2,h'⟩:=An h';obtain⟨W,h'⟩:=An h';have Q:i.size=x.cells.length:=by rw[<-Ue];exact aJ h2
     refine⟨i,v,x,F t i hi,Z,J,A,?_⟩;have U:∀b,q_ (F0 P.types.toList 0 .nil) t=some b->(sF (F0 P.funcs.toList 0 .nil) (F0 P.types.toList 0 .nil) eqs keys).agg t=some b:=fun _ h=>h
     split at h'
     next X=>
      have L:=U true X;cases x with
      | agg l=>
       simp only[cQ]at h';subst h';exact⟨rfl,Q,bL W,fun _=>rfl,fun e=>(by rw[L]at e;cases e)⟩
      | _=>cases h'
     next X=>
      have L:=U false X;obtain⟨ho,h'⟩:=An h';cases h';have Y:x.cells = [x]:=by
       cases x<;>first|rfl|(simp[EV.one]at ho)
      exact⟨Y.symm,by rw[Q,Y],bL W,fun e=>(by rw[L]at e;cases e),fun _=>rfl⟩
     ·cases h'
    ·cases h'
   ·cases h'
  ·cases h'
 ·obtain⟨A,h2,W⟩:=B _ (ur h)
  refine⟨W,fun f w a b r hl hs=>?_⟩;have:=PI (P:=P) 6 10000 a_ t sh A f w a b r hs hl;simp only[k_,h2,bN]at this;exact this
 ·have hk:=H t (PN h)
  rcases hk with hk|hk
  ·constructor
   ·have y:=hk
    unfold qm at y;split at y
    next fs hu=>exact⟨_,hu,rfl⟩
    ·cases y
   ·intro f w e a sh M hs
    obtain⟨A,_,_⟩:=B _ (ur M);exact(A06 hk A f w e a hs).2
  ·constructor
   ·have y:=hk
    unfold qn at y;split at y
    next n e hu=>exact⟨_,hu,rfl⟩
    ·cases y
   ·intro f w e a sh M hs
    obtain⟨A,_,_⟩:=B _ (ur M);exact Bb2 hk A f w e a hs
theorem Bir(f:Loc)(w:World)(n m:Nat):Tt f ⟨.nil,n,m⟩ w:=⟨fun i o h=>(by cases h),fun i j o o' h=>(by cases h)⟩
theorem Bkg(n m:Nat):Tg (fun _=>False) ⟨.nil,n,m⟩:=⟨fun i h=>h.elim,fun i o h=>(by cases h)⟩
theorem PO{c:Ah}(hC:ks P c){g:Nat}(h:c g [] ⟨.nil,0,0⟩=some (v,h')){V:Value}(y:∀f,Cm f v=V)(w:World):
 Calls P g #[] w fun e w'=>e=.returned V/\RowKit.Below w.heap.size w w':=by
 obtain⟨_,A⟩:=hC _ _ _ _ _ h;intro cs;obtain⟨fr,f',w',hs,j,u,hm,hwf,B⟩:=A (fun _=>False) ⟨fun _=>0,fun _=>0⟩ w (Bkg 0 0) (Bir _ _ 0 0) trivial cs;rw[y]at u;exact⟨.returned V,w',fr,⟨rfl,hm.os,hm.tape,hm.output,hm.size,fun k hk=>hm.kept k hk (fun i o hi=>(by cases hi))⟩,hs,j,u⟩
def isTrue:Option (EV × Ab)->Bool
 | some (.bool b,_)=>b
 | _=>false
theorem A6d {r:Option (EV × Ab)}(h:isTrue r=true):∃h',r=some (.bool true,h'):=by
 unfold isTrue at h;split at h
 ·subst h;exact⟨_,rfl⟩
 ·cases h
def ra(g:Nat)(v:EV):Ah:=fun e args h=>Bc (Nat.beq e g) (match args with | []=>some (v,h)|_=>none) none
theorem PQ{g:Nat}{V:Value}(H:∀f,Cm f v=V)(y:∀p,v.ok p){fn:Func}(J:P.funcs[g]? = some fn)(hb:fn.body.isSome=true)(L:(fn.name == "runtime.NumGoroutine")=false)
 (hC:∀w,Calls P g #[] w fun e w'=>e=.returned V/\RowKit.Below w.heap.size w w'):ks P (ra g v)/\Vu (ra g v):=by
 have key:∀A args h B h',ra g v A args h=some (B,h')->A=g/\args = []/\B=v/\h'=h:=by
  intro A args h B h' u;unfold ra at u;obtain⟨C,h2⟩:=An u;split at h2
  ·cases h2;exact⟨aJ C,rfl,rfl,rfl⟩
  ·cases h2
 constructor
 ·intro A args h B h' u
  obtain⟨rfl,rfl,rfl,rfl⟩:=key _ _ _ _ _ u;refine⟨⟨fn,J,hb,L⟩,fun p f w u F O cs=>?_⟩;obtain⟨e,w',fr,⟨rfl,j⟩,hs,G,M⟩:=hC w cs;refine⟨fr,f,w',hs,G,?_,⟨Loc.tL _ _,⟨fun i o y=>?_,F.inj⟩,fun b hb _=>j.block b hb,j.size,j.tape,j.os,j.output,fun i o y=>.inr ⟨i,o,y,rfl⟩⟩,Wf.refl u,y _⟩
  ·rw[H];exact M
  ·obtain⟨r,C,h2⟩:=F.obj i o y
   exact⟨r,by rw[j.block _ (F.lt y)];exact C,h2⟩
 ·intro A args h B h' u
  obtain⟨_,_,_,rfl⟩:=key _ _ _ _ _ u;exact .refl _
end
end Go.Ev
