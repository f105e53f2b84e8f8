import Derived.Test.YtokpnommcenoaaaGreatEvTwo
import Derived.Orders
set_option linter.all false
namespace Go.Ev
variable {x:Operand}{T:Hh}{op:Op}{h h' h0 hp:Ab}{round:Ai}{S p p0:Nat->Prop}{b i m n q t off base:Nat}{tm:Bb}{v:EV}{o:Oper}{f f0 f1:Loc}{g:Nat->Option By}{listed:Array Bool}{σ:Nat->DSt}{V:Nat->EV}{E E':Nat->Ab}{P:Program}
section
section
variable {tm':Bb}
theorem Abg:∀{l:List Operand},(∀x∈l,Cj tm x=Cj tm' x)->Mf tm l=Mf tm' l
 | [],_=>rfl
 | x::r,h=>by simp only[Mf];rw[h x aV,Abg fun y a=>h y (aT _ a)]
theorem Aow:∀{l:List (Nat × Operand)},(∀x∈l,Cj tm x.2=Cj tm' x.2)->Zo tm l=Zo tm' l
 | [],_=>rfl
 | (i,x)::r,h=>by simp only[Zo];rw[h (i,x) aV,Aow fun y a=>h y (aT _ a)]
theorem Aqa {x:Option Operand}(h:∀y,x=some y->Cj tm y=Cj tm' y):Abl tm x=Abl tm' x:=by
 cases x with
 | none=>rfl
 | some y=>simp only[Abl];rw[h y rfl]
theorem Bdg(h:∀x∈op.operands,Cj tm x=Cj tm' x):E1 T tm op=E1 T tm' op:=by
 cases op with
 | build t ps=>
  have:Zo tm ps.toList=Zo tm' ps.toList:=Aow fun x e=>h x.2 (by
   simp only[Op.operands,List.mem_toArray,cY];exact⟨x,e,rfl⟩)
  simp only[E1,this]
 | makeFunc fn a b=>
  have k:Mf tm a.toList=Mf tm' a.toList:=Abg fun x e=>h x (by simp only[Op.operands,Array.mem_append];exact .inl (cr.1 e))
  have h2:Mf tm b.toList=Mf tm' b.toList:=Abg fun x e=>h x (by simp only[Op.operands,Array.mem_append];exact .inr (cr.1 e))
  cases fn<;>simp only[E1,k,h2]
 | slice t x A B C=>
  have h0:Cj tm x=Cj tm' x:=h x (by simp[Op.operands]);have k:Abl tm A=Abl tm' A:=Aqa fun y j=>h y (by subst j;simp[Op.operands])
  have h2:Abl tm B=Abl tm' B:=Aqa fun y j=>h y (by subst j;simp[Op.operands])
  have F:Abl tm C=Abl tm' C:=Aqa fun y j=>h y (by subst j;simp[Op.operands])
  simp only[E1,h0,k,h2,F]
 | unOp u t x=>
  have h0:Cj tm x=Cj tm' x:=h x (by simp[Op.operands]);cases u<;>simp only[E1,h0]
 | pick c a b=>simp only[E1,h c (by simp[Op.operands]),h a (by simp[Op.operands]),h b (by simp[Op.operands])]
 | binOp op t x y u=>simp only[E1,h x (by simp[Op.operands]),h y (by simp[Op.operands])]
 | indexAddr t x y=>simp only[E1,h x (by simp[Op.operands]),h y (by simp[Op.operands])]
 | index t x y=>simp only[E1,h x (by simp[Op.operands]),h y (by simp[Op.operands])]
 | move x=>simp only[E1,h x (by simp[Op.operands])]
 | assign x=>simp only[E1,h x (by simp[Op.operands])]
 | nilCheck x=>simp only[E1,h x (by simp[Op.operands])]
 | fieldAddr s x G=>simp only[E1,h x (by simp[Op.operands])]
 | field s x G=>simp only[E1,h x (by simp[Op.operands])]
 | convert s d x=>simp only[E1,h x (by simp[Op.operands])]
 | extract x ix=>simp only[E1,h x (by simp[Op.operands])]
 | sliceToArrayPointer t x=>simp only[E1,h x (by simp[Op.operands])]
 | _=>rfl
theorem Bc4(h:∀x∈op.operands,Cj tm x=Cj tm' x):Du T tm op hp=Du T tm' op hp:=by
 cases op with
 | buildSlice t m ps=>
  have:Zo tm ps.toList=Zo tm' ps.toList:=Aow fun x e=>h x.2 (by
   simp only[Op.operands,List.mem_toArray,cY];exact⟨x,e,rfl⟩)
  simp only[Du,this]
 | call c=>
  obtain⟨callee,args,k⟩:=c;cases callee with
  | builtin b=>
   have j:Mf tm args.toList=Mf tm' args.toList:=Abg fun x e=>h x (by simp only[Op.operands,Call.operands,Array.mem_append];exact .inr (cr.1 e))
   simp only[Du,j]
  | _=>rfl
 | select cs bl=>
  cases bl with
  | true=>rfl
  | false=>
   simp only[Du];split
   ·rename_i c u
    have d:c∈cs:=cr.1 (by rw[u];exact aV);have j:Cj tm c.chan=Cj tm' c.chan:=h c.chan (by
     simp only[Op.operands,Array.mem_flatMap];exact⟨c,d,by simp⟩)
    have h2:∀y,c.send=some y->Cj tm y=Cj tm' y:=fun y A=>h y (by
     simp only[Op.operands,Array.mem_flatMap];exact⟨c,d,by simp[A]⟩)
    rw[j];cases hs:c.send with
    | none=>
     cases Cj tm' c.chan with
     | none=>rfl
     | some v=>cases v<;>rfl
    | some y=>
     cases Cj tm' c.chan with
     | none=>rfl
     | some v=>cases v<;>first|rfl|(simp only[h2 y hs])
   ·rfl
 | makeMap t r=>cases r<;>rfl
 | load t x=>simp only[Du,h x (by simp[Op.operands])]
 | store t a x=>simp only[Du,h a (by simp[Op.operands]),h x (by simp[Op.operands])]
 | alloc t=>rfl
 | box t x=>simp only[Du,h x (by simp[Op.operands])]
 | makeSlice t a x=>simp only[Du,h a (by simp[Op.operands]),h x (by simp[Op.operands])]
 | makeChan t x=>simp only[Du,h x (by simp[Op.operands])]
 | lookup t a x ok=>simp only[Du,h a (by simp[Op.operands]),h x (by simp[Op.operands])]
 | mapUpdate t a x y=>simp only[Du,h a (by simp[Op.operands]),h x (by simp[Op.operands]),h y (by simp[Op.operands])]
 | _=>rfl
theorem Bji{call:Ai}(h:∀x∈op.operands,Cj tm x=Cj tm' x):aop T call round tm op hp=aop T call round tm' op hp:=by
 unfold aop;rw[Bdg h];congr 1;split
 ·rename_i f args a
  have h0:Cj tm f=Cj tm' f:=h f (by simp[Op.operands,Call.operands]);have d:Mf tm args.toList=Mf tm' args.toList:=Abg fun x e=>h x (by simp only[Op.operands,Call.operands,Array.mem_append];exact .inr (cr.1 e))
  rw[h0,d]
 ·exact Bc4 h
end
theorem A9k {j a:Operand->Value}(o:Oper)(d:∀cs b,o.op=.select cs b->∃c,cs = #[c])(h:∀x∈o.op.operands,j x=a x):execOp j o=execOp a o:=by
 by_cases hs:∃cs b,o.op=.select cs b
 ·obtain⟨cs,b,k⟩:=hs
  obtain⟨c,rfl⟩:=d cs b k;rw[k]at h;have u:j c.chan=a c.chan:=h _ (by simp[Op.operands]);have h2:c.send.map j=c.send.map a:=by
   cases hs:c.send with
   | none=>rfl
   | some y=>simp only[dV];rw[h y (by simp[Op.operands,hs])]
  simp only[execOp,k];simp[u,h2]
 ·exact execOp_congr o (fun cs b e=>hs ⟨cs,b,e⟩) h
noncomputable def Aeb(tm:Bb):List Operand->Bb
 | []=>.nil
 | .tmp t::r=>(Aeb tm r).put t (tm.get t)
 | _::r=>Aeb tm r
open Classical in
theorem Aaq(tm:Bb):∀(l:List Operand) (t:Nat),(Aeb tm l).get t=if .tmp t∈l then tm.get t else none
 | [],t=>by simp[Aeb,Tr.get_nil]
 | .tmp u::r,t=>by
  simp only[Aeb,Tr.get_put,Aaq tm r t,bW,Operand.tmp.injEq];by_cases h:u=t
  ·subst h;simp
  ·rw[aM h];simp[cT h]
 | .const v::r,t=>by simp only[Aeb,Aaq tm r t,bW,reduceCtorEq,false_or]
 | .global v::r,t=>by simp only[Aeb,Aaq tm r t,bW,reduceCtorEq,false_or]
 | .func v::r,t=>by simp only[Aeb,Aaq tm r t,bW,reduceCtorEq,false_or]
theorem Bde(tm:Bb){l:List Operand}(a:x∈l):Cj (Aeb tm l) x=Cj tm x:=by
 cases x with
 | tmp t=>simp only[Cj];rw[Aaq,aQ a]
 | const v=>rfl
 | global v=>rfl
 | func v=>rfl
theorem Boa{l:List Operand}(h:∀t,.tmp t∈l->∀v,tm.get t=some v->v.ok p)(d:∀t,n<=t->tm.get t=none):Lh p n (Aeb tm l) where
 ok t v a:=by
  rw[Aaq]at a;split at a
  ·rename_i hm;exact h t hm v a
  ·cases a
 out t e:=by
  rw[Aaq];split
  ·exact d t e
  ·rfl
theorem Bqu{t:TypeId}(y:Cj tm x=some (.ptr q off))(a:Du T tm (.load t x) h=some (v,h')):
 ∃o,h.get q=some o/\∀h2:Ab,h2.get q=some o->Du T tm (.load t x) h2=some (v,h2):=by
 have Ae8:∀n l,Iw h q off n=some l->∃o,h.get q=some o/\∀h2:Ab,h2.get q=some o->Iw h2 q off n=some l:=by
  intro n l d;cases u:h.get q with
  | none=>simp[Iw,u]at d
  | some o=>exact⟨o,rfl,fun h2 e=>by unfold Iw at d⊢;rw[e];rw[u]at d;exact d⟩
 simp only[Du,y]at a⊢;split at a
 ·rename_i A
  split at a
  ·rename_i n B
   split at a
   ·rename_i l d
    cases a;obtain⟨o,j,h2⟩:=Ae8 n l d;exact⟨o,j,fun k e=>by simp only[h2 k e]⟩
   ·cases a
  ·cases a
 ·rename_i A
  split at a
  ·rename_i l d
   cases a;obtain⟨o,j,h2⟩:=Ae8 1 _ d;exact⟨o,j,fun k e=>by simp only[h2 k e]⟩
  ·cases a
 ·cases a
theorem Bm9{t:TypeId}{a:Operand}(A:Cj tm a=some (.ptr q off))(d:Du T tm (.store t a x) h=some (v,h')):
 ∃o o',h.get q=some o/\h'=h.put q o'/\∀h2:Ab,h2.get q=some o->Du T tm (.store t a x) h2=some (v,h2.put q o'):=by
 have hw:∀vs h',Mc h q off vs=some h'->∃o o',h.get q=some o/\h'=h.put q o'/\∀h2:Ab,h2.get q=some o->Mc h2 q off vs=some (h2.put q o'):=by
  intro vs h' j;unfold Mc at j;split at j
  ·rename_i l B k
   split at j
   ·rename_i l' hs
    cases j;exact⟨_,_,k,rfl,fun h2 e=>by unfold Mc;rw[e];simp only[hs]⟩
   ·cases j
  ·rename_i l B sz k
   split at j
   ·rename_i l' hs
    cases j;exact⟨_,_,k,rfl,fun h2 e=>by unfold Mc;rw[e];simp only[hs]⟩
   ·cases j
  ·cases j
 simp only[Du,A]at d⊢;split at d
 ·rename_i H y J L e1 e2 e3
  cases e1;obtain⟨c1,d⟩:=Aq d;obtain⟨c2,d⟩:=Aq d;split at d
  ·rename_i M u
   cases d;obtain⟨o,o',C,F,G⟩:=hw _ _ u;refine⟨o,o',C,F,fun h2 e=>?_⟩;simp only[c1,c2,Aj,G h2 e]
  ·cases d
 ·cases d
theorem Ays(h:Aw2 op=true):∃b args a,op=.call { callee:=.builtin b,args,argTypes:=a }/\(b=.len\/b=.min\/b=.max):=by
 cases op with
 | call c=>
  obtain⟨callee,args,a⟩:=c;cases callee with
  | builtin b=>cases b<;>first|(cases h;done)|exact⟨_,_,_,rfl,by simp⟩
  | _=>cases h
 | _=>cases h
theorem Bll(hp:Aw2 op=true)(a:Du T tm op h=some (v,h')):h'=h:=by
 obtain⟨b,args,d,rfl,hb⟩:=Ays hp;simp only[Du]at a;split at a
 ·rename_i as has
  rcases hb with rfl|rfl|rfl
  ·match as,a with
   | [x],a=>
    simp only[builtin]at a
    repeat' split at a
    all_goals first|(cases a;done)|(cases a;rfl)
   | [],a=>cases a
   | _::_::_,a=>cases a
  ·match as,a with
   | x::l,a=>
    cases x<;>first|(cases a;done)|skip
    simp only[builtin]at a;split at a
    ·cases a;rfl
    ·cases a
   | [],a=>cases a
  ·match as,a with
   | x::l,a=>
    cases x<;>first|(cases a;done)|skip
    simp only[builtin]at a;split at a
    ·cases a;rfl
    ·cases a
   | [],a=>cases a
 ·cases a
theorem Atf{call:Ai}(hp:Aw2 op=true):aop T call round tm op h=Du T tm op h:=by
 obtain⟨b,args,a,rfl,hb⟩:=Ays hp;rfl
theorem Apr(b c:Bool):Ax b Cls.val (Ax c .pur .big)≠.new/\Ax b Cls.val (Ax c .pur .big)≠.load/\Ax b Cls.val (Ax c .pur .big)≠.sto:=by
 cases b<;>cases c<;>exact⟨fun h=>(by cases h),fun h=>(by cases h),fun h=>(by cases h)⟩
theorem A64(h:cls op=.new):(∃t,op=.alloc t)\/(∃t x,op=.box t x)\/(∃t n ps,op=.buildSlice t n ps)\/(∃t a b,op=.makeSlice t a b)\/(∃t r,op=.makeMap t r)\/(∃t x,op=.makeChan t x):=by
 cases op<;>first
  | (rename_i c;exact absurd (show Ax false Cls.val (Ax (Aw2 (.call c)) .pur .big)=.new from h) (Apr _ _).1)
  | exact absurd h (Apr _ _).1
  | (cases h;done)
  | exact .inl ⟨_,rfl⟩|exact .inr (.inl ⟨_,_,rfl⟩)|exact .inr (.inr (.inl ⟨_,_,_,rfl⟩))|exact .inr (.inr (.inr (.inl ⟨_,_,_,rfl⟩)))
  | exact .inr (.inr (.inr (.inr (.inl ⟨_,_,rfl⟩))))|exact .inr (.inr (.inr (.inr (.inr ⟨_,_,rfl⟩))))
theorem Btc(u:cls op=.new)(d:Du T tm op h=some (v,h')):
 ∃o,h'=h.new o/\∀h2:Ab,h2.next=h.next->Du T tm op h2=some (v,h2.new o):=by
 rcases A64 u with⟨t,rfl⟩|⟨t,x,rfl⟩|⟨t,n,ps,rfl⟩|⟨t,a,b,rfl⟩|⟨t,r,rfl⟩|⟨t,x,rfl⟩
 ·simp only[Du]at d⊢
  split at d
  ·cases d;exact⟨_,rfl,fun h2 e=>by rw[e]⟩
  ·cases d
 ·simp only[Du]at d⊢
  split at d
  ·obtain⟨k,j⟩:=Aq d
   cases j;exact⟨_,rfl,fun h2 e=>by rw[k,e];rfl⟩
  ·cases d
 ·simp only[Du]at d⊢
  split at d
  ·split at d
   ·obtain⟨k,j⟩:=Aq d
    split at j
    ·rename_i A
     cases j;exact⟨_,rfl,fun h2 e=>by rw[k,e];rfl⟩
    ·cases j
   ·cases d
  ·cases d
 ·simp only[Du]at d⊢
  split at d
  ·split at d
   ·obtain⟨k,j⟩:=Aq d
    obtain⟨h4,y⟩:=Aq j;cases y;exact⟨_,rfl,fun h2 e=>by rw[k,h4,e];rfl⟩
   ·cases d
  ·cases d
 ·cases r with
  | none=>cases d;exact⟨_,rfl,fun h2 e=>by simp only[Du,e]⟩
  | some r=>cases d
 ·simp only[Du]at d⊢
  split at d
  ·split at d
   ·obtain⟨k,j⟩:=Aq d
    cases j;exact⟨_,rfl,fun h2 e=>by rw[k,e];rfl⟩
   ·cases d
  ·cases d
end
theorem H3(i j:Nat):(Nat.shiftLeft 1 i).testBit j=decide (i=j):=by
 have:Nat.shiftLeft 1 i=2^i:=by
  have:=Nat.one_shiftLeft i;exact this
 rw[this,Nat.testBit_two_pow]
theorem Nq(a b j:Nat):(Nat.lor a b).testBit j=(a.testBit j||b.testBit j):=Nat.testBit_or a b j
theorem Amj(a b j:Nat):(Nat.land a b).testBit j=(a.testBit j&&b.testBit j):=Nat.testBit_and a b j
theorem Aop {x:Nat}(h:within x b=true){j:Nat}(hj:x.testBit j=true):b.testBit j=true:=by
 have e:Nat.land x b=x:=aL h;rw[<-e,Amj]at hj;simpa using(Bool.and_eq_true_iff.1 hj).2
theorem A75(h:b.testBit i=false):within (Nat.shiftLeft 1 i) b=false:=by
 cases hw:within (Nat.shiftLeft 1 i) b with
 | false=>rfl
 | true=>rw[Aop hw (j:=i) (by rw[H3];simp)]at h;cases h
theorem A4y {x y:Nat}(h:Nat.land x y=0)(a:x.testBit t=true):y.testBit t=false:=by
 have:(Nat.land x y).testBit t=false:=by rw[h];exact dQ t
 rw[Amj,a]at this;simpa using this
theorem Bnv {x y:Nat}(h:Nat.lor x y=0):x=0/\y=0:=by
 have a:∀t,x.testBit t=false/\y.testBit t=false:=by
  intro t;have:(Nat.lor x y).testBit t=false:=by rw[h];exact dQ t
  rw[Nq]at this;simpa using this
 exact⟨Nat.eq_of_testBit_eq fun t=>by rw[(a t).1,dQ],Nat.eq_of_testBit_eq fun t=>by rw[(a t).2,dQ]⟩
theorem As5(bs:Tr Nat):∀(l:List Edge) (x:Nat) (j:Nat),(Aj1 bs l x).testBit j=true ->
 x.testBit j=true\/∃e∈l,Acb e=true/\(j=e.on\/∃y,bs.get e.on=some y/\y.testBit j=true)
 | [],x,j,h=>.inl h
 | e::r,x,j,h=>by
  simp only[Aj1]at h;rcases As5 bs r _ j h with h|⟨e',he,a,h2⟩
  ·rw[Bn]at h
   split at h
   ·rename_i hb
    rw[Nq,Nq,H3]at h;simp only[Bool.or_eq_true,bM]at h;rcases h with h|h|h
    ·exact .inl h
    ·exact .inr ⟨e,aV,hb,.inl h.symm⟩
    ·refine .inr ⟨e,aV,hb,.inr ?_⟩
     split at h
     ·rename_i y d;exact⟨y,d,h⟩
     ·rw[dQ]at h;cases h
   ·exact .inl h
  ·exact .inr ⟨e',aT _ he,a,h2⟩
theorem Ay3(l:List Oper):∀(i:Nat) (bs:Tr Nat) (j:Nat),j<i->(Ov l i bs).get j=bs.get j:=by
 induction l with
 | nil=>intros;rfl
 | cons o r a=>
  intro i bs j hj;simp only[Ov];rw[a _ _ _ (Nat.lt_succ_of_lt hj),Tr.Af _ _ (by omega)]
theorem Al1(l:List Oper):∀(i:Nat) (bs:Tr Nat),(∀j,i<=j->bs.get j=none)->∀(k:Nat) (o:Oper),l[k]? = some o ->
 ∃b,(Ov l i bs).get (i+k)=some b/\∀j,b.testBit j=true->∃e∈o.after.toList,Acb e=true/\(j=e.on\/∃y,(Ov l i bs).get e.on=some y/\y.testBit j=true):=by
 induction l with
 | nil=>intro i bs _ k o h;simp at h
 | cons o' r u=>
  intro i bs d k o h;simp only[Ov];cases k with
  | zero=>
   simp only[bN,cP]at h;subst h;refine⟨Aj1 bs o'.after.toList 0,?_,fun j hj=>?_⟩
   ·rw[cz,Ay3 _ _ _ _ (by omega),Tr.Ae]
   ·rcases As5 bs _ _ j hj with h|⟨e,he,A,h2⟩
    ·rw[dQ]at h;cases h
    ·refine⟨e,he,A,h2.imp id ?_⟩
     rintro⟨y,a,hj⟩;have:e.on<i:=by
      cases dL e.on i with
      | inl h=>exact h
      | inr h=>rw[d _ h]at a;cases a
     exact⟨y,by rw[Ay3 _ _ _ _ (by omega),Tr.Af _ _ (by omega)];exact a,hj⟩
  | succ k=>
   have:=u (i+1) (bs.put i (some (Aj1 bs o'.after.toList 0))) (fun j hj=>by rw[Tr.Af _ _ (by omega)];exact d j (by omega)) k o (by simpa using h);rw[show i+1+k=i+(k+1) by omega]at this;exact this
theorem Xx:∀(l:List Operand) (x t:Nat),(Ae2 l x).testBit t=true↔x.testBit t=true\/.tmp t∈l
 | [],x,t=>by simp[Ae2]
 | .tmp u::r,x,t=>by
  simp only[Ae2];rw[Xx r,Nq,H3];simp only[Bool.or_eq_true,bM,bW,Operand.tmp.injEq];constructor
  ·rintro((h|h)|h)
   ·exact .inl h
   ·exact .inr (.inl h.symm)
   ·exact .inr (.inr h)
  ·rintro(h|h|h)
   ·exact .inl (.inl h)
   ·exact .inl (.inr h.symm)
   ·exact .inr h
 | .const v::r,x,t=>by simp only[Ae2];rw[Xx r];simp
 | .global v::r,x,t=>by simp only[Ae2];rw[Xx r];simp
 | .func v::r,x,t=>by simp only[Ae2];rw[Xx r];simp
theorem Ae3(o:Oper)(t:Nat):(Ahz o).testBit t=true↔o.dst=some t:=by
 unfold Ahz;cases o.dst with
 | none=>simp
 | some d=>simp only[H3,bM,cP]
def A9l(ops:List Oper)(o:Oper)(t:Nat):Prop:=.tmp t∈o.op.operands.toList\/∃j want g,o.guard=some (j,want)/\ops[j]? = some g/\g.dst=some t
theorem Ao6(ops:List Oper)(o:Oper)(t:Nat):(Aaa ops o).testBit t=true↔A9l ops o t:=by
 unfold Aaa A9l;rw[Nq,Bool.or_eq_true,Xx,dQ];apply or_congr
 ·simp
 ·cases e:o.guard with
  | none=>simp
  | some x=>
   obtain⟨j,want⟩:=x;simp only[Az5,cP,eR];cases hj:ops[j]? with
   | none=>
    simp only[dQ,aW,false_iff];rintro⟨a,w',g,⟨rfl,_⟩,h2,_⟩;rw[hj]at h2;cases h2
   | some g=>
    simp only[];rw[Ae3];constructor
    ·intro h;exact⟨j,want,g,⟨rfl,rfl⟩,hj,h⟩
    ·rintro⟨a,w',k,⟨rfl,_⟩,h2,d⟩
     rw[hj]at h2;cases h2;exact d
theorem Av7(e l' b:Nat):∀(ms:List (Nat × Nat)) (j k d l:Nat),Awc e l' b ms j=true->ms[k]? = some (d,l)->A6b (j+k) d l e l' b=true
 | [],_,_,_,_,_,h=>by simp at h
 | (d,l)::r,j,0,d0,l0,h,a=>by
  simp only[bN,cP,eR]at a;simp only[Awc]at h;rw[Bn]at h;split at h
  ·rename_i hp;rw[<-a.1,<-a.2];exact hp
  ·cases h
 | (d,l)::r,j,k+1,d0,l0,h,a=>by
  simp only[Awc]at h;rw[Bn]at h;split at h
  ·have:=Av7 e l' b r (j+1) k d0 l0 h (by simpa using a)
   rw[show j+1+k=j+(k+1) by omega]at this;exact this
  ·cases h
theorem Aym(ops:List Oper)(bs:Tr Nat):∀(l:List Oper) (i:Nat) (ms:List (Nat × Nat)),Amo ops bs l i ms=true->ms.length=i->∀k o,l[k]? = some o ->
 ∃b,bs.get (i+k)=some b/\∀j d l',(ms++l.map fun o=>(Ahz o,Aaa ops o))[j]? = some (d,l')->j<i+k->A6b j d l' (Ahz o) (Aaa ops o) b=true
 | [],_,_,_,_,_,_,h=>by simp at h
 | o'::r,i,ms,h,hm,0,o,a=>by
  simp only[bN,cP]at a;subst a;simp only[Amo]at h;split at h
  ·rename_i b hb
   rw[Bn]at h;split at h
   ·rename_i hp
    refine⟨b,hb,fun j d l' hj e=>?_⟩;have:ms[j]? = some (d,l'):=by rw[bh (by omega)]at hj;exact hj
    have:=Av7 _ _ _ ms 0 j d l' hp this
    rwa [bF]at this
   ·cases h
  ·cases h
 | o'::r,i,ms,h,hm,k+1,o,a=>by
  simp only[Amo]at h;split at h
  ·rename_i b hb
   rw[Bn]at h;split at h
   ·obtain⟨u,y,h2⟩:=Aym ops bs r (i+1) _ h (by simp[hm]) k o (by simpa using a)
    refine⟨u,by rw[<-y];congr 1;omega,fun j d l' hj e=>h2 j d l' ?_ (by omega)⟩;rw[b9];simpa using hj
   ·cases h
  ·cases h
theorem Atu {ops:List Oper}{bs:Tr Nat}(h:Amo ops bs ops 0 []=true){j a:Oper}(y:ops[i]? = some j)(hm:ops[m]? = some a)(A:i<m)(hb:bs.get m=some b)(B:b.testBit i=false):
 (∀t,j.dst=some t->a.dst≠some t/\¬A9l ops a t)/\(∀t,A9l ops j t->a.dst≠some t):=by
 obtain⟨G,k,h2⟩:=Aym ops bs ops 0 [] h rfl m a hm;rw[bF]at k;rw[hb]at k;cases k;have:=h2 i (Ahz j) (Aaa ops j) (by simp[y]) (by omega);unfold A6b at this;have C:Nat.beq (Nat.land b (Nat.shiftLeft 1 i)) 0=true:=by
  have:Nat.land b (Nat.shiftLeft 1 i)=0:=Nat.eq_of_testBit_eq fun t=>by
   rw[Amj,H3,dQ];by_cases e:i=t
   ·subst e;simp[B]
   ·simp[e]
  rw[this];rfl
 rw[C,Aj]at this;obtain⟨z1,F⟩:=Bnv (aL this);refine⟨fun t u=>?_,fun t u hd=>?_⟩
 ·have d:=A4y z1 ((Ae3 j t).2 u)
  rw[Nq,Bool.or_eq_false_iff]at d;refine⟨fun e=>?_,fun e=>?_⟩
  ·rw[(Ae3 a t).2 e]at d;exact absurd d.1 (by simp)
  ·rw[(Ao6 ops a t).2 e]at d;exact absurd d.2 (by simp)
 ·have d:=A4y F ((Ao6 ops j t).2 u)
  rw[(Ae3 a t).2 hd]at d;cases d
theorem A1i(i:Nat):∀(l:List Edge),Bez i l=true->∀e∈l,Acb e=true->e.on<i
 | [],_,e,he,_=>by simp at he
 | a::r,h,e,he,hb=>by
  simp only[Bez]at h;rw[Bn]at h;split at h
  ·rename_i d
   rcases bW.1 he with rfl|he
   ·rw[hb,Aj]at d;exact bB d
   ·exact A1i i r h e he hb
  ·cases h
theorem Ayz:∀(l:List Oper) (i:Nat),Ao5 l i=true->∀k o,l[k]? = some o->∀e∈o.after.toList,Acb e=true->e.on<i+k
 | [],_,_,_,_,h=>by simp at h
 | a::r,i,h,0,o,d=>by
  simp only[bN,cP]at d;subst d;simp only[Ao5]at h;rw[Bn]at h;split at h
  ·rename_i hb;exact A1i i _ hb
  ·cases h
 | a::r,i,h,k+1,o,d=>by
  simp only[Ao5]at h;rw[Bn]at h;split at h
  ·intro e he hb
   have:=Ayz r (i+1) h k o (by simpa using d) e he hb;omega
  ·cases h
section
open Classical
inductive Kd where
 | idle|load (q:Nat)|new|sto (q:Nat)|big (mw:Nat)
def bare(n:Nat):Ab:=⟨.nil,n,n⟩
theorem Bmp(n q:Nat):(bare n).get q=none:=rfl
noncomputable def Aon(n q:Nat)(o:By):Ab:=⟨Tr.nil.put q (some o),n,n⟩
theorem Ob(n q:Nat)(o:By)(r:Nat):(Aon n q o).get r=if q=r then some o else none:=by
 show(Tr.nil.put q (some o)).get r=_;rw[Tr.get_put];rfl
structure Sd(T:Hh)(call round:Ai)(n:Nat)(ops:List Oper)(bs:Tr Nat)(base:Nat)(o:Oper)(i:Nat)(s s':DSt)(v:EV)(E E':Ab)(kd:Kd):Prop where
 tm:s'.tm=Po n s.tm o.dst v
 run:(wanted ops s.tm o.guard=false/\v=.tuple []/\E'=E)\/(wanted ops s.tm o.guard=true/\aop T call round s.tm o.op E=some (v,E'))
 Agb:E.next=s.h.next
 Agr:E'.next=s'.h.next
 sub:∀q x,E.get q=some x->s.h.get q=some x
 Bop:∀q,s'.h.get q=if E'.get q=E.get q then s.h.get q else E'.get q
 w:AWf E E'
 mw:s'.h.mw<=s.h.mw/\∀q,q<s'.h.mw->q<s.h.next->E'.get q=E.get q
 kd:match kd with
  | .idle=>E=bare s.h.next/\E'=E/\s'.bg=s.bg/\s'.nw=s.nw/\s'.Cz=s.Cz/\s'.lou=s.lou/\s'.st=s.st
  | .load q=>(∃x,E=Aon s.h.next q x)/\E'=E/\s'.bg=s.bg/\s'.nw=s.nw/\s'.Cz=(Nat.shiftLeft 1 i,q)::s.Cz/\s'.lou=s.lou/\s'.st=s.st /\
   ∃b,bs.get i=some b/\E7 b q s.st=true/\((q<base/\X7 b q s.lou=true)\/(base<=q/\within s.bg b=true/\loose b s.nw = []))
  | .new=>E=bare s.h.next/\(∃x,E'=E.new x)/\s'.bg=s.bg/\s'.nw=(Nat.shiftLeft 1 i,s.h.next)::s.nw/\s'.Cz=s.Cz/\s'.lou=s.lou/\s'.st=s.st
  | .sto q=>(∃x y,E=Aon s.h.next q x/\E'=E.put q y)/\s'.bg=s.bg/\s'.nw=s.nw/\s'.Cz=s.Cz/\s'.lou=s.lou/\s'.st=(Nat.shiftLeft 1 i,q)::s.st /\
   ∃b,bs.get i=some b/\within s.bg b=true/\E7 b q s.st=true/\E7 b q s.Cz=true/\A2p q (loose b s.nw)=true
  | .big mw=>∃b,bs.get i=some b/\within s.bg b=true/\Ay2 b s.st=true/\(∀q,E.get q=if q∈loose b s.nw then none else s.h.get q)/\s'.bg=Nat.lor s.bg (Nat.shiftLeft 1 i)/\s'.nw=s.nw/\s'.Cz=s.Cz/\s'.st=s.st /\
   (∀q,q<mw->q<s.h.next->E'.get q=E.get q)/\((s.h.next<=mw/\s'.lou=s.lou)\/(Te b mw s.Cz=true/\s'.lou=(Nat.shiftLeft 1 i,mw)::s.lou))
theorem Arf:∀{l:List (Nat × Nat)} {q:Nat},q∈loose b l↔∃m,(m,q)∈l/\within m b=false
 | [],q=>by simp[loose]
 | (m,r)::l,q=>by
  simp only[loose];rw[Bn];split
  ·rename_i h
   rw[Arf];constructor
   ·rintro⟨d,a,h2⟩;exact⟨d,aT _ a,h2⟩
   ·rintro⟨d,a,h2⟩
    rcases bW.1 a with e|a
    ·cases e;rw[h]at h2;cases h2
    ·exact⟨d,a,h2⟩
  ·rename_i h
   rw[bW,Arf];constructor
   ·rintro(rfl|⟨d,a,h2⟩)
    ·exact⟨m,aV,by simpa using h⟩
    ·exact⟨d,aT _ a,h2⟩
   ·rintro⟨d,a,h2⟩
    rcases bW.1 a with e|a
    ·cases e;exact .inl rfl
    ·exact .inr ⟨d,a,h2⟩
theorem Aua(t:Tr By):∀(l:List Nat) (q:Nat),(Acx t l).get q=if q∈l then none else t.get q
 | [],q=>by simp[Acx]
 | a::r,q=>by
  simp only[Acx,Tr.get_put,Aua t r q,bW];by_cases h:a=q
  ·subst h;simp
  ·rw[aM h];simp[cT h]
theorem Aue(t d:Tr By):∀(l:List Nat) (q:Nat),(Ac3 t d l).get q=if q∈l then t.get q else d.get q
 | [],q=>by simp[Ac3]
 | a::r,q=>by
  simp only[Ac3,Tr.get_put,Aue t d r q,bW];by_cases h:a=q
  ·subst h;simp
  ·rw[aM h];simp[cT h]
theorem Boi{call:Ai}(d:isV op=true)(a:E1 T tm op=some v):aop T call round tm op h=some (v,h):=by
 unfold aop;rw[d,Aj,a]
theorem Bbm {b c:Bool}(h:Ax b Cls.val (Ax c .pur .big)=.val):b=true:=by
 cases b<;>cases c<;>first|rfl|(cases h)
theorem A7e(h:cls op=.val):isV op=true:=by
 cases op<;>first|rfl|(rename_i c;exact absurd (Bbm (show Ax false Cls.val (Ax (Aw2 (.call c)) .pur .big)=.val from h)) (by simp))|exact Bbm h|(cases h)
theorem Bbq {b c:Bool}(h:Ax b Cls.val (Ax c .pur .big)=.pur):c=true:=by
 cases b<;>cases c<;>first|rfl|(cases h)
theorem A0b(h:cls op=.pur):Aw2 op=true:=by
 cases op<;>first|(rename_i c;exact Bbq (show Ax false Cls.val (Ax (Aw2 (.call c)) .pur .big)=.pur from h))|exact Bbq h|(cases h)
theorem Avn{call:Ai}(a:isV op=false)(d:∀c,op≠.call c):aop T call round tm op h=Du T tm op h:=by
 unfold aop;rw[a,Bc];split
 ·exact absurd rfl (d _)
 ·rfl
theorem A4b(h:cls op=.new):isV op=false/\∀c,op≠.call c:=by
 rcases A64 h with⟨t,rfl⟩|⟨t,x,rfl⟩|⟨t,n,ps,rfl⟩|⟨t,a,b,rfl⟩|⟨t,r,rfl⟩|⟨t,x,rfl⟩<;>exact⟨rfl,fun _ h=>by cases h⟩
section
variable{call:Ai}(hC:Wo call)(hR:Wo round){ops:List Oper}{bs:Tr Nat}
include hC hR in
theorem A1k{s s':DSt}(h:Wx T call round n ops bs base o i s=some s')(ab:∀x∈s.nw,x.2<s.h.next):
 ∃v E E' kd,Sd T call round n ops bs base o i s s' v E E' kd:=by
 obtain⟨dst,op,ty,ps,af,g⟩:=o;obtain⟨tm,hp,bg,nw,Cz,lou,st⟩:=s;simp only[Wx]at h;rw[Bn]at h;split at h
 ·rename_i hw
  split at h
  ·cases h
  ·rename_i b hb
   split at h
   ·rename_i B
    split at h
    ·rename_i v hv
     cases h;exact⟨v,bare hp.next,bare hp.next,.idle,rfl,.inr ⟨hw,Boi (A7e B) hv⟩,rfl,rfl,fun q x y=>(by cases y),fun q=>(by simp),.refl _,⟨aD _,fun _ _ _=>rfl⟩,rfl,rfl,rfl,rfl,rfl,rfl,rfl⟩
    ·cases h
   ·rename_i B
    split at h
    ·rename_i t x
     split at h
     ·rename_i q off y
      obtain⟨d,h⟩:=Aq h;split at h
      ·rename_i v h' j
       cases h;obtain⟨ob,J,Q⟩:=Bqu y j;refine⟨v,Aon hp.next q ob,Aon hp.next q ob,.load q,rfl,.inr ⟨hw,?_⟩,rfl,rfl,fun r x L=>?_,fun q=>(by simp),.refl _,⟨aD _,fun _ _ _=>rfl⟩,⟨_,rfl⟩,rfl,rfl,rfl,rfl,rfl,rfl,b,hb,?_⟩
       ·rw[Avn rfl (fun _ e=>by cases e)]
        exact Q _ (by rw[Ob,aQ rfl])
       ·rw[Ob]at L
        split at L
        ·rename_i e;subst e;cases L;exact J
        ·cases L
       ·rw[Bn]at d
        split at d
        case isFalse=>cases d
        rename_i host;refine⟨host,?_⟩;rw[Bn]at d;split at d
        ·rename_i H;exact .inl ⟨bB H,d⟩
        ·rename_i H
         refine .inr ⟨?_,?_⟩
         ·cases dL q base with
          | inl h=>exact absurd (X0 h) H
          | inr h=>exact h
         ·rw[Bn]at d
          split at d
          ·rename_i C
           refine⟨C,?_⟩;simp only[];split at d
           ·rename_i e;exact e
           ·cases d
          ·cases d
      ·cases h
     ·cases h
    ·cases h
   ·rename_i B
    split at h
    ·rename_i v h' j
     cases h;obtain⟨x,rfl,ad⟩:=Btc B j;refine⟨v,bare hp.next,(bare hp.next).new x,.new,rfl,.inr ⟨hw,?_⟩,rfl,rfl,fun q x y=>(by cases y),fun q=>?_,.new _ _,⟨aD _,fun q _ h2=>?_⟩,rfl,⟨x,rfl⟩,rfl,rfl,rfl,rfl,rfl⟩
     ·rw[Avn (A4b B).1 (A4b B).2]
      exact ad _ rfl
     ·show(hp.new x).get q=_
      rw[Ab.Lb,Ab.Lb,Bmp];show(if hp.next=q then some x else hp.get q)=if(if hp.next=q then some x else none)=none then hp.get q else if hp.next=q then some x else none
      by_cases e:hp.next=q
      ·rw[aQ e,aQ e,aM (by simp)]
      ·rw[aM e,aM e,aQ rfl]
     ·have ai:q<hp.next:=h2
      rw[Ab.Lb,aM];show ¬hp.next=q
      omega
    ·cases h
   ·
    rename_i B;split at h
    ·rename_i t a x
     split at h
     ·rename_i q off ha
      obtain⟨d,h⟩:=Aq h;split at h
      ·rename_i v h' j
       cases h;obtain⟨ob,F,J,rfl,Q⟩:=Bm9 ha j;have ae:within bg b=true/\E7 b q st=true/\E7 b q Cz=true/\A2p q (loose b nw)=true:=by
        rw[Bn]at d;split at d
        case isFalse=>cases d
        rename_i c1;rw[Bn]at d;split at d
        case isFalse=>cases d
        rename_i c2;rw[Bn]at d;split at d
        case isFalse=>cases d
        rename_i c3;exact⟨c1,c2,c3,d⟩
       have Y:(Aon hp.next q ob).get q=some ob:=by rw[Ob,aQ rfl]
       refine⟨v,Aon hp.next q ob,(Aon hp.next q ob).put q F,.sto q,rfl,.inr ⟨hw,?_⟩,rfl,rfl,fun r x L=>?_,fun r=>?_,.put Y _,⟨?_,fun r A h2=>?_⟩,⟨_,_,rfl,rfl⟩,rfl,rfl,rfl,rfl,rfl,b,hb,ae⟩
       ·rw[Avn rfl (fun _ e=>by cases e)]
        exact Q _ Y
       ·rw[Ob]at L
        split at L
        ·rename_i e;subst e;cases L;exact J
        ·cases L
       ·show(hp.put q F).get r=_
        rw[Ab.get_put,Ab.get_put,Ob];by_cases e:q=r
        ·subst e
         rw[aQ rfl,aQ rfl,aQ rfl];by_cases e2:some F=some ob
         ·rw[aQ e2,e2];exact J.symm
         ·rw[aM e2]
        ·rw[aM e,aM e,aM e,aQ rfl]
       ·show(hp.put q F).mw<=hp.mw
        rw[Ab.Apc];exact Nat.min_le_right _ _
       ·have U:r<(hp.put q F).mw:=A
        rw[Ab.Apc]at U;rw[Ab.get_put,aM (by omega)]
      ·cases h
     ·cases h
    ·cases h
   ·
    rename_i B;split at h
    ·rename_i v h' j
     cases h;have:=Bll (A0b B) j;subst this;exact⟨v,bare hp.next,bare hp.next,.idle,rfl,.inr ⟨hw,(Atf (A0b B)).trans j⟩,rfl,rfl,fun q x y=>(by cases y),fun q=>(by simp),.refl _,⟨aD _,fun _ _ _=>rfl⟩,rfl,rfl,rfl,rfl,rfl,rfl,rfl⟩
    ·cases h
   ·rename_i B
    obtain⟨k,h⟩:=Aq h;have C:within bg b=true:=by
     rw[Bn]at k;split at k
     ·rename_i c1;exact c1
     ·cases k
    have Z:Ay2 b st=true:=by rw[C,Aj]at k;exact k
    obtain⟨t,nx,mw⟩:=hp;simp only[]at h;split at h
    ·rename_i v G u mw' j
     have hwf:=Brv hC hR j;have X:∀q,(⟨Acx t (loose b nw),nx,nx⟩:Ab).get q=if q∈loose b nw then none else(⟨t,nx,mw⟩:Ab).get q:=fun q=>Aua t _ q
     have M:∀q x,(⟨Acx t (loose b nw),nx,nx⟩:Ab).get q=some x->(⟨t,nx,mw⟩:Ab).get q=some x:=by
      intro q x y;rw[X]at y;split at y
      ·cases y
      ·exact y
     have aa:∀W q,(⟨Ac3 t G (loose b nw),u,W⟩:Ab).get q=if(⟨G,u,mw'⟩:Ab).get q=(⟨Acx t (loose b nw),nx,nx⟩:Ab).get q then(⟨t,nx,mw⟩:Ab).get q else(⟨G,u,mw'⟩:Ab).get q:=by
      intro W q;have e1:(⟨Ac3 t G (loose b nw),u,W⟩:Ab).get q=if q∈loose b nw then t.get q else G.get q:=Aue t G _ q
      rw[e1];by_cases H:q∈loose b nw
      ·rw[aQ H]
       by_cases he:(⟨G,u,mw'⟩:Ab).get q=(⟨Acx t (loose b nw),nx,nx⟩:Ab).get q
       ·rw[aQ he];rfl
       ·exfalso
        apply he;rw[X,aQ H];cases y:(⟨G,u,mw'⟩:Ab).get q with
        | none=>rfl
        | some o=>
         rcases hwf.live q o y with⟨o',A⟩|A
         ·rw[X,aQ H]at A;cases A
         ·obtain⟨m,hm,_⟩:=Arf.1 H
          have h2:q<nx:=ab _ hm;have h3:nx<=q:=A;omega
      ·rw[aM H]
       by_cases he:(⟨G,u,mw'⟩:Ab).get q=(⟨Acx t (loose b nw),nx,nx⟩:Ab).get q
       ·rw[aQ he]
        have:G.get q=(⟨G,u,mw'⟩:Ab).get q:=rfl;rw[this,he,X,aM H]
       ·rw[aM he];rfl
     rw[Bn]at h;split at h
     ·rename_i hm
      cases h;exact⟨v,_,_,.big mw',rfl,.inr ⟨hw,j⟩,rfl,rfl,M,aa _,hwf,⟨aD _,fun q A h2=>hwf.same q (aN h2 (bB hm)) h2⟩,b,hb,C,Z,X,rfl,rfl,rfl,rfl,fun q A h2=>hwf.same q A h2,.inl ⟨bB hm,rfl⟩⟩
     ·obtain⟨ag,h⟩:=Aq h
      cases h;have O:Ax (Nat.ble mw mw') mw mw'=min mw mw':=by
       rw[Bn];by_cases e:mw<=mw'
       ·rw[X0 e,aQ rfl,dW e]
       ·rw[Aap e,aM (by simp),Nat.min_eq_right (by omega)]
      refine⟨v,_,_,.big mw',rfl,.inr ⟨hw,j⟩,rfl,rfl,M,aa _,hwf,⟨?_,fun q A h2=>hwf.same q ?_ h2⟩,b,hb,C,Z,X,rfl,rfl,rfl,rfl,fun q A h2=>hwf.same q A h2,.inr ⟨ag,rfl⟩⟩
      ·show Ax (Nat.ble mw mw') mw mw'<=mw
       rw[O];exact Nat.min_le_left _ _
      ·have U:q<Ax (Nat.ble mw mw') mw mw':=A
       rw[O]at U;show q<mw';omega
    ·cases h
 ·rename_i hw
  cases h;exact⟨.tuple [],bare hp.next,bare hp.next,.idle,rfl,.inl ⟨by simpa using hw,rfl,rfl⟩,rfl,rfl,fun q x y=>(by cases y),fun q=>(by simp),.refl _,⟨aD _,fun _ _ _=>rfl⟩,rfl,rfl,rfl,rfl,rfl,rfl,rfl⟩
end
end
variable {K:Nat->Kd}
section
open Classical
theorem Avi:∀{l:List (Nat × Nat)},X7 b q l=true->∀{m w:Nat},(m,w)∈l->within m b=true\/q<w
 | [],_,m,w,h=>by simp at h
 | (d,w')::r,h,m,w,hm=>by
  simp only[X7]at h;rw[Bn]at h;split at h
  ·rename_i a
   rcases bW.1 hm with e|hm
   ·cases e
    rw[Bn]at a;split at a
    ·rename_i hw;exact .inl hw
    ·exact .inr (bB a)
   ·exact Avi h hm
  ·cases h
theorem Asn {w:Nat}:∀{l:List (Nat × Nat)},Te b w l=true->∀{m q:Nat},(m,q)∈l->within m b=true\/q<w
 | [],_,m,q,h=>by simp at h
 | (d,q')::r,h,m,q,hm=>by
  simp only[Te]at h;rw[Bn]at h;split at h
  ·rename_i a
   rcases bW.1 hm with e|hm
   ·cases e
    rw[Bn]at a;split at a
    ·rename_i hw;exact .inl hw
    ·exact .inr (bB a)
   ·exact Asn h hm
  ·cases h
theorem Y9:∀{l:List (Nat × Nat)},E7 b q l=true->∀{m r:Nat},(m,r)∈l->within m b=true\/q≠r
 | [],_,m,r,h=>by simp at h
 | (d,j)::l,h,m,r,hm=>by
  simp only[E7]at h;rw[Bn]at h;split at h
  ·rename_i a
   rcases bW.1 hm with e|hm
   ·cases e
    rw[Bn]at a;split at a
    ·rename_i hw;exact .inl hw
    ·refine .inr fun e=>?_
     subst e;rw[show Nat.beq q q=true from cI q]at a;cases a
   ·exact Y9 h hm
  ·cases h
theorem A1f:∀{l:List (Nat × Nat)},Ay2 b l=true->∀{m r:Nat},(m,r)∈l->within m b=true
 | [],_,m,r,h=>by simp at h
 | (d,j)::l,h,m,r,hm=>by
  simp only[Ay2]at h;rw[Bn]at h;split at h
  ·rename_i a
   rcases bW.1 hm with e|hm
   ·cases e;exact a
   ·exact A1f h hm
  ·cases h
theorem A07:∀{l:List Nat},A2p q l=true->q ∉ l
 | [],_=>by simp
 | r::l,h=>by
  simp only[A2p]at h;rw[Bn]at h;split at h
  ·cases h
  ·rename_i a
   intro hm;rcases bW.1 hm with e|hm
   ·subst e;exact a (cI q)
   ·exact A07 h hm
section
variable{call:Ai}(hC:Wo call)(hR:Wo round){ops:List Oper}{bs:Tr Nat}
theorem Au2:∀{l:List Oper} {i:Nat} {s r:DSt},Ta T call round n ops bs base l i s=some r ->
 ∃σ:Nat->DSt,σ i=s/\σ (i+l.length)=r/\∀k o,l[k]? = some o->Wx T call round n ops bs base o (i+k) (σ (i+k))=some (σ (i+k+1))
 | [],i,s,r,h=>by cases h;exact⟨fun _=>s,rfl,rfl,fun k o h=>by simp at h⟩
 | o::l,i,s,r,h=>by
  simp only[Ta]at h;split at h
  ·rename_i s' hs
   obtain⟨σ,e,h2,j⟩:=Au2 h;have a:σ (i+1)=s':=e;refine⟨fun m=>if m=i then s else σ m,aQ rfl,?_,fun k o' d=>?_⟩
   ·show(if i+(l.length+1)=i then s else σ (i+(l.length+1)))=r
    rw[aM (by omega),<-h2];congr 1;show i+(l.length+1)=i+1+l.length;omega
   ·cases k with
    | zero=>
     simp only[bN,cP]at d;subst d;show Wx T call round n ops bs base o i (if i=i then s else σ i)=some (if i+1=i then s else σ (i+1));rw[aQ rfl,aM (by omega),a];exact hs
    | succ k=>
     have:=j k o' (by simpa using d);have e1:i+(k+1)=i+1+k:=by omega
     show Wx T call round n ops bs base o' (i+(k+1)) (if i+(k+1)=i then s else σ (i+(k+1)))=some (if i+(k+1)+1=i then s else σ (i+(k+1)+1));rw[aM (by omega),aM (by omega),e1];exact this
  ·cases h
structure Trc(T:Hh)(call round:Ai)(n:Nat)(ops:List Oper)(bs:Tr Nat)(base:Nat)(σ:Nat->DSt)(V:Nat->EV)(E E':Nat->Ab)(K:Nat->Kd):Prop where
 sd:∀i o,ops[i]? = some o->Sd T call round n ops bs base o i (σ i) (σ (i+1)) (V i) (E i) (E' i) (K i)
 lt:∀i,i<=ops.length->∀q x,(σ i).h.get q=some x->q<(σ i).h.next
 base:base=(σ 0).h.next
include hC hR in
theorem Bth {s r:DSt}(h:Ta T call round n ops bs s.h.next ops 0 s=some r)(u:∀q x,s.h.get q=some x->q<s.h.next)(A:s.nw = []):
 ∃σ V E E' K,σ 0=s/\σ ops.length=r/\Trc T call round n ops bs s.h.next σ V E E' K:=by
 obtain⟨σ,B,h2,C⟩:=Au2 h;simp only[bF]at h2 C;have key:∀i,i<=ops.length->(∀x∈(σ i).nw,x.2<(σ i).h.next)/\∀q x,(σ i).h.get q=some x->q<(σ i).h.next:=by
  intro i;induction i with
  | zero=>intro _;rw[B,A];exact⟨fun x j=>by simp at j,u⟩
  | succ i G=>
   intro F;obtain⟨i1,i2⟩:=G (by omega);have k:ops[i]? = some ops[i]:=aH (by omega);obtain⟨v,E,E',kd,sd⟩:=A1k hC hR (C i _ k) i1;have e:(σ i).h.next<=(σ (i+1)).h.next:=by rw[<-sd.Agb,<-sd.Agr];exact sd.w.next
   constructor
   ·intro x j
    have:=sd.kd;cases kd with
    | idle=>rw[this.2.2.2.1]at j;exact aN (i1 x j) e
    | load q=>rw[this.2.2.2.1]at j;exact aN (i1 x j) e
    | new=>
     obtain⟨a,⟨y,b⟩,c,d,_⟩:=this;rw[d]at j;rcases bW.1 j with rfl|j
     ·show(σ i).h.next<_
      rw[<-sd.Agr,b,Ab.Di,sd.Agb];omega
     ·exact aN (i1 x j) e
    | sto q=>
     obtain⟨_,_,d,_⟩:=this;rw[d]at j;exact aN (i1 x j) e
    | big mw=>
     obtain⟨b,_,_,_,_,_,d,_⟩:=this;rw[d]at j;exact aN (i1 x j) e
   ·intro q x j
    rw[sd.Bop]at j;split at j
    ·exact aN (i2 q x j) e
    ·rw[<-sd.Agr]
     refine sd.w.lt (fun q x j=>?_) q x j;rw[sd.Agb];exact i2 q x (sd.sub q x j)
 have ex:∀i,∃v E E' kd,∀o,ops[i]? = some o->Sd T call round n ops bs s.h.next o i (σ i) (σ (i+1)) v E E' kd:=by
  intro i;cases k:ops[i]? with
  | none=>exact⟨.tuple [],bare 0,bare 0,.idle,fun o h=>by cases h⟩
  | some o=>
   have F:i<ops.length:=(bJ.1 k).1;obtain⟨v,E,E',kd,sd⟩:=A1k hC hR (C i _ k) (key i (by omega)).1;exact⟨v,E,E',kd,fun o' h=>by cases h;exact sd⟩
 exact⟨σ,fun i=>(ex i).choose,fun i=>(ex i).choose_spec.choose,fun i=>(ex i).choose_spec.choose_spec.choose,fun i=>(ex i).choose_spec.choose_spec.choose_spec.choose,B,h2,
  fun i=>(ex i).choose_spec.choose_spec.choose_spec.choose_spec,fun i F=>(key i F).2,by rw[B]⟩
variable(tr:Trc T call round n ops bs base σ V E E' K)
include tr
theorem Trc.next(a:i<ops.length):(σ i).h.next<=(σ (i+1)).h.next:=by
 have sd:=tr.sd i _ (aH a);rw[<-sd.Agb,<-sd.Agr];exact sd.w.next
theorem Trc.Boj(a:i<=m)(hm:m<=ops.length):(σ i).h.next<=(σ m).h.next:=by
 induction m with
 | zero=>
  have:i=0:=by omega
  subst this;exact aD _
 | succ m d=>
  by_cases e:i=m+1
  ·subst e;exact aD _
  ·exact bQ (d (by omega) (by omega)) (tr.next (by omega))
theorem Trc.notes(B:i<=m)(hm:m<=ops.length):
 (∀x∈(σ i).nw,x∈(σ m).nw)/\(∀x∈(σ i).Cz,x∈(σ m).Cz)/\(∀x∈(σ i).lou,x∈(σ m).lou)/\(∀j,(σ i).bg.testBit j=true->(σ m).bg.testBit j=true)/\(∀x∈(σ i).st,x∈(σ m).st):=by
 induction m with
 | zero=>
  have:i=0:=by omega
  subst this;exact⟨fun _ h=>h,fun _ h=>h,fun _ h=>h,fun _ h=>h,fun _ h=>h⟩
 | succ m C=>
  by_cases e:i=m+1
  ·subst e;exact⟨fun _ h=>h,fun _ h=>h,fun _ h=>h,fun _ h=>h,fun _ h=>h⟩
  ·obtain⟨a,b,c,d,f⟩:=C (by omega) (by omega)
   have sd:=(tr.sd m _ (aH (by omega))).kd;cases A:K m with
   | idle=>
    rw[A]at sd;obtain⟨_,_,s1,s2,u,k,y⟩:=sd;rw[s1,s2,u,k,y];exact⟨a,b,c,d,f⟩
   | load q=>
    rw[A]at sd;obtain⟨_,_,s1,s2,u,k,y,_⟩:=sd;rw[s1,s2,u,k,y];exact⟨a,fun x h=>aT _ (b x h),c,d,f⟩
   | new=>
    rw[A]at sd;obtain⟨_,_,s1,s2,u,k,y⟩:=sd;rw[s1,s2,u,k,y];exact⟨fun x h=>aT _ (a x h),b,c,d,f⟩
   | sto q=>
    rw[A]at sd;obtain⟨_,s1,s2,u,k,y,_⟩:=sd;rw[s1,s2,u,k,y];exact⟨a,b,c,d,fun x h=>aT _ (f x h)⟩
   | big mw=>
    rw[A]at sd;obtain⟨_,_,_,_,_,s1,s2,u,y,_,k⟩:=sd;rw[s1,s2,u,y];refine⟨a,b,?_,fun j h=>by rw[Nq,d j h];rfl,f⟩;rcases k with⟨_,k⟩|⟨_,k⟩<;>rw[k]
    ·exact c
    ·exact fun x h=>aT _ (c x h)
theorem Trc.Bp5(a:i<ops.length){x:By}(h:(E i).get q=some x):q<(σ i).h.next:=
 tr.lt i (by omega) q x ((tr.sd i _ (aH a)).sub q x h)
theorem Trc.Btq(a:i<ops.length){x:By}(h:(E' i).get q=some x):q<(σ (i+1)).h.next:=by
 have sd:=tr.sd i _ (aH a);rw[<-sd.Agr];refine sd.w.lt (fun q x d=>?_) q x h;rw[sd.Agb];exact tr.Bp5 a d
theorem Trc.Bgr(d:i<ops.length)(h:(E i).get q=none)(j:q<(σ i).h.next):(E' i).get q=(E i).get q:=by
 have sd:=tr.sd i _ (aH d);cases e:(E' i).get q with
 | none=>exact h.symm
 | some o=>
  rcases sd.w.live q o e with⟨o',a⟩|a
  ·rw[h]at a;cases a
  ·rw[sd.Agb]at a;omega
theorem Trc.pair(bb:i<m)(hm:m<ops.length)(hb:bs.get m=some b)(hn:b.testBit i=false):
 (∀q,(E' i).get q=(E i).get q\/(E' m).get q=(E m).get q)/\(∀q x,(E i).get q=some x->(E' m).get q=(E m).get q)/\(∀q x,(E m).get q=some x->(E' i).get q=(E i).get q):=by
 have hi:i<ops.length:=by omega
 have aj:=tr.sd i _ (aH hi);have ax:=tr.sd m _ (aH hm);obtain⟨n1,n2,n3,n4,n5⟩:=tr.notes (i:=i+1) (m:=m) (by omega) (by omega);have a2:=tr.Boj (i:=i+1) (m:=m) (by omega) (by omega);have ay:=tr.next hi
 have a5:base<=(σ i).h.next:=by rw[tr.base];exact tr.Boj (by omega) (by omega)
 have L:=A75 hn;have W:=aj.kd;have U:=ax.kd;have C:K i=.new->(Nat.shiftLeft 1 i,(σ i).h.next)∈(σ m).nw/\(∀q,q≠(σ i).h.next->(E' i).get q=(E i).get q)/\(∀q,(E i).get q=none)/\(σ i).h.next<(σ (i+1)).h.next:=by
  intro hk;rw[hk]at W;obtain⟨k1,⟨x,k2⟩,_,k4,_⟩:=W;refine⟨n1 _ (by rw[k4];exact aV),fun q X=>?_,fun q=>by rw[k1];rfl,?_⟩
  ·rw[k2,Ab.Lb,aM];rw[aj.Agb];exact fun e=>X e.symm
  ·rw[<-aj.Agr,k2,Ab.Di,aj.Agb];omega
 have F:K m=.new->(∀q,q≠(σ m).h.next->(E' m).get q=(E m).get q)/\(∀q,(E m).get q=none):=by
  intro hk;rw[hk]at U;obtain⟨k1,⟨x,k2⟩,_⟩:=U;refine⟨fun q X=>?_,fun q=>by rw[k1];rfl⟩;rw[k2,Ab.Lb,aM];rw[ax.Agb];exact fun e=>X e.symm
 have G:∀r,K i=.sto r->(Nat.shiftLeft 1 i,r)∈(σ m).st/\(∀q,q≠r->(E' i).get q=(E i).get q)/\(∀q x,(E i).get q=some x->q=r)/\r<(σ i).h.next:=by
  intro r hk;rw[hk]at W;obtain⟨⟨x,y,k1,k2⟩,_,_,_,_,k4,_⟩:=W;have hr:(E i).get r=some x:=by rw[k1,Ob,aQ rfl]
  refine⟨n5 _ (by rw[k4];exact aV),fun q X=>?_,fun q z Y=>?_,tr.Bp5 hi hr⟩
  ·rw[k2,Ab.get_put,aM];exact fun e=>X e.symm
  ·rw[k1,Ob]at Y
   split at Y
   ·rename_i e;exact e.symm
   ·cases Y
 have j:∀r,K m=.sto r->within (σ m).bg b=true/\E7 b r (σ m).st=true/\E7 b r (σ m).Cz=true/\r ∉ loose b (σ m).nw/\(∀q,q≠r->(E' m).get q=(E m).get q)/\(∀q x,(E m).get q=some x->q=r):=by
  intro r hk;rw[hk]at U;obtain⟨⟨x,y,k1,k2⟩,_,_,_,_,k4,b',H,c1,c2,c3,c4⟩:=U;rw[hb]at H;cases H;refine⟨c1,c2,c3,A07 c4,fun q X=>?_,fun q z Y=>?_⟩
  ·rw[k2,Ab.get_put,aM];exact fun e=>X e.symm
  ·rw[k1,Ob]at Y
   split at Y
   ·rename_i e;exact e.symm
   ·cases Y
 have J:∀r,K i=.load r->(Nat.shiftLeft 1 i,r)∈(σ m).Cz/\(∀q x,(E i).get q=some x->q=r):=by
  intro r hk;rw[hk]at W;obtain⟨⟨y,k1⟩,_,_,_,k5,_⟩:=W;refine⟨n2 _ (by rw[k5];exact aV),fun q z Y=>?_⟩;rw[k1,Ob]at Y;split at Y
  ·rename_i e;exact e.symm
  ·cases Y
 have A:∀r,K m=.load r->E7 b r (σ m).st=true/\((r<base/\X7 b r (σ m).lou=true)\/(base<=r/\within (σ m).bg b=true/\loose b (σ m).nw = []))/\(∀q x,(E m).get q=some x->q=r):=by
  intro r hk;rw[hk]at U;obtain⟨⟨y,k1⟩,_,_,_,_,_,_,b',H,k7,k8⟩:=U;rw[hb]at H;cases H;refine⟨k7,k8,fun q z Y=>?_⟩;rw[k1,Ob]at Y;split at Y
  ·rename_i e;exact e.symm
  ·cases Y
 have aq:∀mw,K i=.big mw->(σ m).bg.testBit i=true:=by
  intro mw Z;rw[Z]at W;obtain⟨_,_,_,_,_,k5,_⟩:=W;exact n4 i (by rw[k5,Nq,H3];simp)
 have O:∀mw,K m=.big mw->within (σ m).bg b=true/\Ay2 b (σ m).st=true:=by
  intro mw h2;rw[h2]at U;obtain⟨b',H,hw,a7,_⟩:=U;rw[hb]at H;cases H;exact⟨hw,a7⟩
 have ag:∀{mw},K i=.big mw->within (σ m).bg b=true->False:=by
  intro mw Z hw;rw[Aop hw (aq mw Z)]at hn;cases hn
 have aa:∀{r mw},K i=.sto r->K m=.big mw->False:=by
  intro r mw Z h2;have:=A1f (O mw h2).2 (G r Z).1;rw[L]at this;cases this
 have Q:(K i=.idle\/∃q,K i=.load q)->∀q,(E' i).get q=(E i).get q:=by
  rintro(h|⟨r,h⟩) q<;>rw[h]at W
  ·rw[W.2.1]
  ·rw[W.2.1]
 have k:(K m=.idle\/∃q,K m=.load q)->∀q,(E' m).get q=(E m).get q:=by
  rintro(h|⟨r,h⟩) q<;>rw[h]at U
  ·rw[U.2.1]
  ·rw[U.2.1]
 have ae:K i=.idle->∀q,(E i).get q=none:=fun h q=>by rw[h]at W;rw[W.1];rfl
 have M:K m=.idle->∀q,(E m).get q=none:=fun h q=>by rw[h]at U;rw[U.1];rfl
 have u:K i=.new->(σ i).h.next∈loose b (σ m).nw:=fun Z=>Arf.2 ⟨_,(C Z).1,L⟩
 have af:∀mw,K i=.new->K m=.big mw->(E m).get (σ i).h.next=none:=by
  intro mw Z h2;rw[h2]at U;obtain⟨b',H,_,_,he,_⟩:=U;rw[hb]at H;cases H;rw[he,aQ (u Z)]
 have ab:∀{r r'},K i=.sto r->K m=.sto r'->r'≠r:=by
  intro r r' Z h2;rcases Y9 (j r' h2).2.1 (G r Z).1 with h|h
  ·rw[L]at h;cases h
  ·exact h
 refine⟨fun q=>?_,fun q x B=>?_,fun q x B=>?_⟩
 ·cases d:K i with
  | idle=>exact .inl (Q (.inl d) q)
  | load r=>exact .inl (Q (.inr ⟨r,d⟩) q)
  | new=>
   by_cases X:q=(σ i).h.next
   ·subst X
    right;cases a:K m with
    | idle=>exact k (.inl a) _
    | load r=>exact k (.inr ⟨r,a⟩) _
    | new=>exact(F a).1 _ (by have:=(C d).2.2.2;omega)
    | sto r=>exact(j r a).2.2.2.2.1 _ (fun e=>(j r a).2.2.2.1 (e▸u d))
    | big mw=>exact tr.Bgr hm (af mw d a) (by have:=(C d).2.2.2;omega)
   ·exact .inl ((C d).2.1 q X)
  | sto r=>
   by_cases X:q=r
   ·subst X
    right;cases a:K m with
    | idle=>exact k (.inl a) _
    | load r=>exact k (.inr ⟨r,a⟩) _
    | new=>exact(F a).1 _ (by have:=(G _ d).2.2.2;omega)
    | sto r'=>exact(j r' a).2.2.2.2.1 _ (fun e=>ab d a e.symm)
    | big mw=>exact(aa d a).elim
   ·exact .inl ((G r d).2.1 q X)
  | big mw=>
   cases a:K m with
   | idle=>exact .inr (k (.inl a) _)
   | load r=>exact .inr (k (.inr ⟨r,a⟩) _)
   | new=>
    by_cases X:q=(σ m).h.next
    ·left
     have Z:(E' i).get q=none:=by
      cases h:(E' i).get q with
      | none=>rfl
      | some o=>have:=tr.Btq hi h;omega
     have h2:(E i).get q=none:=by
      cases h:(E i).get q with
      | none=>rfl
      | some o=>have:=tr.Bp5 hi h;omega
     rw[Z,h2]
    ·exact .inr ((F a).1 q X)
   | sto r=>exact(ag d (j r a).1).elim
   | big mw'=>exact(ag d (O mw' a).1).elim
 ·have bu:=tr.Bp5 hi B
  cases a:K m with
  | idle=>exact k (.inl a) _
  | load r=>exact k (.inr ⟨r,a⟩) _
  | new=>exact(F a).1 q (by omega)
  | sto r'=>
   cases d:K i with
   | idle=>rw[ae d]at B;cases B
   | new=>rw[(C d).2.2.1]at B;cases B
   | big mw'=>exact(ag d (j r' a).1).elim
   | load r=>
    have:=(J r d).2 q x B;subst this;refine(j r' a).2.2.2.2.1 _ fun e=>?_
    rcases Y9 (j r' a).2.2.1 (J _ d).1 with h|h
    ·rw[L]at h;cases h
    ·exact h e.symm
   | sto r=>
    have:=(G r d).2.2.1 q x B;subst this;exact(j r' a).2.2.2.2.1 _ (fun e=>ab d a e.symm)
  | big mw=>
   cases d:K i with
   | idle=>rw[ae d]at B;cases B
   | new=>rw[(C d).2.2.1]at B;cases B
   | big mw'=>exact(ag d (O mw a).1).elim
   | sto r=>exact(aa d a).elim
   | load r=>
    have:=(J r d).2 q x B;subst this;rw[a]at U;obtain⟨b',H,_,_,_,_,_,_,_,h8,h9⟩:=U;rw[hb]at H;cases H;refine h8 _ ?_ (by omega);rcases h9 with⟨h9,_⟩|⟨h9,_⟩
    ·omega
    ·rcases Asn h9 (J _ d).1 with h|h
     ·rw[L]at h;cases h
     ·exact h
 ·cases d:K i with
  | idle=>exact Q (.inl d) q
  | load r=>exact Q (.inr ⟨r,d⟩) q
  | new=>
   refine(C d).2.1 q fun e=>?_
   subst e;cases a:K m with
   | idle=>rw[M a]at B;cases B
   | new=>rw[(F a).2]at B;cases B
   | big mw=>rw[af mw d a]at B;cases B
   | sto r=>exact(j r a).2.2.2.1 ((j r a).2.2.2.2.2 _ x B▸u d)
   | load r=>
    have e:=(A r a).2.2 _ x B;rcases(A r a).2.1 with⟨Z,_⟩|⟨_,_,h3⟩
    ·omega
    ·have:=u d
     rw[h3]at this;cases this
  | sto r=>
   refine(G r d).2.1 q fun e=>?_
   subst e;cases a:K m with
   | idle=>rw[M a]at B;cases B
   | new=>rw[(F a).2]at B;cases B
   | big mw=>exact(aa d a).elim
   | sto r'=>exact ab d a ((j r' a).2.2.2.2.2 _ x B).symm
   | load r'=>
    have e:=(A r' a).2.2 _ x B;subst e;rcases Y9 (A _ a).1 (G _ d).1 with h|h
    ·rw[L]at h;cases h
    ·exact h rfl
  | big mw=>
   cases a:K m with
   | idle=>rw[M a]at B;cases B
   | new=>rw[(F a).2]at B;cases B
   | sto r=>exact(ag d (j r a).1).elim
   | big mw'=>exact(ag d (O mw' a).1).elim
   | load r=>
    have e:=(A r a).2.2 _ x B;subst e;rw[d]at W;obtain⟨bi,_,_,_,_,kb,_,_,_,h8,h9⟩:=W;rcases(A _ a).2.1 with⟨Z,h2⟩|⟨_,h2,_⟩
    ·refine h8 _ ?_ (by omega)
     rcases h9 with⟨h9,_⟩|⟨_,h9⟩
     ·omega
     ·rcases Avi h2 (n3 _ (by rw[h9];exact aV))with h|h
      ·rw[L]at h;cases h
      ·exact h
    ·have:(σ m).bg.testBit i=true:=n4 i (by rw[kb,Nq,H3];simp)
     rw[Aop h2 this]at hn;cases hn
end
end
section
open Classical
structure Ahe(p:Nat->Prop)(f0:Loc)(h0:Ab)(w0:World)(f:Loc)(g:Nat->Option By)(w:World):Prop where
 agree:Loc.agree p f0 f
 obj:∀i o,g i=some o->∃r,w.heap[f.b i]? = some r/\Q7 f i o r
 inj:∀i j o o',g i=some o->g j=some o'->f.b i=f.b j->i=j
 kept:∀b,b<w0.heap.size->(∀i o,h0.get i=some o->f0.b i≠b)->w.heap[b]? = w0.heap[b]?
 size:w0.heap.size<=w.heap.size
 tape:w.tape=w0.tape
 os:w.os=w0.os
 output:w.output=w0.output
 own:∀i o,g i=some o->w0.heap.size<=f.b i\/∃j o',h0.get j=some o'/\f.b i=f0.b j
theorem Ahe.start{w:World}(a:Tz f h w):Ahe p f h w f h.get w where
 agree:=Loc.Amq _ _
 obj:=a.obj
 inj:=a.inj
 kept _ _ _:=rfl
 size:=aD _
 tape:=rfl
 os:=rfl
 output:=rfl
 own i o d:=.inr ⟨i,o,d,rfl⟩
theorem Ahe.drew{w0 w:World}(m:Ahe p f0 h0 w0 f g w)(k:Nat):Ahe p f0 h0 w0 f g { w with drawn:=k }:=
 ⟨m.agree,m.obj,m.inj,m.kept,m.size,m.tape,m.os,m.output,m.own⟩
theorem Ahe.move{w0 w:World}(m:Ahe p f0 h0 w0 f g w)(e:∀q,h.get q=g q):Move p f0 h0 w0 f h w where
 agree:=m.agree
 rep:=⟨fun i o a=>m.obj i o (by rw[<-e];exact a),fun i j o o' a d=>m.inj i j o o' (by rw[<-e];exact a) (by rw[<-e];exact d)⟩
 kept:=m.kept
 size:=m.size
 tape:=m.tape
 os:=m.os
 output:=m.output
 own i o a:=m.own i o (by rw[<-e];exact a)
def patch(n:Nat)(f1 f:Loc):Loc:=⟨fun q=>if q<n then f1.b q else f.b q,fun q=>if q<n then f1.sp q else f.sp q⟩
theorem A8n(h:q<n):(patch n f1 f).b q=f1.b q/\(patch n f1 f).sp q=f1.sp q:=⟨aQ h,aQ h⟩
theorem Blj(h:n<=q):(patch n f1 f).b q=f.b q/\(patch n f1 f).sp q=f.sp q:=⟨aM (by omega),aM (by omega)⟩
noncomputable def Ajb(D D':Ab)(g:Nat->Option By)(q:Nat):Option By:=if D'.get q=D.get q then g q else D'.get q
section
variable{w0:World}{w:World}{pq:Nat->Prop}{D D':Ab}{w1:World}
theorem Ayb(hm:Move (fun q=>pq q/\q<D.next) f D w f1 D' w1)(hw:Wf (fun q=>pq q/\q<D.next) D D')(a:∀q,pq q->q<D.next\/D'.next<=q):
 Loc.agree pq f (patch D'.next f1 f):=by
 intro q d;rcases a q d with h|h
 ·obtain⟨e1,e2⟩:=A8n (f1:=f1) (f:=f) (aN h hw.next)
  rw[e1,e2];exact hm.agree q ⟨d,h⟩
 ·obtain⟨e1,e2⟩:=Blj (f1:=f1) (f:=f) h
  rw[e1,e2];exact⟨rfl,rfl⟩
theorem Awo(hw:Wf (fun q=>pq q/\q<D.next) D D'):Loc.agree (grow (fun q=>pq q/\q<D.next) D D') f1 (patch D'.next f1 f):=by
 intro q a;have:q<D'.next:=by
  rcases a with h|h
  ·exact aN h.2 hw.next
  ·exact h.2
 obtain⟨e1,e2⟩:=A8n (f1:=f1) (f:=f) this;rw[e1,e2];exact⟨rfl,rfl⟩
theorem Ahe.step(m:Ahe p0 f0 h0 w0 f g w)(B:∀q x,D.get q=some x->g q=some x)(hg:∀q x,g q=some x->pq q/\x.ok pq)
 (Z:∀q,p0 q->pq q) (hm:Move (fun q=>pq q/\q<D.next) f D w f1 D' w1) (hw:Wf (fun q=>pq q/\q<D.next) D D') (X:∀q,pq q->q<D.next\/D'.next<=q) :
 Ahe p0 f0 h0 w0 (patch D'.next f1 f) (Ajb D D' g) w1:=by
 have W:=Ayb hm hw X;have O:=Awo (f1:=f1) (f:=f) hw;have aa:∀q x,D'.get q=some x->Ajb D D' g q=some x:=by
  intro q x d;unfold Ajb;split
  ·rename_i e;exact B q x (by rw[<-e];exact d)
  ·exact d
 have u:∀q x,Ajb D D' g q=some x->D'.get q=some x\/(D'.get q=none/\D.get q=none/\g q=some x):=by
  intro q x d;cases hd:D'.get q with
  | some y=>rw[aa q y hd]at d;exact .inl d
  | none=>
   unfold Ajb at d;split at d
   ·rename_i e;rw[hd]at e;exact .inr ⟨rfl,e.symm,d⟩
   ·rw[hd]at d;cases d
 have C:∀q x,D'.get q=some x->(patch D'.next f1 f).b q=f1.b q:=fun q x d=>(O q (hw.hok.get q x d).1).1.symm
 have F:∀q x,g q=some x->(patch D'.next f1 f).b q=f.b q:=fun q x d=>(W q (hg q x d).1).1.symm
 have Y:∀q x,g q=some x->f.b q<w.heap.size:=by
  intro q x d;obtain⟨r,L,_⟩:=m.obj q x d;exact(cM.1 L).1
 have Q:∀q x,g q=some x->D.get q=none->∀i o,D.get i=some o->f.b i≠f.b q:=by
  intro q x d hd i o H e;have:=m.inj i q o x (B i o H) d e;subst this;rw[hd]at H;cases H
 refine⟨?_,?_,?_,?_,bQ m.size hm.size,hm.tape.trans m.tape,hm.os.trans m.os,hm.output.trans m.output,?_⟩
 ·exact m.agree.trans (W.mono Z)
 ·intro q x d
  rcases u q x d with hd|⟨_,hd,J⟩
  ·obtain⟨r,L,h2⟩:=hm.rep.obj q x hd
   obtain⟨h3,h4⟩:=hw.hok.get q x hd;exact⟨r,by rw[C q x hd];exact L,h2.congr O h3 h4⟩
  ·obtain⟨r,L,h2⟩:=m.obj q x J
   obtain⟨h3,h4⟩:=hg q x J;refine⟨r,?_,h2.congr W h3 h4⟩;rw[F q x J,hm.kept _ (Y q x J) (Q q x J hd)];exact L
 ·
  have U:∀i j o o',D'.get i=some o->g j=some o'->D.get j=none->f1.b i≠f.b j:=by
   intro i j o o' H hj hd e;rcases hm.own i o H with h|⟨k,ok,hk,h⟩
   ·have:=Y j o' hj;omega
   ·exact Q j o' hj hd k ok hk (by rw[<-h];exact e)
  intro i j o o' H hj e;rcases u i o H with a|⟨_,a,A⟩<;>rcases u j o' hj with G|⟨_,G,M⟩
  ·rw[C i o a,C j o' G]at e;exact hm.rep.inj i j o o' a G e
  ·rw[C i o a,F j o' M]at e;exact absurd e (U i j o o' a M G)
  ·rw[F i o A,C j o' G]at e;exact absurd e.symm (U j i o' o G A a)
  ·rw[F i o A,F j o' M]at e;exact m.inj i j o o' A M e
 ·intro b hb hn
  rw[hm.kept b (aN hb m.size) ?_]
  ·exact m.kept b hb hn
  ·intro i o H e
   rcases m.own i o (B i o H)with h|⟨j,o',L,h2⟩
   ·omega
   ·exact hn j o' L (by rw[<-h2];exact e)
 ·intro i o H
  rcases u i o H with a|⟨_,a,A⟩
  ·rw[C i o a]
   rcases hm.own i o a with h|⟨j,o',L,h2⟩
   ·exact .inl (bQ m.size h)
   ·rw[h2];exact m.own j o' (B j o' L)
  ·rw[F i o A];exact m.own i o A
end
end
section
open Classical
def A9e(ops:Array Oper)(m:Nat):Option Tmp:=(ops[m]?).bind (·.dst)
theorem Aj6 {ops:Array Oper}(h:ops[m]? = some o):A9e ops m=o.dst:=by rw[A9e,h];rfl
noncomputable def tmS(n:Nat)(ops:Array Oper)(V:Nat->EV)(a:Bb)(S:Nat->Prop):Nat->Bb
 | 0=>a
 | m+1=>if S m then Po n (tmS n ops V a S m) (A9e ops m) (V m)else tmS n ops V a S m
noncomputable def hS(E E':Nat->Ab)(a:Nat->Option By)(S:Nat->Prop):Nat->Nat->Option By
 | 0=>a
 | m+1=>if S m then Ajb (E m) (E' m) (hS E E' a S m)else hS E E' a S m
theorem Afq(n:Nat)(tm:Bb)(d:Option Tmp)(v:EV)(t:Nat):tmp (Po n tm d v) t=if d=some t/\t<n then v else tmp tm t:=by
 cases d with
 | none=>simp[Po]
 | some d=>
  rw[Bgp];by_cases h:d=t
  ·subst h;simp
  ·rw[aM (fun x=>h x.1),aM (fun x=>h (by simpa using x.1))]
theorem Atd(f:Loc)(n:Nat){a b:Bb}(h:∀t,tmp a t=tmp b t):Bh f n a=Bh f n b:=by
 unfold Bh;simp only[h]
theorem Bn3(h:∀t,n<=t->tm.get t=none)(d:Option Tmp)(v:EV):∀t,n<=t->(Po n tm d v).get t=none:=by
 intro t a;cases d with
 | none=>exact h t a
 | some d=>
  simp only[Po];rw[Bn];split
  ·rename_i hd
   rw[Tr.Af _ _ (Nat.ne_of_lt (aN (bB hd) a))];exact h t a
  ·exact h t a
theorem Bp1(h:tm.get t=some v):tmp tm t=v:=by unfold tmp;rw[h]
theorem Beg{call:Ai}(a:aop T call round tm op h=some (v,h')):∀cs b,op=.select cs b->∃c,cs = #[c]:=by
 rintro cs b rfl;rw[Avn rfl (fun _ e=>by cases e)]at a;cases b with
 | true=>cases a
 | false=>
  simp only[Du]at a;split at a
  ·rename_i c d
   exact⟨c,by apply dR;simpa using d⟩
  ·cases a
section
variable{call:Ai}{ops:Array Oper}{bs:Tr Nat}
def nx(σ:Nat->DSt)(m:Nat):Nat:=(σ m).h.next
def pS(p0:Nat->Prop)(σ:Nat->DSt)(N:Nat)(S:Nat->Prop)(q:Nat):Prop:=p0 q\/∃j,S j/\j<N/\nx σ j<=q/\q<nx σ (j+1)
structure Inv(n:Nat)(ops:Array Oper)(bs:Tr Nat)(σ:Nat->DSt)(V:Nat->EV)(E E':Nat->Ab)(p0:Nat->Prop)(f0:Loc)(w0:World)(S:Nat->Prop)(f:Loc)(w:World):Prop where
 dn:∀j,S j->j<ops.size/\∀b,bs.get j=some b->∀k,b.testBit k=true->S k
 vok:∀j,S j->(V j).ok (fun q=>pS p0 σ ops.size S q/\q<nx σ (j+1))
 eok:∀j,S j->∀q x,(E' j).get q=some x->(pS p0 σ ops.size S q/\q<nx σ (j+1))/\x.ok (fun q=>pS p0 σ ops.size S q/\q<nx σ (j+1))
 mv:Ahe p0 f0 (σ 0).h w0 f (hS E E' (σ 0).h.get S ops.size) w
variable (tr:Trc T call round n ops.toList bs base σ V E E' K)
include tr
theorem Trc.sd'(h:ops[i]? = some o):Sd T call round n ops.toList bs base o i (σ i) (σ (i+1)) (V i) (E i) (E' i) (K i):=tr.sd i o (by rw[cK];exact h)
theorem Trc.A1g(a:i<=m)(hm:m<=ops.size):nx σ i<=nx σ m:=tr.Boj a (by simpa using hm)
theorem Bkn(e:i<=ops.size)(h:∀j,j<i->¬S j->A9e ops j≠some t):∀m,m<=i->tmp (tmS n ops V (σ 0).tm S m) t=tmp (σ m).tm t
 | 0,_=>rfl
 | m+1,hm=>by
  have a:=Bkn e h m (by omega);have d:ops[m]? = some ops[m]:=cN (by omega);rw[(tr.sd' d).tm,<-Aj6 d,Afq];simp only[tmS];split
  ·rw[Afq,a]
  ·rename_i hs
   rw[a,aM (fun x=>h m (by omega) hs x.1)]
omit tr in
theorem Bf7(a:Bb)(h:∀j,i<=j->S j->A9e ops j≠some t):∀m,i<=m->tmp (tmS n ops V a S m) t=tmp (tmS n ops V a S i) t:=by
 intro m;induction m with
 | zero=>
  intro hm;have:i=0:=by omega
  subst this;rfl
 | succ m d=>
  intro hm;by_cases e:i=m+1
  ·subst e;rfl
  ·rw[<-d (by omega)]
   simp only[tmS];split
   ·rename_i hs;rw[Afq,aM (fun x=>h m (by omega) hs x.1)]
   ·rfl
theorem Bkf(d:i<=ops.size)(h:∀j,j<i->¬S j->(E' j).get q=(E j).get q):∀m,m<=i->hS E E' (σ 0).h.get S m q=(σ m).h.get q
 | 0,_=>rfl
 | m+1,hm=>by
  have a:=Bkf d h m (by omega);have e:ops[m]? = some ops[m]:=cN (by omega);rw[(tr.sd' e).Bop];simp only[hS];split
  ·simp only[Ajb,a]
  ·rename_i hs
   rw[a,aQ (h m (by omega) hs)]
omit tr in
theorem Blm(a:Nat->Option By)(h:∀j,i<=j->S j->(E' j).get q=(E j).get q):∀m,i<=m->hS E E' a S m q=hS E E' a S i q:=by
 intro m;induction m with
 | zero=>
  intro hm;have:i=0:=by omega
  subst this;rfl
 | succ m d=>
  intro hm;by_cases e:i=m+1
  ·subst e;rfl
  ·rw[<-d (by omega)]
   simp only[hS];split
   ·rename_i hs;simp only[Ajb];rw[aQ (h m (by omega) hs)]
   ·rfl
theorem Aww(h:∀j,j<ops.size->S j):∀m,m<=ops.size->tmS n ops V (σ 0).tm S m=(σ m).tm
 | 0,_=>rfl
 | m+1,hm=>by
  have a:ops[m]? = some ops[m]:=cN (by omega);simp only[tmS];rw[aQ (h m (by omega)),Aww h m (by omega),(tr.sd' a).tm,Aj6 a]
theorem Bnw(h:∀j,j<ops.size->S j)(q:Nat):hS E E' (σ 0).h.get S ops.size q=(σ ops.size).h.get q:=
 Bkf tr (aD _) (fun j hj hs=>absurd (h j hj) hs) _ (aD _)
omit tr in
theorem A7d {a:Bb}(h:∀t,n<=t->a.get t=none)(S:Nat->Prop):∀m t,n<=t->(tmS n ops V a S m).get t=none
 | 0=>h
 | m+1=>by
  simp only[tmS];split
  ·exact Bn3 (A7d h S m) _ _
  ·exact A7d h S m
variable{w0:World}{w:World}
theorem Inv.Bp8(I:Inv n ops bs σ V E E' p0 f0 w0 S f w)(h0:Lh p0 n (σ 0).tm)(hp:∀q,p0 q->q<nx σ 0):∀m,m<=ops.size->Lh (fun q=>pS p0 σ ops.size S q/\q<nx σ m) n (tmS n ops V (σ 0).tm S m)
 | 0,_=>h0.mono fun q a=>⟨.inl a,hp q a⟩
 | m+1,hm=>by
  have d:=Inv.Bp8 I h0 hp m (by omega);have e:=tr.A1g (i:=m) (m:=m+1) (by omega) hm;simp only[tmS];split
  ·rename_i hs
   exact(d.mono fun q a=>⟨a.1,by omega⟩).put _ (I.vok m hs)
  ·exact d.mono fun q a=>⟨a.1,by omega⟩
theorem Inv.hok(I:Inv n ops bs σ V E E' p0 f0 w0 S f w)(h0:Tk p0 (σ 0).h):∀m,m<=ops.size->∀q x,hS E E' (σ 0).h.get S m q=some x ->
 (pS p0 σ ops.size S q/\q<nx σ m)/\x.ok (fun q=>pS p0 σ ops.size S q/\q<nx σ m)
 | 0,_,q,x,a=>⟨⟨.inl (h0.get q x a).1,h0.lt q (h0.get q x a).1⟩,(h0.get q x a).2.mono fun r d=>⟨.inl d,h0.lt r d⟩⟩
 | m+1,hm,q,x,a=>by
  have j:=tr.A1g (i:=m) (m:=m+1) (by omega) hm;have up:∀{q x},hS E E' (σ 0).h.get S m q=some x->(pS p0 σ ops.size S q/\q<nx σ (m+1))/\x.ok (fun q=>pS p0 σ ops.size S q/\q<nx σ (m+1)):=by
   intro q x a;obtain⟨e,h2⟩:=Inv.hok I h0 m (by omega) q x a;exact⟨⟨e.1,by omega⟩,h2.mono fun r d=>⟨d.1,by omega⟩⟩
  simp only[hS]at a;split at a
  ·rename_i hs
   unfold Ajb at a;split at a
   ·exact up a
   ·exact I.eok m hs q x a
  ·exact up a
end
end
open Classical
section
variable(hT:Pe P T){call:Ai}(hC:Age P call)(hR:Amw P round){ops:Array Oper}{bs:Tr Nat}
 (tr:Trc T call round n ops.toList bs base σ V E E' K) (hbs:bs=Ov ops.toList 0 .nil) (htm:Amo ops.toList bs ops.toList 0 []=true)
 {w0:World} {w:World}
include hbs in
theorem Bfv(d:i<ops.size):∃b,bs.get i=some b:=by
 have e:ops.toList[i]? = some ops[i]:=by rw[cK];exact cN d
 obtain⟨b,a,_⟩:=Al1 ops.toList 0 .nil (fun _ _=>rfl) i _ e;rw[bF]at a;exact⟨b,by rw[hbs];exact a⟩
include hT hC hR tr hbs htm in
theorem Inv.step(I:Inv n ops bs σ V E E' p0 f0 w0 S f w)(h0:Lh p0 n (σ 0).tm)(ah:Tk p0 (σ 0).h)(hi:i<ops.size)(Q:¬S i){bi:Nat}(aq:bs.get i=some bi)(a8:∀k,bi.testBit k=true->S k)
 {S':Nat->Prop} (C:∀j,S' j↔S j\/j=i) (fb:FB) (rest:List Nat) (k:List Item) (cs:List Frame) :
 ∃f' w',Steps P (lone (fb.at (Bh f n (tmS n ops V (σ 0).tm S ops.size)) (.inRegion ops (i::rest)::k)) cs w) (lone (fb.at (Bh f' n (tmS n ops V (σ 0).tm S' ops.size)) (.inRegion ops rest::k)) cs w') /\
  Inv n ops bs σ V E E' p0 f0 w0 S' f' w':=by
 have ho:ops[i]? = some ops[i]:=cN hi;generalize cw:ops[i]=o at ho;have sd:=tr.sd' ho;have au:∀q,p0 q->q<nx σ 0:=ah.lt;have hlen:ops.toList.length=ops.size:=by simp
 have aj:∀j,j<i->¬S j->bi.testBit j=false:=by
  intro j _ hs;cases hb:bi.testBit j with
  | false=>rfl
  | true=>exact absurd (a8 j hb) hs
 have F:∀j,i<j->S j->∃b,bs.get j=some b/\b.testBit i=false:=by
  intro j hj hs;obtain⟨Y,hd⟩:=I.dn j hs;obtain⟨b,hb⟩:=Bfv hbs Y;refine⟨b,hb,?_⟩;cases bb:b.testBit i with
  | false=>rfl
  | true=>exact absurd (hd b hb i bb) Q
 have Y:∀j,S j->j<ops.size:=fun j hs=>(I.dn j hs).1
 have Z:∀j,j<ops.size->∃oj,ops[j]? = some oj/\ops.toList[j]? = some oj:=fun j hj=>⟨ops[j],cN hj,by rw[cK];exact cN hj⟩
 have aw:ops.toList[i]? = some o:=by rw[cK];exact ho
 have J:∀t,A9l ops.toList o t->tmp (tmS n ops V (σ 0).tm S ops.size) t=tmp (σ i).tm t/\tmp (tmS n ops V (σ 0).tm S i) t=tmp (σ i).tm t:=by
  intro t ht;have e1:tmp (tmS n ops V (σ 0).tm S i) t=tmp (σ i).tm t:=by
   refine Bkn tr (by omega) (fun j hj hs e=>?_) i (aD _);obtain⟨oj,U,h2⟩:=Z j (by omega);rw[Aj6 U]at e;exact((Atu htm h2 aw hj aq (aj j hj hs)).1 t e).2 ht
  refine⟨?_,e1⟩;rw[<-e1];refine Bf7 _ (fun j hj hs e=>?_) _ (by omega);have aa:i<j:=by
   rcases Nat.lt_or_eq_of_le hj with h|h
   ·exact h
   ·subst h;exact absurd hs Q
  obtain⟨oj,U,h2⟩:=Z j (Y j hs);obtain⟨b,hb,L⟩:=F j aa hs;rw[Aj6 U]at e;exact(Atu htm aw h2 aa hb L).2 t ht e
 have B:∀q x,(E i).get q=some x->hS E E' (σ 0).h.get S i q=some x/\hS E E' (σ 0).h.get S ops.size q=some x:=by
  intro q x A;have e1:hS E E' (σ 0).h.get S i q=some x:=by
   rw[Bkf tr (by omega) (fun j hj hs=>?_) i (aD _)]
   ·exact sd.sub q x A
   ·exact(tr.pair hj (by omega) aq (aj j hj hs)).2.2 q x A
  refine⟨e1,?_⟩;rw[<-e1];refine Blm _ (fun j hj hs=>?_) _ (by omega);have aa:i<j:=by
   rcases Nat.lt_or_eq_of_le hj with h|h
   ·exact h
   ·subst h;exact absurd hs Q
  obtain⟨b,hb,L⟩:=F j aa hs;exact(tr.pair aa (by have:=Y j hs;omega) hb L).2.1 q x A
 have ab:S' i:=(C i).2 (.inr rfl);have u:∀j,j≠i->(S' j↔S j):=fun j hj=>⟨fun h=>((C j).1 h).resolve_right hj,fun h=>(C j).2 (.inl h)⟩
 have ax:∀m,m<=i->tmS n ops V (σ 0).tm S' m=tmS n ops V (σ 0).tm S m:=by
  intro m;induction m with
  | zero=>intro _;rfl
  | succ m W=>
   intro hm;simp only[tmS];rw[W (by omega)];by_cases hs:S m
   ·rw[aQ hs,aQ ((u m (by omega)).2 hs)]
   ·rw[aM hs,aM (fun h=>hs ((u m (by omega)).1 h))]
 have ay:∀m,m<=i->hS E E' (σ 0).h.get S' m=hS E E' (σ 0).h.get S m:=by
  intro m;induction m with
  | zero=>intro _;rfl
  | succ m W=>
   intro hm;simp only[hS];rw[W (by omega)];by_cases hs:S m
   ·rw[aQ hs,aQ ((u m (by omega)).2 hs)]
   ·rw[aM hs,aM (fun h=>hs ((u m (by omega)).1 h))]
 have O:∀m,i<m->m<=ops.size->∀t,tmp (tmS n ops V (σ 0).tm S' m) t=tmp (Po n (tmS n ops V (σ 0).tm S m) o.dst (V i)) t:=by
  intro m;induction m with
  | zero=>intro h;omega
  | succ m W=>
   intro hm b6 t;by_cases e:m=i
   ·subst e
    simp only[tmS];rw[aQ ab,aM Q,ax _ (aD _),Aj6 ho]
   ·have W:=W (by omega) (by omega) t
    simp only[tmS];by_cases hs:S m
    ·rw[aQ hs,aQ ((u m e).2 hs),Afq,W,Afq,Afq,Afq]
     obtain⟨b,hb,L⟩:=F m (by omega) hs;obtain⟨om,U,h2⟩:=Z m (by omega);have Pd:=(Atu htm aw h2 (by omega) hb L).1;rw[Aj6 U];by_cases c1:om.dst=some t/\t<n
     ·rw[aQ c1,aM,aQ c1]
      rintro⟨c2,_⟩;exact(Pd t c2).1 c1.1
     ·rw[aM c1,aM c1]
    ·rw[aM hs,aM (fun h=>hs ((u m e).1 h))];exact W
 have ai:∀m,i<m->m<=ops.size->hS E E' (σ 0).h.get S' m=Ajb (E i) (E' i) (hS E E' (σ 0).h.get S m):=by
  intro m;induction m with
  | zero=>intro h;omega
  | succ m W=>
   intro hm b6;by_cases e:m=i
   ·subst e
    simp only[hS];rw[aQ ab,aM Q,ay _ (aD _)]
   ·have W:=W (by omega) (by omega)
    simp only[hS];by_cases hs:S m
    ·rw[aQ hs,aQ ((u m e).2 hs),W]
     obtain⟨b,hb,L⟩:=F m (by omega) hs;have b7:=(tr.pair (i:=i) (m:=m) (by omega) (by omega) hb L).1;funext q;simp only[Ajb];rcases b7 q with h|h
     ·rw[aQ h,aQ h]
     ·rw[aQ h,aQ h]
    ·rw[aM hs,aM (fun h=>hs ((u m e).1 h))];exact W
 have X:∀q,pS p0 σ ops.size S q->pS p0 σ ops.size S' q:=by
  rintro q (h|⟨j,U,h2⟩)
  ·exact .inl h
  ·exact .inr ⟨j,(C j).2 (.inl U),h2⟩
 have b8:∀q,nx σ i<=q->q<nx σ (i+1)->pS p0 σ ops.size S' q:=fun q U h2=>.inr ⟨i,ab,hi,U,h2⟩
 have ad:∀f' w',(V i).ok (fun q=>pS p0 σ ops.size S' q/\q<nx σ (i+1))->(∀q x,(E' i).get q=some x->(pS p0 σ ops.size S' q/\q<nx σ (i+1))/\x.ok (fun q=>pS p0 σ ops.size S' q/\q<nx σ (i+1))) ->
  Ahe p0 f0 (σ 0).h w0 f' (Ajb (E i) (E' i) (hS E E' (σ 0).h.get S ops.size)) w'->Inv n ops bs σ V E E' p0 f0 w0 S' f' w':=by
  intro f' w' U h2 h3;refine⟨fun j hj=>?_,fun j hj=>?_,fun j hj=>?_,?_⟩
  ·rcases(C j).1 hj with hj|rfl
   ·exact⟨Y j hj,fun b hb k hk=>(C k).2 (.inl ((I.dn j hj).2 b hb k hk))⟩
   ·refine⟨hi,fun b hb k hk=>(C k).2 (.inl ?_)⟩
    rw[aq]at hb;cases hb;exact a8 k hk
  ·rcases(C j).1 hj with hj|rfl
   ·exact EV.ok.mono (fun q hq=>⟨X q hq.1,hq.2⟩) _ (I.vok j hj)
   ·exact U
  ·rcases(C j).1 hj with hj|rfl
   ·intro q x A
    obtain⟨a,b⟩:=I.eok j hj q x A;exact⟨⟨X q a.1,a.2⟩,b.mono fun r hr=>⟨X r hr.1,hr.2⟩⟩
   ·exact h2
  ·rw[ai ops.size hi (aD _)];exact h3
 have M:=I.Bp8 tr h0 au ops.size (aD _);have G:Region.wanted o (Go.yielded ops (Bh f n (tmS n ops V (σ 0).tm S ops.size)))=Ev.wanted ops.toList (σ i).tm o.guard:=by
  rw[A4o M];unfold Ev.wanted;cases hg:o.guard with
  | none=>rfl
  | some x=>
   obtain⟨j,want⟩:=x;simp only[];have:Ev.yielded ops.toList (tmS n ops V (σ 0).tm S ops.size) j=Ev.yielded ops.toList (σ i).tm j:=by
    unfold Ev.yielded;rw[Az5];cases hj:ops.toList[j]? with
    | none=>rfl
    | some g=>
     simp only[];cases hd:g.dst with
     | none=>rfl
     | some d=>
      simp only[];have:=(J d (.inr ⟨j,want,g,hg,hj,hd⟩)).1;unfold tmp at this;revert this;cases tmS n ops V (σ 0).tm S ops.size|>.get d with
      | none=>
       cases(σ i).tm.get d with
       | none=>intro _;rfl
       | some v=>intro h;simp only[]at h;rw[<-h]
      | some v=>
       cases(σ i).tm.get d with
       | none=>intro h;simp only[]at h;rw[h]
       | some v'=>intro h;simp only[]at h;rw[h]
   rw[this]
 rcases sd.run with⟨hw,hv,hE⟩|⟨hw,bf⟩
 ·
  refine⟨f,w,.one ?_,ad f w ?_ ?_ ?_⟩
  ·rw[hw]at G
   have:=Ay9 (P:=P) (b:=fb) (rest:=rest) (k:=k) (cs:=cs) (w:=w) ho G;rw[this,show(undef:Value)=Cp f (V i) by rw[hv];rfl,Aix];rw[Atd f n (fun t=>(O ops.size hi (aD _) t).symm)]
  ·rw[hv];trivial
  ·rw[hE]
   intro q x A;obtain⟨a,b⟩:=I.hok tr ah i (by omega) q x (B q x A).1;have:=tr.A1g (i:=i) (m:=i+1) (by omega) (by omega);exact⟨⟨X q a.1,by omega⟩,b.mono fun r hr=>⟨X r hr.1,by have:=hr.2;omega⟩⟩
  ·have:Ajb (E i) (E' i) (hS E E' (σ 0).h.get S ops.size)=hS E E' (σ 0).h.get S ops.size:=by
    funext q;simp only[Ajb];rw[hE,aQ rfl]
   rw[this];exact I.mv
 ·have ae:(E i).next=nx σ i:=sd.Agb
  have af:(E' i).next=nx σ (i+1):=sd.Agr
  rw[hw]at G;have a1:=I.Bp8 tr h0 au i (by omega);have a2:∀t,n<=t->(σ i).tm.get t=none:=by
   rw[<-Aww tr (S:=fun _=>True) (fun _ _=>trivial) i (by omega)];exact A7d h0.out _ i
  have ag:∀x∈o.op.operands,Cj (Aeb (σ i).tm o.op.operands.toList) x=Cj (σ i).tm x:=fun x A=>Bde _ (cr.2 A)
  have bj:aop T call round (Aeb (σ i).tm o.op.operands.toList) o.op (E i)=some (V i,E' i):=by rw[Bji ag];exact bf
  have bn:Lh (fun q=>pS p0 σ ops.size S q/\q<(E i).next) n (Aeb (σ i).tm o.op.operands.toList):=by
   refine Boa (fun t ht v hv=>?_) a2;have e:=(J t (.inl ht)).2;rw[Bp1 hv]at e;rw[<-e,ae];exact a1.tmp t
  have cb:Tk (fun q=>pS p0 σ ops.size S q/\q<(E i).next) (E i):=by
   refine⟨fun q hq=>hq.2,fun q x A=>?_⟩;rw[ae];exact I.hok tr ah i (by omega) q x (B q x A).1
  have cc:Tz f (E i) w:=⟨fun q x A=>I.mv.obj q x (B q x A).2,fun q r x y A hy=>I.mv.inj q r x y (B q x A).2 (B r y hy).2⟩;have cf:execOp (Im (Bh f n (tmS n ops V (σ 0).tm S ops.size))) o=execOp (Im (Bh f n (Aeb (σ i).tm o.op.operands.toList))) o:=by
   refine A9k o (Beg bf) fun x A=>?_
   cases x with
   | tmp t=>
    have e1:Im (Bh f n (tmS n ops V (σ 0).tm S ops.size)) (.tmp t)=Cp f (tmp (tmS n ops V (σ 0).tm S ops.size) t):=Ace f M t;have e2:Im (Bh f n (Aeb (σ i).tm o.op.operands.toList)) (.tmp t)=Cp f (tmp (Aeb (σ i).tm o.op.operands.toList) t):=Ace f bn t;rw[e1,e2,(J t (.inl (cr.2 A))).1];have e3:=ag _ A;simp only[Cj,cP]at e3;exact congrArg (Cp f) e3.symm
   | const v=>rfl
   | global g=>rfl
   | func g=>rfl
  obtain⟨f1,w1,bo,bp,H,bt⟩:=Bm4 hT hC hR bn cb cc cf bj fb ops i rest k cs ho G;have ao:∀q,pS p0 σ ops.size S q->q<(E i).next\/(E' i).next<=q:=by
   rw[ae,af];rintro q (h|⟨j,U,h2,h3,h4⟩)
   ·left;have:=au q h;have:=tr.A1g (i:=0) (m:=i) (by omega) (by omega);omega
   ·rcases Nat.lt_trichotomy j i with h|h|h
    ·left;have:=tr.A1g (i:=j+1) (m:=i) (by omega) (by omega);omega
    ·subst h;exact absurd U Q
    ·right;have:=tr.A1g (i:=i+1) (m:=j) (by omega) (by omega);omega
  have bu:∀q x,hS E E' (σ 0).h.get S ops.size q=some x->pS p0 σ ops.size S q/\x.ok (pS p0 σ ops.size S):=by
   intro q x A;obtain⟨a,b⟩:=I.hok tr ah ops.size (aD _) q x A;exact⟨a.1,b.mono fun r hr=>hr.1⟩
  have a5:∀q,grow (fun q=>pS p0 σ ops.size S q/\q<(E i).next) (E i) (E' i) q->pS p0 σ ops.size S' q/\q<nx σ (i+1):=by
   rintro q (h|h)
   ·have:=H.next
    rw[ae]at this h;rw[af]at this;exact⟨X q h.1,aN h.2 this⟩
   ·rw[ae,af]at h
    exact⟨b8 q h.1 h.2,h.2⟩
  refine⟨patch (E' i).next f1 f,w1,?_,ad _ _ (EV.ok.mono a5 _ bt) (fun q x A=>?_) (Ahe.step I.mv (fun q x A=>(B q x A).2) bu (fun q hq=>.inl hq) bp H ao)⟩
  ·have e1:Cp f1 (V i)=Cp (patch (E' i).next f1 f) (V i):=Afc (Awo H) _ bt
   have e2:Bh f n (tmS n ops V (σ 0).tm S ops.size)=Bh (patch (E' i).next f1 f) n (tmS n ops V (σ 0).tm S ops.size):=K4 (Ayb bp H ao) (M.mono fun q hq=>hq.1);have e3:Bbd (Bh f n (tmS n ops V (σ 0).tm S ops.size)) o.dst (Cp f1 (V i))=Bh (patch (E' i).next f1 f) n (tmS n ops V (σ 0).tm S' ops.size):=by
    rw[e1,e2,Aix];exact Atd _ n (fun t=>(O ops.size hi (aD _) t).symm)
   rw[e3]at bo;exact bo
  ·obtain⟨a,b⟩:=H.hok.get q x A
   exact⟨a5 q a,b.mono a5⟩
theorem Aze(e:Edge):Acb e=Region.binds .any e:=by
 unfold Acb Region.binds;split<;>simp_all
def unl(listed:Array Bool)(N:Nat):List Nat:=(List.range N).filter fun i=>!listed.getD i true
theorem Bow{N:Nat}(d:listed.size=N)(a:i<N)(k:listed.getD i true=false):(unl (listed.setIfInBounds i true) N).length<(unl listed N).length:=by
 have e:unl (listed.setIfInBounds i true) N=(unl listed N).filter (fun j=>j != i):=by
  unfold unl;rw[List.filter_filter];apply List.filter_congr;intro j hj;rw[eU]at hj;by_cases h:i=j
  ·subst h
   simp[d,a]
  ·rw[getD_set_ne _ h]
   have:(j != i)=true:=by simp[cT h]
   rw[this];simp
 rw[e];refine List.length_filter_lt_length_iff_exists.2 ⟨i,?_,by simp⟩;unfold unl;rw[eQ,eU];exact⟨a,by simp only[k];rfl⟩
include hT hC hR tr hbs htm in
theorem Blf(U:Ao5 ops.toList 0=true)(h0:Lh p0 n (σ 0).tm)(W:Tk p0 (σ 0).h)(X:FB)(k:List Item)(cs:List Frame):∀(fuel t:Nat) (listed:Array Bool) (f:Loc) (w:World),listed.size=ops.size->(unl listed ops.size).length<=fuel ->
 Inv n ops bs σ V E E' p0 f0 w0 (fun j=>listed.getD j false=true) f w ->
 ∃f' w',Steps P (lone (X.at (Bh f n (tmS n ops V (σ 0).tm (fun j=>listed.getD j false=true) ops.size)) (.inRegion ops (Region.linearise.go .any ops fuel t listed [])::k)) cs w)
  (lone (X.at (Bh f' n (σ ops.size).tm) (.inRegion ops []::k)) cs w') /\
  ∃S,(∀j,j<ops.size->S j)/\Inv n ops bs σ V E E' p0 f0 w0 S f' w':=by
 have B:∀listed:Array Bool,listed.size=ops.size->(unl listed ops.size).length=0->∀j,j<ops.size->listed.getD j false=true:=by
  intro listed C Y j hj;have:j ∉ unl listed ops.size:=by rw[bX.1 Y];simp
  unfold unl at this;rw[eQ,eU]at this;have h2:(!listed.getD j true)=false:=by
   cases h:(!listed.getD j true)with
   | false=>rfl
   | true=>exact absurd ⟨hj,h⟩ this
  have d:j<listed.size:=by omega
  simp[Array.getD,d]at h2⊢;exact h2
 intro fuel;induction fuel with
 | zero=>
  intro t listed f w C hf I;have hs:=B listed C (by omega);refine⟨f,w,?_,_,hs,I⟩;simp only[Region.linearise.go,List.reverse_nil];rw[Aww tr hs _ (aD _)];exact .refl _ _
 | succ fuel ih=>
  intro t listed f w C hf I;simp only[Region.linearise.go];have Z:((List.range ops.size).filter fun i=>!listed.getD i true&&((ops[i]?).map (·.after.all fun e=>!Region.binds .any e||listed.getD e.on false)).getD false)=Region.ready .any ops listed:=rfl;rw[Z];split
  ·rename_i i hi
   have u:i∈Region.ready .any ops listed:=dO hi;obtain⟨F,o,J,aa⟩:=mem_ready.1 u;have A:i<ops.size:=(cM.1 J).1;have ab:¬(listed.getD i false=true):=by
    have d:i<listed.size:=by omega
    simp[Array.getD,d]at F⊢;exact F
   obtain⟨bi,L⟩:=Bfv hbs A;have G:ops.toList[i]? = some o:=by rw[cK];exact J
   obtain⟨b',h1,h2⟩:=Al1 ops.toList 0 .nil (fun _ _=>rfl) i o G;rw[bF,<-hbs,L]at h1;cases h1;have M:∀j,bi.testBit j=true->listed.getD j false=true:=by
    intro j hj;obtain⟨e,he,hb,ad⟩:=h2 j hj;have O:=aa e (cr.1 he) (by rw[<-Aze];exact hb);rcases ad with rfl|⟨y,hy,ae⟩
    ·exact O
    ·rw[<-hbs]at hy
     exact(I.dn e.on O).2 y hy j ae
   rw[linearise_go_acc];have af:∀j,(listed.setIfInBounds i true).getD j false=true↔listed.getD j false=true\/j=i:=by
    intro j;by_cases h:i=j
    ·subst h
     have:(listed.setIfInBounds i true).getD i false=true:=by simp[C,A]
     simp[this]
    ·rw[getD_set_ne _ h]
     constructor
     ·exact .inl
     ·rintro(h'|h')
      ·exact h'
      ·exact absurd h'.symm h
   obtain⟨f1,w1,ag,I1⟩:=I.step hT hC hR tr hbs htm h0 W A ab L M (S':=fun j=>(listed.setIfInBounds i true).getD j false=true) af X (Region.linearise.go .any ops fuel (t/(Region.ready .any ops listed).length) (listed.setIfInBounds i true) []) k cs;obtain⟨f2,w2,ah,ai⟩:=ih (t/(Region.ready .any ops listed).length) (listed.setIfInBounds i true) f1 w1 (by simpa using C) (by have:=Bow C A F;omega) I1;exact⟨f2,w2,ag.trans ah,ai⟩
  ·rename_i H
   have Y:(unl listed ops.size).length=0:=by
    cases hc:unl listed ops.size with
    | nil=>rfl
    | cons a l=>
     exfalso;have hex:∃j,j<ops.size/\listed.getD j true=false:=by
      have:a∈unl listed ops.size:=by rw[hc];exact aV
      unfold unl at this;rw[eQ,eU]at this;exact⟨a,this.1,by simpa using this.2⟩
     have Q:∀N,∀j,j<N->j<ops.size->listed.getD j true=false->∃i,i<ops.size/\listed.getD i true=false/\∀k,k<i->listed.getD k true=true:=by
      intro N;induction N with
      | zero=>intro j h;omega
      | succ N aj=>
       intro j hj al ao;by_cases hk:∃k,k<j/\listed.getD k true=false
       ·obtain⟨k,bn,aq⟩:=hk
        exact aj k (by omega) (by omega) aq
       ·refine⟨j,al,ao,fun k au=>?_⟩
        cases h:listed.getD k true with
        | true=>rfl
        | false=>exact absurd ⟨k,au,h⟩ hk
     obtain⟨j,aw,ax⟩:=hex;obtain⟨i,ay,az,a1⟩:=Q (j+1) j (by omega) aw ax;have J:ops[i]? = some ops[i]:=cN ay;have G:ops.toList[i]? = some ops[i]:=by rw[cK];exact J
     have u:i∈Region.ready .any ops listed:=mem_ready.2 ⟨az,_,J,fun e he hb=>by
      have bo:=Ayz ops.toList 0 U i _ G e (cr.2 he) (by rw[Aze];exact hb);have:=a1 e.on (by omega);have d:e.on<listed.size:=by omega
      simp[Array.getD,d]at this⊢;exact this⟩
     have hlen:0<(Region.ready .any ops listed).length:=List.length_pos_of_mem u;rw[List.getElem?_eq_none_iff]at H;have:=Nat.mod_lt t hlen;omega
   have hs:=B listed C Y;refine⟨f,w,?_,_,hs,I⟩;simp only[List.reverse_nil];rw[Aww tr hs _ (aD _)];exact .refl _ _
end
end Go.Ev
