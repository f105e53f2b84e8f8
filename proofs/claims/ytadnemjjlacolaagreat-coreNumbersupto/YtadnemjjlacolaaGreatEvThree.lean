import Derived.Test.YtadnemjjlacolaaGreatEvTwo
import Derived.Orders
set_option linter.all false
namespace Go.Ev
variable {x:Operand}{T:H7}{op:Op}{h h' h0 hp:Aa}{round:Ai}{S p p0:Nat->Prop}{b i m n q t off base:Nat}{tm:Az}{v:EV}{o:Oper}{f f0 f1:Loc}{g:Nat->Option Dt}{listed:Array Bool}{σ:Nat->DSt}{V:Nat->EV}{E E':Nat->Aa}{P:Program}
section
section
variable {tm':Az}
theorem Aa0:∀{l:List Operand},(∀x∈l,Cf tm x=Cf tm' x)->L8 tm l=L8 tm' l
 | [],_=>rfl
 | x::r,h=>by simp only[L8];rw[h x aW,Aa0 fun y a=>h y (aR _ a)]
theorem Am5:∀{l:List (Nat × Operand)},(∀x∈l,Cf tm x.2=Cf tm' x.2)->Yi tm l=Yi tm' l
 | [],_=>rfl
 | (i,x)::r,h=>by simp only[Yi];rw[h (i,x) aW,Am5 fun y a=>h y (aR _ a)]
theorem Amh {x:Option Operand}(h:∀y,x=some y->Cf tm y=Cf tm' y):Aah tm x=Aah tm' x:=by
 cases x with
 | none=>rfl
 | some y=>simp only[Aah];rw[h y rfl]
theorem A8v(h:∀x∈op.operands,Cf tm x=Cf tm' x):Eu T tm op=Eu T tm' op:=by
 cases op with
 | build t ps=>
  have:Yi tm ps.toList=Yi tm' ps.toList:=Am5 fun x e=>h x.2 (by
   simp only[Op.operands,List.mem_toArray,cA];exact⟨x,e,rfl⟩)
  simp only[Eu,this]
 | makeFunc fn a b=>
  have k:L8 tm a.toList=L8 tm' a.toList:=Aa0 fun x e=>h x (by simp only[Op.operands,Array.mem_append];exact .inl (dB.1 e))
  have h2:L8 tm b.toList=L8 tm' b.toList:=Aa0 fun x e=>h x (by simp only[Op.operands,Array.mem_append];exact .inr (dB.1 e))
  cases fn<;>simp only[Eu,k,h2]
 | slice t x A B C=>
  have h0:Cf tm x=Cf tm' x:=h x (by simp[Op.operands]);have k:Aah tm A=Aah tm' A:=Amh fun y j=>h y (by subst j;simp[Op.operands])
  have h2:Aah tm B=Aah tm' B:=Amh fun y j=>h y (by subst j;simp[Op.operands])
  have F:Aah tm C=Aah tm' C:=Amh fun y j=>h y (by subst j;simp[Op.operands])
  simp only[Eu,h0,k,h2,F]
 | unOp u t x=>
  have h0:Cf tm x=Cf tm' x:=h x (by simp[Op.operands]);cases u<;>simp only[Eu,h0]
 | pick c a b=>simp only[Eu,h c (by simp[Op.operands]),h a (by simp[Op.operands]),h b (by simp[Op.operands])]
 | binOp op t x y u=>simp only[Eu,h x (by simp[Op.operands]),h y (by simp[Op.operands])]
 | indexAddr t x y=>simp only[Eu,h x (by simp[Op.operands]),h y (by simp[Op.operands])]
 | index t x y=>simp only[Eu,h x (by simp[Op.operands]),h y (by simp[Op.operands])]
 | move x=>simp only[Eu,h x (by simp[Op.operands])]
 | assign x=>simp only[Eu,h x (by simp[Op.operands])]
 | nilCheck x=>simp only[Eu,h x (by simp[Op.operands])]
 | fieldAddr s x G=>simp only[Eu,h x (by simp[Op.operands])]
 | field s x G=>simp only[Eu,h x (by simp[Op.operands])]
 | convert s d x=>simp only[Eu,h x (by simp[Op.operands])]
 | extract x ix=>simp only[Eu,h x (by simp[Op.operands])]
 | sliceToArrayPointer t x=>simp only[Eu,h x (by simp[Op.operands])]
 | _=>rfl
theorem A8n(h:∀x∈op.operands,Cf tm x=Cf tm' x):Dj T tm op hp=Dj T tm' op hp:=by
 cases op with
 | buildSlice t m ps=>
  have:Yi tm ps.toList=Yi tm' ps.toList:=Am5 fun x e=>h x.2 (by
   simp only[Op.operands,List.mem_toArray,cA];exact⟨x,e,rfl⟩)
  simp only[Dj,this]
 | call c=>
  obtain⟨callee,args,k⟩:=c;cases callee with
  | builtin b=>
   have j:L8 tm args.toList=L8 tm' args.toList:=Aa0 fun x e=>h x (by simp only[Op.operands,Call.operands,Array.mem_append];exact .inr (dB.1 e))
   simp only[Dj,j]
  | _=>rfl
 | select cs bl=>
  cases bl with
  | true=>rfl
  | false=>
   simp only[Dj];split
   ·rename_i c u
    have d:c∈cs:=dB.1 (by rw[u];exact aW);have j:Cf tm c.chan=Cf tm' c.chan:=h c.chan (by
     simp only[Op.operands,Array.mem_flatMap];exact⟨c,d,by simp⟩)
    have h2:∀y,c.send=some y->Cf tm y=Cf tm' y:=fun y A=>h y (by
     simp only[Op.operands,Array.mem_flatMap];exact⟨c,d,by simp[A]⟩)
    rw[j];cases hs:c.send with
    | none=>
     cases Cf tm' c.chan with
     | none=>rfl
     | some v=>cases v<;>rfl
    | some y=>
     cases Cf tm' c.chan with
     | none=>rfl
     | some v=>cases v<;>first|rfl|(simp only[h2 y hs])
   ·rfl
 | makeMap t r=>cases r<;>rfl
 | load t x=>simp only[Dj,h x (by simp[Op.operands])]
 | store t a x=>simp only[Dj,h a (by simp[Op.operands]),h x (by simp[Op.operands])]
 | alloc t=>rfl
 | box t x=>simp only[Dj,h x (by simp[Op.operands])]
 | makeSlice t a x=>simp only[Dj,h a (by simp[Op.operands]),h x (by simp[Op.operands])]
 | makeChan t x=>simp only[Dj,h x (by simp[Op.operands])]
 | lookup t a x ok=>simp only[Dj,h a (by simp[Op.operands]),h x (by simp[Op.operands])]
 | mapUpdate t a x y=>simp only[Dj,h a (by simp[Op.operands]),h x (by simp[Op.operands]),h y (by simp[Op.operands])]
 | _=>rfl
theorem Ber{call:Ai}(h:∀x∈op.operands,Cf tm x=Cf tm' x):aop T call round tm op hp=aop T call round tm' op hp:=by
 unfold aop;rw[A8v h];congr 1;split
 ·rename_i f args a
  have h0:Cf tm f=Cf tm' f:=h f (by simp[Op.operands,Call.operands]);have d:L8 tm args.toList=L8 tm' args.toList:=Aa0 fun x e=>h x (by simp only[Op.operands,Call.operands,Array.mem_append];exact .inr (dB.1 e))
  rw[h0,d]
 ·exact A8n h
end
theorem A74 {j a:Operand->Value}(o:Oper)(d:∀cs b,o.op=.select cs b->∃c,cs = #[c])(h:∀x∈o.op.operands,j x=a x):execOp j o=execOp a o:=by
 by_cases hs:∃cs b,o.op=.select cs b
 ·obtain⟨cs,b,k⟩:=hs
  obtain⟨c,rfl⟩:=d cs b k;rw[k]at h;have u:j c.chan=a c.chan:=h _ (by simp[Op.operands]);have h2:c.send.map j=c.send.map a:=by
   cases hs:c.send with
   | none=>rfl
   | some y=>simp only[dc];rw[h y (by simp[Op.operands,hs])]
  simp only[execOp,k];simp[u,h2]
 ·exact execOp_congr o (fun cs b e=>hs ⟨cs,b,e⟩) h
noncomputable def Abx(tm:Az):List Operand->Az
 | []=>.nil
 | .tmp t::r=>(Abx tm r).put t (tm.get t)
 | _::r=>Abx tm r
open Classical in
theorem Yr(tm:Az):∀(l:List Operand) (t:Nat),(Abx tm l).get t=if .tmp t∈l then tm.get t else none
 | [],t=>by simp[Abx,Tr.get_nil]
 | .tmp u::r,t=>by
  simp only[Abx,Tr.get_put,Yr tm r t,bS,Operand.tmp.injEq];by_cases h:u=t
  ·subst h;simp
  ·rw[aF h];simp[cP h]
 | .const v::r,t=>by simp only[Abx,Yr tm r t,bS,reduceCtorEq,false_or]
 | .global v::r,t=>by simp only[Abx,Yr tm r t,bS,reduceCtorEq,false_or]
 | .func v::r,t=>by simp only[Abx,Yr tm r t,bS,reduceCtorEq,false_or]
theorem Ban(tm:Az){l:List Operand}(a:x∈l):Cf (Abx tm l) x=Cf tm x:=by
 cases x with
 | tmp t=>simp only[Cf];rw[Yr,aH a]
 | const v=>rfl
 | global v=>rfl
 | func v=>rfl
theorem Biz{l:List Operand}(h:∀t,.tmp t∈l->∀v,tm.get t=some v->v.ok p)(d:∀t,n<=t->tm.get t=none):Lb p n (Abx tm l) where
 ok t v a:=by
  rw[Yr]at a;split at a
  ·rename_i hm;exact h t hm v a
  ·cases a
 out t e:=by
  rw[Yr];split
  ·exact d t e
  ·rfl
theorem Bl0{t:TypeId}(A:Cf tm x=some (.ptr q off))(a:Dj T tm (.load t x) h=some (v,h')):
 ∃o,h.get q=some o/\∀h2:Aa,h2.get q=some o->Dj T tm (.load t x) h2=some (v,h2):=by
 have d:∀n l,Ir h q off n=some l->∃o,h.get q=some o/\∀h2:Aa,h2.get q=some o->Ir h2 q off n=some l:=by
  intro n l j;cases y:h.get q with
  | none=>simp[Ir,y]at j
  | some o=>exact⟨o,rfl,fun h2 e=>by unfold Ir at j⊢;rw[e];rw[y]at j;exact j⟩
 simp only[Dj,A]at a⊢;split at a
 ·rename_i B
  split at a
  ·rename_i n C
   split at a
   ·rename_i l j
    cases a;obtain⟨o,k,h2⟩:=d n l j;exact⟨o,k,fun u e=>by simp only[h2 u e]⟩
   ·cases a
  ·cases a
 ·rename_i B
  split at a
  ·rename_i l j
   cases a;obtain⟨o,k,h2⟩:=d 1 _ j;exact⟨o,k,fun u e=>by simp only[h2 u e]⟩
  ·cases a
 ·cases a
theorem Bhb{t:TypeId}{a:Operand}(A:Cf tm a=some (.ptr q off))(d:Dj T tm (.store t a x) h=some (v,h')):
 ∃o o',h.get q=some o/\h'=h.put q o'/\∀h2:Aa,h2.get q=some o->Dj T tm (.store t a x) h2=some (v,h2.put q o'):=by
 have hw:∀vs h',L5 h q off vs=some h'->∃o o',h.get q=some o/\h'=h.put q o'/\∀h2:Aa,h2.get q=some o->L5 h2 q off vs=some (h2.put q o'):=by
  intro vs h' j;unfold L5 at j;split at j
  ·rename_i l B k
   split at j
   ·rename_i l' hs
    cases j;exact⟨_,_,k,rfl,fun h2 e=>by unfold L5;rw[e];simp only[hs]⟩
   ·cases j
  ·rename_i l B sz k
   split at j
   ·rename_i l' hs
    cases j;exact⟨_,_,k,rfl,fun h2 e=>by unfold L5;rw[e];simp only[hs]⟩
   ·cases j
  ·cases j
 simp only[Dj,A]at d⊢;split at d
 ·rename_i H y J L e1 e2 e3
  cases e1;obtain⟨c1,d⟩:=An d;obtain⟨c2,d⟩:=An d;split at d
  ·rename_i M u
   cases d;obtain⟨o,o',C,F,G⟩:=hw _ _ u;refine⟨o,o',C,F,fun h2 e=>?_⟩;simp only[c1,c2,Aj,G h2 e]
  ·cases d
 ·cases d
theorem Avt(h:Atf op=true):∃b args a,op=.call { callee:=.builtin b,args,argTypes:=a }/\(b=.len\/b=.min\/b=.max):=by
 cases op with
 | call c=>
  obtain⟨callee,args,a⟩:=c;cases callee with
  | builtin b=>cases b<;>first|(cases h;done)|exact⟨_,_,_,rfl,by simp⟩
  | _=>cases h
 | _=>cases h
theorem Bi8(hp:Atf op=true)(a:Dj T tm op h=some (v,h')):h'=h:=by
 obtain⟨b,args,d,rfl,hb⟩:=Avt hp;simp only[Dj]at a;split at a
 ·rename_i as has
  rcases hb with rfl|rfl|rfl
  ·match as,a with
   | [x],a=>
    simp only[builtin]at a
    repeat' split at a
    all_goals first|(cases a;done)|(cases a;rfl)
   | [],a=>cases a
   | _::_::_,a=>cases a
  ·match as,a with
   | x::l,a=>
    cases x<;>first|(cases a;done)|skip
    simp only[builtin]at a;split at a
    ·cases a;rfl
    ·cases a
   | [],a=>cases a
  ·match as,a with
   | x::l,a=>
    cases x<;>first|(cases a;done)|skip
    simp only[builtin]at a;split at a
    ·cases a;rfl
    ·cases a
   | [],a=>cases a
 ·cases a
theorem Aq7{call:Ai}(hp:Atf op=true):aop T call round tm op h=Dj T tm op h:=by
 obtain⟨b,args,a,rfl,hb⟩:=Avt hp;rfl
theorem An6(b c:Bool):Ba b Cls.val (Ba c .pur .big)≠.new/\Ba b Cls.val (Ba c .pur .big)≠.load/\Ba b Cls.val (Ba c .pur .big)≠.sto:=by
 cases b<;>cases c<;>exact⟨fun h=>(by cases h),fun h=>(by cases h),fun h=>(by cases h)⟩
theorem A3b(h:cls op=.new):(∃t,op=.alloc t)\/(∃t x,op=.box t x)\/(∃t n ps,op=.buildSlice t n ps)\/(∃t a b,op=.makeSlice t a b)\/(∃t r,op=.makeMap t r)\/(∃t x,op=.makeChan t x):=by
 cases op<;>first
  | (rename_i c;exact absurd (show Ba false Cls.val (Ba (Atf (.call c)) .pur .big)=.new from h) (An6 _ _).1)
  | exact absurd h (An6 _ _).1
  | (cases h;done)
  | exact .inl ⟨_,rfl⟩|exact .inr (.inl ⟨_,_,rfl⟩)|exact .inr (.inr (.inl ⟨_,_,_,rfl⟩))|exact .inr (.inr (.inr (.inl ⟨_,_,_,rfl⟩)))
  | exact .inr (.inr (.inr (.inr (.inl ⟨_,_,rfl⟩))))|exact .inr (.inr (.inr (.inr (.inr ⟨_,_,rfl⟩))))
theorem Bnp(u:cls op=.new)(d:Dj T tm op h=some (v,h')):
 ∃o,h'=h.new o/\∀h2:Aa,h2.next=h.next->Dj T tm op h2=some (v,h2.new o):=by
 rcases A3b u with⟨t,rfl⟩|⟨t,x,rfl⟩|⟨t,n,ps,rfl⟩|⟨t,a,b,rfl⟩|⟨t,r,rfl⟩|⟨t,x,rfl⟩
 ·simp only[Dj]at d⊢
  split at d
  ·cases d;exact⟨_,rfl,fun h2 e=>by rw[e]⟩
  ·cases d
 ·simp only[Dj]at d⊢
  split at d
  ·obtain⟨k,j⟩:=An d
   cases j;exact⟨_,rfl,fun h2 e=>by rw[k,e];rfl⟩
  ·cases d
 ·simp only[Dj]at d⊢
  split at d
  ·split at d
   ·obtain⟨k,j⟩:=An d
    split at j
    ·rename_i A
     cases j;exact⟨_,rfl,fun h2 e=>by rw[k,e];rfl⟩
    ·cases j
   ·cases d
  ·cases d
 ·simp only[Dj]at d⊢
  split at d
  ·split at d
   ·obtain⟨k,j⟩:=An d
    obtain⟨h4,y⟩:=An j;cases y;exact⟨_,rfl,fun h2 e=>by rw[k,h4,e];rfl⟩
   ·cases d
  ·cases d
 ·cases r with
  | none=>cases d;exact⟨_,rfl,fun h2 e=>by simp only[Dj,e]⟩
  | some r=>cases d
 ·simp only[Dj]at d⊢
  split at d
  ·split at d
   ·obtain⟨k,j⟩:=An d
    cases j;exact⟨_,rfl,fun h2 e=>by rw[k,e];rfl⟩
   ·cases d
  ·cases d
end
theorem Ho(i j:Nat):(Nat.shiftLeft 1 i).testBit j=decide (i=j):=by
 have:Nat.shiftLeft 1 i=2^i:=by
  have:=Nat.one_shiftLeft i;exact this
 rw[this,Nat.testBit_two_pow]
theorem My(a b j:Nat):(Nat.lor a b).testBit j=(a.testBit j||b.testBit j):=Nat.testBit_or a b j
theorem Akd(a b j:Nat):(Nat.land a b).testBit j=(a.testBit j&&b.testBit j):=Nat.testBit_and a b j
theorem Anw {x:Nat}(h:within x b=true){j:Nat}(hj:x.testBit j=true):b.testBit j=true:=by
 have e:Nat.land x b=x:=aJ h;rw[<-e,Akd]at hj;simpa using(Bool.and_eq_true_iff.1 hj).2
theorem A2p(h:b.testBit i=false):within (Nat.shiftLeft 1 i) b=false:=by
 cases hw:within (Nat.shiftLeft 1 i) b with
 | false=>rfl
 | true=>rw[Anw hw (j:=i) (by rw[Ho];simp)]at h;cases h
theorem A1u {x y:Nat}(h:Nat.land x y=0)(a:x.testBit t=true):y.testBit t=false:=by
 have:(Nat.land x y).testBit t=false:=by rw[h];exact dT t
 rw[Akd,a]at this;simpa using this
theorem Bis {x y:Nat}(h:Nat.lor x y=0):x=0/\y=0:=by
 have a:∀t,x.testBit t=false/\y.testBit t=false:=by
  intro t;have:(Nat.lor x y).testBit t=false:=by rw[h];exact dT t
  rw[My]at this;simpa using this
 exact⟨Nat.eq_of_testBit_eq fun t=>by rw[(a t).1,dT],Nat.eq_of_testBit_eq fun t=>by rw[(a t).2,dT]⟩
theorem Ap8(bs:Tr Nat):∀(l:List Edge) (x:Nat) (j:Nat),(Aiq bs l x).testBit j=true ->
 x.testBit j=true\/∃e∈l,Aa1 e=true/\(j=e.on\/∃y,bs.get e.on=some y/\y.testBit j=true)
 | [],x,j,h=>.inl h
 | e::r,x,j,h=>by
  simp only[Aiq]at h;rcases Ap8 bs r _ j h with h|⟨e',he,a,h2⟩
  ·rw[Bn]at h
   split at h
   ·rename_i hb
    rw[My,My,Ho]at h;simp only[dR,aU]at h;rcases h with h|h|h
    ·exact .inl h
    ·exact .inr ⟨e,aW,hb,.inl h.symm⟩
    ·refine .inr ⟨e,aW,hb,.inr ?_⟩
     split at h
     ·rename_i y d;exact⟨y,d,h⟩
     ·rw[dT]at h;cases h
   ·exact .inl h
  ·exact .inr ⟨e',aR _ he,a,h2⟩
theorem Avm(l:List Oper):∀(i:Nat) (bs:Tr Nat) (j:Nat),j<i->(Nz l i bs).get j=bs.get j:=by
 induction l with
 | nil=>intros;rfl
 | cons o r a=>
  intro i bs j hj;simp only[Nz];rw[a _ _ _ (Nat.lt_succ_of_lt hj),Tr.Af _ _ (by omega)]
theorem Ajr(l:List Oper):∀(i:Nat) (bs:Tr Nat),(∀j,i<=j->bs.get j=none)->∀(k:Nat) (o:Oper),l[k]? = some o ->
 ∃b,(Nz l i bs).get (i+k)=some b/\∀j,b.testBit j=true->∃e∈o.after.toList,Aa1 e=true/\(j=e.on\/∃y,(Nz l i bs).get e.on=some y/\y.testBit j=true):=by
 induction l with
 | nil=>intro i bs _ k o h;simp at h
 | cons o' r u=>
  intro i bs d k o h;simp only[Nz];cases k with
  | zero=>
   simp only[bH,cN]at h;subst h;refine⟨Aiq bs o'.after.toList 0,?_,fun j hj=>?_⟩
   ·rw[dO,Avm _ _ _ _ (by omega),Tr.Ae]
   ·rcases Ap8 bs _ _ j hj with h|⟨e,he,A,h2⟩
    ·rw[dT]at h;cases h
    ·refine⟨e,he,A,h2.imp id ?_⟩
     rintro⟨y,a,hj⟩;have:e.on<i:=by
      cases cU e.on i with
      | inl h=>exact h
      | inr h=>rw[d _ h]at a;cases a
     exact⟨y,by rw[Avm _ _ _ _ (by omega),Tr.Af _ _ (by omega)];exact a,hj⟩
  | succ k=>
   have:=u (i+1) (bs.put i (some (Aiq bs o'.after.toList 0))) (fun j hj=>by rw[Tr.Af _ _ (by omega)];exact d j (by omega)) k o (by simpa using h);rw[show i+1+k=i+(k+1) by omega]at this;exact this
theorem Wq:∀(l:List Operand) (x t:Nat),(Adg l x).testBit t=true↔x.testBit t=true\/.tmp t∈l
 | [],x,t=>by simp[Adg]
 | .tmp u::r,x,t=>by
  simp only[Adg];rw[Wq r,My,Ho];simp only[dR,aU,bS,Operand.tmp.injEq];constructor
  ·rintro((h|h)|h)
   ·exact .inl h
   ·exact .inr (.inl h.symm)
   ·exact .inr (.inr h)
  ·rintro(h|h|h)
   ·exact .inl (.inl h)
   ·exact .inl (.inr h.symm)
   ·exact .inr h
 | .const v::r,x,t=>by simp only[Adg];rw[Wq r];simp
 | .global v::r,x,t=>by simp only[Adg];rw[Wq r];simp
 | .func v::r,x,t=>by simp only[Adg];rw[Wq r];simp
theorem Adb(o:Oper)(t:Nat):(Ahn o).testBit t=true↔o.dst=some t:=by
 unfold Ahn;cases o.dst with
 | none=>simp
 | some d=>simp only[Ho,aU,cN]
def A5x(ops:List Oper)(o:Oper)(t:Nat):Prop:=.tmp t∈o.op.operands.toList\/∃j want g,o.guard=some (j,want)/\ops[j]? = some g/\g.dst=some t
theorem Amo(ops:List Oper)(o:Oper)(t:Nat):(Yw ops o).testBit t=true↔A5x ops o t:=by
 unfold Yw A5x;rw[My,dR,Wq,dT];apply or_congr
 ·simp
 ·cases e:o.guard with
  | none=>simp
  | some x=>
   obtain⟨j,want⟩:=x;simp only[Aw2,cN,Prod.mk.injEq];cases hj:ops[j]? with
   | none=>
    simp only[dT,aX,false_iff];rintro⟨a,w',g,⟨rfl,_⟩,h2,_⟩;rw[hj]at h2;cases h2
   | some g=>
    simp only[];rw[Adb];constructor
    ·intro h;exact⟨j,want,g,⟨rfl,rfl⟩,hj,h⟩
    ·rintro⟨a,w',k,⟨rfl,_⟩,h2,d⟩
     rw[hj]at h2;cases h2;exact d
theorem Atx(e l' b:Nat):∀(ms:List (Nat × Nat)) (j k d l:Nat),As6 e l' b ms j=true->ms[k]? = some (d,l)->A4p (j+k) d l e l' b=true
 | [],_,_,_,_,_,h=>by simp at h
 | (d,l)::r,j,0,d0,l0,h,a=>by
  simp only[bH,cN,Prod.mk.injEq]at a;simp only[As6]at h;rw[Bn]at h;split at h
  ·rename_i hp;rw[<-a.1,<-a.2];exact hp
  ·cases h
 | (d,l)::r,j,k+1,d0,l0,h,a=>by
  simp only[As6]at h;rw[Bn]at h;split at h
  ·have:=Atx e l' b r (j+1) k d0 l0 h (by simpa using a)
   rw[show j+1+k=j+(k+1) by omega]at this;exact this
  ·cases h
theorem Avk(ops:List Oper)(bs:Tr Nat):∀(l:List Oper) (i:Nat) (ms:List (Nat × Nat)),Aju ops bs l i ms=true->ms.length=i->∀k o,l[k]? = some o ->
 ∃b,bs.get (i+k)=some b/\∀j d l',(ms++l.map fun o=>(Ahn o,Yw ops o))[j]? = some (d,l')->j<i+k->A4p j d l' (Ahn o) (Yw ops o) b=true
 | [],_,_,_,_,_,_,h=>by simp at h
 | o'::r,i,ms,h,hm,0,o,a=>by
  simp only[bH,cN]at a;subst a;simp only[Aju]at h;split at h
  ·rename_i b hb
   rw[Bn]at h;split at h
   ·rename_i hp
    refine⟨b,hb,fun j d l' hj e=>?_⟩;have:ms[j]? = some (d,l'):=by rw[bX (by omega)]at hj;exact hj
    have:=Atx _ _ _ ms 0 j d l' hp this
    rwa [bK]at this
   ·cases h
  ·cases h
 | o'::r,i,ms,h,hm,k+1,o,a=>by
  simp only[Aju]at h;split at h
  ·rename_i b hb
   rw[Bn]at h;split at h
   ·obtain⟨u,y,h2⟩:=Avk ops bs r (i+1) _ h (by simp[hm]) k o (by simpa using a)
    refine⟨u,by rw[<-y];congr 1;omega,fun j d l' hj e=>h2 j d l' ?_ (by omega)⟩;rw[cR];simpa using hj
   ·cases h
  ·cases h
theorem Arr {ops:List Oper}{bs:Tr Nat}(h:Aju ops bs ops 0 []=true){j a:Oper}(y:ops[i]? = some j)(hm:ops[m]? = some a)(A:i<m)(hb:bs.get m=some b)(B:b.testBit i=false):
 (∀t,j.dst=some t->a.dst≠some t/\¬A5x ops a t)/\(∀t,A5x ops j t->a.dst≠some t):=by
 obtain⟨G,k,h2⟩:=Avk ops bs ops 0 [] h rfl m a hm;rw[bK]at k;rw[hb]at k;cases k;have:=h2 i (Ahn j) (Yw ops j) (by simp[y]) (by omega);unfold A4p at this;have C:Nat.beq (Nat.land b (Nat.shiftLeft 1 i)) 0=true:=by
  have:Nat.land b (Nat.shiftLeft 1 i)=0:=Nat.eq_of_testBit_eq fun t=>by
   rw[Akd,Ho,dT];by_cases e:i=t
   ·subst e;simp[B]
   ·simp[e]
  rw[this];rfl
 rw[C,Aj]at this;obtain⟨z1,F⟩:=Bis (aJ this);refine⟨fun t u=>?_,fun t u hd=>?_⟩
 ·have d:=A1u z1 ((Adb j t).2 u)
  rw[My,Bool.or_eq_false_iff]at d;refine⟨fun e=>?_,fun e=>?_⟩
  ·rw[(Adb a t).2 e]at d;exact absurd d.1 (by simp)
  ·rw[(Amo ops a t).2 e]at d;exact absurd d.2 (by simp)
 ·have d:=A1u F ((Amo ops j t).2 u)
  rw[(Adb a t).2 hd]at d;cases d
theorem Ayo(i:Nat):∀(l:List Edge),Ba0 i l=true->∀e∈l,Aa1 e=true->e.on<i
 | [],_,e,he,_=>by simp at he
 | a::r,h,e,he,hb=>by
  simp only[Ba0]at h;rw[Bn]at h;split at h
  ·rename_i d
   rcases bS.1 he with rfl|he
   ·rw[hb,Aj]at d;exact bG d
   ·exact Ayo i r h e he hb
  ·cases h
theorem Av9:∀(l:List Oper) (i:Nat),Aml l i=true->∀k o,l[k]? = some o->∀e∈o.after.toList,Aa1 e=true->e.on<i+k
 | [],_,_,_,_,h=>by simp at h
 | a::r,i,h,0,o,d=>by
  simp only[bH,cN]at d;subst d;simp only[Aml]at h;rw[Bn]at h;split at h
  ·rename_i hb;exact Ayo i _ hb
  ·cases h
 | a::r,i,h,k+1,o,d=>by
  simp only[Aml]at h;rw[Bn]at h;split at h
  ·intro e he hb
   have:=Av9 r (i+1) h k o (by simpa using d) e he hb;omega
  ·cases h
section
open Classical
inductive Kd where
 | idle|load (q:Nat)|new|sto (q:Nat)|big (mw:Nat)
def bare(n:Nat):Aa:=⟨.nil,n,n⟩
theorem Bkl(n q:Nat):(bare n).get q=none:=rfl
noncomputable def Aoe(n q:Nat)(o:Dt):Aa:=⟨Tr.nil.put q (some o),n,n⟩
theorem Nm(n q:Nat)(o:Dt)(r:Nat):(Aoe n q o).get r=if q=r then some o else none:=by
 show(Tr.nil.put q (some o)).get r=_;rw[Tr.get_put];rfl
structure Sd(T:H7)(call round:Ai)(n:Nat)(ops:List Oper)(bs:Tr Nat)(base:Nat)(o:Oper)(i:Nat)(s s':DSt)(v:EV)(E E':Aa)(kd:Kd):Prop where
 tm:s'.tm=Pc n s.tm o.dst v
 run:(wanted ops s.tm o.guard=false/\v=.tuple []/\E'=E)\/(wanted ops s.tm o.guard=true/\aop T call round s.tm o.op E=some (v,E'))
 Ae2:E.next=s.h.next
 Adx:E'.next=s'.h.next
 sub:∀q x,E.get q=some x->s.h.get q=some x
 Bjs:∀q,s'.h.get q=if E'.get q=E.get q then s.h.get q else E'.get q
 w:AWf E E'
 mw:s'.h.mw<=s.h.mw/\∀q,q<s'.h.mw->q<s.h.next->E'.get q=E.get q
 kd:match kd with
  | .idle=>E=bare s.h.next/\E'=E/\s'.bg=s.bg/\s'.nw=s.nw/\s'.Cs=s.Cs/\s'.lou=s.lou/\s'.st=s.st
  | .load q=>(∃x,E=Aoe s.h.next q x)/\E'=E/\s'.bg=s.bg/\s'.nw=s.nw/\s'.Cs=(Nat.shiftLeft 1 i,q)::s.Cs/\s'.lou=s.lou/\s'.st=s.st /\
   ∃b,bs.get i=some b/\E8 b q s.st=true/\((q<base/\Wl b q s.lou=true)\/(base<=q/\within s.bg b=true/\loose b s.nw = []))
  | .new=>E=bare s.h.next/\(∃x,E'=E.new x)/\s'.bg=s.bg/\s'.nw=(Nat.shiftLeft 1 i,s.h.next)::s.nw/\s'.Cs=s.Cs/\s'.lou=s.lou/\s'.st=s.st
  | .sto q=>(∃x y,E=Aoe s.h.next q x/\E'=E.put q y)/\s'.bg=s.bg/\s'.nw=s.nw/\s'.Cs=s.Cs/\s'.lou=s.lou/\s'.st=(Nat.shiftLeft 1 i,q)::s.st /\
   ∃b,bs.get i=some b/\within s.bg b=true/\E8 b q s.st=true/\E8 b q s.Cs=true/\Ayj q (loose b s.nw)=true
  | .big mw=>∃b,bs.get i=some b/\within s.bg b=true/\Avv b s.st=true/\(∀q,E.get q=if q∈loose b s.nw then none else s.h.get q)/\s'.bg=Nat.lor s.bg (Nat.shiftLeft 1 i)/\s'.nw=s.nw/\s'.Cs=s.Cs/\s'.st=s.st /\
   (∀q,q<mw->q<s.h.next->E'.get q=E.get q)/\((s.h.next<=mw/\s'.lou=s.lou)\/(Wz b mw s.Cs=true/\s'.lou=(Nat.shiftLeft 1 i,mw)::s.lou))
theorem Aot:∀{l:List (Nat × Nat)} {q:Nat},q∈loose b l↔∃m,(m,q)∈l/\within m b=false
 | [],q=>by simp[loose]
 | (m,r)::l,q=>by
  simp only[loose];rw[Bn];split
  ·rename_i h
   rw[Aot];constructor
   ·rintro⟨d,a,h2⟩;exact⟨d,aR _ a,h2⟩
   ·rintro⟨d,a,h2⟩
    rcases bS.1 a with e|a
    ·cases e;rw[h]at h2;cases h2
    ·exact⟨d,a,h2⟩
  ·rename_i h
   rw[bS,Aot];constructor
   ·rintro(rfl|⟨d,a,h2⟩)
    ·exact⟨m,aW,by simpa using h⟩
    ·exact⟨d,aR _ a,h2⟩
   ·rintro⟨d,a,h2⟩
    rcases bS.1 a with e|a
    ·cases e;exact .inl rfl
    ·exact .inr ⟨d,a,h2⟩
theorem Aqz(t:Tr Dt):∀(l:List Nat) (q:Nat),(Abi t l).get q=if q∈l then none else t.get q
 | [],q=>by simp[Abi]
 | a::r,q=>by
  simp only[Abi,Tr.get_put,Aqz t r q,bS];by_cases h:a=q
  ·subst h;simp
  ·rw[aF h];simp[cP h]
theorem Arj(t d:Tr Dt):∀(l:List Nat) (q:Nat),(Abf t d l).get q=if q∈l then t.get q else d.get q
 | [],q=>by simp[Abf]
 | a::r,q=>by
  simp only[Abf,Tr.get_put,Arj t d r q,bS];by_cases h:a=q
  ·subst h;simp
  ·rw[aF h];simp[cP h]
theorem Bix{call:Ai}(d:isV op=true)(a:Eu T tm op=some v):aop T call round tm op h=some (v,h):=by
 unfold aop;rw[d,Aj,a]
theorem A44 {b c:Bool}(h:Ba b Cls.val (Ba c .pur .big)=.val):b=true:=by
 cases b<;>cases c<;>first|rfl|(cases h)
theorem A3t(h:cls op=.val):isV op=true:=by
 cases op<;>first|rfl|(rename_i c;exact absurd (A44 (show Ba false Cls.val (Ba (Atf (.call c)) .pur .big)=.val from h)) (by simp))|exact A44 h|(cases h)
theorem A6w {b c:Bool}(h:Ba b Cls.val (Ba c .pur .big)=.pur):c=true:=by
 cases b<;>cases c<;>first|rfl|(cases h)
theorem Aw5(h:cls op=.pur):Atf op=true:=by
 cases op<;>first|(rename_i c;exact A6w (show Ba false Cls.val (Ba (Atf (.call c)) .pur .big)=.pur from h))|exact A6w h|(cases h)
theorem As9{call:Ai}(a:isV op=false)(d:∀c,op≠.call c):aop T call round tm op h=Dj T tm op h:=by
 unfold aop;rw[a,Bl];split
 ·exact absurd rfl (d _)
 ·rfl
theorem A02(h:cls op=.new):isV op=false/\∀c,op≠.call c:=by
 rcases A3b h with⟨t,rfl⟩|⟨t,x,rfl⟩|⟨t,n,ps,rfl⟩|⟨t,a,b,rfl⟩|⟨t,r,rfl⟩|⟨t,x,rfl⟩<;>exact⟨rfl,fun _ h=>by cases h⟩
section
variable{call:Ai}(hC:U7 call)(hR:U7 round){ops:List Oper}{bs:Tr Nat}
include hC hR in
theorem Ayk{s s':DSt}(h:U9 T call round n ops bs base o i s=some s')(ad:∀x∈s.nw,x.2<s.h.next):
 ∃v E E' kd,Sd T call round n ops bs base o i s s' v E E' kd:=by
 obtain⟨dst,op,ty,ps,af,g⟩:=o;obtain⟨tm,hp,bg,nw,Cs,lou,st⟩:=s;simp only[U9]at h;rw[Bn]at h;split at h
 ·rename_i hw
  split at h
  ·cases h
  ·rename_i b hb
   split at h
   ·rename_i C
    split at h
    ·rename_i v hv
     cases h;exact⟨v,bare hp.next,bare hp.next,.idle,rfl,.inr ⟨hw,Bix (A3t C) hv⟩,rfl,rfl,fun q x A=>(by cases A),fun q=>(by simp),.refl _,⟨aE _,fun _ _ _=>rfl⟩,rfl,rfl,rfl,rfl,rfl,rfl,rfl⟩
    ·cases h
   ·rename_i C
    split at h
    ·rename_i t x
     split at h
     ·rename_i q off A
      obtain⟨d,h⟩:=An h;split at h
      ·rename_i v h' k
       cases h;obtain⟨ob,L,U⟩:=Bl0 A k;refine⟨v,Aoe hp.next q ob,Aoe hp.next q ob,.load q,rfl,.inr ⟨hw,?_⟩,rfl,rfl,fun r x M=>?_,fun q=>(by simp),.refl _,⟨aE _,fun _ _ _=>rfl⟩,⟨_,rfl⟩,rfl,rfl,rfl,rfl,rfl,rfl,b,hb,?_⟩
       ·rw[As9 rfl (fun _ e=>by cases e)]
        exact U _ (by rw[Nm,aH rfl])
       ·rw[Nm]at M
        split at M
        ·rename_i e;subst e;cases M;exact L
        ·cases M
       ·rw[Bn]at d
        split at d
        case isFalse=>cases d
        rename_i host;refine⟨host,?_⟩;rw[Bn]at d;split at d
        ·rename_i J;exact .inl ⟨bG J,d⟩
        ·rename_i J
         refine .inr ⟨?_,?_⟩
         ·cases cU q base with
          | inl h=>exact absurd (Aap h) J
          | inr h=>exact h
         ·rw[Bn]at d
          split at d
          ·rename_i F
           refine⟨F,?_⟩;simp only[];split at d
           ·rename_i e;exact e
           ·cases d
          ·cases d
      ·cases h
     ·cases h
    ·cases h
   ·rename_i C
    split at h
    ·rename_i v h' k
     cases h;obtain⟨x,rfl,ae⟩:=Bnp C k;refine⟨v,bare hp.next,(bare hp.next).new x,.new,rfl,.inr ⟨hw,?_⟩,rfl,rfl,fun q x A=>(by cases A),fun q=>?_,.new _ _,⟨aE _,fun q _ h2=>?_⟩,rfl,⟨x,rfl⟩,rfl,rfl,rfl,rfl,rfl⟩
     ·rw[As9 (A02 C).1 (A02 C).2]
      exact ae _ rfl
     ·show(hp.new x).get q=_
      rw[Aa.K1,Aa.K1,Bkl];show(if hp.next=q then some x else hp.get q)=if(if hp.next=q then some x else none)=none then hp.get q else if hp.next=q then some x else none
      by_cases e:hp.next=q
      ·rw[aH e,aH e,aF (by simp)]
      ·rw[aF e,aF e,aH rfl]
     ·have aj:q<hp.next:=h2
      rw[Aa.K1,aF];show ¬hp.next=q
      omega
    ·cases h
   ·
    rename_i C;split at h
    ·rename_i t a x
     split at h
     ·rename_i q off ha
      obtain⟨d,h⟩:=An h;split at h
      ·rename_i v h' k
       cases h;obtain⟨ob,G,L,rfl,U⟩:=Bhb ha k;have ag:within bg b=true/\E8 b q st=true/\E8 b q Cs=true/\Ayj q (loose b nw)=true:=by
        rw[Bn]at d;split at d
        case isFalse=>cases d
        rename_i c1;rw[Bn]at d;split at d
        case isFalse=>cases d
        rename_i c2;rw[Bn]at d;split at d
        case isFalse=>cases d
        rename_i c3;exact⟨c1,c2,c3,d⟩
       have Z:(Aoe hp.next q ob).get q=some ob:=by rw[Nm,aH rfl]
       refine⟨v,Aoe hp.next q ob,(Aoe hp.next q ob).put q G,.sto q,rfl,.inr ⟨hw,?_⟩,rfl,rfl,fun r x M=>?_,fun r=>?_,.put Z _,⟨?_,fun r B h2=>?_⟩,⟨_,_,rfl,rfl⟩,rfl,rfl,rfl,rfl,rfl,b,hb,ag⟩
       ·rw[As9 rfl (fun _ e=>by cases e)]
        exact U _ Z
       ·rw[Nm]at M
        split at M
        ·rename_i e;subst e;cases M;exact L
        ·cases M
       ·show(hp.put q G).get r=_
        rw[Aa.get_put,Aa.get_put,Nm];by_cases e:q=r
        ·subst e
         rw[aH rfl,aH rfl,aH rfl];by_cases e2:some G=some ob
         ·rw[aH e2,e2];exact L.symm
         ·rw[aF e2]
        ·rw[aF e,aF e,aF e,aH rfl]
       ·show(hp.put q G).mw<=hp.mw
        rw[Aa.Am7];exact Nat.min_le_right _ _
       ·have W:r<(hp.put q G).mw:=B
        rw[Aa.Am7]at W;rw[Aa.get_put,aF (by omega)]
      ·cases h
     ·cases h
    ·cases h
   ·
    rename_i C;split at h
    ·rename_i v h' k
     cases h;have:=Bi8 (Aw5 C) k;subst this;exact⟨v,bare hp.next,bare hp.next,.idle,rfl,.inr ⟨hw,(Aq7 (Aw5 C)).trans k⟩,rfl,rfl,fun q x A=>(by cases A),fun q=>(by simp),.refl _,⟨aE _,fun _ _ _=>rfl⟩,rfl,rfl,rfl,rfl,rfl,rfl,rfl⟩
    ·cases h
   ·rename_i C
    obtain⟨u,h⟩:=An h;have F:within bg b=true:=by
     rw[Bn]at u;split at u
     ·rename_i c1;exact c1
     ·cases u
    have aa:Avv b st=true:=by rw[F,Aj]at u;exact u
    obtain⟨t,nx,mw⟩:=hp;simp only[]at h;split at h
    ·rename_i v H y j k
     have hwf:=Bm7 hC hR k;have Y:∀q,(⟨Abi t (loose b nw),nx,nx⟩:Aa).get q=if q∈loose b nw then none else(⟨t,nx,mw⟩:Aa).get q:=fun q=>Aqz t _ q
     have O:∀q x,(⟨Abi t (loose b nw),nx,nx⟩:Aa).get q=some x->(⟨t,nx,mw⟩:Aa).get q=some x:=by
      intro q x A;rw[Y]at A;split at A
      ·cases A
      ·exact A
     have ab:∀X q,(⟨Abf t H (loose b nw),y,X⟩:Aa).get q=if(⟨H,y,j⟩:Aa).get q=(⟨Abi t (loose b nw),nx,nx⟩:Aa).get q then(⟨t,nx,mw⟩:Aa).get q else(⟨H,y,j⟩:Aa).get q:=by
      intro X q;have e1:(⟨Abf t H (loose b nw),y,X⟩:Aa).get q=if q∈loose b nw then t.get q else H.get q:=Arj t H _ q
      rw[e1];by_cases J:q∈loose b nw
      ·rw[aH J]
       by_cases he:(⟨H,y,j⟩:Aa).get q=(⟨Abi t (loose b nw),nx,nx⟩:Aa).get q
       ·rw[aH he];rfl
       ·exfalso
        apply he;rw[Y,aH J];cases A:(⟨H,y,j⟩:Aa).get q with
        | none=>rfl
        | some o=>
         rcases hwf.live q o A with⟨o',B⟩|B
         ·rw[Y,aH J]at B;cases B
         ·obtain⟨m,hm,_⟩:=Aot.1 J
          have h2:q<nx:=ad _ hm;have h3:nx<=q:=B;omega
      ·rw[aF J]
       by_cases he:(⟨H,y,j⟩:Aa).get q=(⟨Abi t (loose b nw),nx,nx⟩:Aa).get q
       ·rw[aH he]
        have:H.get q=(⟨H,y,j⟩:Aa).get q:=rfl;rw[this,he,Y,aF J]
       ·rw[aF he];rfl
     rw[Bn]at h;split at h
     ·rename_i hm
      cases h;exact⟨v,_,_,.big j,rfl,.inr ⟨hw,k⟩,rfl,rfl,O,ab _,hwf,⟨aE _,fun q B h2=>hwf.same q (aK h2 (bG hm)) h2⟩,b,hb,F,aa,Y,rfl,rfl,rfl,rfl,fun q B h2=>hwf.same q B h2,.inl ⟨bG hm,rfl⟩⟩
     ·obtain⟨ah,h⟩:=An h
      cases h;have Q:Ba (Nat.ble mw j) mw j=min mw j:=by
       rw[Bn];by_cases e:mw<=j
       ·rw[Aap e,aH rfl,eH e]
       ·rw[Adj e,aF (by simp),Nat.min_eq_right (by omega)]
      refine⟨v,_,_,.big j,rfl,.inr ⟨hw,k⟩,rfl,rfl,O,ab _,hwf,⟨?_,fun q B h2=>hwf.same q ?_ h2⟩,b,hb,F,aa,Y,rfl,rfl,rfl,rfl,fun q B h2=>hwf.same q B h2,.inr ⟨ah,rfl⟩⟩
      ·show Ba (Nat.ble mw j) mw j<=mw
       rw[Q];exact Nat.min_le_left _ _
      ·have W:q<Ba (Nat.ble mw j) mw j:=B
       rw[Q]at W;show q<j;omega
    ·cases h
 ·rename_i hw
  cases h;exact⟨.tuple [],bare hp.next,bare hp.next,.idle,rfl,.inl ⟨by simpa using hw,rfl,rfl⟩,rfl,rfl,fun q x A=>(by cases A),fun q=>(by simp),.refl _,⟨aE _,fun _ _ _=>rfl⟩,rfl,rfl,rfl,rfl,rfl,rfl,rfl⟩
end
end
variable {K:Nat->Kd}
section
open Classical
theorem Atj:∀{l:List (Nat × Nat)},Wl b q l=true->∀{m w:Nat},(m,w)∈l->within m b=true\/q<w
 | [],_,m,w,h=>by simp at h
 | (d,w')::r,h,m,w,hm=>by
  simp only[Wl]at h;rw[Bn]at h;split at h
  ·rename_i a
   rcases bS.1 hm with e|hm
   ·cases e
    rw[Bn]at a;split at a
    ·rename_i hw;exact .inl hw
    ·exact .inr (bG a)
   ·exact Atj h hm
  ·cases h
theorem Apy {w:Nat}:∀{l:List (Nat × Nat)},Wz b w l=true->∀{m q:Nat},(m,q)∈l->within m b=true\/q<w
 | [],_,m,q,h=>by simp at h
 | (d,q')::r,h,m,q,hm=>by
  simp only[Wz]at h;rw[Bn]at h;split at h
  ·rename_i a
   rcases bS.1 hm with e|hm
   ·cases e
    rw[Bn]at a;split at a
    ·rename_i hw;exact .inl hw
    ·exact .inr (bG a)
   ·exact Apy h hm
  ·cases h
theorem Xw:∀{l:List (Nat × Nat)},E8 b q l=true->∀{m r:Nat},(m,r)∈l->within m b=true\/q≠r
 | [],_,m,r,h=>by simp at h
 | (d,j)::l,h,m,r,hm=>by
  simp only[E8]at h;rw[Bn]at h;split at h
  ·rename_i a
   rcases bS.1 hm with e|hm
   ·cases e
    rw[Bn]at a;split at a
    ·rename_i hw;exact .inl hw
    ·refine .inr fun e=>?_
     subst e;rw[show Nat.beq q q=true from cK q]at a;cases a
   ·exact Xw h hm
  ·cases h
theorem Ax9:∀{l:List (Nat × Nat)},Avv b l=true->∀{m r:Nat},(m,r)∈l->within m b=true
 | [],_,m,r,h=>by simp at h
 | (d,j)::l,h,m,r,hm=>by
  simp only[Avv]at h;rw[Bn]at h;split at h
  ·rename_i a
   rcases bS.1 hm with e|hm
   ·cases e;exact a
   ·exact Ax9 h hm
  ·cases h
theorem Axx:∀{l:List Nat},Ayj q l=true->q ∉ l
 | [],_=>by simp
 | r::l,h=>by
  simp only[Ayj]at h;rw[Bn]at h;split at h
  ·cases h
  ·rename_i a
   intro hm;rcases bS.1 hm with e|hm
   ·subst e;exact a (cK q)
   ·exact Axx h hm
section
variable{call:Ai}(hC:U7 call)(hR:U7 round){ops:List Oper}{bs:Tr Nat}
theorem Aty:∀{l:List Oper} {i:Nat} {s r:DSt},Rn T call round n ops bs base l i s=some r ->
 ∃σ:Nat->DSt,σ i=s/\σ (i+l.length)=r/\∀k o,l[k]? = some o->U9 T call round n ops bs base o (i+k) (σ (i+k))=some (σ (i+k+1))
 | [],i,s,r,h=>by cases h;exact⟨fun _=>s,rfl,rfl,fun k o h=>by simp at h⟩
 | o::l,i,s,r,h=>by
  simp only[Rn]at h;split at h
  ·rename_i s' hs
   obtain⟨σ,e,h2,j⟩:=Aty h;have a:σ (i+1)=s':=e;refine⟨fun m=>if m=i then s else σ m,aH rfl,?_,fun k o' d=>?_⟩
   ·show(if i+(l.length+1)=i then s else σ (i+(l.length+1)))=r
    rw[aF (by omega),<-h2];congr 1;show i+(l.length+1)=i+1+l.length;omega
   ·cases k with
    | zero=>
     simp only[bH,cN]at d;subst d;show U9 T call round n ops bs base o i (if i=i then s else σ i)=some (if i+1=i then s else σ (i+1));rw[aH rfl,aF (by omega),a];exact hs
    | succ k=>
     have:=j k o' (by simpa using d);have e1:i+(k+1)=i+1+k:=by omega
     show U9 T call round n ops bs base o' (i+(k+1)) (if i+(k+1)=i then s else σ (i+(k+1)))=some (if i+(k+1)+1=i then s else σ (i+(k+1)+1));rw[aF (by omega),aF (by omega),e1];exact this
  ·cases h
structure Trc(T:H7)(call round:Ai)(n:Nat)(ops:List Oper)(bs:Tr Nat)(base:Nat)(σ:Nat->DSt)(V:Nat->EV)(E E':Nat->Aa)(K:Nat->Kd):Prop where
 sd:∀i o,ops[i]? = some o->Sd T call round n ops bs base o i (σ i) (σ (i+1)) (V i) (E i) (E' i) (K i)
 lt:∀i,i<=ops.length->∀q x,(σ i).h.get q=some x->q<(σ i).h.next
 base:base=(σ 0).h.next
include hC hR in
theorem Bnz {s r:DSt}(h:Rn T call round n ops bs s.h.next ops 0 s=some r)(u:∀q x,s.h.get q=some x->q<s.h.next)(A:s.nw = []):
 ∃σ V E E' K,σ 0=s/\σ ops.length=r/\Trc T call round n ops bs s.h.next σ V E E' K:=by
 obtain⟨σ,B,h2,C⟩:=Aty h;simp only[bK]at h2 C;have key:∀i,i<=ops.length->(∀x∈(σ i).nw,x.2<(σ i).h.next)/\∀q x,(σ i).h.get q=some x->q<(σ i).h.next:=by
  intro i;induction i with
  | zero=>intro _;rw[B,A];exact⟨fun x j=>by simp at j,u⟩
  | succ i G=>
   intro F;obtain⟨i1,i2⟩:=G (by omega);have k:ops[i]? = some ops[i]:=aD (by omega);obtain⟨v,E,E',kd,sd⟩:=Ayk hC hR (C i _ k) i1;have e:(σ i).h.next<=(σ (i+1)).h.next:=by rw[<-sd.Ae2,<-sd.Adx];exact sd.w.next
   constructor
   ·intro x j
    have:=sd.kd;cases kd with
    | idle=>rw[this.2.2.2.1]at j;exact aK (i1 x j) e
    | load q=>rw[this.2.2.2.1]at j;exact aK (i1 x j) e
    | new=>
     obtain⟨a,⟨y,b⟩,c,d,_⟩:=this;rw[d]at j;rcases bS.1 j with rfl|j
     ·show(σ i).h.next<_
      rw[<-sd.Adx,b,Aa.Dl,sd.Ae2];omega
     ·exact aK (i1 x j) e
    | sto q=>
     obtain⟨_,_,d,_⟩:=this;rw[d]at j;exact aK (i1 x j) e
    | big mw=>
     obtain⟨b,_,_,_,_,_,d,_⟩:=this;rw[d]at j;exact aK (i1 x j) e
   ·intro q x j
    rw[sd.Bjs]at j;split at j
    ·exact aK (i2 q x j) e
    ·rw[<-sd.Adx]
     refine sd.w.lt (fun q x j=>?_) q x j;rw[sd.Ae2];exact i2 q x (sd.sub q x j)
 have ex:∀i,∃v E E' kd,∀o,ops[i]? = some o->Sd T call round n ops bs s.h.next o i (σ i) (σ (i+1)) v E E' kd:=by
  intro i;cases k:ops[i]? with
  | none=>exact⟨.tuple [],bare 0,bare 0,.idle,fun o h=>by cases h⟩
  | some o=>
   have F:i<ops.length:=(aY.1 k).1;obtain⟨v,E,E',kd,sd⟩:=Ayk hC hR (C i _ k) (key i (by omega)).1;exact⟨v,E,E',kd,fun o' h=>by cases h;exact sd⟩
 exact⟨σ,fun i=>(ex i).choose,fun i=>(ex i).choose_spec.choose,fun i=>(ex i).choose_spec.choose_spec.choose,fun i=>(ex i).choose_spec.choose_spec.choose_spec.choose,B,h2,
  fun i=>(ex i).choose_spec.choose_spec.choose_spec.choose_spec,fun i F=>(key i F).2,by rw[B]⟩
variable(tr:Trc T call round n ops bs base σ V E E' K)
include tr
theorem Trc.next(a:i<ops.length):(σ i).h.next<=(σ (i+1)).h.next:=by
 have sd:=tr.sd i _ (aD a);rw[<-sd.Ae2,<-sd.Adx];exact sd.w.next
theorem Trc.Bgo(a:i<=m)(hm:m<=ops.length):(σ i).h.next<=(σ m).h.next:=by
 induction m with
 | zero=>
  have:i=0:=by omega
  subst this;exact aE _
 | succ m d=>
  by_cases e:i=m+1
  ·subst e;exact aE _
  ·exact bN (d (by omega) (by omega)) (tr.next (by omega))
theorem Trc.notes(B:i<=m)(hm:m<=ops.length):
 (∀x∈(σ i).nw,x∈(σ m).nw)/\(∀x∈(σ i).Cs,x∈(σ m).Cs)/\(∀x∈(σ i).lou,x∈(σ m).lou)/\(∀j,(σ i).bg.testBit j=true->(σ m).bg.testBit j=true)/\(∀x∈(σ i).st,x∈(σ m).st):=by
 induction m with
 | zero=>
  have:i=0:=by omega
  subst this;exact⟨fun _ h=>h,fun _ h=>h,fun _ h=>h,fun _ h=>h,fun _ h=>h⟩
 | succ m C=>
  by_cases e:i=m+1
  ·subst e;exact⟨fun _ h=>h,fun _ h=>h,fun _ h=>h,fun _ h=>h,fun _ h=>h⟩
  ·obtain⟨a,b,c,d,f⟩:=C (by omega) (by omega)
   have sd:=(tr.sd m _ (aD (by omega))).kd;cases A:K m with
   | idle=>
    rw[A]at sd;obtain⟨_,_,s1,s2,u,k,y⟩:=sd;rw[s1,s2,u,k,y];exact⟨a,b,c,d,f⟩
   | load q=>
    rw[A]at sd;obtain⟨_,_,s1,s2,u,k,y,_⟩:=sd;rw[s1,s2,u,k,y];exact⟨a,fun x h=>aR _ (b x h),c,d,f⟩
   | new=>
    rw[A]at sd;obtain⟨_,_,s1,s2,u,k,y⟩:=sd;rw[s1,s2,u,k,y];exact⟨fun x h=>aR _ (a x h),b,c,d,f⟩
   | sto q=>
    rw[A]at sd;obtain⟨_,s1,s2,u,k,y,_⟩:=sd;rw[s1,s2,u,k,y];exact⟨a,b,c,d,fun x h=>aR _ (f x h)⟩
   | big mw=>
    rw[A]at sd;obtain⟨_,_,_,_,_,s1,s2,u,y,_,k⟩:=sd;rw[s1,s2,u,y];refine⟨a,b,?_,fun j h=>by rw[My,d j h];rfl,f⟩;rcases k with⟨_,k⟩|⟨_,k⟩<;>rw[k]
    ·exact c
    ·exact fun x h=>aR _ (c x h)
theorem Trc.Bln(a:i<ops.length){x:Dt}(h:(E i).get q=some x):q<(σ i).h.next:=
 tr.lt i (by omega) q x ((tr.sd i _ (aD a)).sub q x h)
theorem Trc.Bpp(a:i<ops.length){x:Dt}(h:(E' i).get q=some x):q<(σ (i+1)).h.next:=by
 have sd:=tr.sd i _ (aD a);rw[<-sd.Adx];refine sd.w.lt (fun q x d=>?_) q x h;rw[sd.Ae2];exact tr.Bln a d
theorem Trc.Bd7(d:i<ops.length)(h:(E i).get q=none)(j:q<(σ i).h.next):(E' i).get q=(E i).get q:=by
 have sd:=tr.sd i _ (aD d);cases e:(E' i).get q with
 | none=>exact h.symm
 | some o=>
  rcases sd.w.live q o e with⟨o',a⟩|a
  ·rw[h]at a;cases a
  ·rw[sd.Ae2]at a;omega
theorem Trc.pair(a7:i<m)(hm:m<ops.length)(hb:bs.get m=some b)(hn:b.testBit i=false):
 (∀q,(E' i).get q=(E i).get q\/(E' m).get q=(E m).get q)/\(∀q x,(E i).get q=some x->(E' m).get q=(E m).get q)/\(∀q x,(E m).get q=some x->(E' i).get q=(E i).get q):=by
 have hi:i<ops.length:=by omega
 have al:=tr.sd i _ (aD hi);have ay:=tr.sd m _ (aD hm);obtain⟨n1,n2,n3,n4,n5⟩:=tr.notes (i:=i+1) (m:=m) (by omega) (by omega);have a2:=tr.Bgo (i:=i+1) (m:=m) (by omega) (by omega);have az:=tr.next hi
 have a3:base<=(σ i).h.next:=by rw[tr.base];exact tr.Bgo (by omega) (by omega)
 have L:=A2p hn;have W:=al.kd;have U:=ay.kd;have C:K i=.new->(Nat.shiftLeft 1 i,(σ i).h.next)∈(σ m).nw/\(∀q,q≠(σ i).h.next->(E' i).get q=(E i).get q)/\(∀q,(E i).get q=none)/\(σ i).h.next<(σ (i+1)).h.next:=by
  intro hk;rw[hk]at W;obtain⟨k1,⟨x,k2⟩,_,k4,_⟩:=W;refine⟨n1 _ (by rw[k4];exact aW),fun q X=>?_,fun q=>by rw[k1];rfl,?_⟩
  ·rw[k2,Aa.K1,aF];rw[al.Ae2];exact fun e=>X e.symm
  ·rw[<-al.Adx,k2,Aa.Dl,al.Ae2];omega
 have F:K m=.new->(∀q,q≠(σ m).h.next->(E' m).get q=(E m).get q)/\(∀q,(E m).get q=none):=by
  intro hk;rw[hk]at U;obtain⟨k1,⟨x,k2⟩,_⟩:=U;refine⟨fun q X=>?_,fun q=>by rw[k1];rfl⟩;rw[k2,Aa.K1,aF];rw[ay.Ae2];exact fun e=>X e.symm
 have G:∀r,K i=.sto r->(Nat.shiftLeft 1 i,r)∈(σ m).st/\(∀q,q≠r->(E' i).get q=(E i).get q)/\(∀q x,(E i).get q=some x->q=r)/\r<(σ i).h.next:=by
  intro r hk;rw[hk]at W;obtain⟨⟨x,y,k1,k2⟩,_,_,_,_,k4,_⟩:=W;have hr:(E i).get r=some x:=by rw[k1,Nm,aH rfl]
  refine⟨n5 _ (by rw[k4];exact aW),fun q X=>?_,fun q z Y=>?_,tr.Bln hi hr⟩
  ·rw[k2,Aa.get_put,aF];exact fun e=>X e.symm
  ·rw[k1,Nm]at Y
   split at Y
   ·rename_i e;exact e.symm
   ·cases Y
 have j:∀r,K m=.sto r->within (σ m).bg b=true/\E8 b r (σ m).st=true/\E8 b r (σ m).Cs=true/\r ∉ loose b (σ m).nw/\(∀q,q≠r->(E' m).get q=(E m).get q)/\(∀q x,(E m).get q=some x->q=r):=by
  intro r hk;rw[hk]at U;obtain⟨⟨x,y,k1,k2⟩,_,_,_,_,k4,b',H,c1,c2,c3,c4⟩:=U;rw[hb]at H;cases H;refine⟨c1,c2,c3,Axx c4,fun q X=>?_,fun q z Y=>?_⟩
  ·rw[k2,Aa.get_put,aF];exact fun e=>X e.symm
  ·rw[k1,Nm]at Y
   split at Y
   ·rename_i e;exact e.symm
   ·cases Y
 have J:∀r,K i=.load r->(Nat.shiftLeft 1 i,r)∈(σ m).Cs/\(∀q x,(E i).get q=some x->q=r):=by
  intro r hk;rw[hk]at W;obtain⟨⟨y,k1⟩,_,_,_,k5,_⟩:=W;refine⟨n2 _ (by rw[k5];exact aW),fun q z Y=>?_⟩;rw[k1,Nm]at Y;split at Y
  ·rename_i e;exact e.symm
  ·cases Y
 have A:∀r,K m=.load r->E8 b r (σ m).st=true/\((r<base/\Wl b r (σ m).lou=true)\/(base<=r/\within (σ m).bg b=true/\loose b (σ m).nw = []))/\(∀q x,(E m).get q=some x->q=r):=by
  intro r hk;rw[hk]at U;obtain⟨⟨y,k1⟩,_,_,_,_,_,_,b',H,k7,k8⟩:=U;rw[hb]at H;cases H;refine⟨k7,k8,fun q z Y=>?_⟩;rw[k1,Nm]at Y;split at Y
  ·rename_i e;exact e.symm
  ·cases Y
 have au:∀mw,K i=.big mw->(σ m).bg.testBit i=true:=by
  intro mw Z;rw[Z]at W;obtain⟨_,_,_,_,_,k5,_⟩:=W;exact n4 i (by rw[k5,My,Ho];simp)
 have O:∀mw,K m=.big mw->within (σ m).bg b=true/\Avv b (σ m).st=true:=by
  intro mw h2;rw[h2]at U;obtain⟨b',H,hw,a5,_⟩:=U;rw[hb]at H;cases H;exact⟨hw,a5⟩
 have ag:∀{mw},K i=.big mw->within (σ m).bg b=true->False:=by
  intro mw Z hw;rw[Anw hw (au mw Z)]at hn;cases hn
 have aa:∀{r mw},K i=.sto r->K m=.big mw->False:=by
  intro r mw Z h2;have:=Ax9 (O mw h2).2 (G r Z).1;rw[L]at this;cases this
 have Q:(K i=.idle\/∃q,K i=.load q)->∀q,(E' i).get q=(E i).get q:=by
  rintro(h|⟨r,h⟩) q<;>rw[h]at W
  ·rw[W.2.1]
  ·rw[W.2.1]
 have k:(K m=.idle\/∃q,K m=.load q)->∀q,(E' m).get q=(E m).get q:=by
  rintro(h|⟨r,h⟩) q<;>rw[h]at U
  ·rw[U.2.1]
  ·rw[U.2.1]
 have ae:K i=.idle->∀q,(E i).get q=none:=fun h q=>by rw[h]at W;rw[W.1];rfl
 have M:K m=.idle->∀q,(E m).get q=none:=fun h q=>by rw[h]at U;rw[U.1];rfl
 have u:K i=.new->(σ i).h.next∈loose b (σ m).nw:=fun Z=>Aot.2 ⟨_,(C Z).1,L⟩
 have af:∀mw,K i=.new->K m=.big mw->(E m).get (σ i).h.next=none:=by
  intro mw Z h2;rw[h2]at U;obtain⟨b',H,_,_,he,_⟩:=U;rw[hb]at H;cases H;rw[he,aH (u Z)]
 have ab:∀{r r'},K i=.sto r->K m=.sto r'->r'≠r:=by
  intro r r' Z h2;rcases Xw (j r' h2).2.1 (G r Z).1 with h|h
  ·rw[L]at h;cases h
  ·exact h
 refine⟨fun q=>?_,fun q x B=>?_,fun q x B=>?_⟩
 ·cases d:K i with
  | idle=>exact .inl (Q (.inl d) q)
  | load r=>exact .inl (Q (.inr ⟨r,d⟩) q)
  | new=>
   by_cases X:q=(σ i).h.next
   ·subst X
    right;cases a:K m with
    | idle=>exact k (.inl a) _
    | load r=>exact k (.inr ⟨r,a⟩) _
    | new=>exact(F a).1 _ (by have:=(C d).2.2.2;omega)
    | sto r=>exact(j r a).2.2.2.2.1 _ (fun e=>(j r a).2.2.2.1 (e▸u d))
    | big mw=>exact tr.Bd7 hm (af mw d a) (by have:=(C d).2.2.2;omega)
   ·exact .inl ((C d).2.1 q X)
  | sto r=>
   by_cases X:q=r
   ·subst X
    right;cases a:K m with
    | idle=>exact k (.inl a) _
    | load r=>exact k (.inr ⟨r,a⟩) _
    | new=>exact(F a).1 _ (by have:=(G _ d).2.2.2;omega)
    | sto r'=>exact(j r' a).2.2.2.2.1 _ (fun e=>ab d a e.symm)
    | big mw=>exact(aa d a).elim
   ·exact .inl ((G r d).2.1 q X)
  | big mw=>
   cases a:K m with
   | idle=>exact .inr (k (.inl a) _)
   | load r=>exact .inr (k (.inr ⟨r,a⟩) _)
   | new=>
    by_cases X:q=(σ m).h.next
    ·left
     have Z:(E' i).get q=none:=by
      cases h:(E' i).get q with
      | none=>rfl
      | some o=>have:=tr.Bpp hi h;omega
     have h2:(E i).get q=none:=by
      cases h:(E i).get q with
      | none=>rfl
      | some o=>have:=tr.Bln hi h;omega
     rw[Z,h2]
    ·exact .inr ((F a).1 q X)
   | sto r=>exact(ag d (j r a).1).elim
   | big aj=>exact(ag d (O aj a).1).elim
 ·have bo:=tr.Bln hi B
  cases a:K m with
  | idle=>exact k (.inl a) _
  | load r=>exact k (.inr ⟨r,a⟩) _
  | new=>exact(F a).1 q (by omega)
  | sto r'=>
   cases d:K i with
   | idle=>rw[ae d]at B;cases B
   | new=>rw[(C d).2.2.1]at B;cases B
   | big aj=>exact(ag d (j r' a).1).elim
   | load r=>
    have:=(J r d).2 q x B;subst this;refine(j r' a).2.2.2.2.1 _ fun e=>?_
    rcases Xw (j r' a).2.2.1 (J _ d).1 with h|h
    ·rw[L]at h;cases h
    ·exact h e.symm
   | sto r=>
    have:=(G r d).2.2.1 q x B;subst this;exact(j r' a).2.2.2.2.1 _ (fun e=>ab d a e.symm)
  | big mw=>
   cases d:K i with
   | idle=>rw[ae d]at B;cases B
   | new=>rw[(C d).2.2.1]at B;cases B
   | big aj=>exact(ag d (O mw a).1).elim
   | sto r=>exact(aa d a).elim
   | load r=>
    have:=(J r d).2 q x B;subst this;rw[a]at U;obtain⟨b',H,_,_,_,_,_,_,_,h8,h9⟩:=U;rw[hb]at H;cases H;refine h8 _ ?_ (by omega);rcases h9 with⟨h9,_⟩|⟨h9,_⟩
    ·omega
    ·rcases Apy h9 (J _ d).1 with h|h
     ·rw[L]at h;cases h
     ·exact h
 ·cases d:K i with
  | idle=>exact Q (.inl d) q
  | load r=>exact Q (.inr ⟨r,d⟩) q
  | new=>
   refine(C d).2.1 q fun e=>?_
   subst e;cases a:K m with
   | idle=>rw[M a]at B;cases B
   | new=>rw[(F a).2]at B;cases B
   | big mw=>rw[af mw d a]at B;cases B
   | sto r=>exact(j r a).2.2.2.1 ((j r a).2.2.2.2.2 _ x B▸u d)
   | load r=>
    have e:=(A r a).2.2 _ x B;rcases(A r a).2.1 with⟨Z,_⟩|⟨_,_,h3⟩
    ·omega
    ·have:=u d
     rw[h3]at this;cases this
  | sto r=>
   refine(G r d).2.1 q fun e=>?_
   subst e;cases a:K m with
   | idle=>rw[M a]at B;cases B
   | new=>rw[(F a).2]at B;cases B
   | big mw=>exact(aa d a).elim
   | sto r'=>exact ab d a ((j r' a).2.2.2.2.2 _ x B).symm
   | load r'=>
    have e:=(A r' a).2.2 _ x B;subst e;rcases Xw (A _ a).1 (G _ d).1 with h|h
    ·rw[L]at h;cases h
    ·exact h rfl
  | big mw=>
   cases a:K m with
   | idle=>rw[M a]at B;cases B
   | new=>rw[(F a).2]at B;cases B
   | sto r=>exact(ag d (j r a).1).elim
   | big aj=>exact(ag d (O aj a).1).elim
   | load r=>
    have e:=(A r a).2.2 _ x B;subst e;rw[d]at W;obtain⟨bi,_,_,_,_,kb,_,_,_,h8,h9⟩:=W;rcases(A _ a).2.1 with⟨Z,h2⟩|⟨_,h2,_⟩
    ·refine h8 _ ?_ (by omega)
     rcases h9 with⟨h9,_⟩|⟨_,h9⟩
     ·omega
     ·rcases Atj h2 (n3 _ (by rw[h9];exact aW))with h|h
      ·rw[L]at h;cases h
      ·exact h
    ·have:(σ m).bg.testBit i=true:=n4 i (by rw[kb,My,Ho];simp)
     rw[Anw h2 this]at hn;cases hn
end
end
section
open Classical
structure Ahj(p:Nat->Prop)(f0:Loc)(h0:Aa)(w0:World)(f:Loc)(g:Nat->Option Dt)(w:World):Prop where
 E9:Loc.E9 p f0 f
 obj:∀i o,g i=some o->∃r,w.heap[f.b i]? = some r/\Ul f i o r
 inj:∀i j o o',g i=some o->g j=some o'->f.b i=f.b j->i=j
 kept:∀b,b<w0.heap.size->(∀i o,h0.get i=some o->f0.b i≠b)->w.heap[b]? = w0.heap[b]?
 size:w0.heap.size<=w.heap.size
 tape:w.tape=w0.tape
 os:w.os=w0.os
 output:w.output=w0.output
 own:∀i o,g i=some o->w0.heap.size<=f.b i\/∃j o',h0.get j=some o'/\f.b i=f0.b j
theorem Ahj.start{w:World}(a:S8 f h w):Ahj p f h w f h.get w where
 E9:=Loc.Akl _ _
 obj:=a.obj
 inj:=a.inj
 kept _ _ _:=rfl
 size:=aE _
 tape:=rfl
 os:=rfl
 output:=rfl
 own i o d:=.inr ⟨i,o,d,rfl⟩
theorem Ahj.drew{w0 w:World}(m:Ahj p f0 h0 w0 f g w)(k:Nat):Ahj p f0 h0 w0 f g { w with drawn:=k }:=
 ⟨m.E9,m.obj,m.inj,m.kept,m.size,m.tape,m.os,m.output,m.own⟩
theorem Ahj.move{w0 w:World}(m:Ahj p f0 h0 w0 f g w)(e:∀q,h.get q=g q):Move p f0 h0 w0 f h w where
 E9:=m.E9
 rep:=⟨fun i o a=>m.obj i o (by rw[<-e];exact a),fun i j o o' a d=>m.inj i j o o' (by rw[<-e];exact a) (by rw[<-e];exact d)⟩
 kept:=m.kept
 size:=m.size
 tape:=m.tape
 os:=m.os
 output:=m.output
 own i o a:=m.own i o (by rw[<-e];exact a)
def patch(n:Nat)(f1 f:Loc):Loc:=⟨fun q=>if q<n then f1.b q else f.b q,fun q=>if q<n then f1.sp q else f.sp q⟩
theorem A5j(h:q<n):(patch n f1 f).b q=f1.b q/\(patch n f1 f).sp q=f1.sp q:=⟨aH h,aH h⟩
theorem Bi1(h:n<=q):(patch n f1 f).b q=f.b q/\(patch n f1 f).sp q=f.sp q:=⟨aF (by omega),aF (by omega)⟩
noncomputable def Af0(D D':Aa)(g:Nat->Option Dt)(q:Nat):Option Dt:=if D'.get q=D.get q then g q else D'.get q
section
variable{w0:World}{w:World}{pq:Nat->Prop}{D D':Aa}{w1:World}
theorem Awa(hm:Move (fun q=>pq q/\q<D.next) f D w f1 D' w1)(hw:Wf (fun q=>pq q/\q<D.next) D D')(a:∀q,pq q->q<D.next\/D'.next<=q):
 Loc.E9 pq f (patch D'.next f1 f):=by
 intro q d;rcases a q d with h|h
 ·obtain⟨e1,e2⟩:=A5j (f1:=f1) (f:=f) (aK h hw.next)
  rw[e1,e2];exact hm.E9 q ⟨d,h⟩
 ·obtain⟨e1,e2⟩:=Bi1 (f1:=f1) (f:=f) h
  rw[e1,e2];exact⟨rfl,rfl⟩
theorem At4(hw:Wf (fun q=>pq q/\q<D.next) D D'):Loc.E9 (grow (fun q=>pq q/\q<D.next) D D') f1 (patch D'.next f1 f):=by
 intro q a;have:q<D'.next:=by
  rcases a with h|h
  ·exact aK h.2 hw.next
  ·exact h.2
 obtain⟨e1,e2⟩:=A5j (f1:=f1) (f:=f) this;rw[e1,e2];exact⟨rfl,rfl⟩
theorem Ahj.step(m:Ahj p0 f0 h0 w0 f g w)(B:∀q x,D.get q=some x->g q=some x)(hg:∀q x,g q=some x->pq q/\x.ok pq)
 (Z:∀q,p0 q->pq q) (hm:Move (fun q=>pq q/\q<D.next) f D w f1 D' w1) (hw:Wf (fun q=>pq q/\q<D.next) D D') (X:∀q,pq q->q<D.next\/D'.next<=q) :
 Ahj p0 f0 h0 w0 (patch D'.next f1 f) (Af0 D D' g) w1:=by
 have W:=Awa hm hw X;have O:=At4 (f1:=f1) (f:=f) hw;have aa:∀q x,D'.get q=some x->Af0 D D' g q=some x:=by
  intro q x d;unfold Af0;split
  ·rename_i e;exact B q x (by rw[<-e];exact d)
  ·exact d
 have u:∀q x,Af0 D D' g q=some x->D'.get q=some x\/(D'.get q=none/\D.get q=none/\g q=some x):=by
  intro q x d;cases hd:D'.get q with
  | some y=>rw[aa q y hd]at d;exact .inl d
  | none=>
   unfold Af0 at d;split at d
   ·rename_i e;rw[hd]at e;exact .inr ⟨rfl,e.symm,d⟩
   ·rw[hd]at d;cases d
 have C:∀q x,D'.get q=some x->(patch D'.next f1 f).b q=f1.b q:=fun q x d=>(O q (hw.hok.get q x d).1).1.symm
 have F:∀q x,g q=some x->(patch D'.next f1 f).b q=f.b q:=fun q x d=>(W q (hg q x d).1).1.symm
 have Y:∀q x,g q=some x->f.b q<w.heap.size:=by
  intro q x d;obtain⟨r,L,_⟩:=m.obj q x d;exact(cL.1 L).1
 have Q:∀q x,g q=some x->D.get q=none->∀i o,D.get i=some o->f.b i≠f.b q:=by
  intro q x d hd i o H e;have:=m.inj i q o x (B i o H) d e;subst this;rw[hd]at H;cases H
 refine⟨?_,?_,?_,?_,bN m.size hm.size,hm.tape.trans m.tape,hm.os.trans m.os,hm.output.trans m.output,?_⟩
 ·exact m.E9.trans (W.mono Z)
 ·intro q x d
  rcases u q x d with hd|⟨_,hd,J⟩
  ·obtain⟨r,L,h2⟩:=hm.rep.obj q x hd
   obtain⟨h3,h4⟩:=hw.hok.get q x hd;exact⟨r,by rw[C q x hd];exact L,h2.congr O h3 h4⟩
  ·obtain⟨r,L,h2⟩:=m.obj q x J
   obtain⟨h3,h4⟩:=hg q x J;refine⟨r,?_,h2.congr W h3 h4⟩;rw[F q x J,hm.kept _ (Y q x J) (Q q x J hd)];exact L
 ·
  have U:∀i j o o',D'.get i=some o->g j=some o'->D.get j=none->f1.b i≠f.b j:=by
   intro i j o o' H hj hd e;rcases hm.own i o H with h|⟨k,ok,hk,h⟩
   ·have:=Y j o' hj;omega
   ·exact Q j o' hj hd k ok hk (by rw[<-h];exact e)
  intro i j o o' H hj e;rcases u i o H with a|⟨_,a,A⟩<;>rcases u j o' hj with G|⟨_,G,M⟩
  ·rw[C i o a,C j o' G]at e;exact hm.rep.inj i j o o' a G e
  ·rw[C i o a,F j o' M]at e;exact absurd e (U i j o o' a M G)
  ·rw[F i o A,C j o' G]at e;exact absurd e.symm (U j i o' o G A a)
  ·rw[F i o A,F j o' M]at e;exact m.inj i j o o' A M e
 ·intro b hb hn
  rw[hm.kept b (aK hb m.size) ?_]
  ·exact m.kept b hb hn
  ·intro i o H e
   rcases m.own i o (B i o H)with h|⟨j,o',L,h2⟩
   ·omega
   ·exact hn j o' L (by rw[<-h2];exact e)
 ·intro i o H
  rcases u i o H with a|⟨_,a,A⟩
  ·rw[C i o a]
   rcases hm.own i o a with h|⟨j,o',L,h2⟩
   ·exact .inl (bN m.size h)
   ·rw[h2];exact m.own j o' (B j o' L)
  ·rw[F i o A];exact m.own i o A
end
end
section
open Classical
def A5y(ops:Array Oper)(m:Nat):Option Tmp:=(ops[m]?).bind (·.dst)
theorem Aiu {ops:Array Oper}(h:ops[m]? = some o):A5y ops m=o.dst:=by rw[A5y,h];rfl
noncomputable def tmS(n:Nat)(ops:Array Oper)(V:Nat->EV)(a:Az)(S:Nat->Prop):Nat->Az
 | 0=>a
 | m+1=>if S m then Pc n (tmS n ops V a S m) (A5y ops m) (V m)else tmS n ops V a S m
noncomputable def hS(E E':Nat->Aa)(a:Nat->Option Dt)(S:Nat->Prop):Nat->Nat->Option Dt
 | 0=>a
 | m+1=>if S m then Af0 (E m) (E' m) (hS E E' a S m)else hS E E' a S m
theorem Ae7(n:Nat)(tm:Az)(d:Option Tmp)(v:EV)(t:Nat):tmp (Pc n tm d v) t=if d=some t/\t<n then v else tmp tm t:=by
 cases d with
 | none=>simp[Pc]
 | some d=>
  rw[Bbx];by_cases h:d=t
  ·subst h;simp
  ·rw[aF (fun x=>h x.1),aF (fun x=>h (by simpa using x.1))]
theorem Ara(f:Loc)(n:Nat){a b:Az}(h:∀t,tmp a t=tmp b t):Be f n a=Be f n b:=by
 unfold Be;simp only[h]
theorem Bhg(h:∀t,n<=t->tm.get t=none)(d:Option Tmp)(v:EV):∀t,n<=t->(Pc n tm d v).get t=none:=by
 intro t a;cases d with
 | none=>exact h t a
 | some d=>
  simp only[Pc];rw[Bn];split
  ·rename_i hd
   rw[Tr.Af _ _ (Nat.ne_of_lt (aK (bG hd) a))];exact h t a
  ·exact h t a
theorem Bky(h:tm.get t=some v):tmp tm t=v:=by unfold tmp;rw[h]
theorem A8m{call:Ai}(a:aop T call round tm op h=some (v,h')):∀cs b,op=.select cs b->∃c,cs = #[c]:=by
 rintro cs b rfl;rw[As9 rfl (fun _ e=>by cases e)]at a;cases b with
 | true=>cases a
 | false=>
  simp only[Dj]at a;split at a
  ·rename_i c d
   exact⟨c,by apply eK;simpa using d⟩
  ·cases a
section
variable{call:Ai}{ops:Array Oper}{bs:Tr Nat}
def nx(σ:Nat->DSt)(m:Nat):Nat:=(σ m).h.next
def pS(p0:Nat->Prop)(σ:Nat->DSt)(N:Nat)(S:Nat->Prop)(q:Nat):Prop:=p0 q\/∃j,S j/\j<N/\nx σ j<=q/\q<nx σ (j+1)
structure Inv(n:Nat)(ops:Array Oper)(bs:Tr Nat)(σ:Nat->DSt)(V:Nat->EV)(E E':Nat->Aa)(p0:Nat->Prop)(f0:Loc)(w0:World)(S:Nat->Prop)(f:Loc)(w:World):Prop where
 dn:∀j,S j->j<ops.size/\∀b,bs.get j=some b->∀k,b.testBit k=true->S k
 vok:∀j,S j->(V j).ok (fun q=>pS p0 σ ops.size S q/\q<nx σ (j+1))
 eok:∀j,S j->∀q x,(E' j).get q=some x->(pS p0 σ ops.size S q/\q<nx σ (j+1))/\x.ok (fun q=>pS p0 σ ops.size S q/\q<nx σ (j+1))
 mv:Ahj p0 f0 (σ 0).h w0 f (hS E E' (σ 0).h.get S ops.size) w
variable (tr:Trc T call round n ops.toList bs base σ V E E' K)
include tr
theorem Trc.sd'(h:ops[i]? = some o):Sd T call round n ops.toList bs base o i (σ i) (σ (i+1)) (V i) (E i) (E' i) (K i):=tr.sd i o (by rw[cF];exact h)
theorem Trc.Ayg(a:i<=m)(hm:m<=ops.size):nx σ i<=nx σ m:=tr.Bgo a (by simpa using hm)
theorem Biu(e:i<=ops.size)(h:∀j,j<i->¬S j->A5y ops j≠some t):∀m,m<=i->tmp (tmS n ops V (σ 0).tm S m) t=tmp (σ m).tm t
 | 0,_=>rfl
 | m+1,hm=>by
  have a:=Biu e h m (by omega);have d:ops[m]? = some ops[m]:=cX (by omega);rw[(tr.sd' d).tm,<-Aiu d,Ae7];simp only[tmS];split
  ·rw[Ae7,a]
  ·rename_i hs
   rw[a,aF (fun x=>h m (by omega) hs x.1)]
omit tr in
theorem Bbu(a:Az)(h:∀j,i<=j->S j->A5y ops j≠some t):∀m,i<=m->tmp (tmS n ops V a S m) t=tmp (tmS n ops V a S i) t:=by
 intro m;induction m with
 | zero=>
  intro hm;have:i=0:=by omega
  subst this;rfl
 | succ m d=>
  intro hm;by_cases e:i=m+1
  ·subst e;rfl
  ·rw[<-d (by omega)]
   simp only[tmS];split
   ·rename_i hs;rw[Ae7,aF (fun x=>h m (by omega) hs x.1)]
   ·rfl
theorem Bgg(d:i<=ops.size)(h:∀j,j<i->¬S j->(E' j).get q=(E j).get q):∀m,m<=i->hS E E' (σ 0).h.get S m q=(σ m).h.get q
 | 0,_=>rfl
 | m+1,hm=>by
  have a:=Bgg d h m (by omega);have e:ops[m]? = some ops[m]:=cX (by omega);rw[(tr.sd' e).Bjs];simp only[hS];split
  ·simp only[Af0,a]
  ·rename_i hs
   rw[a,aH (h m (by omega) hs)]
omit tr in
theorem Bjc(a:Nat->Option Dt)(h:∀j,i<=j->S j->(E' j).get q=(E j).get q):∀m,i<=m->hS E E' a S m q=hS E E' a S i q:=by
 intro m;induction m with
 | zero=>
  intro hm;have:i=0:=by omega
  subst this;rfl
 | succ m d=>
  intro hm;by_cases e:i=m+1
  ·subst e;rfl
  ·rw[<-d (by omega)]
   simp only[hS];split
   ·rename_i hs;simp only[Af0];rw[aH (h m (by omega) hs)]
   ·rfl
theorem Att(h:∀j,j<ops.size->S j):∀m,m<=ops.size->tmS n ops V (σ 0).tm S m=(σ m).tm
 | 0,_=>rfl
 | m+1,hm=>by
  have a:ops[m]? = some ops[m]:=cX (by omega);simp only[tmS];rw[aH (h m (by omega)),Att h m (by omega),(tr.sd' a).tm,Aiu a]
theorem Bif(h:∀j,j<ops.size->S j)(q:Nat):hS E E' (σ 0).h.get S ops.size q=(σ ops.size).h.get q:=
 Bgg tr (aE _) (fun j hj hs=>absurd (h j hj) hs) _ (aE _)
omit tr in
theorem A26 {a:Az}(h:∀t,n<=t->a.get t=none)(S:Nat->Prop):∀m t,n<=t->(tmS n ops V a S m).get t=none
 | 0=>h
 | m+1=>by
  simp only[tmS];split
  ·exact Bhg (A26 h S m) _ _
  ·exact A26 h S m
variable{w0:World}{w:World}
theorem Inv.Bl7(I:Inv n ops bs σ V E E' p0 f0 w0 S f w)(h0:Lb p0 n (σ 0).tm)(hp:∀q,p0 q->q<nx σ 0):∀m,m<=ops.size->Lb (fun q=>pS p0 σ ops.size S q/\q<nx σ m) n (tmS n ops V (σ 0).tm S m)
 | 0,_=>h0.mono fun q a=>⟨.inl a,hp q a⟩
 | m+1,hm=>by
  have d:=Inv.Bl7 I h0 hp m (by omega);have e:=tr.Ayg (i:=m) (m:=m+1) (by omega) hm;simp only[tmS];split
  ·rename_i hs
   exact(d.mono fun q a=>⟨a.1,by omega⟩).put _ (I.vok m hs)
  ·exact d.mono fun q a=>⟨a.1,by omega⟩
theorem Inv.hok(I:Inv n ops bs σ V E E' p0 f0 w0 S f w)(h0:S9 p0 (σ 0).h):∀m,m<=ops.size->∀q x,hS E E' (σ 0).h.get S m q=some x ->
 (pS p0 σ ops.size S q/\q<nx σ m)/\x.ok (fun q=>pS p0 σ ops.size S q/\q<nx σ m)
 | 0,_,q,x,a=>⟨⟨.inl (h0.get q x a).1,h0.lt q (h0.get q x a).1⟩,(h0.get q x a).2.mono fun r d=>⟨.inl d,h0.lt r d⟩⟩
 | m+1,hm,q,x,a=>by
  have j:=tr.Ayg (i:=m) (m:=m+1) (by omega) hm;have up:∀{q x},hS E E' (σ 0).h.get S m q=some x->(pS p0 σ ops.size S q/\q<nx σ (m+1))/\x.ok (fun q=>pS p0 σ ops.size S q/\q<nx σ (m+1)):=by
   intro q x a;obtain⟨e,h2⟩:=Inv.hok I h0 m (by omega) q x a;exact⟨⟨e.1,by omega⟩,h2.mono fun r d=>⟨d.1,by omega⟩⟩
  simp only[hS]at a;split at a
  ·rename_i hs
   unfold Af0 at a;split at a
   ·exact up a
   ·exact I.eok m hs q x a
  ·exact up a
end
end
open Classical
section
variable(hT:P6 P T){call:Ai}(hC:Aeh P call)(hR:Ajt P round){ops:Array Oper}{bs:Tr Nat}
 (tr:Trc T call round n ops.toList bs base σ V E E' K) (hbs:bs=Nz ops.toList 0 .nil) (htm:Aju ops.toList bs ops.toList 0 []=true)
 {w0:World} {w:World}
include hbs in
theorem Bbh(d:i<ops.size):∃b,bs.get i=some b:=by
 have e:ops.toList[i]? = some ops[i]:=by rw[cF];exact cX d
 obtain⟨b,a,_⟩:=Ajr ops.toList 0 .nil (fun _ _=>rfl) i _ e;rw[bK]at a;exact⟨b,by rw[hbs];exact a⟩
include hT hC hR tr hbs htm in
theorem Inv.step(I:Inv n ops bs σ V E E' p0 f0 w0 S f w)(h0:Lb p0 n (σ 0).tm)(ah:S9 p0 (σ 0).h)(hi:i<ops.size)(Q:¬S i){bi:Nat}(aq:bs.get i=some bi)(a5:∀k,bi.testBit k=true->S k)
 {S':Nat->Prop} (C:∀j,S' j↔S j\/j=i) (fb:FB) (rest:List Nat) (k:List Item) (cs:List Frame) :
 ∃f' w',Steps P (lone (fb.at (Be f n (tmS n ops V (σ 0).tm S ops.size)) (.inRegion ops (i::rest)::k)) cs w) (lone (fb.at (Be f' n (tmS n ops V (σ 0).tm S' ops.size)) (.inRegion ops rest::k)) cs w') /\
  Inv n ops bs σ V E E' p0 f0 w0 S' f' w':=by
 have ho:ops[i]? = some ops[i]:=cX hi;generalize cf:ops[i]=o at ho;have sd:=tr.sd' ho;have au:∀q,p0 q->q<nx σ 0:=ah.lt;have hlen:ops.toList.length=ops.size:=by simp
 have aj:∀j,j<i->¬S j->bi.testBit j=false:=by
  intro j _ hs;cases hb:bi.testBit j with
  | false=>rfl
  | true=>exact absurd (a5 j hb) hs
 have F:∀j,i<j->S j->∃b,bs.get j=some b/\b.testBit i=false:=by
  intro j hj hs;obtain⟨Y,hd⟩:=I.dn j hs;obtain⟨b,hb⟩:=Bbh hbs Y;refine⟨b,hb,?_⟩;cases a6:b.testBit i with
  | false=>rfl
  | true=>exact absurd (hd b hb i a6) Q
 have Y:∀j,S j->j<ops.size:=fun j hs=>(I.dn j hs).1
 have Z:∀j,j<ops.size->∃oj,ops[j]? = some oj/\ops.toList[j]? = some oj:=fun j hj=>⟨ops[j],cX hj,by rw[cF];exact cX hj⟩
 have aw:ops.toList[i]? = some o:=by rw[cF];exact ho
 have J:∀t,A5x ops.toList o t->tmp (tmS n ops V (σ 0).tm S ops.size) t=tmp (σ i).tm t/\tmp (tmS n ops V (σ 0).tm S i) t=tmp (σ i).tm t:=by
  intro t ht;have e1:tmp (tmS n ops V (σ 0).tm S i) t=tmp (σ i).tm t:=by
   refine Biu tr (by omega) (fun j hj hs e=>?_) i (aE _);obtain⟨oj,U,h2⟩:=Z j (by omega);rw[Aiu U]at e;exact((Arr htm h2 aw hj aq (aj j hj hs)).1 t e).2 ht
  refine⟨?_,e1⟩;rw[<-e1];refine Bbu _ (fun j hj hs e=>?_) _ (by omega);have aa:i<j:=by
   rcases Nat.lt_or_eq_of_le hj with h|h
   ·exact h
   ·subst h;exact absurd hs Q
  obtain⟨oj,U,h2⟩:=Z j (Y j hs);obtain⟨b,hb,L⟩:=F j aa hs;rw[Aiu U]at e;exact(Arr htm aw h2 aa hb L).2 t ht e
 have B:∀q x,(E i).get q=some x->hS E E' (σ 0).h.get S i q=some x/\hS E E' (σ 0).h.get S ops.size q=some x:=by
  intro q x A;have e1:hS E E' (σ 0).h.get S i q=some x:=by
   rw[Bgg tr (by omega) (fun j hj hs=>?_) i (aE _)]
   ·exact sd.sub q x A
   ·exact(tr.pair hj (by omega) aq (aj j hj hs)).2.2 q x A
  refine⟨e1,?_⟩;rw[<-e1];refine Bjc _ (fun j hj hs=>?_) _ (by omega);have aa:i<j:=by
   rcases Nat.lt_or_eq_of_le hj with h|h
   ·exact h
   ·subst h;exact absurd hs Q
  obtain⟨b,hb,L⟩:=F j aa hs;exact(tr.pair aa (by have:=Y j hs;omega) hb L).2.1 q x A
 have ab:S' i:=(C i).2 (.inr rfl);have u:∀j,j≠i->(S' j↔S j):=fun j hj=>⟨fun h=>((C j).1 h).resolve_right hj,fun h=>(C j).2 (.inl h)⟩
 have ax:∀m,m<=i->tmS n ops V (σ 0).tm S' m=tmS n ops V (σ 0).tm S m:=by
  intro m;induction m with
  | zero=>intro _;rfl
  | succ m W=>
   intro hm;simp only[tmS];rw[W (by omega)];by_cases hs:S m
   ·rw[aH hs,aH ((u m (by omega)).2 hs)]
   ·rw[aF hs,aF (fun h=>hs ((u m (by omega)).1 h))]
 have ay:∀m,m<=i->hS E E' (σ 0).h.get S' m=hS E E' (σ 0).h.get S m:=by
  intro m;induction m with
  | zero=>intro _;rfl
  | succ m W=>
   intro hm;simp only[hS];rw[W (by omega)];by_cases hs:S m
   ·rw[aH hs,aH ((u m (by omega)).2 hs)]
   ·rw[aF hs,aF (fun h=>hs ((u m (by omega)).1 h))]
 have O:∀m,i<m->m<=ops.size->∀t,tmp (tmS n ops V (σ 0).tm S' m) t=tmp (Pc n (tmS n ops V (σ 0).tm S m) o.dst (V i)) t:=by
  intro m;induction m with
  | zero=>intro h;omega
  | succ m W=>
   intro hm bw t;by_cases e:m=i
   ·subst e
    simp only[tmS];rw[aH ab,aF Q,ax _ (aE _),Aiu ho]
   ·have W:=W (by omega) (by omega) t
    simp only[tmS];by_cases hs:S m
    ·rw[aH hs,aH ((u m e).2 hs),Ae7,W,Ae7,Ae7,Ae7]
     obtain⟨b,hb,L⟩:=F m (by omega) hs;obtain⟨om,U,h2⟩:=Z m (by omega);have Pp:=(Arr htm aw h2 (by omega) hb L).1;rw[Aiu U];by_cases c1:om.dst=some t/\t<n
     ·rw[aH c1,aF,aH c1]
      rintro⟨c2,_⟩;exact(Pp t c2).1 c1.1
     ·rw[aF c1,aF c1]
    ·rw[aF hs,aF (fun h=>hs ((u m e).1 h))];exact W
 have ai:∀m,i<m->m<=ops.size->hS E E' (σ 0).h.get S' m=Af0 (E i) (E' i) (hS E E' (σ 0).h.get S m):=by
  intro m;induction m with
  | zero=>intro h;omega
  | succ m W=>
   intro hm bw;by_cases e:m=i
   ·subst e
    simp only[hS];rw[aH ab,aF Q,ay _ (aE _)]
   ·have W:=W (by omega) (by omega)
    simp only[hS];by_cases hs:S m
    ·rw[aH hs,aH ((u m e).2 hs),W]
     obtain⟨b,hb,L⟩:=F m (by omega) hs;have bx:=(tr.pair (i:=i) (m:=m) (by omega) (by omega) hb L).1;funext q;simp only[Af0];rcases bx q with h|h
     ·rw[aH h,aH h]
     ·rw[aH h,aH h]
    ·rw[aF hs,aF (fun h=>hs ((u m e).1 h))];exact W
 have X:∀q,pS p0 σ ops.size S q->pS p0 σ ops.size S' q:=by
  rintro q (h|⟨j,U,h2⟩)
  ·exact .inl h
  ·exact .inr ⟨j,(C j).2 (.inl U),h2⟩
 have bz:∀q,nx σ i<=q->q<nx σ (i+1)->pS p0 σ ops.size S' q:=fun q U h2=>.inr ⟨i,ab,hi,U,h2⟩
 have ad:∀f' w',(V i).ok (fun q=>pS p0 σ ops.size S' q/\q<nx σ (i+1))->(∀q x,(E' i).get q=some x->(pS p0 σ ops.size S' q/\q<nx σ (i+1))/\x.ok (fun q=>pS p0 σ ops.size S' q/\q<nx σ (i+1))) ->
  Ahj p0 f0 (σ 0).h w0 f' (Af0 (E i) (E' i) (hS E E' (σ 0).h.get S ops.size)) w'->Inv n ops bs σ V E E' p0 f0 w0 S' f' w':=by
  intro f' w' U h2 h3;refine⟨fun j hj=>?_,fun j hj=>?_,fun j hj=>?_,?_⟩
  ·rcases(C j).1 hj with hj|rfl
   ·exact⟨Y j hj,fun b hb k hk=>(C k).2 (.inl ((I.dn j hj).2 b hb k hk))⟩
   ·refine⟨hi,fun b hb k hk=>(C k).2 (.inl ?_)⟩
    rw[aq]at hb;cases hb;exact a5 k hk
  ·rcases(C j).1 hj with hj|rfl
   ·exact EV.ok.mono (fun q hq=>⟨X q hq.1,hq.2⟩) _ (I.vok j hj)
   ·exact U
  ·rcases(C j).1 hj with hj|rfl
   ·intro q x A
    obtain⟨a,b⟩:=I.eok j hj q x A;exact⟨⟨X q a.1,a.2⟩,b.mono fun r hr=>⟨X r hr.1,hr.2⟩⟩
   ·exact h2
  ·rw[ai ops.size hi (aE _)];exact h3
 have M:=I.Bl7 tr h0 au ops.size (aE _);have G:Region.wanted o (Go.yielded ops (Be f n (tmS n ops V (σ 0).tm S ops.size)))=Ev.wanted ops.toList (σ i).tm o.guard:=by
  rw[A1e M];unfold Ev.wanted;cases hg:o.guard with
  | none=>rfl
  | some x=>
   obtain⟨j,want⟩:=x;simp only[];have:Ev.yielded ops.toList (tmS n ops V (σ 0).tm S ops.size) j=Ev.yielded ops.toList (σ i).tm j:=by
    unfold Ev.yielded;rw[Aw2];cases hj:ops.toList[j]? with
    | none=>rfl
    | some g=>
     simp only[];cases hd:g.dst with
     | none=>rfl
     | some d=>
      simp only[];have:=(J d (.inr ⟨j,want,g,hg,hj,hd⟩)).1;unfold tmp at this;revert this;cases tmS n ops V (σ 0).tm S ops.size|>.get d with
      | none=>
       cases(σ i).tm.get d with
       | none=>intro _;rfl
       | some v=>intro h;simp only[]at h;rw[<-h]
      | some v=>
       cases(σ i).tm.get d with
       | none=>intro h;simp only[]at h;rw[h]
       | some v'=>intro h;simp only[]at h;rw[h]
   rw[this]
 rcases sd.run with⟨hw,hv,hE⟩|⟨hw,a7⟩
 ·
  refine⟨f,w,.one ?_,ad f w ?_ ?_ ?_⟩
  ·rw[hw]at G
   have:=Avi (P:=P) (b:=fb) (rest:=rest) (k:=k) (cs:=cs) (w:=w) ho G;rw[this,show(undef:Value)=Cn f (V i) by rw[hv];rfl,Agr];rw[Ara f n (fun t=>(O ops.size hi (aE _) t).symm)]
  ·rw[hv];trivial
  ·rw[hE]
   intro q x A;obtain⟨a,b⟩:=I.hok tr ah i (by omega) q x (B q x A).1;have:=tr.Ayg (i:=i) (m:=i+1) (by omega) (by omega);exact⟨⟨X q a.1,by omega⟩,b.mono fun r hr=>⟨X r hr.1,by have:=hr.2;omega⟩⟩
  ·have:Af0 (E i) (E' i) (hS E E' (σ 0).h.get S ops.size)=hS E E' (σ 0).h.get S ops.size:=by
    funext q;simp only[Af0];rw[hE,aH rfl]
   rw[this];exact I.mv
 ·have ae:(E i).next=nx σ i:=sd.Ae2
  have af:(E' i).next=nx σ (i+1):=sd.Adx
  rw[hw]at G;have a0:=I.Bl7 tr h0 au i (by omega);have a1:∀t,n<=t->(σ i).tm.get t=none:=by
   rw[<-Att tr (S:=fun _=>True) (fun _ _=>trivial) i (by omega)];exact A26 h0.out _ i
  have ag:∀x∈o.op.operands,Cf (Abx (σ i).tm o.op.operands.toList) x=Cf (σ i).tm x:=fun x A=>Ban _ (dB.2 A)
  have ba:aop T call round (Abx (σ i).tm o.op.operands.toList) o.op (E i)=some (V i,E' i):=by rw[Ber ag];exact a7
  have bb:Lb (fun q=>pS p0 σ ops.size S q/\q<(E i).next) n (Abx (σ i).tm o.op.operands.toList):=by
   refine Biz (fun t ht v hv=>?_) a1;have e:=(J t (.inl ht)).2;rw[Bky hv]at e;rw[<-e,ae];exact a0.tmp t
  have b6:S9 (fun q=>pS p0 σ ops.size S q/\q<(E i).next) (E i):=by
   refine⟨fun q hq=>hq.2,fun q x A=>?_⟩;rw[ae];exact I.hok tr ah i (by omega) q x (B q x A).1
  have b7:S8 f (E i) w:=⟨fun q x A=>I.mv.obj q x (B q x A).2,fun q r x y A hy=>I.mv.inj q r x y (B q x A).2 (B r y hy).2⟩;have b8:execOp (Ik (Be f n (tmS n ops V (σ 0).tm S ops.size))) o=execOp (Ik (Be f n (Abx (σ i).tm o.op.operands.toList))) o:=by
   refine A74 o (A8m a7) fun x A=>?_
   cases x with
   | tmp t=>
    have e1:Ik (Be f n (tmS n ops V (σ 0).tm S ops.size)) (.tmp t)=Cn f (tmp (tmS n ops V (σ 0).tm S ops.size) t):=Z6 f M t;have e2:Ik (Be f n (Abx (σ i).tm o.op.operands.toList)) (.tmp t)=Cn f (tmp (Abx (σ i).tm o.op.operands.toList) t):=Z6 f bb t;rw[e1,e2,(J t (.inl (dB.2 A))).1];have e3:=ag _ A;simp only[Cf,cN]at e3;exact congrArg (Cn f) e3.symm
   | const v=>rfl
   | global g=>rfl
   | func g=>rfl
  obtain⟨f1,w1,bf,bj,H,bk⟩:=Bj0 hT hC hR bb b6 b7 b8 ba fb ops i rest k cs ho G;have ao:∀q,pS p0 σ ops.size S q->q<(E i).next\/(E' i).next<=q:=by
   rw[ae,af];rintro q (h|⟨j,U,h2,h3,h4⟩)
   ·left;have:=au q h;have:=tr.Ayg (i:=0) (m:=i) (by omega) (by omega);omega
   ·rcases Nat.lt_trichotomy j i with h|h|h
    ·left;have:=tr.Ayg (i:=j+1) (m:=i) (by omega) (by omega);omega
    ·subst h;exact absurd U Q
    ·right;have:=tr.Ayg (i:=i+1) (m:=j) (by omega) (by omega);omega
  have bn:∀q x,hS E E' (σ 0).h.get S ops.size q=some x->pS p0 σ ops.size S q/\x.ok (pS p0 σ ops.size S):=by
   intro q x A;obtain⟨a,b⟩:=I.hok tr ah ops.size (aE _) q x A;exact⟨a.1,b.mono fun r hr=>hr.1⟩
  have a2:∀q,grow (fun q=>pS p0 σ ops.size S q/\q<(E i).next) (E i) (E' i) q->pS p0 σ ops.size S' q/\q<nx σ (i+1):=by
   rintro q (h|h)
   ·have:=H.next
    rw[ae]at this h;rw[af]at this;exact⟨X q h.1,aK h.2 this⟩
   ·rw[ae,af]at h
    exact⟨bz q h.1 h.2,h.2⟩
  refine⟨patch (E' i).next f1 f,w1,?_,ad _ _ (EV.ok.mono a2 _ bk) (fun q x A=>?_) (Ahj.step I.mv (fun q x A=>(B q x A).2) bn (fun q hq=>.inl hq) bj H ao)⟩
  ·have e1:Cn f1 (V i)=Cn (patch (E' i).next f1 f) (V i):=Adi (At4 H) _ bk
   have e2:Be f n (tmS n ops V (σ 0).tm S ops.size)=Be (patch (E' i).next f1 f) n (tmS n ops V (σ 0).tm S ops.size):=Ku (Awa bj H ao) (M.mono fun q hq=>hq.1);have e3:A7d (Be f n (tmS n ops V (σ 0).tm S ops.size)) o.dst (Cn f1 (V i))=Be (patch (E' i).next f1 f) n (tmS n ops V (σ 0).tm S' ops.size):=by
    rw[e1,e2,Agr];exact Ara _ n (fun t=>(O ops.size hi (aE _) t).symm)
   rw[e3]at bf;exact bf
  ·obtain⟨a,b⟩:=H.hok.get q x A
   exact⟨a2 q a,b.mono a2⟩
theorem Avo(e:Edge):Aa1 e=Region.binds .any e:=by
 unfold Aa1 Region.binds;split<;>simp_all
def unl(listed:Array Bool)(N:Nat):List Nat:=(List.range N).filter fun i=>!listed.getD i true
theorem Bm3{N:Nat}(d:listed.size=N)(a:i<N)(k:listed.getD i true=false):(unl (listed.setIfInBounds i true) N).length<(unl listed N).length:=by
 have e:unl (listed.setIfInBounds i true) N=(unl listed N).filter (fun j=>j != i):=by
  unfold unl;rw[List.filter_filter];apply List.filter_congr;intro j hj;rw[dK]at hj;by_cases h:i=j
  ·subst h
   simp[d,a]
  ·rw[getD_set_ne _ h]
   have:(j != i)=true:=by simp[cP h]
   rw[this];simp
 rw[e];refine List.length_filter_lt_length_iff_exists.2 ⟨i,?_,by simp⟩;unfold unl;rw[dS,dK];exact⟨a,by simp only[k];rfl⟩
include hT hC hR tr hbs htm in
theorem Bii(U:Aml ops.toList 0=true)(h0:Lb p0 n (σ 0).tm)(W:S9 p0 (σ 0).h)(X:FB)(k:List Item)(cs:List Frame):∀(fuel t:Nat) (listed:Array Bool) (f:Loc) (w:World),listed.size=ops.size->(unl listed ops.size).length<=fuel ->
 Inv n ops bs σ V E E' p0 f0 w0 (fun j=>listed.getD j false=true) f w ->
 ∃f' w',Steps P (lone (X.at (Be f n (tmS n ops V (σ 0).tm (fun j=>listed.getD j false=true) ops.size)) (.inRegion ops (Region.linearise.go .any ops fuel t listed [])::k)) cs w)
  (lone (X.at (Be f' n (σ ops.size).tm) (.inRegion ops []::k)) cs w') /\
  ∃S,(∀j,j<ops.size->S j)/\Inv n ops bs σ V E E' p0 f0 w0 S f' w':=by
 have B:∀listed:Array Bool,listed.size=ops.size->(unl listed ops.size).length=0->∀j,j<ops.size->listed.getD j false=true:=by
  intro listed C Y j hj;have:j ∉ unl listed ops.size:=by rw[cM.1 Y];simp
  unfold unl at this;rw[dS,dK]at this;have h2:(!listed.getD j true)=false:=by
   cases h:(!listed.getD j true)with
   | false=>rfl
   | true=>exact absurd ⟨hj,h⟩ this
  have d:j<listed.size:=by omega
  simp[Array.getD,d]at h2⊢;exact h2
 intro fuel;induction fuel with
 | zero=>
  intro t listed f w C hf I;have hs:=B listed C (by omega);refine⟨f,w,?_,_,hs,I⟩;simp only[Region.linearise.go,List.reverse_nil];rw[Att tr hs _ (aE _)];exact .refl _ _
 | succ fuel ih=>
  intro t listed f w C hf I;simp only[Region.linearise.go];have Z:((List.range ops.size).filter fun i=>!listed.getD i true&&((ops[i]?).map (·.after.all fun e=>!Region.binds .any e||listed.getD e.on false)).getD false)=Region.ready .any ops listed:=rfl;rw[Z];split
  ·rename_i i hi
   have u:i∈Region.ready .any ops listed:=bU hi;obtain⟨F,o,J,aa⟩:=mem_ready.1 u;have A:i<ops.size:=(cL.1 J).1;have ab:¬(listed.getD i false=true):=by
    have d:i<listed.size:=by omega
    simp[Array.getD,d]at F⊢;exact F
   obtain⟨bi,L⟩:=Bbh hbs A;have G:ops.toList[i]? = some o:=by rw[cF];exact J
   obtain⟨b',h1,h2⟩:=Ajr ops.toList 0 .nil (fun _ _=>rfl) i o G;rw[bK,<-hbs,L]at h1;cases h1;have M:∀j,bi.testBit j=true->listed.getD j false=true:=by
    intro j hj;obtain⟨e,he,hb,ad⟩:=h2 j hj;have O:=aa e (dB.1 he) (by rw[<-Avo];exact hb);rcases ad with rfl|⟨y,hy,ae⟩
    ·exact O
    ·rw[<-hbs]at hy
     exact(I.dn e.on O).2 y hy j ae
   rw[linearise_go_acc];have af:∀j,(listed.setIfInBounds i true).getD j false=true↔listed.getD j false=true\/j=i:=by
    intro j;by_cases h:i=j
    ·subst h
     have:(listed.setIfInBounds i true).getD i false=true:=by simp[C,A]
     simp[this]
    ·rw[getD_set_ne _ h]
     constructor
     ·exact .inl
     ·rintro(h'|h')
      ·exact h'
      ·exact absurd h'.symm h
   obtain⟨f1,w1,ag,I1⟩:=I.step hT hC hR tr hbs htm h0 W A ab L M (S':=fun j=>(listed.setIfInBounds i true).getD j false=true) af X (Region.linearise.go .any ops fuel (t/(Region.ready .any ops listed).length) (listed.setIfInBounds i true) []) k cs;obtain⟨f2,w2,ah,ai⟩:=ih (t/(Region.ready .any ops listed).length) (listed.setIfInBounds i true) f1 w1 (by simpa using C) (by have:=Bm3 C A F;omega) I1;exact⟨f2,w2,ag.trans ah,ai⟩
  ·rename_i H
   have Y:(unl listed ops.size).length=0:=by
    cases hc:unl listed ops.size with
    | nil=>rfl
    | cons a l=>
     exfalso;have hex:∃j,j<ops.size/\listed.getD j true=false:=by
      have:a∈unl listed ops.size:=by rw[hc];exact aW
      unfold unl at this;rw[dS,dK]at this;exact⟨a,this.1,by simpa using this.2⟩
     have Q:∀N,∀j,j<N->j<ops.size->listed.getD j true=false->∃i,i<ops.size/\listed.getD i true=false/\∀k,k<i->listed.getD k true=true:=by
      intro N;induction N with
      | zero=>intro j h;omega
      | succ N aj=>
       intro j hj al ao;by_cases hk:∃k,k<j/\listed.getD k true=false
       ·obtain⟨k,bb,aq⟩:=hk
        exact aj k (by omega) (by omega) aq
       ·refine⟨j,al,ao,fun k au=>?_⟩
        cases h:listed.getD k true with
        | true=>rfl
        | false=>exact absurd ⟨k,au,h⟩ hk
     obtain⟨j,aw,ax⟩:=hex;obtain⟨i,ay,az,a0⟩:=Q (j+1) j (by omega) aw ax;have J:ops[i]? = some ops[i]:=cX ay;have G:ops.toList[i]? = some ops[i]:=by rw[cF];exact J
     have u:i∈Region.ready .any ops listed:=mem_ready.2 ⟨az,_,J,fun e he hb=>by
      have bf:=Av9 ops.toList 0 U i _ G e (dB.2 he) (by rw[Avo];exact hb);have:=a0 e.on (by omega);have d:e.on<listed.size:=by omega
      simp[Array.getD,d]at this⊢;exact this⟩
     have hlen:0<(Region.ready .any ops listed).length:=List.length_pos_of_mem u;rw[List.getElem?_eq_none_iff]at H;have:=Nat.mod_lt t hlen;omega
   have hs:=B listed C Y;refine⟨f,w,?_,_,hs,I⟩;simp only[List.reverse_nil];rw[Att tr hs _ (aE _)];exact .refl _ _
end
end Go.Ev
