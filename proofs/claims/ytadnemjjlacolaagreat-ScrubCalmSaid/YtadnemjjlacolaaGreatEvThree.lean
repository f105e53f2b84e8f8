import Derived.Test.YtadnemjjlacolaaGreatEvOne
import Derived.Orders
import Derived.Laws.StructEq
import Derived.ChangeKeysEq
import Derived.KernelRfl
import Derived.Below
set_option linter.all false
namespace Go.Ev
variable {x fo:Operand}{T:Ig}{op:Op}{h h' h0 hp:Ab}{round:Ah}{S p p0:Nat->Prop}{d i m n q fn id off base:Nat}{tm g_ lK:Ba}{t:TypeId}{v:EV}{a:Ajt}{o:Oper}{s':Hp}{f f0 f1:Loc}{g:Nat->Option D3}{listed:Array Bool}{E E':Nat->Ab}{P:Program}{w':World}{pd pd0 jump:Option Code}{k todo jq:List Item}{caller:Frame}{cs:List Frame}{α:Type}{ps:List Tmp}{b_ body:Code}{ds:List Nat}{Dt:Option Nat}{tmps:Array Value}{args first captured:List EV}{eqs:List (Nat × List Nat)}{V:Nat->EV}{σ:Nat->iZ}
section
theorem sR:∀{l:List Operand},(∀x∈l,Cj tm x=Cj g_ x)->Mu tm l=Mu g_ l
 | [],_=>rfl
 | x::r,h=>by simp only[Mu];rw[h x aW,sR fun y e=>h y (aU _ e)]
theorem yF:∀{l:List (Nat × Operand)},(∀x∈l,Cj tm x.2=Cj g_ x.2)->Zc tm l=Zc g_ l
 | [],_=>rfl
 | (i,x)::r,h=>by simp only[Zc];rw[h (i,x) aW,yF fun y e=>h y (aU _ e)]
theorem yG {x:Option Operand}(h:∀y,x=some y->Cj tm y=Cj g_ y):jn tm x=jn g_ x:=by
 cases x with
 | none=>rfl
 | some y=>simp only[jn];rw[h y rfl]
theorem Bei(h:∀x∈op.operands,Cj tm x=Cj g_ x):Fc T tm op=Fc T g_ op:=by
 cases op with
 | build t ps=>
  have:Zc tm ps.toList=Zc g_ ps.toList:=yF fun x e=>h x.2 (by
   simp only[Op.operands,List.mem_toArray,cW];exact⟨x,e,rfl⟩)
  simp only[Fc,this]
 | makeFunc fn a b=>
  have A:Mu tm a.toList=Mu g_ a.toList:=sR fun x e=>h x (by simp only[Op.operands,Array.mem_append];exact .inl (dM.1 e))
  have h2:Mu tm b.toList=Mu g_ b.toList:=sR fun x e=>h x (by simp only[Op.operands,Array.mem_append];exact .inr (dM.1 e))
  cases fn<;>simp only[Fc,A,h2]
 | slice t x B C F=>
  have h0:Cj tm x=Cj g_ x:=h x (by simp[Op.operands]);have A:jn tm B=jn g_ B:=yG fun y j=>h y (by subst j;simp[Op.operands])
  have h2:jn tm C=jn g_ C:=yG fun y j=>h y (by subst j;simp[Op.operands])
  have G:jn tm F=jn g_ F:=yG fun y j=>h y (by subst j;simp[Op.operands])
  simp only[Fc,h0,A,h2,G]
 | unOp u t x=>
  have h0:Cj tm x=Cj g_ x:=h x (by simp[Op.operands]);cases u<;>simp only[Fc,h0]
 | pick c a b=>simp only[Fc,h c (by simp[Op.operands]),h a (by simp[Op.operands]),h b (by simp[Op.operands])]
 | binOp op t x y u=>simp only[Fc,h x (by simp[Op.operands]),h y (by simp[Op.operands])]
 | indexAddr t x y=>simp only[Fc,h x (by simp[Op.operands]),h y (by simp[Op.operands])]
 | index t x y=>simp only[Fc,h x (by simp[Op.operands]),h y (by simp[Op.operands])]
 | move x=>simp only[Fc,h x (by simp[Op.operands])]
 | assign x=>simp only[Fc,h x (by simp[Op.operands])]
 | nilCheck x=>simp only[Fc,h x (by simp[Op.operands])]
 | fieldAddr s x H=>simp only[Fc,h x (by simp[Op.operands])]
 | field s x H=>simp only[Fc,h x (by simp[Op.operands])]
 | convert s d x=>simp only[Fc,h x (by simp[Op.operands])]
 | extract x ix=>simp only[Fc,h x (by simp[Op.operands])]
 | sliceToArrayPointer t x=>simp only[Fc,h x (by simp[Op.operands])]
 | _=>rfl
theorem Bb0(h:∀x∈op.operands,Cj tm x=Cj g_ x):Dz T tm op hp=Dz T g_ op hp:=by
 cases op with
 | buildSlice t m ps=>
  have:Zc tm ps.toList=Zc g_ ps.toList:=yF fun x j=>h x.2 (by
   simp only[Op.operands,List.mem_toArray,cW];exact⟨x,j,rfl⟩)
  simp only[Dz,this]
 | call c=>
  obtain⟨callee,args,A⟩:=c;cases callee with
  | builtin b=>
   have u:Mu tm args.toList=Mu g_ args.toList:=sR fun x j=>h x (by simp only[Op.operands,Call.operands,Array.mem_append];exact .inr (dM.1 j))
   simp only[Dz,u]
  | _=>rfl
 | select cs bl=>
  cases bl with
  | true=>rfl
  | false=>
   simp only[Dz];split
   ·rename_i c B
    have e:c∈cs:=dM.1 (by rw[B];exact aW);have u:Cj tm c.chan=Cj g_ c.chan:=h c.chan (by
     simp only[Op.operands,Array.mem_flatMap];exact⟨c,e,by simp⟩)
    have h2:∀y,c.send=some y->Cj tm y=Cj g_ y:=fun y C=>h y (by
     simp only[Op.operands,Array.mem_flatMap];exact⟨c,e,by simp[C]⟩)
    rw[u];cases hs:c.send with
    | none=>
     cases Cj g_ c.chan with
     | none=>rfl
     | some v=>cases v<;>rfl
    | some y=>
     cases Cj g_ c.chan with
     | none=>rfl
     | some v=>cases v<;>first|rfl|(simp only[h2 y hs])
   ·rfl
 | makeMap t r=>cases r<;>rfl
 | load t x=>simp only[Dz,h x (by simp[Op.operands])]
 | store t a x=>simp only[Dz,h a (by simp[Op.operands]),h x (by simp[Op.operands])]
 | alloc t=>rfl
 | box t x=>simp only[Dz,h x (by simp[Op.operands])]
 | makeSlice t a x=>simp only[Dz,h a (by simp[Op.operands]),h x (by simp[Op.operands])]
 | makeChan t x=>simp only[Dz,h x (by simp[Op.operands])]
 | lookup t a x ok=>simp only[Dz,h a (by simp[Op.operands]),h x (by simp[Op.operands])]
 | mapUpdate t a x y=>simp only[Dz,h a (by simp[Op.operands]),h x (by simp[Op.operands]),h y (by simp[Op.operands])]
 | _=>rfl
theorem Bjc{call:Ah}(h:∀x∈op.operands,Cj tm x=Cj g_ x):aop T call round tm op hp=aop T call round g_ op hp:=by
 unfold aop;rw[Bei h];congr 1;split
 ·rename_i f args e
  have h0:Cj tm f=Cj g_ f:=h f (by simp[Op.operands,Call.operands]);have j:Mu tm args.toList=Mu g_ args.toList:=sR fun x u=>h x (by simp only[Op.operands,Call.operands,Array.mem_append];exact .inr (dM.1 u))
  rw[h0,j]
 ·exact Bb0 h
theorem Baj {A j:Operand->Value}(o:Oper)(u:∀cs b,o.op=.select cs b->∃c,cs = #[c])(h:∀x∈o.op.operands,A x=j x):execOp A o=execOp j o:=by
 by_cases hs:∃cs b,o.op=.select cs b
 ·obtain⟨cs,b,B⟩:=hs
  obtain⟨c,rfl⟩:=u cs b B;rw[B]at h;have C:A c.chan=j c.chan:=h _ (by simp[Op.operands]);have h2:c.send.map A=c.send.map j:=by
   cases hs:c.send with
   | none=>rfl
   | some y=>simp only[eI];rw[h y (by simp[Op.operands,hs])]
  simp only[execOp,B];simp[C,h2]
 ·exact execOp_congr o (fun cs b e=>hs ⟨cs,b,e⟩) h
noncomputable def jA(tm:Ba):List Operand->Ba
 | []=>.nil
 | .tmp t::r=>(jA tm r).put t (tm.get t)
 | _::r=>jA tm r
open Classical in
theorem po(tm:Ba):∀(l:List Operand) (t:Nat),(jA tm l).get t=if .tmp t∈l then tm.get t else none
 | [],t=>by simp[jA,Tr.get_nil]
 | .tmp u::r,t=>by
  simp only[jA,Tr.get_put,po tm r t,bX,Operand.tmp.injEq];by_cases h:u=t
  ·subst h;simp
  ·rw[aG h];simp[cY h]
 | .const v::r,t=>by simp only[jA,po tm r t,bX,reduceCtorEq,false_or]
 | .global v::r,t=>by simp only[jA,po tm r t,bX,reduceCtorEq,false_or]
 | .func v::r,t=>by simp only[jA,po tm r t,bX,reduceCtorEq,false_or]
theorem Bc9(tm:Ba){l:List Operand}(e:x∈l):Cj (jA tm l) x=Cj tm x:=by
 cases x with
 | tmp t=>simp only[Cj];rw[po,aI e]
 | const v=>rfl
 | global v=>rfl
 | func v=>rfl
theorem Bke{l:List Operand}(h:∀t,.tmp t∈l->∀v,tm.get t=some v->v.ok p)(j:∀t,n<=t->tm.get t=none):Lr p n (jA tm l) where
 ok t v e:=by
  rw[po]at e;split at e
  ·rename_i hm;exact h t hm v e
  ·cases e
 out t u:=by
  rw[po];split
  ·exact j t u
  ·rfl
theorem Bp3(F:Cj tm x=some (.ptr q off))(j:Dz T tm (.load t x) h=some (v,h')):
 ∃o,h.get q=some o/\∀h2:Ab,h2.get q=some o->Dz T tm (.load t x) h2=some (v,h2):=by
 have u:∀n l,I6 h q off n=some l->∃o,h.get q=some o/\∀h2:Ab,h2.get q=some o->I6 h2 q off n=some l:=by
  intro n l y;cases C:h.get q with
  | none=>simp[I6,C]at y
  | some o=>exact⟨o,rfl,fun h2 e=>by unfold I6 at y⊢;rw[e];rw[C]at y;exact y⟩
 simp only[Dz,F]at j⊢;split at j
 ·rename_i G
  split at j
  ·rename_i n H
   split at j
   ·rename_i l y
    cases j;obtain⟨o,A,h2⟩:=u n l y;exact⟨o,A,fun B e=>by simp only[h2 B e]⟩
   ·cases j
  ·cases j
 ·rename_i G
  split at j
  ·rename_i l y
   cases j;obtain⟨o,A,h2⟩:=u 1 _ y;exact⟨o,A,fun B e=>by simp only[h2 B e]⟩
  ·cases j
 ·cases j
theorem Bk8{a:Operand}(C:Cj tm a=some (.ptr q off))(j:Dz T tm (.store t a x) h=some (v,h')):
 ∃o o',h.get q=some o/\h'=h.put q o'/\∀h2:Ab,h2.get q=some o->Dz T tm (.store t a x) h2=some (v,h2.put q o'):=by
 have hw:∀vs h',Ml h q off vs=some h'->∃o o',h.get q=some o/\h'=h.put q o'/\∀h2:Ab,h2.get q=some o->Ml h2 q off vs=some (h2.put q o'):=by
  intro vs h' u;unfold Ml at u;split at u
  ·rename_i l F y
   split at u
   ·rename_i l' hs
    cases u;exact⟨_,_,y,rfl,fun h2 e=>by unfold Ml;rw[e];simp only[hs]⟩
   ·cases u
  ·rename_i l F sz y
   split at u
   ·rename_i l' hs
    cases u;exact⟨_,_,y,rfl,fun h2 e=>by unfold Ml;rw[e];simp only[hs]⟩
   ·cases u
  ·cases u
 simp only[Dz,C]at j⊢;split at j
 ·rename_i L B M O e1 e2 e3
  cases e1;obtain⟨c1,j⟩:=Ap j;obtain⟨c2,j⟩:=Ap j;split at j
  ·rename_i Q A
   cases j;obtain⟨o,o',G,H,J⟩:=hw _ _ A;refine⟨o,o',G,H,fun h2 e=>?_⟩;simp only[c1,c2,Ak,J h2 e]
  ·cases j
 ·cases j
theorem RH(h:mF op=true):∃b args e,op=.call { callee:=.builtin b,args,argTypes:=e }/\(b=.len\/b=.min\/b=.max):=by
 cases op with
 | call c=>
  obtain⟨callee,args,e⟩:=c;cases callee with
  | builtin b=>cases b<;>first|(cases h;done)|exact⟨_,_,_,rfl,by simp⟩
  | _=>cases h
 | _=>cases h
theorem PJ(hp:mF op=true)(e:Dz T tm op h=some (v,h')):h'=h:=by
 obtain⟨b,args,j,rfl,hb⟩:=RH hp;simp only[Dz]at e;split at e
 ·rename_i as has
  rcases hb with rfl|rfl|rfl
  ·match as,e with
   | [x],e=>
    simp only[builtin]at e
    repeat' split at e
    all_goals first|(cases e;done)|(cases e;rfl)
   | [],e=>cases e
   | _::_::_,e=>cases e
  ·match as,e with
   | x::l,e=>
    cases x<;>first|(cases e;done)|skip
    simp only[builtin]at e;split at e
    ·cases e;rfl
    ·cases e
   | [],e=>cases e
  ·match as,e with
   | x::l,e=>
    cases x<;>first|(cases e;done)|skip
    simp only[builtin]at e;split at e
    ·cases e;rfl
    ·cases e
   | [],e=>cases e
 ·cases e
theorem ya{call:Ah}(hp:mF op=true):aop T call round tm op h=Dz T tm op h:=by
 obtain⟨b,args,e,rfl,hb⟩:=RH hp;rfl
theorem sD(b c:Bool):Bb b lC.val (Bb c .pur .big)≠.new/\Bb b lC.val (Bb c .pur .big)≠.load/\Bb b lC.val (Bb c .pur .big)≠.sto:=by
 cases b<;>cases c<;>exact⟨fun h=>(by cases h),fun h=>(by cases h),fun h=>(by cases h)⟩
theorem ye(h:cls op=.new):(∃t,op=.alloc t)\/(∃t x,op=.box t x)\/(∃t n ps,op=.buildSlice t n ps)\/(∃t a b,op=.makeSlice t a b)\/(∃t r,op=.makeMap t r)\/(∃t x,op=.makeChan t x):=by
 cases op<;>first
  | (rename_i c;exact absurd (show Bb false lC.val (Bb (mF (.call c)) .pur .big)=.new from h) (sD _ _).1)
  | exact absurd h (sD _ _).1
  | (cases h;done)
  | exact .inl ⟨_,rfl⟩|exact .inr (.inl ⟨_,_,rfl⟩)|exact .inr (.inr (.inl ⟨_,_,_,rfl⟩))|exact .inr (.inr (.inr (.inl ⟨_,_,_,rfl⟩)))
  | exact .inr (.inr (.inr (.inr (.inl ⟨_,_,rfl⟩))))|exact .inr (.inr (.inr (.inr (.inr ⟨_,_,rfl⟩))))
theorem Bsy(A:cls op=.new)(j:Dz T tm op h=some (v,h')):
 ∃o,h'=h.new o/\∀h2:Ab,h2.next=h.next->Dz T tm op h2=some (v,h2.new o):=by
 rcases ye A with⟨t,rfl⟩|⟨t,x,rfl⟩|⟨t,n,ps,rfl⟩|⟨t,a,b,rfl⟩|⟨t,r,rfl⟩|⟨t,x,rfl⟩
 ·simp only[Dz]at j⊢
  split at j
  ·cases j;exact⟨_,rfl,fun h2 e=>by rw[e]⟩
  ·cases j
 ·simp only[Dz]at j⊢
  split at j
  ·obtain⟨y,u⟩:=Ap j
   cases u;exact⟨_,rfl,fun h2 e=>by rw[y,e];rfl⟩
  ·cases j
 ·simp only[Dz]at j⊢
  split at j
  ·split at j
   ·obtain⟨y,u⟩:=Ap j
    split at u
    ·rename_i C
     cases u;exact⟨_,rfl,fun h2 e=>by rw[y,e];rfl⟩
    ·cases u
   ·cases j
  ·cases j
 ·simp only[Dz]at j⊢
  split at j
  ·split at j
   ·obtain⟨y,u⟩:=Ap j
    obtain⟨h4,B⟩:=Ap u;cases B;exact⟨_,rfl,fun h2 e=>by rw[y,h4,e];rfl⟩
   ·cases j
  ·cases j
 ·cases r with
  | none=>cases j;exact⟨_,rfl,fun h2 e=>by simp only[Dz,e]⟩
  | some r=>cases j
 ·simp only[Dz]at j⊢
  split at j
  ·split at j
   ·obtain⟨y,u⟩:=Ap j
    cases u;exact⟨_,rfl,fun h2 e=>by rw[y,e];rfl⟩
   ·cases j
  ·cases j
end
theorem Hy(i j:Nat):(Nat.shiftLeft 1 i).testBit j=decide (i=j):=by
 have:Nat.shiftLeft 1 i=2^i:=by
  have:=Nat.one_shiftLeft i;exact this
 rw[this,Nat.testBit_two_pow]
theorem No(a b j:Nat):(Nat.lor a b).testBit j=(a.testBit j||b.testBit j):=Nat.testBit_or a b j
theorem yH(a b j:Nat):(Nat.land a b).testBit j=(a.testBit j&&b.testBit j):=Nat.testBit_and a b j
theorem yI {x b:Nat}(h:within x b=true){j:Nat}(hj:x.testBit j=true):b.testBit j=true:=by
 have e:Nat.land x b=x:=aL h;rw[<-e,yH]at hj;simpa using(Bool.and_eq_true_iff.1 hj).2
theorem A5v {b:Nat}(h:b.testBit i=false):within (Nat.shiftLeft 1 i) b=false:=by
 cases hw:within (Nat.shiftLeft 1 i) b with
 | false=>rfl
 | true=>rw[yI hw (j:=i) (by rw[Hy];simp)]at h;cases h
theorem RI {x y:Nat}(h:Nat.land x y=0){t:Nat}(e:x.testBit t=true):y.testBit t=false:=by
 have:(Nat.land x y).testBit t=false:=by rw[h];exact dc t
 rw[yH,e]at this;simpa using this
theorem Blf {x y:Nat}(h:Nat.lor x y=0):x=0/\y=0:=by
 have e:∀t,x.testBit t=false/\y.testBit t=false:=by
  intro t;have:(Nat.lor x y).testBit t=false:=by rw[h];exact dc t
  rw[No]at this;simpa using this
 exact⟨Nat.eq_of_testBit_eq fun t=>by rw[(e t).1,dc],Nat.eq_of_testBit_eq fun t=>by rw[(e t).2,dc]⟩
theorem RJ(bs:Tr Nat):∀(l:List Edge) (x:Nat) (j:Nat),(qy bs l x).testBit j=true ->
 x.testBit j=true\/∃e∈l,nQ e=true/\(j=e.on\/∃y,bs.get e.on=some y/\y.testBit j=true)
 | [],x,j,h=>.inl h
 | e::r,x,j,h=>by
  simp only[qy]at h;rcases RJ bs r _ j h with h|⟨e',he,u,h2⟩
  ·rw[Bq]at h
   split at h
   ·rename_i hb
    rw[No,No,Hy]at h;simp only[dZ,aV]at h;rcases h with h|h|h
    ·exact .inl h
    ·exact .inr ⟨e,aW,hb,.inl h.symm⟩
    ·refine .inr ⟨e,aW,hb,.inr ?_⟩
     split at h
     ·rename_i y A;exact⟨y,A,h⟩
     ·rw[dc]at h;cases h
   ·exact .inl h
  ·exact .inr ⟨e',aU _ he,u,h2⟩
theorem RK(l:List Oper):∀(i:Nat) (bs:Tr Nat) (j:Nat),j<i->(Oq l i bs).get j=bs.get j:=by
 induction l with
 | nil=>intros;rfl
 | cons o r e=>
  intro i bs j hj;simp only[Oq];rw[e _ _ _ (Nat.lt_succ_of_lt hj),Tr.Af _ _ (by omega)]
theorem yd(l:List Oper):∀(i:Nat) (bs:Tr Nat),(∀j,i<=j->bs.get j=none)->∀(k:Nat) (o:Oper),l[k]? = some o ->
 ∃b,(Oq l i bs).get (i+k)=some b/\∀j,b.testBit j=true->∃e∈o.after.toList,nQ e=true/\(j=e.on\/∃y,(Oq l i bs).get e.on=some y/\y.testBit j=true):=by
 induction l with
 | nil=>intro i bs _ k o h;simp at h
 | cons o' r B=>
  intro i bs A k o h;simp only[Oq];cases k with
  | zero=>
   simp only[bK,cU]at h;subst h;refine⟨qy bs o'.after.toList 0,?_,fun j hj=>?_⟩
   ·rw[dS,RK _ _ _ _ (by omega),Tr.Ae]
   ·rcases RJ bs _ _ j hj with h|⟨e,he,C,h2⟩
    ·rw[dc]at h;cases h
    ·refine⟨e,he,C,h2.imp id ?_⟩
     rintro⟨y,u,hj⟩;have:e.on<i:=by
      cases cb e.on i with
      | inl h=>exact h
      | inr h=>rw[A _ h]at u;cases u
     exact⟨y,by rw[RK _ _ _ _ (by omega),Tr.Af _ _ (by omega)];exact u,hj⟩
  | succ k=>
   have:=B (i+1) (bs.put i (some (qy bs o'.after.toList 0))) (fun j hj=>by rw[Tr.Af _ _ (by omega)];exact A j (by omega)) k o (by simpa using h);rw[show i+1+k=i+(k+1) by omega]at this;exact this
theorem Xg:∀(l:List Operand) (x t:Nat),(mJ l x).testBit t=true↔x.testBit t=true\/.tmp t∈l
 | [],x,t=>by simp[mJ]
 | .tmp u::r,x,t=>by
  simp only[mJ];rw[Xg r,No,Hy];simp only[dZ,aV,bX,Operand.tmp.injEq];constructor
  ·rintro((h|h)|h)
   ·exact .inl h
   ·exact .inr (.inl h.symm)
   ·exact .inr (.inr h)
  ·rintro(h|h|h)
   ·exact .inl (.inl h)
   ·exact .inl (.inr h.symm)
   ·exact .inr h
 | .const v::r,x,t=>by simp only[mJ];rw[Xg r];simp
 | .global v::r,x,t=>by simp only[mJ];rw[Xg r];simp
 | .func v::r,x,t=>by simp only[mJ];rw[Xg r];simp
theorem vm(o:Oper)(t:Nat):(nS o).testBit t=true↔o.dst=some t:=by
 unfold nS;cases o.dst with
 | none=>simp
 | some d=>simp only[Hy,aV,cU]
def sS(ops:List Oper)(o:Oper)(t:Nat):Prop:=.tmp t∈o.op.operands.toList\/∃j want g,o.guard=some (j,want)/\ops[j]? = some g/\g.dst=some t
theorem RL(ops:List Oper)(o:Oper)(t:Nat):(pa ops o).testBit t=true↔sS ops o t:=by
 unfold pa sS;rw[No,dZ,Xg,dc];apply or_congr
 ·simp
 ·cases y:o.guard with
  | none=>simp
  | some x=>
   obtain⟨j,want⟩:=x;simp only[u9,cU,Prod.mk.injEq];cases hj:ops[j]? with
   | none=>
    simp only[dc,aX,false_iff];rintro⟨e,w',g,⟨rfl,_⟩,h2,_⟩;rw[hj]at h2;cases h2
   | some g=>
    simp only[];rw[vm];constructor
    ·intro h;exact⟨j,want,g,⟨rfl,rfl⟩,hj,h⟩
    ·rintro⟨e,w',A,⟨rfl,_⟩,h2,u⟩
     rw[hj]at h2;cases h2;exact u
theorem RM(u l' b:Nat):∀(ms:List (Nat × Nat)) (j k d l:Nat),sF u l' b ms j=true->ms[k]? = some (d,l)->uX (j+k) d l u l' b=true
 | [],_,_,_,_,_,h=>by simp at h
 | (d,l)::r,j,0,d0,l0,h,e=>by
  simp only[bK,cU,Prod.mk.injEq]at e;simp only[sF]at h;rw[Bq]at h;split at h
  ·rename_i hp;rw[<-e.1,<-e.2];exact hp
  ·cases h
 | (d,l)::r,j,k+1,d0,l0,h,e=>by
  simp only[sF]at h;rw[Bq]at h;split at h
  ·have:=RM u l' b r (j+1) k d0 l0 h (by simpa using e)
   rw[show j+1+k=j+(k+1) by omega]at this;exact this
  ·cases h
theorem RN(ops:List Oper)(bs:Tr Nat):∀(l:List Oper) (i:Nat) (ms:List (Nat × Nat)),mC ops bs l i ms=true->ms.length=i->∀k o,l[k]? = some o ->
 ∃b,bs.get (i+k)=some b/\∀j d l',(ms++l.map fun o=>(nS o,pa ops o))[j]? = some (d,l')->j<i+k->uX j d l' (nS o) (pa ops o) b=true
 | [],_,_,_,_,_,_,h=>by simp at h
 | o'::r,i,ms,h,hm,0,o,e=>by
  simp only[bK,cU]at e;subst e;simp only[mC]at h;split at h
  ·rename_i b hb
   rw[Bq]at h;split at h
   ·rename_i hp
    refine⟨b,hb,fun j d l' hj u=>?_⟩;have:ms[j]? = some (d,l'):=by rw[bm (by omega)]at hj;exact hj
    have:=RM _ _ _ ms 0 j d l' hp this
    rwa [bM]at this
   ·cases h
  ·cases h
 | o'::r,i,ms,h,hm,k+1,o,e=>by
  simp only[mC]at h;split at h
  ·rename_i b hb
   rw[Bq]at h;split at h
   ·obtain⟨y,A,h2⟩:=RN ops bs r (i+1) _ h (by simp[hm]) k o (by simpa using e)
    refine⟨y,by rw[<-A];congr 1;omega,fun j d l' hj u=>h2 j d l' ?_ (by omega)⟩;rw[bY];simpa using hj
   ·cases h
  ·cases h
theorem yJ {ops:List Oper}{bs:Tr Nat}(h:mC ops bs ops 0 []=true){y j:Oper}(C:ops[i]? = some y)(hm:ops[m]? = some j)(F:i<m){b:Nat}(hb:bs.get m=some b)(G:b.testBit i=false):
 (∀t,y.dst=some t->j.dst≠some t/\¬sS ops j t)/\(∀t,sS ops y t->j.dst≠some t):=by
 obtain⟨L,A,h2⟩:=RN ops bs ops 0 [] h rfl m j hm;rw[bM]at A;rw[hb]at A;cases A;have:=h2 i (nS y) (pa ops y) (by simp[C]) (by omega);unfold uX at this;have H:Nat.beq (Nat.land b (Nat.shiftLeft 1 i)) 0=true:=by
  have:Nat.land b (Nat.shiftLeft 1 i)=0:=Nat.eq_of_testBit_eq fun t=>by
   rw[yH,Hy,dc];by_cases e:i=t
   ·subst e;simp[G]
   ·simp[e]
  rw[this];rfl
 rw[H,Ak]at this;obtain⟨z1,J⟩:=Blf (aL this);refine⟨fun t B=>?_,fun t B hd=>?_⟩
 ·have u:=RI z1 ((vm y t).2 B)
  rw[No,Bool.or_eq_false_iff]at u;refine⟨fun e=>?_,fun e=>?_⟩
  ·rw[(vm j t).2 e]at u;exact absurd u.1 (by simp)
  ·rw[(RL ops j t).2 e]at u;exact absurd u.2 (by simp)
 ·have u:=RI J ((RL ops y t).2 B)
  rw[(vm j t).2 hd]at u;cases u
theorem RO(i:Nat):∀(l:List Edge),uY i l=true->∀e∈l,nQ e=true->e.on<i
 | [],_,e,he,_=>by simp at he
 | a::r,h,e,he,hb=>by
  simp only[uY]at h;rw[Bq]at h;split at h
  ·rename_i j
   rcases bX.1 he with rfl|he
   ·rw[hb,Ak]at j;exact bL j
   ·exact RO i r h e he hb
  ·cases h
theorem RP:∀(l:List Oper) (i:Nat),nL l i=true->∀k o,l[k]? = some o->∀e∈o.after.toList,nQ e=true->e.on<i+k
 | [],_,_,_,_,h=>by simp at h
 | a::r,i,h,0,o,j=>by
  simp only[bK,cU]at j;subst j;simp only[nL]at h;rw[Bq]at h;split at h
  ·rename_i hb;exact RO i _ hb
  ·cases h
 | a::r,i,h,k+1,o,j=>by
  simp only[nL]at h;rw[Bq]at h;split at h
  ·intro e he hb
   have:=RP r (i+1) h k o (by simpa using j) e he hb;omega
  ·cases h
section
open Classical
inductive Kd where
 | idle|load (q:Nat)|new|sto (q:Nat)|big (mw:Nat)
def bare(n:Nat):Ab:=⟨.nil,n,n⟩
theorem Bly(n q:Nat):(bare n).get q=none:=rfl
noncomputable def Aqu(n q:Nat)(o:D3):Ab:=⟨Tr.nil.put q (some o),n,n⟩
theorem Of(n q:Nat)(o:D3)(r:Nat):(Aqu n q o).get r=if q=r then some o else none:=by
 show(Tr.nil.put q (some o)).get r=_;rw[Tr.get_put];rfl
structure Sd(T:Ig)(call round:Ah)(n:Nat)(ops:List Oper)(bs:Tr Nat)(base:Nat)(o:Oper)(i:Nat)(s s':iZ)(v:EV)(E E':Ab)(kd:Kd):Prop where
 tm:s'.tm=Po n s.tm o.dst v
 run:(wanted ops s.tm o.guard=false/\v=.tuple []/\E'=E)\/(wanted ops s.tm o.guard=true/\aop T call round s.tm o.op E=some (v,E'))
 Ag5:E.next=s.h.next
 Af8:E'.next=s'.h.next
 sub:∀q x,E.get q=some x->s.h.get q=some x
 Bl2:∀q,s'.h.get q=if E'.get q=E.get q then s.h.get q else E'.get q
 w:AWf E E'
 mw:s'.h.mw<=s.h.mw/\∀q,q<s'.h.mw->q<s.h.next->E'.get q=E.get q
 kd:match kd with
  | .idle=>E=bare s.h.next/\E'=E/\s'.bg=s.bg/\s'.nw=s.nw/\s'.Cw=s.Cw/\s'.lou=s.lou/\s'.st=s.st
  | .load q=>(∃x,E=Aqu s.h.next q x)/\E'=E/\s'.bg=s.bg/\s'.nw=s.nw/\s'.Cw=(Nat.shiftLeft 1 i,q)::s.Cw/\s'.lou=s.lou/\s'.st=s.st /\
   ∃b,bs.get i=some b/\Fm b q s.st=true/\((q<base/\Yx b q s.lou=true)\/(base<=q/\within s.bg b=true/\loose b s.nw = []))
  | .new=>E=bare s.h.next/\(∃x,E'=E.new x)/\s'.bg=s.bg/\s'.nw=(Nat.shiftLeft 1 i,s.h.next)::s.nw/\s'.Cw=s.Cw/\s'.lou=s.lou/\s'.st=s.st
  | .sto q=>(∃x y,E=Aqu s.h.next q x/\E'=E.put q y)/\s'.bg=s.bg/\s'.nw=s.nw/\s'.Cw=s.Cw/\s'.lou=s.lou/\s'.st=(Nat.shiftLeft 1 i,q)::s.st /\
   ∃b,bs.get i=some b/\within s.bg b=true/\Fm b q s.st=true/\Fm b q s.Cw=true/\A0g q (loose b s.nw)=true
  | .big mw=>∃b,bs.get i=some b/\within s.bg b=true/\Ay1 b s.st=true/\(∀q,E.get q=if q∈loose b s.nw then none else s.h.get q)/\s'.bg=Nat.lor s.bg (Nat.shiftLeft 1 i)/\s'.nw=s.nw/\s'.Cw=s.Cw/\s'.st=s.st /\
   (∀q,q<mw->q<s.h.next->E'.get q=E.get q)/\((s.h.next<=mw/\s'.lou=s.lou)\/(Se b mw s.Cw=true/\s'.lou=(Nat.shiftLeft 1 i,mw)::s.lou))
theorem vn {b:Nat}:∀{l:List (Nat × Nat)} {q:Nat},q∈loose b l↔∃m,(m,q)∈l/\within m b=false
 | [],q=>by simp[loose]
 | (m,r)::l,q=>by
  simp only[loose];rw[Bq];split
  ·rename_i h
   rw[vn];constructor
   ·rintro⟨u,j,h2⟩;exact⟨u,aU _ j,h2⟩
   ·rintro⟨u,j,h2⟩
    rcases bX.1 j with e|j
    ·cases e;rw[h]at h2;cases h2
    ·exact⟨u,j,h2⟩
  ·rename_i h
   rw[bX,vn];constructor
   ·rintro(rfl|⟨u,j,h2⟩)
    ·exact⟨m,aW,by simpa using h⟩
    ·exact⟨u,aU _ j,h2⟩
   ·rintro⟨u,j,h2⟩
    rcases bX.1 j with e|j
    ·cases e;exact .inl rfl
    ·exact .inr ⟨u,j,h2⟩
theorem wu(t:Tr D3):∀(l:List Nat) (q:Nat),(kq t l).get q=if q∈l then none else t.get q
 | [],q=>by simp[kq]
 | a::r,q=>by
  simp only[kq,Tr.get_put,wu t r q,bX];by_cases h:a=q
  ·subst h;simp
  ·rw[aG h];simp[cY h]
theorem wv(t e:Tr D3):∀(l:List Nat) (q:Nat),(j_ t e l).get q=if q∈l then t.get q else e.get q
 | [],q=>by simp[j_]
 | a::r,q=>by
  simp only[j_,Tr.get_put,wv t e r q,bX];by_cases h:a=q
  ·subst h;simp
  ·rw[aG h];simp[cY h]
theorem Bl5{call:Ah}(j:nO op=true)(e:Fc T tm op=some v):aop T call round tm op h=some (v,h):=by
 unfold aop;rw[j,Ak,e]
theorem RQ {b c:Bool}(h:Bb b lC.val (Bb c .pur .big)=.val):b=true:=by
 cases b<;>cases c<;>first|rfl|(cases h)
theorem yc(h:cls op=.val):nO op=true:=by
 cases op<;>first|rfl|(rename_i c;exact absurd (RQ (show Bb false lC.val (Bb (mF (.call c)) .pur .big)=.val from h)) (by simp))|exact RQ h|(cases h)
theorem RR {b c:Bool}(h:Bb b lC.val (Bb c .pur .big)=.pur):c=true:=by
 cases b<;>cases c<;>first|rfl|(cases h)
theorem uR(h:cls op=.pur):mF op=true:=by
 cases op<;>first|(rename_i c;exact RR (show Bb false lC.val (Bb (mF (.call c)) .pur .big)=.pur from h))|exact RR h|(cases h)
theorem vp{call:Ah}(e:nO op=false)(j:∀c,op≠.call c):aop T call round tm op h=Dz T tm op h:=by
 unfold aop;rw[e,Bm];split
 ·exact absurd rfl (j _)
 ·rfl
theorem RS(h:cls op=.new):nO op=false/\∀c,op≠.call c:=by
 rcases ye h with⟨t,rfl⟩|⟨t,x,rfl⟩|⟨t,n,ps,rfl⟩|⟨t,a,b,rfl⟩|⟨t,r,rfl⟩|⟨t,x,rfl⟩<;>exact⟨rfl,fun _ h=>by cases h⟩
section
variable{call:Ah}(hC:Wc call)(hR:Wc round){ops:List Oper}{bs:Tr Nat}
include hC hR in
theorem yK{s s':iZ}(h:V9 T call round n ops bs base o i s=some s')(ag:∀x∈s.nw,x.2<s.h.next):
 ∃v E E' kd,Sd T call round n ops bs base o i s s' v E E' kd:=by
 obtain⟨dst,op,ty,ps,af,g⟩:=o;obtain⟨tm,hp,bg,nw,Cw,lou,st⟩:=s;simp only[V9]at h;rw[Bq]at h;split at h
 ·rename_i hw
  split at h
  ·cases h
  ·rename_i b hb
   split at h
   ·rename_i G
    split at h
    ·rename_i v hv
     cases h;exact⟨v,bare hp.next,bare hp.next,.idle,rfl,.inr ⟨hw,Bl5 (yc G) hv⟩,rfl,rfl,fun q x C=>(by cases C),fun q=>(by simp),.refl _,⟨aE _,fun _ _ _=>rfl⟩,rfl,rfl,rfl,rfl,rfl,rfl,rfl⟩
    ·cases h
   ·rename_i G
    split at h
    ·rename_i t x
     split at h
     ·rename_i q off C
      obtain⟨j,h⟩:=Ap h;split at h
      ·rename_i v h' y
       cases h;obtain⟨ob,O,X⟩:=Bp3 C y;refine⟨v,Aqu hp.next q ob,Aqu hp.next q ob,.load q,rfl,.inr ⟨hw,?_⟩,rfl,rfl,fun r x Q=>?_,fun q=>(by simp),.refl _,⟨aE _,fun _ _ _=>rfl⟩,⟨_,rfl⟩,rfl,rfl,rfl,rfl,rfl,rfl,b,hb,?_⟩
       ·rw[vp rfl (fun _ e=>by cases e)]
        exact X _ (by rw[Of,aI rfl])
       ·rw[Of]at Q
        split at Q
        ·rename_i e;subst e;cases Q;exact O
        ·cases Q
       ·rw[Bq]at j
        split at j
        case isFalse=>cases j
        rename_i host;refine⟨host,?_⟩;rw[Bq]at j;split at j
        ·rename_i M;exact .inl ⟨bL M,j⟩
        ·rename_i M
         refine .inr ⟨?_,?_⟩
         ·cases cb q base with
          | inl h=>exact absurd (nU h) M
          | inr h=>exact h
         ·rw[Bq]at j
          split at j
          ·rename_i H
           refine⟨H,?_⟩;simp only[];split at j
           ·rename_i e;exact e
           ·cases j
          ·cases j
      ·cases h
     ·cases h
    ·cases h
   ·rename_i G
    split at h
    ·rename_i v h' y
     cases h;obtain⟨x,rfl,ah⟩:=Bsy G y;refine⟨v,bare hp.next,(bare hp.next).new x,.new,rfl,.inr ⟨hw,?_⟩,rfl,rfl,fun q x C=>(by cases C),fun q=>?_,.new _ _,⟨aE _,fun q _ h2=>?_⟩,rfl,⟨x,rfl⟩,rfl,rfl,rfl,rfl,rfl⟩
     ·rw[vp (RS G).1 (RS G).2]
      exact ah _ rfl
     ·show(hp.new x).get q=_
      rw[Ab.K7,Ab.K7,Bly];show(if hp.next=q then some x else hp.get q)=if(if hp.next=q then some x else none)=none then hp.get q else if hp.next=q then some x else none
      by_cases e:hp.next=q
      ·rw[aI e,aI e,aG (by simp)]
      ·rw[aG e,aG e,aI rfl]
     ·have ao:q<hp.next:=h2
      rw[Ab.K7,aG];show ¬hp.next=q
      omega
    ·cases h
   ·
    rename_i G;split at h
    ·rename_i t a x
     split at h
     ·rename_i q off ha
      obtain⟨j,h⟩:=Ap h;split at h
      ·rename_i v h' y
       cases h;obtain⟨ob,J,O,rfl,X⟩:=Bk8 ha y;have ai:within bg b=true/\Fm b q st=true/\Fm b q Cw=true/\A0g q (loose b nw)=true:=by
        rw[Bq]at j;split at j
        case isFalse=>cases j
        rename_i c1;rw[Bq]at j;split at j
        case isFalse=>cases j
        rename_i c2;rw[Bq]at j;split at j
        case isFalse=>cases j
        rename_i c3;exact⟨c1,c2,c3,j⟩
       have ab:(Aqu hp.next q ob).get q=some ob:=by rw[Of,aI rfl]
       refine⟨v,Aqu hp.next q ob,(Aqu hp.next q ob).put q J,.sto q,rfl,.inr ⟨hw,?_⟩,rfl,rfl,fun r x Q=>?_,fun r=>?_,.put ab _,⟨?_,fun r F h2=>?_⟩,⟨_,_,rfl,rfl⟩,rfl,rfl,rfl,rfl,rfl,b,hb,ai⟩
       ·rw[vp rfl (fun _ e=>by cases e)]
        exact X _ ab
       ·rw[Of]at Q
        split at Q
        ·rename_i e;subst e;cases Q;exact O
        ·cases Q
       ·show(hp.put q J).get r=_
        rw[Ab.get_put,Ab.get_put,Of];by_cases e:q=r
        ·subst e
         rw[aI rfl,aI rfl,aI rfl];by_cases e2:some J=some ob
         ·rw[aI e2,e2];exact O.symm
         ·rw[aG e2]
        ·rw[aG e,aG e,aG e,aI rfl]
       ·show(hp.put q J).mw<=hp.mw
        rw[Ab.nA];exact Nat.min_le_right _ _
       ·have Y:r<(hp.put q J).mw:=F
        rw[Ab.nA]at Y;rw[Ab.get_put,aG (by omega)]
      ·cases h
     ·cases h
    ·cases h
   ·
    rename_i G;split at h
    ·rename_i v h' y
     cases h;have:=PJ (uR G) y;subst this;exact⟨v,bare hp.next,bare hp.next,.idle,rfl,.inr ⟨hw,(ya (uR G)).trans y⟩,rfl,rfl,fun q x C=>(by cases C),fun q=>(by simp),.refl _,⟨aE _,fun _ _ _=>rfl⟩,rfl,rfl,rfl,rfl,rfl,rfl,rfl⟩
    ·cases h
   ·rename_i G
    obtain⟨A,h⟩:=Ap h;have H:within bg b=true:=by
     rw[Bq]at A;split at A
     ·rename_i c1;exact c1
     ·cases A
    have ad:Ay1 b st=true:=by rw[H,Ak]at A;exact A
    obtain⟨t,nx,mw⟩:=hp;simp only[]at h;split at h
    ·rename_i v L B u y
     have hwf:=RG hC hR y;have hE:∀q,(⟨kq t (loose b nw),nx,nx⟩:Ab).get q=if q∈loose b nw then none else(⟨t,nx,mw⟩:Ab).get q:=fun q=>wu t _ q
     have U:∀q x,(⟨kq t (loose b nw),nx,nx⟩:Ab).get q=some x->(⟨t,nx,mw⟩:Ab).get q=some x:=by
      intro q x C;rw[hE]at C;split at C
      ·cases C
      ·exact C
     have ae:∀Z q,(⟨j_ t L (loose b nw),B,Z⟩:Ab).get q=if(⟨L,B,u⟩:Ab).get q=(⟨kq t (loose b nw),nx,nx⟩:Ab).get q then(⟨t,nx,mw⟩:Ab).get q else(⟨L,B,u⟩:Ab).get q:=by
      intro Z q;have e1:(⟨j_ t L (loose b nw),B,Z⟩:Ab).get q=if q∈loose b nw then t.get q else L.get q:=wv t L _ q
      rw[e1];by_cases M:q∈loose b nw
      ·rw[aI M]
       by_cases he:(⟨L,B,u⟩:Ab).get q=(⟨kq t (loose b nw),nx,nx⟩:Ab).get q
       ·rw[aI he];rfl
       ·exfalso
        apply he;rw[hE,aI M];cases C:(⟨L,B,u⟩:Ab).get q with
        | none=>rfl
        | some o=>
         rcases hwf.live q o C with⟨o',F⟩|F
         ·rw[hE,aI M]at F;cases F
         ·obtain⟨m,hm,_⟩:=vn.1 M
          have h2:q<nx:=ag _ hm;have h3:nx<=q:=F;omega
      ·rw[aG M]
       by_cases he:(⟨L,B,u⟩:Ab).get q=(⟨kq t (loose b nw),nx,nx⟩:Ab).get q
       ·rw[aI he]
        have:L.get q=(⟨L,B,u⟩:Ab).get q:=rfl;rw[this,he,hE,aG M]
       ·rw[aG he];rfl
     rw[Bq]at h;split at h
     ·rename_i hm
      cases h;exact⟨v,_,_,.big u,rfl,.inr ⟨hw,y⟩,rfl,rfl,U,ae _,hwf,⟨aE _,fun q F h2=>hwf.same q (aN h2 (bL hm)) h2⟩,b,hb,H,ad,hE,rfl,rfl,rfl,rfl,fun q F h2=>hwf.same q F h2,.inl ⟨bL hm,rfl⟩⟩
     ·obtain⟨aj,h⟩:=Ap h
      cases h;have W:Bb (Nat.ble mw u) mw u=min mw u:=by
       rw[Bq];by_cases e:mw<=u
       ·rw[nU e,aI rfl,eV e]
       ·rw[qz e,aG (by simp),Nat.min_eq_right (by omega)]
      refine⟨v,_,_,.big u,rfl,.inr ⟨hw,y⟩,rfl,rfl,U,ae _,hwf,⟨?_,fun q F h2=>hwf.same q ?_ h2⟩,b,hb,H,ad,hE,rfl,rfl,rfl,rfl,fun q F h2=>hwf.same q F h2,.inr ⟨aj,rfl⟩⟩
      ·show Bb (Nat.ble mw u) mw u<=mw
       rw[W];exact Nat.min_le_left _ _
      ·have Y:q<Bb (Nat.ble mw u) mw u:=F
       rw[W]at Y;show q<u;omega
    ·cases h
 ·rename_i hw
  cases h;exact⟨.tuple [],bare hp.next,bare hp.next,.idle,rfl,.inl ⟨by simpa using hw,rfl,rfl⟩,rfl,rfl,fun q x C=>(by cases C),fun q=>(by simp),.refl _,⟨aE _,fun _ _ _=>rfl⟩,rfl,rfl,rfl,rfl,rfl,rfl,rfl⟩
end
end
variable {kd:Kd}{K:Nat->Kd}
section
open Classical
theorem RT {b:Nat}:∀{l:List (Nat × Nat)},Yx b q l=true->∀{m w:Nat},(m,w)∈l->within m b=true\/q<w
 | [],_,m,w,h=>by simp at h
 | (u,w')::r,h,m,w,hm=>by
  simp only[Yx]at h;rw[Bq]at h;split at h
  ·rename_i j
   rcases bX.1 hm with e|hm
   ·cases e
    rw[Bq]at j;split at j
    ·rename_i hw;exact .inl hw
    ·exact .inr (bL j)
   ·exact RT h hm
  ·cases h
theorem RU {b w:Nat}:∀{l:List (Nat × Nat)},Se b w l=true->∀{m q:Nat},(m,q)∈l->within m b=true\/q<w
 | [],_,m,q,h=>by simp at h
 | (u,q')::r,h,m,q,hm=>by
  simp only[Se]at h;rw[Bq]at h;split at h
  ·rename_i j
   rcases bX.1 hm with e|hm
   ·cases e
    rw[Bq]at j;split at j
    ·rename_i hw;exact .inl hw
    ·exact .inr (bL j)
   ·exact RU h hm
  ·cases h
theorem Yg {b:Nat}:∀{l:List (Nat × Nat)},Fm b q l=true->∀{m r:Nat},(m,r)∈l->within m b=true\/q≠r
 | [],_,m,r,h=>by simp at h
 | (u,y)::l,h,m,r,hm=>by
  simp only[Fm]at h;rw[Bq]at h;split at h
  ·rename_i j
   rcases bX.1 hm with e|hm
   ·cases e
    rw[Bq]at j;split at j
    ·rename_i hw;exact .inl hw
    ·refine .inr fun e=>?_
     subst e;rw[show Nat.beq q q=true from cQ q]at j;cases j
   ·exact Yg h hm
  ·cases h
theorem RW {b:Nat}:∀{l:List (Nat × Nat)},Ay1 b l=true->∀{m r:Nat},(m,r)∈l->within m b=true
 | [],_,m,r,h=>by simp at h
 | (u,y)::l,h,m,r,hm=>by
  simp only[Ay1]at h;rw[Bq]at h;split at h
  ·rename_i j
   rcases bX.1 hm with e|hm
   ·cases e;exact j
   ·exact RW h hm
  ·cases h
theorem RX:∀{l:List Nat},A0g q l=true->q ∉ l
 | [],_=>by simp
 | r::l,h=>by
  simp only[A0g]at h;rw[Bq]at h;split at h
  ·cases h
  ·rename_i j
   intro hm;rcases bX.1 hm with e|hm
   ·subst e;exact j (cQ q)
   ·exact RX h hm
section
variable{call:Ah}(hC:Wc call)(hR:Wc round){ops:List Oper}{bs:Tr Nat}
theorem RY:∀{l:List Oper} {i:Nat} {s r:iZ},S7 T call round n ops bs base l i s=some r ->
 ∃σ:Nat->iZ,σ i=s/\σ (i+l.length)=r/\∀k o,l[k]? = some o->V9 T call round n ops bs base o (i+k) (σ (i+k))=some (σ (i+k+1))
 | [],i,s,r,h=>by cases h;exact⟨fun _=>s,rfl,rfl,fun k o h=>by simp at h⟩
 | o::l,i,s,r,h=>by
  simp only[S7]at h;split at h
  ·rename_i s' hs
   obtain⟨σ,u,h2,y⟩:=RY h;have e:σ (i+1)=s':=u;refine⟨fun m=>if m=i then s else σ m,aI rfl,?_,fun k o' j=>?_⟩
   ·show(if i+(l.length+1)=i then s else σ (i+(l.length+1)))=r
    rw[aG (by omega),<-h2];congr 1;show i+(l.length+1)=i+1+l.length;omega
   ·cases k with
    | zero=>
     simp only[bK,cU]at j;subst j;show V9 T call round n ops bs base o i (if i=i then s else σ i)=some (if i+1=i then s else σ (i+1));rw[aI rfl,aG (by omega),e];exact hs
    | succ k=>
     have:=y k o' (by simpa using j);have e1:i+(k+1)=i+1+k:=by omega
     show V9 T call round n ops bs base o' (i+(k+1)) (if i+(k+1)=i then s else σ (i+(k+1)))=some (if i+(k+1)+1=i then s else σ (i+(k+1)+1));rw[aG (by omega),aG (by omega),e1];exact this
  ·cases h
structure j5(T:Ig)(call round:Ah)(n:Nat)(ops:List Oper)(bs:Tr Nat)(base:Nat)(σ:Nat->iZ)(V:Nat->EV)(E E':Nat->Ab)(K:Nat->Kd):Prop where
 sd:∀i o,ops[i]? = some o->Sd T call round n ops bs base o i (σ i) (σ (i+1)) (V i) (E i) (E' i) (K i)
 lt:∀i,i<=ops.length->∀q x,(σ i).h.get q=some x->q<(σ i).h.next
 base:base=(σ 0).h.next
include hC hR in
theorem Bs0 {s r:iZ}(h:S7 T call round n ops bs s.h.next ops 0 s=some r)(A:∀q x,s.h.get q=some x->q<s.h.next)(B:s.nw = []):
 ∃σ V E E' K,σ 0=s/\σ ops.length=r/\j5 T call round n ops bs s.h.next σ V E E' K:=by
 obtain⟨σ,C,h2,F⟩:=RY h;simp only[bM]at h2 F;have key:∀i,i<=ops.length->(∀x∈(σ i).nw,x.2<(σ i).h.next)/\∀q x,(σ i).h.get q=some x->q<(σ i).h.next:=by
  intro i;induction i with
  | zero=>intro _;rw[C,B];exact⟨fun x j=>by simp at j,A⟩
  | succ i H=>
   intro G;obtain⟨i1,i2⟩:=H (by omega);have u:ops[i]? = some ops[i]:=aD (by omega);obtain⟨v,E,E',kd,sd⟩:=yK hC hR (F i _ u) i1;have e:(σ i).h.next<=(σ (i+1)).h.next:=by rw[<-sd.Ag5,<-sd.Af8];exact sd.w.next
   constructor
   ·intro x j
    have:=sd.kd;cases kd with
    | idle=>rw[this.2.2.2.1]at j;exact aN (i1 x j) e
    | load q=>rw[this.2.2.2.1]at j;exact aN (i1 x j) e
    | new=>
     obtain⟨a,⟨y,b⟩,c,d,_⟩:=this;rw[d]at j;rcases bX.1 j with rfl|j
     ·show(σ i).h.next<_
      rw[<-sd.Af8,b,Ab.Dx,sd.Ag5];omega
     ·exact aN (i1 x j) e
    | sto q=>
     obtain⟨_,_,d,_⟩:=this;rw[d]at j;exact aN (i1 x j) e
    | big mw=>
     obtain⟨b,_,_,_,_,_,d,_⟩:=this;rw[d]at j;exact aN (i1 x j) e
   ·intro q x j
    rw[sd.Bl2]at j;split at j
    ·exact aN (i2 q x j) e
    ·rw[<-sd.Af8]
     refine sd.w.lt (fun q x j=>?_) q x j;rw[sd.Ag5];exact i2 q x (sd.sub q x j)
 have ex:∀i,∃v E E' kd,∀o,ops[i]? = some o->Sd T call round n ops bs s.h.next o i (σ i) (σ (i+1)) v E E' kd:=by
  intro i;cases u:ops[i]? with
  | none=>exact⟨.tuple [],bare 0,bare 0,.idle,fun o h=>by cases h⟩
  | some o=>
   have G:i<ops.length:=(aY.1 u).1;obtain⟨v,E,E',kd,sd⟩:=yK hC hR (F i _ u) (key i (by omega)).1;exact⟨v,E,E',kd,fun o' h=>by cases h;exact sd⟩
 exact⟨σ,fun i=>(ex i).choose,fun i=>(ex i).choose_spec.choose,fun i=>(ex i).choose_spec.choose_spec.choose,fun i=>(ex i).choose_spec.choose_spec.choose_spec.choose,C,h2,
  fun i=>(ex i).choose_spec.choose_spec.choose_spec.choose_spec,fun i G=>(key i G).2,by rw[C]⟩
variable(tr:j5 T call round n ops bs base σ V E E' K)
include tr
theorem j5.next(e:i<ops.length):(σ i).h.next<=(σ (i+1)).h.next:=by
 have sd:=tr.sd i _ (aD e);rw[<-sd.Ag5,<-sd.Af8];exact sd.w.next
theorem j5.yL(j:i<=m)(hm:m<=ops.length):(σ i).h.next<=(σ m).h.next:=by
 induction m with
 | zero=>
  have:i=0:=by omega
  subst this;exact aE _
 | succ m u=>
  by_cases e:i=m+1
  ·subst e;exact aE _
  ·exact bQ (u (by omega) (by omega)) (tr.next (by omega))
theorem j5.notes(C:i<=m)(hm:m<=ops.length):
 (∀x∈(σ i).nw,x∈(σ m).nw)/\(∀x∈(σ i).Cw,x∈(σ m).Cw)/\(∀x∈(σ i).lou,x∈(σ m).lou)/\(∀j,(σ i).bg.testBit j=true->(σ m).bg.testBit j=true)/\(∀x∈(σ i).st,x∈(σ m).st):=by
 induction m with
 | zero=>
  have:i=0:=by omega
  subst this;exact⟨fun _ h=>h,fun _ h=>h,fun _ h=>h,fun _ h=>h,fun _ h=>h⟩
 | succ m F=>
  by_cases e:i=m+1
  ·subst e;exact⟨fun _ h=>h,fun _ h=>h,fun _ h=>h,fun _ h=>h,fun _ h=>h⟩
  ·obtain⟨a,b,c,d,f⟩:=F (by omega) (by omega)
   have sd:=(tr.sd m _ (aD (by omega))).kd;cases B:K m with
   | idle=>
    rw[B]at sd;obtain⟨_,_,s1,s2,y,u,A⟩:=sd;rw[s1,s2,y,u,A];exact⟨a,b,c,d,f⟩
   | load q=>
    rw[B]at sd;obtain⟨_,_,s1,s2,y,u,A,_⟩:=sd;rw[s1,s2,y,u,A];exact⟨a,fun x h=>aU _ (b x h),c,d,f⟩
   | new=>
    rw[B]at sd;obtain⟨_,_,s1,s2,y,u,A⟩:=sd;rw[s1,s2,y,u,A];exact⟨fun x h=>aU _ (a x h),b,c,d,f⟩
   | sto q=>
    rw[B]at sd;obtain⟨_,s1,s2,y,u,A,_⟩:=sd;rw[s1,s2,y,u,A];exact⟨a,b,c,d,fun x h=>aU _ (f x h)⟩
   | big mw=>
    rw[B]at sd;obtain⟨_,_,_,_,_,s1,s2,y,A,_,u⟩:=sd;rw[s1,s2,y,A];refine⟨a,b,?_,fun j h=>by rw[No,d j h];rfl,f⟩;rcases u with⟨_,u⟩|⟨_,u⟩<;>rw[u]
    ·exact c
    ·exact fun x h=>aU _ (c x h)
theorem j5.vq(e:i<ops.length){x:D3}(h:(E i).get q=some x):q<(σ i).h.next:=
 tr.lt i (by omega) q x ((tr.sd i _ (aD e)).sub q x h)
theorem j5.Bs7(e:i<ops.length){x:D3}(h:(E' i).get q=some x):q<(σ (i+1)).h.next:=by
 have sd:=tr.sd i _ (aD e);rw[<-sd.Af8];refine sd.w.lt (fun q x j=>?_) q x h;rw[sd.Ag5];exact tr.vq e j
theorem j5.Bji(j:i<ops.length)(h:(E i).get q=none)(y:q<(σ i).h.next):(E' i).get q=(E i).get q:=by
 have sd:=tr.sd i _ (aD j);cases u:(E' i).get q with
 | none=>exact h.symm
 | some o=>
  rcases sd.w.live q o u with⟨o',e⟩|e
  ·rw[h]at e;cases e
  ·rw[sd.Ag5]at e;omega
theorem j5.pair(bb:i<m)(hm:m<ops.length){b:Nat}(hb:bs.get m=some b)(hn:b.testBit i=false):
 (∀q,(E' i).get q=(E i).get q\/(E' m).get q=(E m).get q)/\(∀q x,(E i).get q=some x->(E' m).get q=(E m).get q)/\(∀q x,(E m).get q=some x->(E' i).get q=(E i).get q):=by
 have hi:i<ops.length:=by omega
 have au:=tr.sd i _ (aD hi);have a1:=tr.sd m _ (aD hm);obtain⟨n1,n2,n3,n4,n5⟩:=tr.notes (i:=i+1) (m:=m) (by omega) (by omega);have a5:=tr.yL (i:=i+1) (m:=m) (by omega) (by omega);have a2:=tr.next hi
 have a6:base<=(σ i).h.next:=by rw[tr.base];exact tr.yL (by omega) (by omega)
 have Q:=A5v hn;have Z:=au.kd;have Y:=a1.kd;have H:K i=.new->(Nat.shiftLeft 1 i,(σ i).h.next)∈(σ m).nw/\(∀q,q≠(σ i).h.next->(E' i).get q=(E i).get q)/\(∀q,(E i).get q=none)/\(σ i).h.next<(σ (i+1)).h.next:=by
  intro hk;rw[hk]at Z;obtain⟨k1,⟨x,k2⟩,_,k4,_⟩:=Z;refine⟨n1 _ (by rw[k4];exact aW),fun q hq=>?_,fun q=>by rw[k1];rfl,?_⟩
  ·rw[k2,Ab.K7,aG];rw[au.Ag5];exact fun e=>hq e.symm
  ·rw[<-au.Af8,k2,Ab.Dx,au.Ag5];omega
 have J:K m=.new->(∀q,q≠(σ m).h.next->(E' m).get q=(E m).get q)/\(∀q,(E m).get q=none):=by
  intro hk;rw[hk]at Y;obtain⟨k1,⟨x,k2⟩,_⟩:=Y;refine⟨fun q hq=>?_,fun q=>by rw[k1];rfl⟩;rw[k2,Ab.K7,aG];rw[a1.Ag5];exact fun e=>hq e.symm
 have L:∀r,K i=.sto r->(Nat.shiftLeft 1 i,r)∈(σ m).st/\(∀q,q≠r->(E' i).get q=(E i).get q)/\(∀q x,(E i).get q=some x->q=r)/\r<(σ i).h.next:=by
  intro r hk;rw[hk]at Z;obtain⟨⟨x,y,k1,k2⟩,_,_,_,_,k4,_⟩:=Z;have hr:(E i).get r=some x:=by rw[k1,Of,aI rfl]
  refine⟨n5 _ (by rw[k4];exact aW),fun q hq=>?_,fun q z hz=>?_,tr.vq hi hr⟩
  ·rw[k2,Ab.get_put,aG];exact fun e=>hq e.symm
  ·rw[k1,Of]at hz
   split at hz
   ·rename_i e;exact e.symm
   ·cases hz
 have A:∀r,K m=.sto r->within (σ m).bg b=true/\Fm b r (σ m).st=true/\Fm b r (σ m).Cw=true/\r ∉ loose b (σ m).nw/\(∀q,q≠r->(E' m).get q=(E m).get q)/\(∀q x,(E m).get q=some x->q=r):=by
  intro r hk;rw[hk]at Y;obtain⟨⟨x,y,k1,k2⟩,_,_,_,_,k4,b',M,c1,c2,c3,c4⟩:=Y;rw[hb]at M;cases M;refine⟨c1,c2,c3,RX c4,fun q hq=>?_,fun q z hz=>?_⟩
  ·rw[k2,Ab.get_put,aG];exact fun e=>hq e.symm
  ·rw[k1,Of]at hz
   split at hz
   ·rename_i e;exact e.symm
   ·cases hz
 have O:∀r,K i=.load r->(Nat.shiftLeft 1 i,r)∈(σ m).Cw/\(∀q x,(E i).get q=some x->q=r):=by
  intro r hk;rw[hk]at Z;obtain⟨⟨y,k1⟩,_,_,_,k5,_⟩:=Z;refine⟨n2 _ (by rw[k5];exact aW),fun q z hz=>?_⟩;rw[k1,Of]at hz;split at hz
  ·rename_i e;exact e.symm
  ·cases hz
 have F:∀r,K m=.load r->Fm b r (σ m).st=true/\((r<base/\Yx b r (σ m).lou=true)\/(base<=r/\within (σ m).bg b=true/\loose b (σ m).nw = []))/\(∀q x,(E m).get q=some x->q=r):=by
  intro r hk;rw[hk]at Y;obtain⟨⟨y,k1⟩,_,_,_,_,_,_,b',M,k7,k8⟩:=Y;rw[hb]at M;cases M;refine⟨k7,k8,fun q z hz=>?_⟩;rw[k1,Of]at hz;split at hz
  ·rename_i e;exact e.symm
  ·cases hz
 have ay:∀mw,K i=.big mw->(σ m).bg.testBit i=true:=by
  intro mw h1;rw[h1]at Z;obtain⟨_,_,_,_,_,k5,_⟩:=Z;exact n4 i (by rw[k5,No,Hy];simp)
 have W:∀mw,K m=.big mw->within (σ m).bg b=true/\Ay1 b (σ m).st=true:=by
  intro mw h2;rw[h2]at Y;obtain⟨b',M,hw,a8,_⟩:=Y;rw[hb]at M;cases M;exact⟨hw,a8⟩
 have aj:∀{mw},K i=.big mw->within (σ m).bg b=true->False:=by
  intro mw h1 hw;rw[yI hw (ay mw h1)]at hn;cases hn
 have ae:∀{r mw},K i=.sto r->K m=.big mw->False:=by
  intro r mw h1 h2;have:=RW (W mw h2).2 (L r h1).1;rw[Q]at this;cases this
 have X:(K i=.idle\/∃q,K i=.load q)->∀q,(E' i).get q=(E i).get q:=by
  rintro(h|⟨r,h⟩) q<;>rw[h]at Z
  ·rw[Z.2.1]
  ·rw[Z.2.1]
 have B:(K m=.idle\/∃q,K m=.load q)->∀q,(E' m).get q=(E m).get q:=by
  rintro(h|⟨r,h⟩) q<;>rw[h]at Y
  ·rw[Y.2.1]
  ·rw[Y.2.1]
 have ah:K i=.idle->∀q,(E i).get q=none:=fun h q=>by rw[h]at Z;rw[Z.1];rfl
 have U:K m=.idle->∀q,(E m).get q=none:=fun h q=>by rw[h]at Y;rw[Y.1];rfl
 have C:K i=.new->(σ i).h.next∈loose b (σ m).nw:=fun h1=>vn.2 ⟨_,(H h1).1,Q⟩
 have ai:∀mw,K i=.new->K m=.big mw->(E m).get (σ i).h.next=none:=by
  intro mw h1 h2;rw[h2]at Y;obtain⟨b',M,_,_,he,_⟩:=Y;rw[hb]at M;cases M;rw[he,aI (C h1)]
 have af:∀{r r'},K i=.sto r->K m=.sto r'->r'≠r:=by
  intro r r' h1 h2;rcases Yg (A r' h2).2.1 (L r h1).1 with h|h
  ·rw[Q]at h;cases h
  ·exact h
 refine⟨fun q=>?_,fun q x G=>?_,fun q x G=>?_⟩
 ·cases u:K i with
  | idle=>exact .inl (X (.inl u) q)
  | load r=>exact .inl (X (.inr ⟨r,u⟩) q)
  | new=>
   by_cases hq:q=(σ i).h.next
   ·subst hq
    right;cases j:K m with
    | idle=>exact B (.inl j) _
    | load r=>exact B (.inr ⟨r,j⟩) _
    | new=>exact(J j).1 _ (by have:=(H u).2.2.2;omega)
    | sto r=>exact(A r j).2.2.2.2.1 _ (fun e=>(A r j).2.2.2.1 (e▸C u))
    | big mw=>exact tr.Bji hm (ai mw u j) (by have:=(H u).2.2.2;omega)
   ·exact .inl ((H u).2.1 q hq)
  | sto r=>
   by_cases hq:q=r
   ·subst hq
    right;cases j:K m with
    | idle=>exact B (.inl j) _
    | load r=>exact B (.inr ⟨r,j⟩) _
    | new=>exact(J j).1 _ (by have:=(L _ u).2.2.2;omega)
    | sto r'=>exact(A r' j).2.2.2.2.1 _ (fun e=>af u j e.symm)
    | big mw=>exact(ae u j).elim
   ·exact .inl ((L r u).2.1 q hq)
  | big mw=>
   cases j:K m with
   | idle=>exact .inr (B (.inl j) _)
   | load r=>exact .inr (B (.inr ⟨r,j⟩) _)
   | new=>
    by_cases hq:q=(σ m).h.next
    ·left
     have h1:(E' i).get q=none:=by
      cases h:(E' i).get q with
      | none=>rfl
      | some o=>have:=tr.Bs7 hi h;omega
     have h2:(E i).get q=none:=by
      cases h:(E i).get q with
      | none=>rfl
      | some o=>have:=tr.vq hi h;omega
     rw[h1,h2]
    ·exact .inr ((J j).1 q hq)
   | sto r=>exact(aj u (A r j).1).elim
   | big aq=>exact(aj u (W aq j).1).elim
 ·have bu:=tr.vq hi G
  cases j:K m with
  | idle=>exact B (.inl j) _
  | load r=>exact B (.inr ⟨r,j⟩) _
  | new=>exact(J j).1 q (by omega)
  | sto r'=>
   cases u:K i with
   | idle=>rw[ah u]at G;cases G
   | new=>rw[(H u).2.2.1]at G;cases G
   | big aq=>exact(aj u (A r' j).1).elim
   | load r=>
    have:=(O r u).2 q x G;subst this;refine(A r' j).2.2.2.2.1 _ fun e=>?_
    rcases Yg (A r' j).2.2.1 (O _ u).1 with h|h
    ·rw[Q]at h;cases h
    ·exact h e.symm
   | sto r=>
    have:=(L r u).2.2.1 q x G;subst this;exact(A r' j).2.2.2.2.1 _ (fun e=>af u j e.symm)
  | big mw=>
   cases u:K i with
   | idle=>rw[ah u]at G;cases G
   | new=>rw[(H u).2.2.1]at G;cases G
   | big aq=>exact(aj u (W mw j).1).elim
   | sto r=>exact(ae u j).elim
   | load r=>
    have:=(O r u).2 q x G;subst this;rw[j]at Y;obtain⟨b',M,_,_,_,_,_,_,_,h8,h9⟩:=Y;rw[hb]at M;cases M;refine h8 _ ?_ (by omega);rcases h9 with⟨h9,_⟩|⟨h9,_⟩
    ·omega
    ·rcases RU h9 (O _ u).1 with h|h
     ·rw[Q]at h;cases h
     ·exact h
 ·cases u:K i with
  | idle=>exact X (.inl u) q
  | load r=>exact X (.inr ⟨r,u⟩) q
  | new=>
   refine(H u).2.1 q fun e=>?_
   subst e;cases j:K m with
   | idle=>rw[U j]at G;cases G
   | new=>rw[(J j).2]at G;cases G
   | big mw=>rw[ai mw u j]at G;cases G
   | sto r=>exact(A r j).2.2.2.1 ((A r j).2.2.2.2.2 _ x G▸C u)
   | load r=>
    have e:=(F r j).2.2 _ x G;rcases(F r j).2.1 with⟨h1,_⟩|⟨_,_,h3⟩
    ·omega
    ·have:=C u
     rw[h3]at this;cases this
  | sto r=>
   refine(L r u).2.1 q fun e=>?_
   subst e;cases j:K m with
   | idle=>rw[U j]at G;cases G
   | new=>rw[(J j).2]at G;cases G
   | big mw=>exact(ae u j).elim
   | sto r'=>exact af u j ((A r' j).2.2.2.2.2 _ x G).symm
   | load r'=>
    have e:=(F r' j).2.2 _ x G;subst e;rcases Yg (F _ j).1 (L _ u).1 with h|h
    ·rw[Q]at h;cases h
    ·exact h rfl
  | big mw=>
   cases j:K m with
   | idle=>rw[U j]at G;cases G
   | new=>rw[(J j).2]at G;cases G
   | sto r=>exact(aj u (A r j).1).elim
   | big aq=>exact(aj u (W aq j).1).elim
   | load r=>
    have e:=(F r j).2.2 _ x G;subst e;rw[u]at Z;obtain⟨bi,_,_,_,_,kb,_,_,_,h8,h9⟩:=Z;rcases(F _ j).2.1 with⟨h1,h2⟩|⟨_,h2,_⟩
    ·refine h8 _ ?_ (by omega)
     rcases h9 with⟨h9,_⟩|⟨_,h9⟩
     ·omega
     ·rcases RT h2 (n3 _ (by rw[h9];exact aW))with h|h
      ·rw[Q]at h;cases h
      ·exact h
    ·have:(σ m).bg.testBit i=true:=n4 i (by rw[kb,No,Hy];simp)
     rw[yI h2 this]at hn;cases hn
end
end
section
open Classical
structure Ai5(p:Nat->Prop)(f0:Loc)(h0:Ab)(w0:World)(f:Loc)(g:Nat->Option D3)(w:World):Prop where
 Fo:Loc.Fo p f0 f
 obj:∀i o,g i=some o->∃r,w.heap[f.b i]? = some r/\Vu f i o r
 inj:∀i j o o',g i=some o->g j=some o'->f.b i=f.b j->i=j
 kept:∀b,b<w0.heap.size->(∀i o,h0.get i=some o->f0.b i≠b)->w.heap[b]? = w0.heap[b]?
 size:w0.heap.size<=w.heap.size
 tape:w.tape=w0.tape
 os:w.os=w0.os
 output:w.output=w0.output
 own:∀i o,g i=some o->w0.heap.size<=f.b i\/∃j o',h0.get j=some o'/\f.b i=f0.b j
theorem Ai5.start{w:World}(e:T7 f h w):Ai5 p f h w f h.get w where
 Fo:=Loc.uZ _ _
 obj:=e.obj
 inj:=e.inj
 kept _ _ _:=rfl
 size:=aE _
 tape:=rfl
 os:=rfl
 output:=rfl
 own i o j:=.inr ⟨i,o,j,rfl⟩
theorem Ai5.drew{w0 w:World}(m:Ai5 p f0 h0 w0 f g w)(k:Nat):Ai5 p f0 h0 w0 f g { w with drawn:=k }:=
 ⟨m.Fo,m.obj,m.inj,m.kept,m.size,m.tape,m.os,m.output,m.own⟩
theorem Ai5.move{w0 w:World}(m:Ai5 p f0 h0 w0 f g w)(e:∀q,h.get q=g q):Move p f0 h0 w0 f h w where
 Fo:=m.Fo
 rep:=⟨fun i o u=>m.obj i o (by rw[<-e];exact u),fun i j o o' u y=>m.inj i j o o' (by rw[<-e];exact u) (by rw[<-e];exact y)⟩
 kept:=m.kept
 size:=m.size
 tape:=m.tape
 os:=m.os
 output:=m.output
 own i o u:=m.own i o (by rw[<-e];exact u)
def patch(n:Nat)(f1 f:Loc):Loc:=⟨fun q=>if q<n then f1.b q else f.b q,fun q=>if q<n then f1.sp q else f.sp q⟩
theorem RZ(h:q<n):(patch n f1 f).b q=f1.b q/\(patch n f1 f).sp q=f1.sp q:=⟨aI h,aI h⟩
theorem Bnk(h:n<=q):(patch n f1 f).b q=f.b q/\(patch n f1 f).sp q=f.sp q:=⟨aG (by omega),aG (by omega)⟩
noncomputable def jR(D D':Ab)(g:Nat->Option D3)(q:Nat):Option D3:=if D'.get q=D.get q then g q else D'.get q
section
variable{w0:World}{w:World}{pq:Nat->Prop}{D D':Ab}{w1:World}
theorem R'(hm:Move (fun q=>pq q/\q<D.next) f D w f1 D' w1)(hw:Wf (fun q=>pq q/\q<D.next) D D')(e:∀q,pq q->q<D.next\/D'.next<=q):
 Loc.Fo pq f (patch D'.next f1 f):=by
 intro q j;rcases e q j with h|h
 ·obtain⟨e1,e2⟩:=RZ (f1:=f1) (f:=f) (aN h hw.next)
  rw[e1,e2];exact hm.Fo q ⟨j,h⟩
 ·obtain⟨e1,e2⟩:=Bnk (f1:=f1) (f:=f) h
  rw[e1,e2];exact⟨rfl,rfl⟩
theorem R_(hw:Wf (fun q=>pq q/\q<D.next) D D'):Loc.Fo (grow (fun q=>pq q/\q<D.next) D D') f1 (patch D'.next f1 f):=by
 intro q e;have:q<D'.next:=by
  rcases e with h|h
  ·exact aN h.2 hw.next
  ·exact h.2
 obtain⟨e1,e2⟩:=RZ (f1:=f1) (f:=f) this;rw[e1,e2];exact⟨rfl,rfl⟩
theorem Ai5.step(m:Ai5 p0 f0 h0 w0 f g w)(F:∀q x,D.get q=some x->g q=some x)(hg:∀q x,g q=some x->pq q/\x.ok pq)
 (ab:∀q,p0 q->pq q) (hm:Move (fun q=>pq q/\q<D.next) f D w f1 D' w1) (hw:Wf (fun q=>pq q/\q<D.next) D D') (Z:∀q,pq q->q<D.next\/D'.next<=q) :
 Ai5 p0 f0 h0 w0 (patch D'.next f1 f) (jR D D' g) w1:=by
 have Y:=R' hm hw Z;have U:=R_ (f1:=f1) (f:=f) hw;have ad:∀q x,D'.get q=some x->jR D D' g q=some x:=by
  intro q x A;unfold jR;split
  ·rename_i e;exact F q x (by rw[<-e];exact A)
  ·exact A
 have B:∀q x,jR D D' g q=some x->D'.get q=some x\/(D'.get q=none/\D.get q=none/\g q=some x):=by
  intro q x A;cases hd:D'.get q with
  | some y=>rw[ad q y hd]at A;exact .inl A
  | none=>
   unfold jR at A;split at A
   ·rename_i e;rw[hd]at e;exact .inr ⟨rfl,e.symm,A⟩
   ·rw[hd]at A;cases A
 have G:∀q x,D'.get q=some x->(patch D'.next f1 f).b q=f1.b q:=fun q x A=>(U q (hw.hok.get q x A).1).1.symm
 have H:∀q x,g q=some x->(patch D'.next f1 f).b q=f.b q:=fun q x A=>(Y q (hg q x A).1).1.symm
 have aa:∀q x,g q=some x->f.b q<w.heap.size:=by
  intro q x A;obtain⟨r,O,_⟩:=m.obj q x A;exact(cq.1 O).1
 have W:∀q x,g q=some x->D.get q=none->∀i o,D.get i=some o->f.b i≠f.b q:=by
  intro q x A hd i o L e;have:=m.inj i q o x (F i o L) A e;subst this;rw[hd]at L;cases L
 refine⟨?_,?_,?_,?_,bQ m.size hm.size,hm.tape.trans m.tape,hm.os.trans m.os,hm.output.trans m.output,?_⟩
 ·exact m.Fo.trans (Y.mono ab)
 ·intro q x A
  rcases B q x A with hd|⟨_,hd,M⟩
  ·obtain⟨r,O,h2⟩:=hm.rep.obj q x hd
   obtain⟨h3,h4⟩:=hw.hok.get q x hd;exact⟨r,by rw[G q x hd];exact O,h2.congr U h3 h4⟩
  ·obtain⟨r,O,h2⟩:=m.obj q x M
   obtain⟨h3,h4⟩:=hg q x M;refine⟨r,?_,h2.congr Y h3 h4⟩;rw[H q x M,hm.kept _ (aa q x M) (W q x M hd)];exact O
 ·
  have X:∀i j o o',D'.get i=some o->g j=some o'->D.get j=none->f1.b i≠f.b j:=by
   intro i j o o' L hj hd e;rcases hm.own i o L with h|⟨k,ok,hk,h⟩
   ·have:=aa j o' hj;omega
   ·exact W j o' hj hd k ok hk (by rw[<-h];exact e)
  intro i j o o' L hj e;rcases B i o L with u|⟨_,u,C⟩<;>rcases B j o' hj with J|⟨_,J,Q⟩
  ·rw[G i o u,G j o' J]at e;exact hm.rep.inj i j o o' u J e
  ·rw[G i o u,H j o' Q]at e;exact absurd e (X i j o o' u Q J)
  ·rw[H i o C,G j o' J]at e;exact absurd e.symm (X j i o' o J C u)
  ·rw[H i o C,H j o' Q]at e;exact m.inj i j o o' C Q e
 ·intro b hb hn
  rw[hm.kept b (aN hb m.size) ?_]
  ·exact m.kept b hb hn
  ·intro i o L e
   rcases m.own i o (F i o L)with h|⟨j,o',O,h2⟩
   ·omega
   ·exact hn j o' O (by rw[<-h2];exact e)
 ·intro i o L
  rcases B i o L with u|⟨_,u,C⟩
  ·rw[G i o u]
   rcases hm.own i o u with h|⟨j,o',O,h2⟩
   ·exact .inl (bQ m.size h)
   ·rw[h2];exact m.own j o' (F j o' O)
  ·rw[H i o C];exact m.own i o C
end
end
section
open Classical
def sT(ops:Array Oper)(m:Nat):Option Tmp:=(ops[m]?).bind (·.dst)
theorem qG {ops:Array Oper}(h:ops[m]? = some o):sT ops m=o.dst:=by rw[sT,h];rfl
noncomputable def hO(n:Nat)(ops:Array Oper)(V:Nat->EV)(lK:Ba)(S:Nat->Prop):Nat->Ba
 | 0=>lK
 | m+1=>if S m then Po n (hO n ops V lK S m) (sT ops m) (V m)else hO n ops V lK S m
noncomputable def hS(E E':Nat->Ab)(e:Nat->Option D3)(S:Nat->Prop):Nat->Nat->Option D3
 | 0=>e
 | m+1=>if S m then jR (E m) (E' m) (hS E E' e S m)else hS E E' e S m
theorem pr(n:Nat)(tm:Ba)(d:Option Tmp)(v:EV)(t:Nat):tmp (Po n tm d v) t=if d=some t/\t<n then v else tmp tm t:=by
 cases d with
 | none=>simp[Po]
 | some d=>
  rw[QA];by_cases h:d=t
  ·subst h;simp
  ·rw[aG (fun x=>h x.1),aG (fun x=>h (by simpa using x.1))]
theorem yM(f:Loc)(n:Nat){a b:Ba}(h:∀t,tmp a t=tmp b t):Bi f n a=Bi f n b:=by
 unfold Bi;simp only[h]
theorem Bkz(h:∀t,n<=t->tm.get t=none)(d:Option Tmp)(v:EV):∀t,n<=t->(Po n tm d v).get t=none:=by
 intro t e;cases d with
 | none=>exact h t e
 | some d=>
  simp only[Po];rw[Bq];split
  ·rename_i hd
   rw[Tr.Af _ _ (Nat.ne_of_lt (aN (bL hd) e))];exact h t e
  ·exact h t e
theorem Bo0{t:Nat}(h:tm.get t=some v):tmp tm t=v:=by unfold tmp;rw[h]
theorem Bcv{call:Ah}(j:aop T call round tm op h=some (v,h')):∀cs b,op=.select cs b->∃c,cs = #[c]:=by
 rintro cs b rfl;rw[vp rfl (fun _ e=>by cases e)]at j;cases b with
 | true=>cases j
 | false=>
  simp only[Dz]at j;split at j
  ·rename_i c u
   exact⟨c,by apply fC;simpa using u⟩
  ·cases j
section
variable{call:Ah}{ops:Array Oper}{bs:Tr Nat}
def nx(σ:Nat->iZ)(m:Nat):Nat:=(σ m).h.next
def pS(p0:Nat->Prop)(σ:Nat->iZ)(N:Nat)(S:Nat->Prop)(q:Nat):Prop:=p0 q\/∃j,S j/\j<N/\nx σ j<=q/\q<nx σ (j+1)
structure Inv(n:Nat)(ops:Array Oper)(bs:Tr Nat)(σ:Nat->iZ)(V:Nat->EV)(E E':Nat->Ab)(p0:Nat->Prop)(f0:Loc)(w0:World)(S:Nat->Prop)(f:Loc)(w:World):Prop where
 dn:∀j,S j->j<ops.size/\∀b,bs.get j=some b->∀k,b.testBit k=true->S k
 vok:∀j,S j->(V j).ok (fun q=>pS p0 σ ops.size S q/\q<nx σ (j+1))
 eok:∀j,S j->∀q x,(E' j).get q=some x->(pS p0 σ ops.size S q/\q<nx σ (j+1))/\x.ok (fun q=>pS p0 σ ops.size S q/\q<nx σ (j+1))
 mv:Ai5 p0 f0 (σ 0).h w0 f (hS E E' (σ 0).h.get S ops.size) w
variable (tr:j5 T call round n ops.toList bs base σ V E E' K)
include tr
theorem j5.vr(h:ops[i]? = some o):Sd T call round n ops.toList bs base o i (σ i) (σ (i+1)) (V i) (E i) (E' i) (K i):=tr.sd i o (by rw[cM];exact h)
theorem j5.pw(e:i<=m)(hm:m<=ops.size):nx σ i<=nx σ m:=tr.yL e (by simpa using hm)
theorem SA{t:Nat}(y:i<=ops.size)(h:∀j,j<i->¬S j->sT ops j≠some t):∀m,m<=i->tmp (hO n ops V (σ 0).tm S m) t=tmp (σ m).tm t
 | 0,_=>rfl
 | m+1,hm=>by
  have e:=SA y h m (by omega);have u:ops[m]? = some ops[m]:=cp (by omega);rw[(tr.vr u).tm,<-qG u,pr];simp only[hO];split
  ·rw[pr,e]
  ·rename_i hs
   rw[e,aG (fun x=>h m (by omega) hs x.1)]
omit tr in
theorem SB{t:Nat}(lK:Ba)(h:∀j,i<=j->S j->sT ops j≠some t):∀m,i<=m->tmp (hO n ops V lK S m) t=tmp (hO n ops V lK S i) t:=by
 intro m;induction m with
 | zero=>
  intro hm;have:i=0:=by omega
  subst this;rfl
 | succ m u=>
  intro hm;by_cases e:i=m+1
  ·subst e;rfl
  ·rw[<-u (by omega)]
   simp only[hO];split
   ·rename_i hs;rw[pr,aG (fun x=>h m (by omega) hs x.1)]
   ·rfl
theorem yN(u:i<=ops.size)(h:∀j,j<i->¬S j->(E' j).get q=(E j).get q):∀m,m<=i->hS E E' (σ 0).h.get S m q=(σ m).h.get q
 | 0,_=>rfl
 | m+1,hm=>by
  have e:=yN u h m (by omega);have y:ops[m]? = some ops[m]:=cp (by omega);rw[(tr.vr y).Bl2];simp only[hS];split
  ·simp only[jR,e]
  ·rename_i hs
   rw[e,aI (h m (by omega) hs)]
omit tr in
theorem SC(u:Nat->Option D3)(h:∀j,i<=j->S j->(E' j).get q=(E j).get q):∀m,i<=m->hS E E' u S m q=hS E E' u S i q:=by
 intro m;induction m with
 | zero=>
  intro hm;have:i=0:=by omega
  subst this;rfl
 | succ m y=>
  intro hm;by_cases e:i=m+1
  ·subst e;rfl
  ·rw[<-y (by omega)]
   simp only[hS];split
   ·rename_i hs;simp only[jR];rw[aI (h m (by omega) hs)]
   ·rfl
theorem sU(h:∀j,j<ops.size->S j):∀m,m<=ops.size->hO n ops V (σ 0).tm S m=(σ m).tm
 | 0,_=>rfl
 | m+1,hm=>by
  have e:ops[m]? = some ops[m]:=cp (by omega);simp only[hO];rw[aI (h m (by omega)),sU h m (by omega),(tr.vr e).tm,qG e]
theorem SD(h:∀j,j<ops.size->S j)(q:Nat):hS E E' (σ 0).h.get S ops.size q=(σ ops.size).h.get q:=
 yN tr (aE _) (fun j hj hs=>absurd (h j hj) hs) _ (aE _)
omit tr in
theorem yO(h:∀t,n<=t->lK.get t=none)(S:Nat->Prop):∀m t,n<=t->(hO n ops V lK S m).get t=none
 | 0=>h
 | m+1=>by
  simp only[hO];split
  ·exact Bkz (yO h S m) _ _
  ·exact yO h S m
variable{w0:World}{w:World}
theorem Inv.vt(I:Inv n ops bs σ V E E' p0 f0 w0 S f w)(h0:Lr p0 n (σ 0).tm)(hp:∀q,p0 q->q<nx σ 0):∀m,m<=ops.size->Lr (fun q=>pS p0 σ ops.size S q/\q<nx σ m) n (hO n ops V (σ 0).tm S m)
 | 0,_=>h0.mono fun q e=>⟨.inl e,hp q e⟩
 | m+1,hm=>by
  have j:=Inv.vt I h0 hp m (by omega);have u:=tr.pw (i:=m) (m:=m+1) (by omega) hm;simp only[hO];split
  ·rename_i hs
   exact(j.mono fun q e=>⟨e.1,by omega⟩).put _ (I.vok m hs)
  ·exact j.mono fun q e=>⟨e.1,by omega⟩
theorem Inv.hok(I:Inv n ops bs σ V E E' p0 f0 w0 S f w)(h0:T1 p0 (σ 0).h):∀m,m<=ops.size->∀q x,hS E E' (σ 0).h.get S m q=some x ->
 (pS p0 σ ops.size S q/\q<nx σ m)/\x.ok (fun q=>pS p0 σ ops.size S q/\q<nx σ m)
 | 0,_,q,x,e=>⟨⟨.inl (h0.get q x e).1,h0.lt q (h0.get q x e).1⟩,(h0.get q x e).2.mono fun r j=>⟨.inl j,h0.lt r j⟩⟩
 | m+1,hm,q,x,e=>by
  have y:=tr.pw (i:=m) (m:=m+1) (by omega) hm;have up:∀{q x},hS E E' (σ 0).h.get S m q=some x->(pS p0 σ ops.size S q/\q<nx σ (m+1))/\x.ok (fun q=>pS p0 σ ops.size S q/\q<nx σ (m+1)):=by
   intro q x e;obtain⟨u,h2⟩:=Inv.hok I h0 m (by omega) q x e;exact⟨⟨u.1,by omega⟩,h2.mono fun r j=>⟨j.1,by omega⟩⟩
  simp only[hS]at e;split at e
  ·rename_i hs
   unfold jR at e;split at e
   ·exact up e
   ·exact I.eok m hs q x e
  ·exact up e
end
end
section
open Classical
section
variable(hT:Qg P T){call:Ah}(hC:kJ P call)(hR:o9 P round){ops:Array Oper}{bs:Tr Nat}
 (tr:j5 T call round n ops.toList bs base σ V E E' K) (hbs:bs=Oq ops.toList 0 .nil) (htm:mC ops.toList bs ops.toList 0 []=true)
 {w0:World} {w:World}
include hbs in
theorem SE(j:i<ops.size):∃b,bs.get i=some b:=by
 have u:ops.toList[i]? = some ops[i]:=by rw[cM];exact cp j
 obtain⟨b,e,_⟩:=yd ops.toList 0 .nil (fun _ _=>rfl) i _ u;rw[bM]at e;exact⟨b,by rw[hbs];exact e⟩
include hT hC hR tr hbs htm in
theorem Inv.step(I:Inv n ops bs σ V E E' p0 f0 w0 S f w)(h0:Lr p0 n (σ 0).tm)(ah:T1 p0 (σ 0).h)(hi:i<ops.size)(Q:¬S i){bi:Nat}(aq:bs.get i=some bi)(a5:∀k,bi.testBit k=true->S k)
 {S':Nat->Prop} (C:∀j,S' j↔S j\/j=i) (fb:FB) (rest:List Nat) (k:List Item) (cs:List Frame) :
 ∃f' w',Steps P (lone (fb.at (Bi f n (hO n ops V (σ 0).tm S ops.size)) (.inRegion ops (i::rest)::k)) cs w) (lone (fb.at (Bi f' n (hO n ops V (σ 0).tm S' ops.size)) (.inRegion ops rest::k)) cs w') /\
  Inv n ops bs σ V E E' p0 f0 w0 S' f' w':=by
 have ho:ops[i]? = some ops[i]:=cp hi;generalize cf:ops[i]=o at ho;have sd:=tr.vr ho;have au:∀q,p0 q->q<nx σ 0:=ah.lt;have hlen:ops.toList.length=ops.size:=by simp
 have aj:∀j,j<i->¬S j->bi.testBit j=false:=by
  intro j _ hs;cases hb:bi.testBit j with
  | false=>rfl
  | true=>exact absurd (a5 j hb) hs
 have F:∀j,i<j->S j->∃b,bs.get j=some b/\b.testBit i=false:=by
  intro j hj hs;obtain⟨Y,hd⟩:=I.dn j hs;obtain⟨b,hb⟩:=SE hbs Y;refine⟨b,hb,?_⟩;cases a6:b.testBit i with
  | false=>rfl
  | true=>exact absurd (hd b hb i a6) Q
 have Y:∀j,S j->j<ops.size:=fun j hs=>(I.dn j hs).1
 have Z:∀j,j<ops.size->∃oj,ops[j]? = some oj/\ops.toList[j]? = some oj:=fun j hj=>⟨ops[j],cp hj,by rw[cM];exact cp hj⟩
 have aw:ops.toList[i]? = some o:=by rw[cM];exact ho
 have J:∀t,sS ops.toList o t->tmp (hO n ops V (σ 0).tm S ops.size) t=tmp (σ i).tm t/\tmp (hO n ops V (σ 0).tm S i) t=tmp (σ i).tm t:=by
  intro t ht;have e1:tmp (hO n ops V (σ 0).tm S i) t=tmp (σ i).tm t:=by
   refine SA tr (by omega) (fun j hj hs e=>?_) i (aE _);obtain⟨oj,U,h2⟩:=Z j (by omega);rw[qG U]at e;exact((yJ htm h2 aw hj aq (aj j hj hs)).1 t e).2 ht
  refine⟨?_,e1⟩;rw[<-e1];refine SB _ (fun j hj hs e=>?_) _ (by omega);have aa:i<j:=by
   rcases Nat.lt_or_eq_of_le hj with h|h
   ·exact h
   ·subst h;exact absurd hs Q
  obtain⟨oj,U,h2⟩:=Z j (Y j hs);obtain⟨b,hb,L⟩:=F j aa hs;rw[qG U]at e;exact(yJ htm aw h2 aa hb L).2 t ht e
 have B:∀q x,(E i).get q=some x->hS E E' (σ 0).h.get S i q=some x/\hS E E' (σ 0).h.get S ops.size q=some x:=by
  intro q x A;have e1:hS E E' (σ 0).h.get S i q=some x:=by
   rw[yN tr (by omega) (fun j hj hs=>?_) i (aE _)]
   ·exact sd.sub q x A
   ·exact(tr.pair hj (by omega) aq (aj j hj hs)).2.2 q x A
  refine⟨e1,?_⟩;rw[<-e1];refine SC _ (fun j hj hs=>?_) _ (by omega);have aa:i<j:=by
   rcases Nat.lt_or_eq_of_le hj with h|h
   ·exact h
   ·subst h;exact absurd hs Q
  obtain⟨b,hb,L⟩:=F j aa hs;exact(tr.pair aa (by have:=Y j hs;omega) hb L).2.1 q x A
 have ab:S' i:=(C i).2 (.inr rfl);have u:∀j,j≠i->(S' j↔S j):=fun j hj=>⟨fun h=>((C j).1 h).resolve_right hj,fun h=>(C j).2 (.inl h)⟩
 have ax:∀m,m<=i->hO n ops V (σ 0).tm S' m=hO n ops V (σ 0).tm S m:=by
  intro m;induction m with
  | zero=>intro _;rfl
  | succ m W=>
   intro hm;simp only[hO];rw[W (by omega)];by_cases hs:S m
   ·rw[aI hs,aI ((u m (by omega)).2 hs)]
   ·rw[aG hs,aG (fun h=>hs ((u m (by omega)).1 h))]
 have ay:∀m,m<=i->hS E E' (σ 0).h.get S' m=hS E E' (σ 0).h.get S m:=by
  intro m;induction m with
  | zero=>intro _;rfl
  | succ m W=>
   intro hm;simp only[hS];rw[W (by omega)];by_cases hs:S m
   ·rw[aI hs,aI ((u m (by omega)).2 hs)]
   ·rw[aG hs,aG (fun h=>hs ((u m (by omega)).1 h))]
 have O:∀m,i<m->m<=ops.size->∀t,tmp (hO n ops V (σ 0).tm S' m) t=tmp (Po n (hO n ops V (σ 0).tm S m) o.dst (V i)) t:=by
  intro m;induction m with
  | zero=>intro h;omega
  | succ m W=>
   intro hm bw t;by_cases e:m=i
   ·subst e
    simp only[hO];rw[aI ab,aG Q,ax _ (aE _),qG ho]
   ·have W:=W (by omega) (by omega) t
    simp only[hO];by_cases hs:S m
    ·rw[aI hs,aI ((u m e).2 hs),pr,W,pr,pr,pr]
     obtain⟨b,hb,L⟩:=F m (by omega) hs;obtain⟨om,U,h2⟩:=Z m (by omega);have Qc:=(yJ htm aw h2 (by omega) hb L).1;rw[qG U];by_cases c1:om.dst=some t/\t<n
     ·rw[aI c1,aG,aI c1]
      rintro⟨c2,_⟩;exact(Qc t c2).1 c1.1
     ·rw[aG c1,aG c1]
    ·rw[aG hs,aG (fun h=>hs ((u m e).1 h))];exact W
 have ai:∀m,i<m->m<=ops.size->hS E E' (σ 0).h.get S' m=jR (E i) (E' i) (hS E E' (σ 0).h.get S m):=by
  intro m;induction m with
  | zero=>intro h;omega
  | succ m W=>
   intro hm bw;by_cases e:m=i
   ·subst e
    simp only[hS];rw[aI ab,aG Q,ay _ (aE _)]
   ·have W:=W (by omega) (by omega)
    simp only[hS];by_cases hs:S m
    ·rw[aI hs,aI ((u m e).2 hs),W]
     obtain⟨b,hb,L⟩:=F m (by omega) hs;have bx:=(tr.pair (i:=i) (m:=m) (by omega) (by omega) hb L).1;funext q;simp only[jR];rcases bx q with h|h
     ·rw[aI h,aI h]
     ·rw[aI h,aI h]
    ·rw[aG hs,aG (fun h=>hs ((u m e).1 h))];exact W
 have X:∀q,pS p0 σ ops.size S q->pS p0 σ ops.size S' q:=by
  rintro q (h|⟨j,U,h2⟩)
  ·exact .inl h
  ·exact .inr ⟨j,(C j).2 (.inl U),h2⟩
 have bz:∀q,nx σ i<=q->q<nx σ (i+1)->pS p0 σ ops.size S' q:=fun q U h2=>.inr ⟨i,ab,hi,U,h2⟩
 have ad:∀f' w',(V i).ok (fun q=>pS p0 σ ops.size S' q/\q<nx σ (i+1))->(∀q x,(E' i).get q=some x->(pS p0 σ ops.size S' q/\q<nx σ (i+1))/\x.ok (fun q=>pS p0 σ ops.size S' q/\q<nx σ (i+1))) ->
  Ai5 p0 f0 (σ 0).h w0 f' (jR (E i) (E' i) (hS E E' (σ 0).h.get S ops.size)) w'->Inv n ops bs σ V E E' p0 f0 w0 S' f' w':=by
  intro f' w' U h2 h3;refine⟨fun j hj=>?_,fun j hj=>?_,fun j hj=>?_,?_⟩
  ·rcases(C j).1 hj with hj|rfl
   ·exact⟨Y j hj,fun b hb k hk=>(C k).2 (.inl ((I.dn j hj).2 b hb k hk))⟩
   ·refine⟨hi,fun b hb k hk=>(C k).2 (.inl ?_)⟩
    rw[aq]at hb;cases hb;exact a5 k hk
  ·rcases(C j).1 hj with hj|rfl
   ·exact EV.ok.mono (fun q hq=>⟨X q hq.1,hq.2⟩) _ (I.vok j hj)
   ·exact U
  ·rcases(C j).1 hj with hj|rfl
   ·intro q x A
    obtain⟨a,b⟩:=I.eok j hj q x A;exact⟨⟨X q a.1,a.2⟩,b.mono fun r hr=>⟨X r hr.1,hr.2⟩⟩
   ·exact h2
  ·rw[ai ops.size hi (aE _)];exact h3
 have M:=I.vt tr h0 au ops.size (aE _);have G:Region.wanted o (Go.yielded ops (Bi f n (hO n ops V (σ 0).tm S ops.size)))=Ev.wanted ops.toList (σ i).tm o.guard:=by
  rw[RE M];unfold Ev.wanted;cases hg:o.guard with
  | none=>rfl
  | some x=>
   obtain⟨j,want⟩:=x;simp only[];have:Ev.yielded ops.toList (hO n ops V (σ 0).tm S ops.size) j=Ev.yielded ops.toList (σ i).tm j:=by
    unfold Ev.yielded;rw[u9];cases hj:ops.toList[j]? with
    | none=>rfl
    | some g=>
     simp only[];cases hd:g.dst with
     | none=>rfl
     | some d=>
      simp only[];have:=(J d (.inr ⟨j,want,g,hg,hj,hd⟩)).1;unfold tmp at this;revert this;cases hO n ops V (σ 0).tm S ops.size|>.get d with
      | none=>
       cases(σ i).tm.get d with
       | none=>intro _;rfl
       | some v=>intro h;simp only[]at h;rw[<-h]
      | some v=>
       cases(σ i).tm.get d with
       | none=>intro h;simp only[]at h;rw[h]
       | some v'=>intro h;simp only[]at h;rw[h]
   rw[this]
 rcases sd.run with⟨hw,hv,hE⟩|⟨hw,a7⟩
 ·
  refine⟨f,w,.one ?_,ad f w ?_ ?_ ?_⟩
  ·rw[hw]at G
   have:=QZ (P:=P) (b:=fb) (rest:=rest) (k:=k) (cs:=cs) (w:=w) ho G;rw[this,show(undef:Value)=Cr f (V i) by rw[hv];rfl,vl];rw[yM f n (fun t=>(O ops.size hi (aE _) t).symm)]
  ·rw[hv];trivial
  ·rw[hE]
   intro q x A;obtain⟨a,b⟩:=I.hok tr ah i (by omega) q x (B q x A).1;have:=tr.pw (i:=i) (m:=i+1) (by omega) (by omega);exact⟨⟨X q a.1,by omega⟩,b.mono fun r hr=>⟨X r hr.1,by have:=hr.2;omega⟩⟩
  ·have:jR (E i) (E' i) (hS E E' (σ 0).h.get S ops.size)=hS E E' (σ 0).h.get S ops.size:=by
    funext q;simp only[jR];rw[hE,aI rfl]
   rw[this];exact I.mv
 ·have ae:(E i).next=nx σ i:=sd.Ag5
  have af:(E' i).next=nx σ (i+1):=sd.Af8
  rw[hw]at G;have a0:=I.vt tr h0 au i (by omega);have a1:∀t,n<=t->(σ i).tm.get t=none:=by
   rw[<-sU tr (S:=fun _=>True) (fun _ _=>trivial) i (by omega)];exact yO h0.out _ i
  have ag:∀x∈o.op.operands,Cj (jA (σ i).tm o.op.operands.toList) x=Cj (σ i).tm x:=fun x A=>Bc9 _ (dM.2 A)
  have a8:aop T call round (jA (σ i).tm o.op.operands.toList) o.op (E i)=some (V i,E' i):=by rw[Bjc ag];exact a7
  have a9:Lr (fun q=>pS p0 σ ops.size S q/\q<(E i).next) n (jA (σ i).tm o.op.operands.toList):=by
   refine Bke (fun t ht v hv=>?_) a1;have e:=(J t (.inl ht)).2;rw[Bo0 hv]at e;rw[<-e,ae];exact a0.tmp t
  have b6:T1 (fun q=>pS p0 σ ops.size S q/\q<(E i).next) (E i):=by
   refine⟨fun q hq=>hq.2,fun q x A=>?_⟩;rw[ae];exact I.hok tr ah i (by omega) q x (B q x A).1
  have b7:T7 f (E i) w:=⟨fun q x A=>I.mv.obj q x (B q x A).2,fun q r x y A hy=>I.mv.inj q r x y (B q x A).2 (B r y hy).2⟩;have b8:execOp (Iz (Bi f n (hO n ops V (σ 0).tm S ops.size))) o=execOp (Iz (Bi f n (jA (σ i).tm o.op.operands.toList))) o:=by
   refine Baj o (Bcv a7) fun x A=>?_
   cases x with
   | tmp t=>
    have e1:Iz (Bi f n (hO n ops V (σ 0).tm S ops.size)) (.tmp t)=Cr f (tmp (hO n ops V (σ 0).tm S ops.size) t):=sJ f M t;have e2:Iz (Bi f n (jA (σ i).tm o.op.operands.toList)) (.tmp t)=Cr f (tmp (jA (σ i).tm o.op.operands.toList) t):=sJ f a9 t;rw[e1,e2,(J t (.inl (dM.2 A))).1];have e3:=ag _ A;simp only[Cj,cU]at e3;exact congrArg (Cr f) e3.symm
   | const v=>rfl
   | global g=>rfl
   | func g=>rfl
  obtain⟨f1,w1,bb,bf,H,bj⟩:=RD hT hC hR a9 b6 b7 b8 a8 fb ops i rest k cs ho G;have ao:∀q,pS p0 σ ops.size S q->q<(E i).next\/(E' i).next<=q:=by
   rw[ae,af];rintro q (h|⟨j,U,h2,h3,h4⟩)
   ·left;have:=au q h;have:=tr.pw (i:=0) (m:=i) (by omega) (by omega);omega
   ·rcases Nat.lt_trichotomy j i with h|h|h
    ·left;have:=tr.pw (i:=j+1) (m:=i) (by omega) (by omega);omega
    ·subst h;exact absurd U Q
    ·right;have:=tr.pw (i:=i+1) (m:=j) (by omega) (by omega);omega
  have bn:∀q x,hS E E' (σ 0).h.get S ops.size q=some x->pS p0 σ ops.size S q/\x.ok (pS p0 σ ops.size S):=by
   intro q x A;obtain⟨a,b⟩:=I.hok tr ah ops.size (aE _) q x A;exact⟨a.1,b.mono fun r hr=>hr.1⟩
  have a2:∀q,grow (fun q=>pS p0 σ ops.size S q/\q<(E i).next) (E i) (E' i) q->pS p0 σ ops.size S' q/\q<nx σ (i+1):=by
   rintro q (h|h)
   ·have:=H.next
    rw[ae]at this h;rw[af]at this;exact⟨X q h.1,aN h.2 this⟩
   ·rw[ae,af]at h
    exact⟨bz q h.1 h.2,h.2⟩
  refine⟨patch (E' i).next f1 f,w1,?_,ad _ _ (EV.ok.mono a2 _ bj) (fun q x A=>?_) (Ai5.step I.mv (fun q x A=>(B q x A).2) bn (fun q hq=>.inl hq) bf H ao)⟩
  ·have e1:Cr f1 (V i)=Cr (patch (E' i).next f1 f) (V i):=qA (R_ H) _ bj
   have e2:Bi f n (hO n ops V (σ 0).tm S ops.size)=Bi (patch (E' i).next f1 f) n (hO n ops V (σ 0).tm S ops.size):=Lh (R' bf H ao) (M.mono fun q hq=>hq.1);have e3:nY (Bi f n (hO n ops V (σ 0).tm S ops.size)) o.dst (Cr f1 (V i))=Bi (patch (E' i).next f1 f) n (hO n ops V (σ 0).tm S' ops.size):=by
    rw[e1,e2,vl];exact yM _ n (fun t=>(O ops.size hi (aE _) t).symm)
   rw[e3]at bb;exact bb
  ·obtain⟨a,b⟩:=H.hok.get q x A
   exact⟨a2 q a,b.mono a2⟩
theorem SF(e:Edge):nQ e=Region.binds .any e:=by
 unfold nQ Region.binds;split<;>simp_all
def jK(listed:Array Bool)(N:Nat):List Nat:=(List.range N).filter fun i=>!listed.getD i true
theorem Bpq{N:Nat}(y:listed.size=N)(u:i<N)(A:listed.getD i true=false):(jK (listed.setIfInBounds i true) N).length<(jK listed N).length:=by
 have e:jK (listed.setIfInBounds i true) N=(jK listed N).filter (fun j=>j != i):=by
  unfold jK;rw[List.filter_filter];apply List.filter_congr;intro j hj;rw[dL]at hj;by_cases h:i=j
  ·subst h
   simp[y,u]
  ·rw[getD_set_ne _ h]
   have:(j != i)=true:=by simp[cY h]
   rw[this];simp
 rw[e];refine List.length_filter_lt_length_iff_exists.2 ⟨i,?_,by simp⟩;unfold jK;rw[eJ,dL];exact⟨u,by simp only[A];rfl⟩
include hT hC hR tr hbs htm in
theorem Blm(W:nL ops.toList 0=true)(h0:Lr p0 n (σ 0).tm)(X:T1 p0 (σ 0).h)(Y:FB)(k:List Item)(cs:List Frame):∀(fuel t:Nat) (listed:Array Bool) (f:Loc) (w:World),listed.size=ops.size->(jK listed ops.size).length<=fuel ->
 Inv n ops bs σ V E E' p0 f0 w0 (fun j=>listed.getD j false=true) f w ->
 ∃f' w',Steps P (lone (Y.at (Bi f n (hO n ops V (σ 0).tm (fun j=>listed.getD j false=true) ops.size)) (.inRegion ops (Region.linearise.go .any ops fuel t listed [])::k)) cs w)
  (lone (Y.at (Bi f' n (σ ops.size).tm) (.inRegion ops []::k)) cs w') /\
  ∃S,(∀j,j<ops.size->S j)/\Inv n ops bs σ V E E' p0 f0 w0 S f' w':=by
 have C:∀listed:Array Bool,listed.size=ops.size->(jK listed ops.size).length=0->∀j,j<ops.size->listed.getD j false=true:=by
  intro listed F Z j hj;have:j ∉ jK listed ops.size:=by rw[cS.1 Z];simp
  unfold jK at this;rw[eJ,dL]at this;have h2:(!listed.getD j true)=false:=by
   cases h:(!listed.getD j true)with
   | false=>rfl
   | true=>exact absurd ⟨hj,h⟩ this
  have u:j<listed.size:=by omega
  simp[Array.getD,u]at h2⊢;exact h2
 intro fuel;induction fuel with
 | zero=>
  intro t listed f w F hf I;have hs:=C listed F (by omega);refine⟨f,w,?_,_,hs,I⟩;simp only[Region.linearise.go,List.reverse_nil];rw[sU tr hs _ (aE _)];exact .refl _ _
 | succ fuel ih=>
  intro t listed f w F hf I;simp only[Region.linearise.go];have aa:((List.range ops.size).filter fun i=>!listed.getD i true&&((ops[i]?).map (·.after.all fun e=>!Region.binds .any e||listed.getD e.on false)).getD false)=Region.ready .any ops listed:=rfl;rw[aa];split
  ·rename_i i hi
   have A:i∈Region.ready .any ops listed:=bc hi;obtain⟨G,o,L,ab⟩:=mem_ready.1 A;have B:i<ops.size:=(cq.1 L).1;have ad:¬(listed.getD i false=true):=by
    have u:i<listed.size:=by omega
    simp[Array.getD,u]at G⊢;exact G
   obtain⟨bi,M⟩:=SE hbs B;have H:ops.toList[i]? = some o:=by rw[cM];exact L
   obtain⟨b',h1,h2⟩:=yd ops.toList 0 .nil (fun _ _=>rfl) i o H;rw[bM,<-hbs,M]at h1;cases h1;have O:∀j,bi.testBit j=true->listed.getD j false=true:=by
    intro j hj;obtain⟨e,he,hb,ae⟩:=h2 j hj;have Q:=ab e (dM.1 he) (by rw[<-SF];exact hb);rcases ae with rfl|⟨y,hy,af⟩
    ·exact Q
    ·rw[<-hbs]at hy
     exact(I.dn e.on Q).2 y hy j af
   rw[linearise_go_acc];have ag:∀j,(listed.setIfInBounds i true).getD j false=true↔listed.getD j false=true\/j=i:=by
    intro j;by_cases h:i=j
    ·subst h
     have:(listed.setIfInBounds i true).getD i false=true:=by simp[F,B]
     simp[this]
    ·rw[getD_set_ne _ h]
     constructor
     ·exact .inl
     ·rintro(h'|h')
      ·exact h'
      ·exact absurd h'.symm h
   obtain⟨f1,w1,ah,I1⟩:=I.step hT hC hR tr hbs htm h0 X B ad M O (S':=fun j=>(listed.setIfInBounds i true).getD j false=true) ag Y (Region.linearise.go .any ops fuel (t/(Region.ready .any ops listed).length) (listed.setIfInBounds i true) []) k cs;obtain⟨f2,w2,ai,aj⟩:=ih (t/(Region.ready .any ops listed).length) (listed.setIfInBounds i true) f1 w1 (by simpa using F) (by have:=Bpq F B G;omega) I1;exact⟨f2,w2,ah.trans ai,aj⟩
  ·rename_i J
   have Z:(jK listed ops.size).length=0:=by
    cases hc:jK listed ops.size with
    | nil=>rfl
    | cons a l=>
     exfalso;have hex:∃j,j<ops.size/\listed.getD j true=false:=by
      have:a∈jK listed ops.size:=by rw[hc];exact aW
      unfold jK at this;rw[eJ,dL]at this;exact⟨a,this.1,by simpa using this.2⟩
     have U:∀N,∀j,j<N->j<ops.size->listed.getD j true=false->∃i,i<ops.size/\listed.getD i true=false/\∀k,k<i->listed.getD k true=true:=by
      intro N;induction N with
      | zero=>intro j h;omega
      | succ N al=>
       intro j hj ao aq;by_cases hk:∃k,k<j/\listed.getD k true=false
       ·obtain⟨k,bb,au⟩:=hk
        exact al k (by omega) (by omega) au
       ·refine⟨j,ao,aq,fun k aw=>?_⟩
        cases h:listed.getD k true with
        | true=>rfl
        | false=>exact absurd ⟨k,aw,h⟩ hk
     obtain⟨j,ax,ay⟩:=hex;obtain⟨i,az,a0,a1⟩:=U (j+1) j (by omega) ax ay;have L:ops[i]? = some ops[i]:=cp az;have H:ops.toList[i]? = some ops[i]:=by rw[cM];exact L
     have A:i∈Region.ready .any ops listed:=mem_ready.2 ⟨a0,_,L,fun e he hb=>by
      have bf:=RP ops.toList 0 W i _ H e (dM.2 he) (by rw[SF];exact hb);have:=a1 e.on (by omega);have u:e.on<listed.size:=by omega
      simp[Array.getD,u]at this⊢;exact this⟩
     have hlen:0<(Region.ready .any ops listed).length:=List.length_pos_of_mem A;rw[List.getElem?_eq_none_iff]at J;have:=Nat.mod_lt t hlen;omega
   have hs:=C listed F Z;refine⟨f,w,?_,_,hs,I⟩;simp only[List.reverse_nil];rw[sU tr hs _ (aE _)];exact .refl _ _
end
end
section
open Classical
section
variable{call:Ah}(hC:Wc call)(hR:Wc round){ops:List Oper}{bs:Tr Nat}
theorem Sd.SG{s s':iZ}{E E':Ab}(sd:Sd T call round n ops bs base o i s s' v E E' kd):AWf s.h s'.h where
 next:=by rw[<-sd.Ag5,<-sd.Af8];exact sd.w.next
 mw:=sd.mw.1
 same q u h2:=by rw[sd.Bl2,aI (sd.mw.2 q u h2)]
 live q x e:=by
  rw[sd.Bl2]at e;split at e
  ·exact .inl ⟨x,e⟩
  ·rcases sd.w.live q x e with⟨o',h⟩|h
   ·exact .inl ⟨o',sd.sub q o' h⟩
   ·rw[sd.Ag5]at h;exact .inr h
 lt H q x e:=by
  have j:s.h.next<=s'.h.next:=by rw[<-sd.Ag5,<-sd.Af8];exact sd.w.next
  rw[sd.Bl2]at e;split at e
  ·exact aN (H q x e) j
  ·rw[<-sd.Af8]
   refine sd.w.lt (fun q x e=>?_) q x e;rw[sd.Ag5];exact H q x (sd.sub q x e)
theorem Sd.nw{s s':iZ}{E E':Ab}(sd:Sd T call round n ops bs base o i s s' v E E' kd)(h:∀x∈s.nw,x.2<s.h.next):∀x∈s'.nw,x.2<s'.h.next:=by
 have e:s.h.next<=s'.h.next:=sd.SG.next
 intro x j;have:=sd.kd;cases kd with
 | idle=>rw[this.2.2.2.1]at j;exact aN (h x j) e
 | load q=>rw[this.2.2.2.1]at j;exact aN (h x j) e
 | new=>
  obtain⟨a,⟨y,b⟩,c,d,_⟩:=this;rw[d]at j;rcases bX.1 j with rfl|j
  ·show s.h.next<_
   rw[<-sd.Af8,b,Ab.Dx,sd.Ag5];omega
  ·exact aN (h x j) e
 | sto q=>
  obtain⟨_,_,d,_⟩:=this;rw[d]at j;exact aN (h x j) e
 | big mw=>
  obtain⟨b,_,_,_,_,_,d,_⟩:=this;rw[d]at j;exact aN (h x j) e
include hC hR in
theorem SH:∀{l:List Oper} {i:Nat} {s r:iZ},S7 T call round n ops bs base l i s=some r->(∀x∈s.nw,x.2<s.h.next)->AWf s.h r.h
 | [],_,s,r,h,_=>by cases h;exact .refl _
 | o::l,i,s,r,h,e=>by
  simp only[S7]at h;split at h
  ·rename_i s' hs
   obtain⟨v,E,E',kd,sd⟩:=yK hC hR hs e;exact sd.SG.trans (SH h (sd.nw e))
  ·cases h
include hC hR in
theorem SI(e:ly T call round n ops tm h=some (g_,h')):AWf h h':=by
 unfold ly at e;obtain⟨_,e⟩:=Ap e;obtain⟨_,e⟩:=Ap e;split at e
 ·rename_i hs
  cases e;exact SH hC hR hs (fun x j=>by cases j)
 ·cases e
end
theorem Bma(hT:Qg P T){call:Ah}(hC:kJ P call)(hR:o9 P round)(wC:Wc call)(wR:Wc round)
 {ops:Array Oper} {w:World} (W:Lr p n tm) (J:T1 p h) (X:T7 f h w)
 (u:ly T call round n ops.toList tm h=some (g_,h')) (b:FB) (t:Nat) (k:List Item) (cs:List Frame) (dr:Nat) :
 ∃f' w',Steps P (lone (b.at (Bi f n tm) (.inRegion ops (Region.linearise .any ops t)::k)) cs { w with drawn:=dr }) (lone (b.at (Bi f' n g_) (.inRegion ops []::k)) cs w') /\
  Move p f h w f' h' w'/\Wf p h h'/\Lr (grow p h h') n g_:=by
 have hwf:=SI wC wR u;unfold ly at u;obtain⟨M,u⟩:=Ap u;obtain⟨htm,u⟩:=Ap u;split at u
 ·rename_i Y L b1 b2 b3 b4 b5 hs
  cases u;obtain⟨σ,V,E,E',K,e0,O,tr⟩:=Bs0 (s:=⟨tm,h,0,[],[],[],[]⟩) wC wR hs (fun q x Q=>J.lt q (J.get q x Q).1) rfl;have hlen:ops.toList.length=ops.size:=by simp
  rw[hlen]at O;have C:Lr p n (σ 0).tm:=by rw[e0];exact W
  have A:T1 p (σ 0).h:=by rw[e0];exact J
  have e:∀j,¬((Array.replicate ops.size false).getD j false=true):=by
   intro j;simp only[eU,Array.getElem?_replicate];split<;>simp
  have Z:Inv n ops (Oq ops.toList 0 .nil) σ V E E' p f w (fun j=>(Array.replicate ops.size false).getD j false=true) f { w with drawn:=dr }:=by
   refine⟨fun j hj=>absurd hj (e j),fun j hj=>absurd hj (e j),fun j hj=>absurd hj (e j),?_⟩;have:hS E E' (σ 0).h.get (fun j=>(Array.replicate ops.size false).getD j false=true) ops.size=(σ 0).h.get:=by
    funext q;exact SC _ (fun j _ hs=>absurd hs (e j)) _ (cZ _)
   rw[this];have U:T7 f (σ 0).h w:=by rw[e0];exact X
   exact(Ai5.start U).drew dr
  have F:Bi f n (hO n ops V (σ 0).tm (fun j=>(Array.replicate ops.size false).getD j false=true) ops.size)=Bi f n tm:=by
   rw[show tm=(σ 0).tm by rw[e0]];exact yM f n fun t=>SB _ (fun j _ hs=>absurd hs (e j)) _ (cZ _)
  obtain⟨f',w',B,S,hS,I⟩:=Blm hT hC hR tr rfl htm M C A b k cs ops.size t (Array.replicate ops.size false) f _ (by simp) (by
   unfold jK;exact bQ (fH _ _) (by simp)) Z
  rw[F]at B;have G:=I.mv.move (h:=(σ ops.size).h) (fun q=>(SD tr hS q).symm);have e1:(σ ops.size).h=h':=by rw[O]
  have e2:(σ ops.size).tm=g_:=by rw[O]
  have e3:(σ 0).h=h:=by rw[e0]
  have y:∀q,pS p σ ops.size S q/\q<nx σ ops.size->grow p h h' q:=by
   rintro q ⟨L|⟨j,_,hj,L,h2⟩,h3⟩
   ·exact .inl L
   ·refine .inr ⟨?_,?_⟩
    ·have:=tr.pw (i:=0) (m:=j) (by omega) (by omega)
     rw[<-e3];exact bQ this L
    ·rw[<-e1];exact h3
  rw[e2]at B;rw[e1,e3]at G;refine⟨f',w',B,G,⟨hwf.next,hwf.mw,hwf.same,hwf.live,⟨fun q H=>?_,fun q x Q=>?_⟩⟩,?_⟩
  ·rcases H with H|H
   ·exact aN (J.lt q H) hwf.next
   ·exact H.2
  ·obtain⟨a,b⟩:=I.hok tr A ops.size (aE _) q x (by rw[SD tr hS q,e1];exact Q)
   exact⟨y q a,b.mono y⟩
  ·have:=I.vt tr C A.lt ops.size (aE _)
   rw[sU tr hS _ (aE _),e2]at this;exact this.mono y
 ·cases u
end
section
def I9(f:Loc)(d:Nat):Deferred:={ target:=.collected (f.b d),args:=#[] }
def px(f:Loc)(a:Ajt):FB:=⟨a.fn,a.defers.map (I9 f),a.Dt.map f.b⟩
noncomputable def Ov(f:Loc)(a:Ajt):Frame:=
 { fn:=a.fn,tmps:=Bi f a.n a.tmps,todo:=a.todo,defers:=a.defers.map (I9 f),mode:=if a.ret=true then .returning else .run,kind:=.normal,roundOf:=a.Dt.map f.b }
structure Yu(p:Nat->Prop)(a:Ajt):Prop where
 tm:Lr p a.n a.tmps
 dfr:∀d∈a.defers,p d
 Dt:∀l,a.Dt=some l->p l
 ret:a.ret=true->a.Dt=none
theorem Yu.mono {q:Nat->Prop}(h:Yu p a)(e:∀i,p i->q i):Yu q a:=⟨h.tm.mono e,fun d hd=>e d (h.dfr d hd),fun l j=>e l (h.Dt l j),h.ret⟩
theorem A25{g:Loc}(e:Loc.Fo p f g)(h:Yu p a):Ov f a=Ov g a:=by
 unfold Ov;rw[Lh e h.tm];have j:a.defers.map (I9 f)=a.defers.map (I9 g):=by
  apply cm;intro d hd;unfold I9;rw[(e d (h.dfr d hd)).1]
 have h2:a.Dt.map f.b=a.Dt.map g.b:=by
  cases u:a.Dt with
  | none=>rfl
  | some l=>simp only[eI];rw[(e l (h.Dt l u)).1]
 rw[j,h2]
theorem vu{g:Loc}(e:Loc.Fo p f g)(h:Yu p a):px f a=px g a:=by
 have:=A25 e h;unfold Ov at this;unfold px;injection this with _ _ _ h4 _ _ j;rw[h4,j]
section
variable{b:FB}{w:World}
theorem Bor:step P (lone (b.at tmps (.code .skip::k)) cs w)=.next (lone (b.at tmps k) cs w):=cN (by simp[stepG,stepG.exec,FB.at])
theorem Blc {l:Nat}:step P (lone (b.at tmps (.code (.label l)::k)) cs w)=.next (lone (b.at tmps k) cs w):=cN (by simp[stepG,stepG.exec,FB.at])
theorem Bd8:step P (lone (b.at tmps (.inBlock id::k)) cs w)=.next (lone (b.at tmps k) cs w):=cN (by simp[stepG,stepG.exec,FB.at])
theorem Bsl {x y:Code}:step P (lone (b.at tmps (.code (.seq x y)::k)) cs w)=.next (lone (b.at tmps (.code x :: .code y::k)) cs w):=cN (by simp[stepG,stepG.exec,FB.at])
theorem SJ {c:Operand}{x y:Code}{t:Bool}(h:Iz tmps c=.bool t):step P (lone (b.at tmps (.code (.cond c x y)::k)) cs w)=.next (lone (b.at tmps (.code (if t then x else y)::k)) cs w):=
 cN (by
  have:=FB.eval_at b tmps (.code (.cond c x y)::k);simp only[FB.at]at this;simp[stepG,stepG.exec,FB.at,this,h])
theorem Bmf{c:Code}:step P (lone (b.at tmps (.code (.block id c)::k)) cs w)=.next (lone (b.at tmps (.code c :: .inBlock id::k)) cs w):=cN (by simp[stepG,stepG.exec,FB.at])
theorem Bpm {c:Code}:step P (lone (b.at tmps (.code (.loop c)::k)) cs w)=.next (lone (b.at tmps (.code c :: .inLoop c::k)) cs w):=cN (by simp[stepG,stepG.exec,FB.at])
theorem Bgd {c:Code}:step P (lone (b.at tmps (.inLoop c::k)) cs w)=.next (lone (b.at tmps (.code c :: .inLoop c::k)) cs w):=cN (by simp[stepG,stepG.exec,FB.at])
theorem Bo9{e:List Item}(h:exitTo id k=some e):step P (lone (b.at tmps (.code (.exit id)::k)) cs w)=.next (lone (b.at tmps e) cs w):=cN (by simp[stepG,stepG.exec,FB.at,h])
theorem Brs(h:b.Dt=none):step P (lone (b.at tmps (.code .ret::k)) cs w)=.next (lone { b.at tmps (.code .ret::k)with mode:=.returning } cs w):=cN (by simp[stepG,stepG.exec,FB.at,h])
theorem Brl(h:b.Dt=none):step P (lone (b.at tmps []) cs w)=.next (lone { b.at tmps []with mode:=.returning } cs w):=cN (by simp[stepG,stepG.exec,FB.at,h])
theorem Bjb{ops:Array Oper}:step P (lone (b.at tmps (.code (.region id ops false)::k)) cs w)=.next (lone (b.at tmps (.inRegion ops (List.range ops.size)::k)) cs w):=cN (by simp[stepG,stepG.exec,FB.at])
theorem Bo3(hm:P.follows .mixedOrders=true){ops:Array Oper}:step P (lone (b.at tmps (.code (.region id ops true)::k)) cs w) =
 .next (lone (b.at tmps (.inRegion ops (Region.linearise .any ops (w.tape w.drawn (.order b.fn id)))::k)) cs { w with drawn:=w.drawn+1 }):=
 cN (by simp[stepG,stepG.exec,FB.at,choose,Sem.run,Question.forced,Question.cut,hm,Region.schedule])
theorem A5y {l:Nat}(e:b.Dt=some l){v:Value}(he:(Instr.endRound l jump).run P w=.ok v w')
 (j:(todo = []/\jump=none)\/(∃k,todo=.code .ret::k/\jump=some .ret)\/(∃id k,todo=.code (.exit id)::k/\exitTo id k=none/\jump=some (.exit id))) :
 step P (lone (b.at tmps todo) (caller::cs) w)=.next (lone (caller.finish v) cs w'):=by
 refine cN ?_;rcases j with⟨rfl,rfl⟩|⟨k,rfl,rfl⟩|⟨id,k,rfl,u,rfl⟩
 ·simp[stepG,stepG.exec,FB.at,e,he,doReturn]
 ·simp[stepG,stepG.exec,FB.at,e,he,doReturn]
 ·simp[stepG,stepG.exec,FB.at,e,u,he,doReturn]
end
section
variable(hT:Qg P T){w:World}
theorem A8u(hT:Qg P T)(j:T1 p h)(u:T7 f h w){cs:List EV}(hs:T.size t=some n)(y:I6 h i off n=some cs){b:Bool}(e:T.agg t=some b)
 (A:(b=true/\v=.agg cs)\/(b=false/\cs = [v])):(loadVar t ⟨f.b i,off,none⟩).run P w=.ok (Cr f v) w/\v.ok p:=by
 obtain⟨B,h2,C,h4,F⟩:=vj (P:=P) j u y;rcases A with⟨rfl,rfl⟩|⟨rfl,rfl⟩
 ·refine⟨?_,h2,C⟩
  simp only[loadVar,Sem.run_bind,qE hT w e,aK,bJ,Gq hT w hs,B,aT,Cr]
 ·refine⟨?_,h2.1⟩
  have:=F 0 v rfl;simp only[loadVar,Sem.run_bind,qE hT w e,aK,aX,ak];simp only[dS]at this;rw[run_load,this]
theorem SK {β:Type}(P:Program)(w:World)(g:α->Sem β):∀(l:List α) (r:List β),(l.length=r.length)->(∀(i:Nat) a b,l[i]? = some a->r[i]? = some b->(g a).run P w=.ok b w)->(l.mapM g).run P w=.ok r w
 | [],[],_,_=>by simp
 | a::l,b::r,e,h=>by
  have h0:=h 0 a b rfl rfl;have j:=SK P w g l r (by simpa using e) (fun i a b u h2=>h (i+1) a b (by simpa using u) (by simpa using h2));simp[List.mapM_cons,h0,j]
 | [],_::_,h,_=>by simp at h
 | _::_,[],h,_=>by simp at h
def mK(tmps:Array Value):ResultVar->Sem Value
 | .tmp t=>pure (tmps.getD t undef)
 | .cell a t=>do loadVar t (←asAddr (tmps.getD a undef))
theorem Bcc(fn:Func)(tmps:Array Value):results fn tmps=(do
 let vs ←fn.results.mapM (mK tmps)
 pure (if h:vs.size=1 then vs[0]else .tuple vs)):=by
 unfold results;congr 1
theorem yP(hT:Qg P T)(G:T1 p h)(H:T7 f h w)(A:Lr p n tm):∀{l:List ResultVar} {vs:List EV},Nb T tm h l=some vs ->
 EV.Tx p vs/\l.length=(Bw f vs).length/\∀(i:Nat) a b,l[i]? = some a->(Bw f vs)[i]? = some b->(mK (Bi f n tm) a).run P w=.ok b w
 | [],vs,j=>by cases j;exact⟨trivial,rfl,fun i a b h=>by simp at h⟩
 | .tmp t::r,vs,j=>by
  simp only[Nb]at j;split at j
  ·rename_i l J
   cases j;obtain⟨L,h2,M⟩:=yP hT G H A J;refine⟨⟨A.tmp t,L⟩,by simp[Bw,h2],fun i a b B hb=>?_⟩;cases i with
   | zero=>
    simp only[bK,cU,Bw]at B hb;subst B hb;simp only[mK,aT,sJ f A]
   | succ i=>exact M i a b (by simpa using B) (by simpa [Bw]using hb)
  ·cases j
 | .cell a t::r,vs,j=>by
  simp only[Nb]at j;split at j
  ·rename_i i off l X B J O
   split at j
   ·rename_i cs Q
    obtain⟨L,h2,M⟩:=yP hT G H A J;have key:∀(b:Bool) (v:EV),T.agg t=some b->((b=true/\v=.agg cs)\/(b=false/\cs = [v]))->some (v::l)=some vs->EV.Tx p vs/\(ResultVar.cell a t::r).length=(Bw f vs).length/\∀(i:Nat) C F,(ResultVar.cell a t::r)[i]? = some C->(Bw f vs)[i]? = some F->(mK (Bi f n tm) C).run P w=.ok F w:=by
     intro b v hb U e;cases e;obtain⟨l1,W⟩:=A8u hT G H O Q hb U;refine⟨⟨W,L⟩,by simp[Bw,h2],fun i C F u y=>?_⟩;cases i with
     | zero=>
      simp only[bK,cU,Bw]at u y;subst u y;simp only[mK,sJ f A,B,Cr,asAddr,Sem.run_bind,aT,aK,l1]
     | succ i=>exact M i C F (by simpa using u) (by simpa [Bw]using y)
    split at j
    ·rename_i hb;exact key true _ hb (.inl ⟨rfl,rfl⟩) j
    ·rename_i hb
     split at j
     ·exact key false _ hb (.inr ⟨rfl,rfl⟩) j
     ·cases j
    ·cases j
   ·cases j
  ·cases j
theorem A9h(hT:Qg P T)(C:T1 p h)(F:T7 f h w)(G:Lr p n tm){fn:Func}{vs:List EV}(H:Nb T tm h fn.results.toList=some vs)
 (A:vs = [v]\/((∀x,vs≠[x])/\v=.tuple vs)):(results fn (Bi f n tm)).run P w=.ok (Cr f v) w/\v.ok p:=by
 obtain⟨B,h2,J⟩:=yP hT C F G H;have hm:(fn.results.toList.mapM (mK (Bi f n tm))).run P w=.ok (Bw f vs) w:=SK P w _ _ _ h2 J;constructor
 ·have u:(fn.results.mapM (mK (Bi f n tm))).run P w=.ok (Bw f vs).toArray w:=by
   have e:fn.results.mapM (mK (Bi f n tm))=Functor.map List.toArray (fn.results.toList.mapM (mK (Bi f n tm))):=by
    rw[<-List.mapM_toArray,eQ]
   rw[e,Sem.run_map,hm];rfl
  rw[Bcc,Sem.run_bind,u,aK,aT];congr 1;rcases A with rfl|⟨y,rfl⟩
  ·simp[Bw]
  ·rw[dif_neg]
   ·simp only[Cr]
   ·intro j
    simp only[eD,Di]at j
    match vs,j with
    | [x],_=>exact y x rfl
 ·rcases A with rfl|⟨_,rfl⟩
  ·exact B.1
  ·exact B
end
end
section
theorem yQ(f:Loc)(fn n:Nat)(tm:Ba)(todo:List Item)(ds:List Nat)(Dt:Option Nat):
 Ov f ⟨fn,n,tm,todo,ds,false,Dt⟩=(FB.mk fn (ds.map (I9 f)) (Dt.map f.b)).at (Bi f n tm) todo:=rfl
theorem yR(f:Loc)(fn n:Nat)(tm:Ba)(todo:List Item)(ds:List Nat):
 Ov f ⟨fn,n,tm,todo,ds,true,none⟩ = { (FB.mk fn (ds.map (I9 f)) none).at (Bi f n tm) todo with mode:=.returning }:=rfl
def im(P:Program)(p:Nat->Prop)(f:Loc)(w:World)(cs:List Frame)(s s':Hp):Prop:=
 ∃f' w',Steps P (lone (Ov f s.fr) cs w) (lone (Ov f' s'.fr) cs w')/\Move p f s.h w f' s'.h w'/\Wf p s.h s'.h/\Yu (grow p s.h s'.h) s'.fr/\s'.fr.fn=s.fr.fn/\s'.fr.Dt=s.fr.Dt
def Fin(P:Program)(p:Nat->Prop)(f:Loc)(w:World)(s:Hp)(v:EV)(h':Ab):Prop:=
 match s.fr.Dt with
 | none=>h'=s.h/\(Ov f s.fr).leaving P w (.returned (Cr f v))/\v.ok p
 | some _=>∀caller cs,∃w',Steps P (lone (Ov f s.fr) (caller::cs) w) (lone (caller.finish (Cr f v)) cs w')/\Move p f s.h w f h' w'/\Wf p s.h h'/\v.ok p
section
variable{w:World}
theorem im.stay {fr e:Ajt}(j:T1 p h)(u:T7 f h w)(hs:Steps P (lone (Ov f fr) cs w) (lone (Ov f e) cs w))(y:Yu p e)(A:e.fn=fr.fn)(h2:e.Dt=fr.Dt):im P p f w cs ⟨fr,h⟩ ⟨e,h⟩:=
 ⟨f,w,hs,Move.refl u,Wf.refl j,by rw[Kb _ _ _ rfl];exact y,A,h2⟩
theorem vv(u:T7 f h w){l:Nat}{st:LoopState}(y:h.get l=some (.loop st pd fn n tm ps b_ body d)):
 (Instr.getLoop (f.b l)).run P w=.ok ⟨st,pd,fn,Bi f n tm,ps.toArray,b_,body,f.b d⟩ w/\w.heap[f.b l]? = some (.loop ⟨st,pd,fn,Bi f n tm,ps.toArray,b_,body,f.b d⟩):=by
 obtain⟨r,j,rfl⟩:=u.obj l _ y;have e:=Oe (P:=P) j (by intros;simp);refine⟨?_,j⟩;simp only[Instr.getLoop,Sem.run_bind,e,aK,aT]
theorem yS(j:T1 p h)(u:T7 f h w){l:Nat}{st st':LoopState}{pd':Option Code}(e:h.get l=some (.loop st pd fn n tm ps b_ body d)):
 Move p f h w f (h.put l (.loop st' pd' fn n tm ps b_ body d)) { w with heap:=w.heap.setIfInBounds (f.b l) (.loop ⟨st',pd',fn,Bi f n tm,ps.toArray,b_,body,f.b d⟩) } /\
 Wf p h (h.put l (.loop st' pd' fn n tm ps b_ body d)):=
 ⟨Move.setObj u e rfl,Wf.put j e (j.get l _ e).2⟩
theorem A52(e:T7 f h w){l:Nat}{st:LoopState}(j:h.get l=some (.loop st pd fn n tm ps b_ body d))(jump:Option Code):
 (Instr.endRound (f.b l) jump).run P w=.ok (.bool jump.isNone) { w with heap:=w.heap.setIfInBounds (f.b l) (.loop ⟨if jump.isNone then .ready else .done,jump,fn,Bi f n tm,ps.toArray,b_,body,f.b d⟩) }:=by
 obtain⟨u,h2⟩:=vv (P:=P) e j;have hs:=Qy (P:=P) (o':=.loop ⟨if jump.isNone then .ready else .done,jump,fn,Bi f n tm,ps.toArray,b_,body,f.b d⟩) h2 (by intros;simp);simp only[Instr.endRound,Sem.run_bind,u,aK,hs,aT]
theorem yT(e:leave fn n tm todo ds Dt h jump=.go s'):
 Dt=none/\s'=⟨⟨fn,n,tm,todo,ds,true,none⟩,h⟩/\(jump=none\/jump=some .ret):=by
 unfold leave at e;split at e
 ·split at e
  ·cases e;exact⟨rfl,rfl,.inl rfl⟩
  ·cases e;exact⟨rfl,rfl,.inr rfl⟩
  ·cases e
 ·split at e
  ·split at e<;>cases e
  ·cases e
theorem yU(B:T1 p h)(y:T7 f h w)(e:leave fn n tm todo ds Dt h jump=.done v h')
 (C:(todo = []/\jump=none)\/(∃k,todo=.code .ret::k/\jump=some .ret)\/(∃id k,todo=.code (.exit id)::k/\exitTo id k=none/\jump=some (.exit id))) :
 Fin P p f w ⟨⟨fn,n,tm,todo,ds,false,Dt⟩,h⟩ v h':=by
 unfold leave at e;split at e
 ·split at e<;>cases e
 ·rename_i l
  split at e
  ·rename_i st pd j F g_ ps b_ body d A
   have key:∀(b:Bool) (st':LoopState),b=jump.isNone->st'=(if jump.isNone then .ready else .done)->Fin P p f w ⟨⟨fn,n,tm,todo,ds,false,some l⟩,h⟩ (.bool b) (h.put l (.loop st' jump j F g_ ps b_ body d)):=by
    intro b st' hb u;intro caller cs;obtain⟨m1,m2⟩:=yS (st':=st') (pd':=jump) B y A;refine⟨_,.one ?_,m1,m2,trivial⟩;have he:=A52 (P:=P) y A jump;rw[<-u,<-hb]at he;exact A5y (b:=FB.mk fn (ds.map (I9 f)) (some (f.b l))) rfl he C
   split at e
   ·cases e;exact key true _ rfl rfl
   ·cases e;exact key false _ rfl rfl
  ·cases e
variable (hT:Qg P T){call:Ah}(hC:kJ P call)(hR:o9 P round)(wC:Wc call)(wR:Wc round)
theorem Bhv{ds:List Deferred}(h:(Instr.takeDeferred d).run P w=.ok [] w'):
 step P (lone { fn:=fn,tmps:=tmps,todo:=todo,defers:={ target:=.collected d,args:=#[] }::ds,mode:=.returning,kind:=.normal,roundOf:=none } cs w) =
  .next (lone { fn:=fn,tmps:=tmps,todo:=todo,defers:=ds,mode:=.returning,kind:=.normal,roundOf:=none } cs w'):=
 cN (by simp[stepG,unwind,h])
theorem A3l {b:FB}{l:Nat}(e:b.Dt=some l)(h:(Instr.beginRound l).run P w=.ok () w'):
 step P (lone (b.at tmps (.beginRound::k)) cs w)=.next (lone (b.at tmps k) cs w'):=
 cN (by simp[stepG,stepG.exec,stepG.apply,FB.at,e,h,Frame.finish])
theorem SL {b:FB}{ps:Array Tmp}{l:Nat}{mark:List Deferred}{w1:World}{g:FuncId}{args:Array Value}
 (e:(Instr.enterLoop b.fn tmps ps b_ body b.Dt).run P w=.ok (l,mark) w1)
 (h2:(do let d ←resolve (Iz tmps) { callee:=.value fo,args:=#[.const (.func (.yield l) #[] #[])],argTypes:=#[] } 0;invoke d.target d.args:Sem Next).run P w1=.ok (.enter g args) w1) :
 step P (lone (b.at tmps (.code (.rangeFunc fo ps b_ body)::k)) cs w)=.next (lone (Frame.enter P g args .normal) ((FB.mk b.fn (mark++b.defers) b.Dt).at tmps (.inRangeFunc l::k)::cs) w1):=by
 refine cN ?_;have he:=FB.eval_at (FB.mk b.fn (mark++b.defers) b.Dt) tmps (.inRangeFunc l::k);simp only[FB.at]at he;simp only[stepG,stepG.exec,FB.at,Sem.runT_eq,e,GStep.bare_after,stepG.apply,he];rw[h2];simp
theorem Bat {b:FB}{l:Nat}{w1:World}(e:(Instr.endLoop l).run P w=.ok jump w1):
 step P (lone (b.at tmps (.endRangeFunc l::k)) cs w)=.next (lone (b.at tmps ((jump.map Item.code).toList++k)) cs w1):=
 cN (by simp[stepG,stepG.exec,FB.at,e])
theorem Ba9(j:T7 f h w){l:Nat}{st:LoopState}(e:st≠.busy)(u:h.get l=some (.loop st pd fn n tm ps b_ body d)):
 (Instr.endLoop (f.b l)).run P w=.ok pd { w with heap:=w.heap.setIfInBounds (f.b l) (.loop ⟨.exhausted,pd,fn,Bi f n tm,ps.toArray,b_,body,f.b d⟩) }:=by
 obtain⟨y,h2⟩:=vv (P:=P) j u;have hs:=Qy (P:=P) (o':=.loop ⟨.exhausted,pd,fn,Bi f n tm,ps.toArray,b_,body,f.b d⟩) h2 (by intros;simp);have hb:(st == .busy)=false:=by cases st<;>first|rfl|exact absurd rfl e
 simp only[Instr.endLoop,Sem.run_bind,y,aK,hb,aX,ak,aT,hs]
theorem SM(hC:kJ P call){l:Nat}{g:Nat}
 (j:behind fn n tm ds Dt l k (call g args h)=.go s') (W:T1 p h) (X:T7 f h w) (Y:EV.Tx p args) (F:Yu p ⟨fn,n,tm,k,ds,false,Dt⟩) :
 (∃G,P.funcs[g]? = some G/\G.body.isSome=true/\(G.name == "runtime.NumGoroutine")=false)/\∃f' w',p l ->
  Steps P (lone (Frame.enter P g (Bw f args).toArray .normal) ((FB.mk fn (ds.map (I9 f)) (Dt.map f.b)).at (Bi f n tm) (.inRangeFunc (f.b l)::k)::cs) w) (lone (Ov f' s'.fr) cs w') /\
  Move p f h w f' s'.h w'/\Wf p h s'.h/\Yu (grow p h s'.h) s'.fr/\s'.fr.fn=fn/\s'.fr.Dt=Dt:=by
 unfold behind at j;split at j
 ·cases j
 ·rename_i v C y
  obtain⟨H,Z⟩:=hC _ _ _ _ _ y;refine⟨H,?_⟩;split at j
  ·rename_i st pd B Q g_ ps b_ body d U
   have key:st≠.busy->∀todo:List Item,todo=(pd.map Item.code).toList++k->(AR.go ⟨⟨fn,n,tm,todo,ds,false,Dt⟩,C.put l (.loop .exhausted pd B Q g_ ps b_ body d)⟩=.go s')->∃f' w',p l ->
    Steps P (lone (Frame.enter P g (Bw f args).toArray .normal) ((FB.mk fn (ds.map (I9 f)) (Dt.map f.b)).at (Bi f n tm) (.inRangeFunc (f.b l)::k)::cs) w) (lone (Ov f' s'.fr) cs w') /\
    Move p f h w f' s'.h w'/\Wf p h s'.h/\Yu (grow p h s'.h) s'.fr/\s'.fr.fn=fn/\s'.fr.Dt=Dt:=by
    intro J todo A e;cases e;obtain⟨fr,f1,w1,hs,aa,hl,hm,hwf,ad⟩:=Z p f w W X Y ((FB.mk fn (ds.map (I9 f)) (Dt.map f.b)).at (Bi f n tm) (.inRangeFunc (f.b l)::k)::cs);have u:Yu (grow p h C) ⟨fn,n,tm,k,ds,false,Dt⟩:=F.mono fun _ hi=>.inl hi
    obtain⟨m1,m2⟩:=yS (st':=.exhausted) (pd':=pd) hwf.hok hm.rep U;have L:grow p h (C.put l (.loop .exhausted pd B Q g_ ps b_ body d))=grow p h C:=by
     funext q;simp only[grow,Ab.Qr]
    refine⟨f1,_,fun M=>⟨hs.trans (.head (step_leave_returned hl) (.one ?_)),hm.trans m1,hwf.trans m2,?_,rfl,rfl⟩⟩
    ·have e1:((FB.mk fn (ds.map (I9 f)) (Dt.map f.b)).at (Bi f n tm) (.inRangeFunc (f.b l)::k)).finish (Cr f1 v)=(FB.mk fn (ds.map (I9 f1)) (Dt.map f1.b)).at (Bi f1 n tm) (.endRangeFunc (f1.b l)::k):=by
      have:=vu hm.Fo F;simp only[px]at this;rw[this,hm.Bi F.tm,(hm.Fo l M).1];rfl
     rw[e1,Bat (Ba9 hm.rep J U),<-A];rfl
    ·rw[L]
     exact⟨u.tm,u.dfr,u.Dt,fun x=>by cases x⟩
   split at j
   ·cases j
   ·rename_i O;exact key O _ (by cases pd<;>rfl) j
  ·cases j
end
end
section
section
variable(hT:Qg P T){call:Ah}(hC:kJ P call)(hR:o9 P round)(wC:Wc call)(wR:Wc round)
include wC wR in
theorem yj {s:Hp}(j:(∃s',Cq T call round s=.go s'/\s'.h=h')\/∃v,Cq T call round s=.done v h'):AWf s.h h':=by
 obtain⟨⟨fn,n,tm,todo,ds,ret,Dt⟩,h⟩:=s;have A:∀{todo:List Item} {jump:Option Code} {h':Ab},((∃s',leave fn n tm todo ds Dt h jump=.go s'/\s'.h=h')\/∃v,leave fn n tm todo ds Dt h jump=.done v h')->AWf h h':=by
  intro todo jump h' L;rcases L with⟨s',C,h2⟩|⟨v,C⟩
  ·obtain⟨_,e,_⟩:=yT C
   rw[e]at h2;subst h2;exact .refl _
  ·unfold leave at C
   split at C
   ·split at C<;>cases C
   ·split at C
    ·rename_i F
     split at C
     ·cases C;exact .put F _
     ·cases C;exact .put F _
    ·cases C
 cases ret with
 | true=>
  cases ds with
  | cons d ds=>
   simp only[Cq]at j;split at j
   ·rename_i F
    rcases j with⟨s',e,rfl⟩|⟨v,e⟩
    ·cases e;exact .put F _
    ·cases e
   ·rcases j with⟨s',e,_⟩|⟨v,e⟩<;>cases e
  | nil=>
   simp only[Cq]at j;rcases j with⟨s',e,rfl⟩|⟨v,e⟩
   ·split at e
    ·split at e<;>cases e
    ·cases e
   ·split at e
    ·split at e<;>first|(cases e;done)|(cases e;exact .refl _)
    ·cases e
 | false=>
  cases todo with
  | nil=>simp only[Cq]at j;exact A j
  | cons it k=>
   have y:∀{s0:Hp},((∃s',AR.go s0=.go s'/\s'.h=h')\/∃v,AR.go s0=.done v h')->s0.h=h':=by
    rintro s0 (⟨s',e,rfl⟩|⟨v,e⟩)<;>cases e;rfl
   have u:((∃s',AR.fail=.go s'/\s'.h=h')\/∃v,AR.fail=.done v h')->AWf h h':=by
    rintro(⟨s',e,_⟩|⟨v,e⟩)<;>cases e
   have B:∀{G:List Nat} {l g:Nat} {args:List EV} {C:Ab},AWf h C->((∃s',behind fn n tm G Dt l k (call g args C)=.go s'/\s'.h=h')\/∃v,behind fn n tm G Dt l k (call g args C)=.done v h')->AWf h h':=by
    intro G l g args C H hb;unfold behind at hb;split at hb
    ·exact u hb
    ·rename_i v h2 M
     split at hb
     ·rename_i F
      split at hb
      ·exact u hb
      ·rw[<-y hb]
       exact(H.trans (wC _ _ _ _ _ M)).trans (.put F _)
     ·exact u hb
   cases it with
   | code c=>
    cases c with
    | region id ops dr=>
     cases dr with
     | false=>
      simp only[Cq]at j;split at j
      ·rename_i J;rw[<-y j];exact yE wC wR J
      ·exact u j
     | true=>
      simp only[Cq]at j;split at j
      ·rename_i J;rw[<-y j];exact SI wC wR J
      ·exact u j
    | cond c a b=>
     simp only[Cq]at j;split at j
     ·rw[<-y j];exact .refl _
     ·rw[<-y j];exact .refl _
     ·exact u j
    | exit id=>
     simp only[Cq]at j;split at j
     ·rw[<-y j];exact .refl _
     ·exact A j
    | ret=>simp only[Cq]at j;exact A j
    | rangeFunc fo ps b_ body=>
     simp only[Cq]at j;split at j
     ·split at j
      ·exact B ((AWf.new _ _).trans (.new _ _)) j
      ·split at j
       ·exact B (.new _ _) j
       ·exact u j
     ·exact u j
    | seq a b=>simp only[Cq]at j;rw[<-y j];exact .refl _
    | skip=>simp only[Cq]at j;rw[<-y j];exact .refl _
    | block id c=>simp only[Cq]at j;rw[<-y j];exact .refl _
    | loop c=>simp only[Cq]at j;rw[<-y j];exact .refl _
    | label l=>simp only[Cq]at j;rw[<-y j];exact .refl _
    | scope c=>simp only[Cq]at j;exact u j
    | goto c=>simp only[Cq]at j;exact u j
    | refuse c=>simp only[Cq]at j;exact u j
   | inBlock id=>simp only[Cq]at j;rw[<-y j];exact .refl _
   | inLoop c=>simp only[Cq]at j;rw[<-y j];exact .refl _
   | beginRound=>
    simp only[Cq]at j;split at j
    ·split at j
     ·rename_i F;rw[<-y j];exact .put F _
     ·exact u j
    ·exact u j
   | _=>simp only[Cq]at j;exact u j
theorem im.run{w:World}{e:List Nat}{f':Loc}
 (hs:Steps P (lone ((FB.mk fn (ds.map (I9 f)) (Dt.map f.b)).at (Bi f n tm) todo) cs w) (lone ((FB.mk fn (e.map (I9 f')) (Dt.map f'.b)).at (Bi f' n g_) jq) cs w'))
 (hm:Move p f h w f' h' w') (hwf:Wf p h h') (j:Yu (grow p h h') ⟨fn,n,g_,jq,e,false,Dt⟩):im P p f w cs ⟨⟨fn,n,tm,todo,ds,false,Dt⟩,h⟩ ⟨⟨fn,n,g_,jq,e,false,Dt⟩,h'⟩:=
 ⟨f',w',hs,hm,hwf,j,rfl,rfl⟩
theorem im.lO{w:World}(j:T1 p h)(u:T7 f h w)(e:Yu p ⟨fn,n,tm,todo,ds,false,Dt⟩)
 (hs:step P (lone ((FB.mk fn (ds.map (I9 f)) (Dt.map f.b)).at (Bi f n tm) todo) cs w)=.next (lone ((FB.mk fn (ds.map (I9 f)) (Dt.map f.b)).at (Bi f n tm) jq) cs w)) :
 im P p f w cs ⟨⟨fn,n,tm,todo,ds,false,Dt⟩,h⟩ ⟨⟨fn,n,tm,jq,ds,false,Dt⟩,h⟩:=
 im.run (.one hs) (Move.refl u) (Wf.refl j) (by rw[Kb _ _ _ rfl];exact⟨e.tm,e.dfr,e.Dt,fun x=>by cases x⟩)
variable{w:World}
theorem SN(j:T1 p h)(u:T7 f h w)(e:Yu p ⟨fn,n,tm,todo,ds,false,Dt⟩)
 (y:leave fn n tm todo ds Dt h jump=.go s') (A:jump=none->todo = []) (h2:jump=some .ret->∃k,todo=.code .ret::k):im P p f w cs ⟨⟨fn,n,tm,todo,ds,false,Dt⟩,h⟩ s':=by
 obtain⟨rfl,rfl,hj⟩:=yT y;refine im.stay j u ?_ ⟨e.tm,e.dfr,e.Dt,fun _=>rfl⟩ rfl rfl;rw[yQ,yR];rcases hj with rfl|rfl
 ·rw[A rfl];exact .one (Brl rfl)
 ·obtain⟨k,rfl⟩:=h2 rfl;exact .one (Brs rfl)
include hT hC hR in
theorem Bd3{ops:Array Oper}(A:T1 p h)(B:T7 f h w)(u:Yu p ⟨fn,n,tm,k,ds,false,Dt⟩)
 (C:jz T call round n ops.toList ops.toList tm h=some (g_,h')):im P p f w cs ⟨⟨fn,n,tm,.code (.region id ops false)::k,ds,false,Dt⟩,h⟩ ⟨⟨fn,n,g_,k,ds,false,Dt⟩,h'⟩:=by
 obtain⟨f',w',hs,hm,hwf,y⟩:=yD hT hC hR ops (i:=0) rfl u.tm A B C (FB.mk fn (ds.map (I9 f)) (Dt.map f.b)) k cs;have e:=vu hm.Fo u;simp only[px]at e;refine im.run (f':=f') (w':=w') ?_ hm hwf ?_
 ·refine .head Bjb (.trans ?_ (.one (Q' (ops:=ops))))
  rw[<-e];have e2:List.range' 0 (List.drop 0 ops.toList).length=List.range ops.size:=by rw[List.range_eq_range'];simp
  have j:Steps P _ _:=hs;rw[e2]at j;exact j
 ·have:=u.mono (q:=grow p h h') fun _ F=>.inl F
  exact⟨y,this.dfr,this.Dt,fun x=>by cases x⟩
include hT hC hR wC wR in
theorem Bkh{ops:Array Oper}(y:T1 p h)(A:T7 f h w)(j:Yu p ⟨fn,n,tm,k,ds,false,Dt⟩)
 (B:ly T call round n ops.toList tm h=some (g_,h')):im P p f w cs ⟨⟨fn,n,tm,.code (.region id ops true)::k,ds,false,Dt⟩,h⟩ ⟨⟨fn,n,g_,k,ds,false,Dt⟩,h'⟩:=by
 obtain⟨f',w',hs,hm,hwf,u⟩:=Bma hT hC hR wC wR j.tm y A B (FB.mk fn (ds.map (I9 f)) (Dt.map f.b)) (w.tape w.drawn (.order fn id)) k cs (w.drawn+1);have e:=vu hm.Fo j;simp only[px]at e;refine im.run (f':=f') (w':=w') ?_ hm hwf ?_
 ·refine .head (Bo3 hT.mixed) (.trans ?_ (.one (Q' (ops:=ops))))
  rw[<-e];exact hs
 ·have:=j.mono (q:=grow p h h') fun _ C=>.inl C
  exact⟨u,this.dfr,this.Dt,fun x=>by cases x⟩
theorem SO {g:Nat}(y:Lr p n tm)(u:Cj tm fo=some (.func g first captured))(l:Nat)(w1:World)(e:Func)(A:P.funcs[g]? = some e)(h2:e.body.isSome=true)(B:(e.name == "runtime.NumGoroutine")=false):
 (do let d ←resolve (Iz (Bi f n tm)) { callee:=.value fo,args:=#[.const (.func (.yield l) #[] #[])],argTypes:=#[] } 0;invoke d.target d.args:Sem Next).run P w1 =
  .ok (.enter g ((Bw f first).toArray ++ #[.func (.yield l) #[] #[]]++(Bw f captured).toArray)) w1:=by
 have C:=Tp (f:=f) y;have hb:¬e.body=none:=by cases G:e.body<;>simp_all
 have F:¬e.name = "runtime.NumGoroutine":=by simpa using B
 have j:Iz (Bi f n tm) (.const (.func (.yield l) #[] #[]))=.func (.yield l) #[] #[]:=rfl;simp[resolve,Bl C u,Cr,Deferred.ofValue,invoke,callFunc,A,F,hb,j]
include hC in
theorem Bi6{ps:Array Tmp}{g:Nat}(hh:T1 p h)(rp:T7 f h w)(y:Yu p ⟨fn,n,tm,k,ds,false,none⟩)
 (F:Cj tm fo=some (.func g first captured))
 (X:behind fn n tm (h.next::ds) none (Nat.succ h.next) k (call g (first++(.Vv (Nat.succ h.next)::captured)) ((h.new (.deferred true)).new (.loop .ready none fn n tm ps.toList b_ body h.next)))=.go s') :
 im P p f w cs ⟨⟨fn,n,tm,.code (.rangeFunc fo ps b_ body)::k,ds,false,none⟩,h⟩ s':=by
 have j:=E9 (v:=.func g first captured) y.tm F;have Y:(D3.deferred true).ok (grow p h (h.new (.deferred true))):=trivial;have m1:Move p f h w (f.set h.next w.heap.size 0) (h.new (.deferred true)) { w with heap:=w.heap.push (.deferred (some [])) }:=Move.new hh rp 0 rfl rfl rfl rfl rfl;have A:Wf p h (h.new (.deferred true)):=Wf.new hh Y;have Z:Bi f n tm=Bi (f.set h.next w.heap.size 0) n tm:=Lh m1.Fo y.tm;have aa:grow p h (h.new (.deferred true)) h.next:=.inr ⟨aE _,by rw[Ab.Dx];omega⟩
 have G:(D3.loop .ready none fn n tm ps.toList b_ body h.next).ok (grow p h (h.new (.deferred true))):=⟨y.tm.mono fun _ B=>.inl B,aa⟩;have m2:Move (grow p h (h.new (.deferred true))) (f.set h.next w.heap.size 0) (h.new (.deferred true)) { w with heap:=w.heap.push (.deferred (some [])) }
  ((f.set h.next w.heap.size 0).set (h.next+1) (w.heap.size+1) 0) ((h.new (.deferred true)).new (.loop .ready none fn n tm ps.toList b_ body h.next))
  { w with heap:=(w.heap.push (.deferred (some []))).push (.loop ⟨.ready,none,fn,Bi f n tm,ps,b_,body,w.heap.size⟩) }:=by
  have hx:=Move.new (w':={ w with heap:=(w.heap.push (.deferred (some []))).push (.loop ⟨.ready,none,fn,Bi f n tm,ps,b_,body,w.heap.size⟩) }) (o:=.loop .ready none fn n tm ps.toList b_ body h.next) (r:=.loop ⟨.ready,none,fn,Bi f n tm,ps,b_,body,w.heap.size⟩) A.hok m1.rep 0 rfl ?_ rfl rfl rfl
  ·have e1:(h.new (.deferred true)).next=h.next+1:=rfl
   have e2:({ w with heap:=w.heap.push (.deferred (some [])) }:World).heap.size=w.heap.size+1:=by simp
   rw[e1,e2]at hx;exact hx
  ·have ab:Bi f n tm=Bi ((f.set h.next w.heap.size 0).set (h.new (.deferred true)).next ({ w with heap:=w.heap.push (.deferred (some [])) }:World).heap.size 0) n tm:=by
    rw[Z];exact Lh (Loc.Qs _ _ _ (fun x=>absurd (A.hok.lt _ x) (by omega))) (y.tm.mono fun _ B=>.inl B)
   show Obj.loop _=Obj.loop _;rw[<-ab,eQ];have e3:((f.set h.next w.heap.size 0).set (h.new (.deferred true)).next ({ w with heap:=w.heap.push (.deferred (some [])) }:World).heap.size 0).b h.next=w.heap.size:=by
    rw[(Loc.Ua _ _ _ (by rw[Ab.Dx];omega)).1,Loc.jo]
   rw[e3]
 have ad:Wf (grow p h (h.new (.deferred true))) (h.new (.deferred true)) ((h.new (.deferred true)).new (.loop .ready none fn n tm ps.toList b_ body h.next)):=Wf.new A.hok (G.mono fun _ B=>.inl B);have e:=m1.trans m2;have u:=A.trans ad;generalize H:(f.set h.next w.heap.size 0).set (h.next+1) (w.heap.size+1) 0=f2 at m2 e;have ae:f2.b h.next=w.heap.size:=by rw[<-H,(Loc.Ua _ _ _ (by omega)).1,Loc.jo]
 have J:f2.b (h.next+1)=w.heap.size+1:=by rw[<-H,Loc.jo]
 have af:grow p h ((h.new (.deferred true)).new (.loop .ready none fn n tm ps.toList b_ body h.next)) h.next:=.inr ⟨aE _,by rw[Ab.Dx,Ab.Dx];omega⟩
 have L:grow p h ((h.new (.deferred true)).new (.loop .ready none fn n tm ps.toList b_ body h.next)) (h.next+1):=.inr ⟨by omega,by rw[Ab.Dx,Ab.Dx];omega⟩;have C:EV.Tx (grow p h ((h.new (.deferred true)).new (.loop .ready none fn n tm ps.toList b_ body h.next))) (first++(.Vv (Nat.succ h.next)::captured)):=
  qF (nX j.1) ⟨L,nX j.2⟩
 have M:Yu (grow p h ((h.new (.deferred true)).new (.loop .ready none fn n tm ps.toList b_ body h.next))) ⟨fn,n,tm,k,h.next::ds,false,none⟩:=by
  refine⟨y.tm.mono fun _ B=>.inl B,fun d hd=>?_,fun l hl=>(by cases hl),fun x=>(by cases x)⟩;rcases bX.1 hd with rfl|hd
  ·exact af
  ·exact .inl (y.dfr d hd)
 obtain⟨⟨gn,g1,g2,g3⟩,f',w',hb⟩:=SM (cs:=cs) hC X u.hok e.rep C M;obtain⟨hs,hm,hwf,O,Q,U⟩:=hb L;refine⟨f',w',?_,e.trans hm,u.trans hwf,?_,Q,U⟩
 ·rw[yQ]
  refine .head ?_ hs;have W:=SL (P:=P) (b:=FB.mk fn (ds.map (I9 f)) none) (k:=k) (cs:=cs) (w:=w) (fo:=fo) (ps:=ps) (b_:=b_) (body:=body) (tmps:=Bi f n tm)
   (l:=w.heap.size+1) (mark:=[{ target:=.collected w.heap.size,args:=#[] }]) (w1:={ w with heap:=(w.heap.push (.deferred (some []))).push (.loop ⟨.ready,none,fn,Bi f n tm,ps,b_,body,w.heap.size⟩) })
   (g:=g) (args:=(Bw f first).toArray ++ #[.func (.yield (w.heap.size+1)) #[] #[]]++(Bw f captured).toArray) (by simp[Instr.enterLoop];rfl) (SO y.tm F _ _ gn g1 g2 g3)
  have e1:Bw f2 (first++(.Vv (Nat.succ h.next)::captured))=Bw f first++(.func (.yield (w.heap.size+1)) #[] #[]::Bw f captured):=by
   rw[Sa,Bw,<-G8 e.Fo _ j.1,<-G8 e.Fo _ j.2];simp only[Cr];rw[show f2.b (Nat.succ h.next)=w.heap.size+1 from J]
  have e2:(Bi f n tm)=Bi f2 n tm:=Lh e.Fo y.tm;have e3:ds.map (I9 f)=ds.map (I9 f2):=by
   apply cm;intro d hd;unfold I9;rw[(e.Fo d (y.dfr d hd)).1]
  rw[e1,<-e2,dQ,<-e3];have e4:I9 f2 h.next = { target:=.collected w.heap.size,args:=#[] }:=by unfold I9;rw[ae]
  rw[e4,show f2.b (Nat.succ h.next)=w.heap.size+1 from J];have e5:((Bw f first).toArray ++ #[Value.func (.yield (w.heap.size+1)) #[] #[]]++(Bw f captured).toArray)=(Bw f first++(.func (.yield (w.heap.size+1)) #[] #[]::Bw f captured)).toArray:=by simp
  rw[e5]at W;exact W
 ·exact O.mono fun q hq=>by rw[qp p u.next hwf.next]at hq;exact hq
include hC in
theorem A9v{l0:Nat}{ps:Array Tmp}{g:Nat}(B:T1 p h)(rp:T7 f h w)(j:Yu p ⟨fn,n,tm,k,ds,false,some l0⟩)
 (C:Cj tm fo=some (.func g first captured)) {W:LoopState} {X n0:Nat} {Y:List Tmp} {F u:Code} {d0:Nat} (G:h.get l0=some (.loop W pd0 X n0 lK Y F u d0))
 (Z:behind fn n tm ds (some l0) h.next k (call g (first++(.Vv h.next::captured)) (h.new (.loop .ready none fn n tm ps.toList b_ body d0)))=.go s') :
 im P p f w cs ⟨⟨fn,n,tm,.code (.rangeFunc fo ps b_ body)::k,ds,false,some l0⟩,h⟩ s':=by
 have e:=E9 (v:=.func g first captured) j.tm C;have H:p d0:=(B.get l0 _ G).2.2;have m1:Move p f h w (f.set h.next w.heap.size 0) (h.new (.loop .ready none fn n tm ps.toList b_ body d0)) { w with heap:=w.heap.push (.loop ⟨.ready,none,fn,Bi f n tm,ps,b_,body,f.b d0⟩) }:=by
  refine Move.new B rp 0 rfl ?_ rfl rfl rfl;show Obj.loop _=Obj.loop _;rw[<-Lh (Loc.Qs f _ _ B.fresh) j.tm,eQ,(Loc.Qs f w.heap.size 0 B.fresh d0 H).1]
 have y:Wf p h (h.new (.loop .ready none fn n tm ps.toList b_ body d0)):=Wf.new B ⟨j.tm.mono fun _ hi=>.inl hi,.inl H⟩;generalize ab:f.set h.next w.heap.size 0=f2 at m1
 have eb:f2.b h.next=w.heap.size:=by rw[<-ab,Loc.jo]
 have J:grow p h (h.new (.loop .ready none fn n tm ps.toList b_ body d0)) h.next:=.inr ⟨aE _,by rw[Ab.Dx];omega⟩
 have A:EV.Tx (grow p h (h.new (.loop .ready none fn n tm ps.toList b_ body d0))) (first++(.Vv h.next::captured)):=qF (nX e.1) ⟨J,nX e.2⟩;have L:Yu (grow p h (h.new (.loop .ready none fn n tm ps.toList b_ body d0))) ⟨fn,n,tm,k,ds,false,some l0⟩:=j.mono fun _ hi=>.inl hi
 obtain⟨⟨gn,g1,g2,g3⟩,f',w',hb⟩:=SM (cs:=cs) hC Z y.hok m1.rep A L;obtain⟨hs,hm,hwf,M,O,Q⟩:=hb J;refine⟨f',w',?_,m1.trans hm,y.trans hwf,?_,O,Q⟩
 ·rw[yQ]
  refine .head ?_ hs;obtain⟨ad,ao⟩:=vv (P:=P) rp G;have U:=SL (P:=P) (b:=FB.mk fn (ds.map (I9 f)) (some (f.b l0))) (k:=k) (cs:=cs) (w:=w) (fo:=fo) (ps:=ps) (b_:=b_) (body:=body) (tmps:=Bi f n tm)
   (l:=w.heap.size) (mark:=[]) (w1:={ w with heap:=w.heap.push (.loop ⟨.ready,none,fn,Bi f n tm,ps,b_,body,f.b d0⟩) })
   (g:=g) (args:=(Bw f first).toArray ++ #[.func (.yield w.heap.size) #[] #[]]++(Bw f captured).toArray) (by simp[Instr.enterLoop,ad]) (SO j.tm C _ _ gn g1 g2 g3)
  have e1:Bw f2 (first++(.Vv h.next::captured))=Bw f first++(.func (.yield w.heap.size) #[] #[]::Bw f captured):=by
   rw[Sa,Bw,<-G8 m1.Fo _ e.1,<-G8 m1.Fo _ e.2];simp only[Cr];rw[eb]
  have e2:=vu m1.Fo j;simp only[px]at e2;rw[e1,<-e2,eb,<-Lh m1.Fo j.tm];have e5:((Bw f first).toArray ++ #[Value.func (.yield w.heap.size) #[] #[]]++(Bw f captured).toArray)=(Bw f first++(.func (.yield w.heap.size) #[] #[]::Bw f captured)).toArray:=by simp
  rw[e5]at U;exact U
 ·exact M.mono fun q hq=>by rw[qp p y.next hwf.next]at hq;exact hq
include hT hC hR wC wR in
theorem Blx {s:Hp}(j:Cq T call round s=.go s')(u:Yu p s.fr)(A:T1 p s.h)(y:T7 f s.h w)(cs:List Frame):im P p f w cs s s':=by
 obtain⟨⟨fn,n,tm,todo,ds,ret,Dt⟩,h⟩:=s;cases ret with
 | true=>
  have M:Dt=none:=u.ret rfl;subst M;cases ds with
  | cons d ds=>
   simp only[Cq]at j;split at j
   ·rename_i C
    cases j;obtain⟨r0,F,rfl⟩:=y.obj d _ C;have B:(Instr.takeDeferred (f.b d)).run P w=.ok [] { w with heap:=w.heap.setIfInBounds (f.b d) (.deferred none) }:=by
     have L:=Oe (P:=P) F (by intros;simp);have h2:=Qy (P:=P) (o':=.deferred none) F (by intros;simp);simp only[bJ]at L;simp only[Instr.takeDeferred,Sem.run_bind,L,aK,h2,aT]
    have hm:Move p f h w f (h.put d (.deferred false)) { w with heap:=w.heap.setIfInBounds (f.b d) (.deferred none) }:=Move.setObj y C rfl;have hwf:Wf p h (h.put d (.deferred false)):=Wf.put A C trivial;refine⟨f,_,.one ?_,hm,hwf,?_,rfl,rfl⟩
    ·rw[yR,yR];exact Bhv B
    ·exact Yu.mono (p:=p) ⟨u.tm,fun x hx=>u.dfr x (aU _ hx),u.Dt,fun _=>rfl⟩ fun _ O=>.inl O
   ·cases j
  | nil=>
   simp only[Cq]at j;split at j
   ·split at j<;>cases j
   ·cases j
 | false=>
  have Y:=Tp (f:=f) u.tm;have G:∀{it:Item} {k:List Item},Yu p ⟨fn,n,tm,it::k,ds,false,Dt⟩->Yu p ⟨fn,n,tm,k,ds,false,Dt⟩:=fun h=>⟨h.tm,h.dfr,h.Dt,h.ret⟩
  cases todo with
  | nil=>simp only[Cq]at j;exact SN A y u j (fun _=>rfl) (fun e=>by cases e)
  | cons it k=>
   cases it with
   | code c=>
    cases c with
    | region id ops dr=>
     cases dr with
     | false=>
      simp only[Cq]at j;split at j
      ·rename_i Q;cases j;exact Bd3 hT hC hR A y (G u) Q
      ·cases j
     | true=>
      simp only[Cq]at j;split at j
      ·rename_i Q;cases j;exact Bkh hT hC hR wC wR A y (G u) Q
      ·cases j
    | cond c a b=>
     simp only[Cq]at j;split at j
     ·rename_i U;cases j;exact im.lO A y u (SJ (t:=true) (by rw[Bl Y U];rfl))
     ·rename_i U;cases j;exact im.lO A y u (SJ (t:=false) (by rw[Bl Y U];rfl))
     ·cases j
    | exit id=>
     simp only[Cq]at j;split at j
     ·rename_i he;cases j;exact im.lO A y u (Bo9 he)
     ·obtain⟨_,_,hj⟩:=yT j
      rcases hj with hj|hj<;>cases hj
    | ret=>simp only[Cq]at j;exact SN A y u j (fun e=>by cases e) (fun _=>⟨k,rfl⟩)
    | rangeFunc fo ps b_ body=>
     simp only[Cq]at j;split at j
     ·rename_i g first captured H
      split at j
      ·exact Bi6 hC A y (G u) H j
      ·split at j
       ·rename_i W;exact A9v hC A y (G u) H W j
       ·cases j
     ·cases j
    | seq a b=>simp only[Cq]at j;cases j;exact im.lO A y u Bsl
    | skip=>simp only[Cq]at j;cases j;exact im.lO A y u Bor
    | block id c=>simp only[Cq]at j;cases j;exact im.lO A y u Bmf
    | loop c=>simp only[Cq]at j;cases j;exact im.lO A y u Bpm
    | label l=>simp only[Cq]at j;cases j;exact im.lO A y u Blc
    | scope c=>simp only[Cq]at j;cases j
    | goto c=>simp only[Cq]at j;cases j
    | refuse c=>simp only[Cq]at j;cases j
   | inBlock id=>simp only[Cq]at j;cases j;exact im.lO A y u Bd8
   | inLoop c=>simp only[Cq]at j;cases j;exact im.lO A y u Bgd
   | beginRound=>
    simp only[Cq]at j;split at j
    ·rename_i l
     split at j
     ·rename_i pd J Z g_ ps b_ body d C
      cases j;obtain⟨L,h2⟩:=vv (P:=P) y C;obtain⟨m1,X⟩:=yS (st':=.busy) (pd':=pd) A y C;have hs:=Qy (P:=P) (o':=.loop ⟨.busy,pd,J,Bi f Z g_,ps.toArray,b_,body,f.b d⟩) h2 (by intros;simp);have B:(Instr.beginRound (f.b l)).run P w=.ok () { w with heap:=w.heap.setIfInBounds (f.b l) (.loop ⟨.busy,pd,J,Bi f Z g_,ps.toArray,b_,body,f.b d⟩) }:=by
       simp only[Instr.beginRound,Sem.run_bind,L,aK,hs,aT]
      exact im.run (.one (A3l (b:=FB.mk fn (ds.map (I9 f)) (some (f.b l))) rfl B)) m1 X ((G u).mono fun _ O=>.inl O)
     ·cases j
    ·cases j
   | _=>simp only[Cq]at j;cases j
end
end
section
section
variable(hT:Qg P T){call:Ah}(hC:kJ P call)(hR:o9 P round)(wC:Wc call)(wR:Wc round)
variable{w:World}
include hT in
theorem PO {s:Hp}(j:Cq T call round s=.done v h')(L:Yu p s.fr)(B:T1 p s.h)(C:T7 f s.h w):Fin P p f w s v h':=by
 obtain⟨⟨fn,n,tm,todo,ds,ret,Dt⟩,h⟩:=s;cases ret with
 | true=>
  have F:Dt=none:=L.ret rfl;subst F;cases ds with
  | cons d ds=>
   simp only[Cq]at j;split at j<;>cases j
  | nil=>
   simp only[Cq]at j;split at j
   ·rename_i y G
    have key:∀{vs:List EV} {v:EV},Nb T tm h y.results.toList=some vs->(vs = [v]\/((∀x,vs≠[x])/\v=.tuple vs))->Fin P p f w ⟨⟨fn,n,tm,todo,[],true,none⟩,h⟩ v h:=by
     intro vs v M h2;obtain⟨O,Q⟩:=A9h hT B C L.tm M h2;exact⟨rfl,⟨rfl,rfl,rfl,y,(hT.fn fn y G).1,O⟩,Q⟩
    split at j
    ·rename_i H;cases j;exact key H (.inl rfl)
    ·rename_i l J H;cases j;exact key H (.inr ⟨fun x e=>by subst e;exact J x rfl,rfl⟩)
    ·cases j
   ·cases j
 | false=>
  cases todo with
  | nil=>simp only[Cq]at j;exact yU B C j (.inl ⟨rfl,rfl⟩)
  | cons it k=>
   have u:∀{A:List Nat} {l:Nat} {r:Option (EV × Ab)},behind fn n tm A Dt l k r=.done v h'->False:=by
    intro A l r hb;unfold behind at hb;split at hb
    ·cases hb
    ·split at hb
     ·split at hb<;>cases hb
     ·cases hb
   cases it with
   | code c=>
    cases c with
    | region id ops dr=>cases dr<;>(simp only[Cq]at j;split at j<;>cases j)
    | cond c a b=>simp only[Cq]at j;split at j<;>cases j
    | exit id=>
     simp only[Cq]at j;split at j
     ·cases j
     ·rename_i he;exact yU B C j (.inr (.inr ⟨id,k,rfl,he,rfl⟩))
    | ret=>simp only[Cq]at j;exact yU B C j (.inr (.inl ⟨k,rfl,rfl⟩))
    | rangeFunc fo ps b_ body=>
     simp only[Cq]at j;split at j
     ·split at j
      ·exact(u j).elim
      ·split at j
       ·exact(u j).elim
       ·cases j
     ·cases j
    | _=>simp only[Cq]at j;cases j
   | beginRound=>
    simp only[Cq]at j;split at j
    ·split at j<;>cases j
    ·cases j
   | _=>simp only[Cq]at j;cases j
theorem im.refl{s:Hp}(e:Yu p s.fr)(j:T1 p s.h)(u:T7 f s.h w):im P p f w cs s s:=
 ⟨f,w,.refl _ _,Move.refl u,Wf.refl j,by rw[Kb _ _ _ rfl];exact e,rfl,rfl⟩
def qo(P:Program)(s s':Hp):Prop:=∀p f w cs,Yu p s.fr->T1 p s.h->T7 f s.h w->im P p f w cs s s'
theorem qo.trans {s s1 s2:Hp}(a:qo P s s1)(b:qo P s1 s2):qo P s s2:=by
 intro p f w cs G H J;obtain⟨f1,w1,y,u,e,A,e1,e2⟩:=a p f w cs G H J;obtain⟨f2,w2,B,C,j,F,e3,e4⟩:=b _ f1 w1 cs A e.hok u.rep;exact⟨f2,w2,y.trans B,u.trans C,e.trans j,by rw[<-qp p e.next j.next];exact F,e3.trans e1,e4.trans e2⟩
theorem vw:∀(l:List EV) (i:Nat) (t:Tr EV) (j:Nat),(setArgs l i t).get j=if i<=j/\j<i+l.length then l[j-i]? else t.get j
 | [],i,t,j=>by simp[setArgs];omega
 | v::r,i,t,j=>by
  simp only[setArgs];rw[vw r (i+1) (t.put i (some v)) j,Tr.get_put];simp only[bG];by_cases e:i=j
  ·subst e
   rw[aG (by omega),aI rfl,aI (by omega)];simp
  ·by_cases h2:i+1<=j/\j<i+1+r.length
   ·rw[aI h2,aI (by omega)]
    rw[show j-i=(j-(i+1))+1 by omega,br]
   ·rw[aG h2,aG e,aG (by omega)]
theorem Bcm(f:Loc)(h:args.length<=n):Bi f n (setArgs args 0 .nil)=(Bw f args).toArray++Array.replicate (n-(Bw f args).toArray.size) undef:=by
 apply gP;intro j;rw[sI];rw[Array.getElem?_append];simp only[eD,Di,cL,pe,Array.getElem?_replicate];unfold tmp;rw[vw];by_cases hj:j<args.length
 ·rw[aI (by omega),aI (by omega),aI hj,gh]
  rw[aD hj];rfl
 ·rw[aG (show ¬(0<=j/\j<0+args.length) by omega),aG hj]
  by_cases e:j<n
  ·rw[aI e,aI (by omega)];rfl
  ·rw[aG e,aG (by omega)]
theorem Bme(h:args.length<=n)(j:EV.Tx p args):Lr p n (setArgs args 0 .nil) where
 ok t v e:=by
  rw[vw]at e;split at e
  ·exact(Io p args).1 j v (bc e)
  ·cases e
 out t u:=by
  rw[vw,aG (by omega)];rfl
end
end
section
theorem vz:∀{a b:List EV} {r:Bool},E8 a b=some r->a.length=b.length
 | [],[],_,_=>rfl
 | x::a,y::b,r,h=>by
  simp only[E8]at h;split at h
  ·simp[vz h]
  ·split at h
   ·rename_i h2;simp[vz h2]
   ·cases h
  ·cases h
 | [],_::_,_,h=>by cases h
 | _::_,[],_,h=>by cases h
theorem vA:∀(k:Nat) {a b:List EV} {r:Bool},E8 a b=some r->∃j e,E8 (a.take k) (b.take k)=some j/\E8 (a.drop k) (b.drop k)=some e/\r=(j&&e)
 | 0,a,b,r,h=>⟨true,r,rfl,h,by simp⟩
 | k+1,[],[],r,h=>by cases h;exact⟨true,true,rfl,rfl,rfl⟩
 | k+1,x::a,y::b,r,h=>by
  simp only[E8]at h;split at h
  ·rename_i u
   obtain⟨j,e,A,h2,B⟩:=vA k h;exact⟨j,e,by simp only[gJ,E8,u,A],by simpa using h2,B⟩
  ·rename_i u
   split at h
   ·rename_i r0 h0
    cases h;obtain⟨j,e,A,h2,B⟩:=vA k h0;exact⟨false,e,by simp only[gJ,E8,u,A],by simpa using h2,rfl⟩
   ·cases h
  ·cases h
 | k+1,[],_::_,_,h=>by cases h
 | k+1,_::_,[],_,h=>by cases h
theorem sV {b:Nat}{s:List Nat}{x:EV}{l:List EV}(h:shaped (b::s) (x::l)=true):shaped s l=true/\((b=0/\∃k n,x=.int k n)\/(b=1/\∃c,x=.bool c)\/(b=2/\∃c,x=.str c)):=by
 cases x with
 | int k n=>
  simp only[shaped]at h;rw[Bq]at h;split at h
  ·rename_i hb;exact⟨h,.inl ⟨aL hb,k,n,rfl⟩⟩
  ·cases h
 | bool c=>
  simp only[shaped]at h;rw[Bq]at h;split at h
  ·rename_i hb;exact⟨h,.inr (.inl ⟨aL hb,c,rfl⟩)⟩
  ·cases h
 | str c=>
  simp only[shaped]at h;rw[Bq]at h;split at h
  ·rename_i hb;exact⟨h,.inr (.inr ⟨aL hb,c,rfl⟩)⟩
  ·cases h
 | _=>cases h
theorem Lo:∀{sh:List Nat} {l:List EV},shaped sh l=true->l.length=sh.length
 | [],[],_=>rfl
 | b::s,x::l,h=>by rw[bG,bG,Lo (sV h).1]
 | [],_::_,h=>by cases h
 | _::_,[],h=>by cases h
theorem vB:∀{s1 s2:List Nat} {l:List EV},shaped (s1++s2) l=true->shaped s1 (l.take s1.length)=true/\shaped s2 (l.drop s1.length)=true
 | [],s2,l,h=>⟨rfl,h⟩
 | b::s1,s2,l,h=>by
  cases l with
  | nil=>have:=Lo h;simp at this
  | cons x l=>
   obtain⟨j,h2⟩:=sV (s:=s1++s2) h;obtain⟨e,h4⟩:=vB j;refine⟨?_,h4⟩;simp only[bG,gJ];rcases h2 with⟨rfl,k,n,rfl⟩|⟨rfl,c,rfl⟩|⟨rfl,c,rfl⟩
   ·exact e
   ·exact e
   ·exact e
def pz(fl:TypeId->Option (List Nat)):List Field->Nat->Option (List Nat)
 | [],_=>some []
 | f::r,off=>match fl f.type with
  | some s=>if f.offset=off/\f.name≠"_" then(match pz fl r (off+s.length)with|some t=>some (s++t)|none=>none)else none
  | none=>none
def flat(P:Program):Nat->TypeId->Option (List Nat)
 | 0=>fun _=>none
 | d+1=>fun t=>match P.info? t with
  | some i=>match P.underlying t with
   | some (.int _)=>if i.size=1 then some [0]else none
   | some .bool=>if i.size=1 then some [1]else none
   | some .string=>if i.size=1 then some [2]else none
   | some (.struct j)=>if P.stoodInHeld t=false then(match pz (flat P d) j.toList 0 with
    | some s=>if s.length=i.size then some s else none
    | none=>none)else none
   | some (.array len e)=>match flat P d e with
    | some s=>if len*s.length=i.size then some (List.replicate len s).flatten else none
    | none=>none
   | _=>none
  | none=>none
def iC(P:Program)(t:TypeId):Bool:=match P.underlying t with|some (.struct _)=>true|some (.array _ _)=>true|_=>false
noncomputable def lP(P:Program)(f:Loc)(t:TypeId)(l:List EV):Value:=if iC P t=true then .agg (Bw f l).toArray else(match l with|v::_=>Cr f v | []=>undef)
theorem V7(n:Nat)(s:List Nat):(List.replicate n s).flatten.length=n*s.length:=by
 induction n with
 | zero=>simp
 | succ n e=>rw[eC,cJ,aF,e,gH];omega
theorem Wd{s:List Nat}(h:flat P d t=some s):(∃i,P.info? t=some i/\i.size=s.length)/\(iC P t=false->(s = [0]/\∃k,P.underlying t=some (.int k))\/(s = [1]/\P.underlying t=some .bool)\/(s = [2]/\P.underlying t=some .string))/\∀w,(isAgg t).run P w=.ok (iC P t) w:=by
 cases d with
 | zero=>simp[flat]at h
 | succ d=>
  simp only[flat]at h;split at h
  ·rename_i i u
   split at h
   ·rename_i k hu
    split at h
    ·rename_i j;cases h;exact⟨⟨i,u,j⟩,fun _=>.inl ⟨rfl,k,hu⟩,fun w=>by simp[isAgg,underlying,iC,hu]⟩
    ·cases h
   ·rename_i hu
    split at h
    ·rename_i j;cases h;exact⟨⟨i,u,j⟩,fun _=>.inr (.inl ⟨rfl,hu⟩),fun w=>by simp[isAgg,underlying,iC,hu]⟩
    ·cases h
   ·rename_i hu
    split at h
    ·rename_i j;cases h;exact⟨⟨i,u,j⟩,fun _=>.inr (.inr ⟨rfl,hu⟩),fun w=>by simp[isAgg,underlying,iC,hu]⟩
    ·cases h
   ·rename_i y hu
    split at h
    ·split at h
     ·split at h
      ·rename_i j;cases h;exact⟨⟨i,u,j.symm⟩,fun e=>by simp[iC,hu]at e,fun w=>by simp[isAgg,underlying,iC,hu]⟩
      ·cases h
     ·cases h
    ·cases h
   ·rename_i len e hu
    split at h
    ·split at h
     ·rename_i j;cases h;exact⟨⟨i,u,by rw[V7];exact j.symm⟩,fun e=>by simp[iC,hu]at e,fun w=>by simp[isAgg,underlying,iC,hu]⟩
     ·cases h
    ·cases h
   ·cases h
  ·cases h
theorem Q0(f:Loc)(w:World){s:List Nat}(h:flat P d t=some s){xs:List EV}(A:off+s.length<=xs.length:=by omega):
 (Go.part t (Bw f xs).toArray off).run P w=.ok (lP P f t ((xs.drop off).take s.length)) w:=by
 obtain⟨⟨i,B,hs⟩,j,e⟩:=Wd h;have u:(sizeOf t).run P w=.ok s.length w:=by simp[sizeOf,typeInfo,B,hs]
 unfold lP;cases y:iC P t with
 | true=>
  simp only[Go.part,Sem.run_bind,e w,y,aK,bJ,u,aT];congr 2;apply fC;simp[Qo,List.extract_eq_take_drop]
 | false=>
  have C:s.length=1:=by rcases j y with⟨rfl,_⟩|⟨rfl,_⟩|⟨rfl,_⟩<;>rfl
  rw[C]at A⊢;have F:xs[off]? = some xs[off]:=aD (by omega);have e1:(xs.drop off).take 1 = [xs[off]]:=by
   rw[dU (by omega)];rfl
  have e2:(Bw f xs).toArray[off]? = some (Cr f xs[off]):=by simp[Qo,F]
  rw[e1];simp only[Go.part,Sem.run_bind,e w,y,aK,aX,ak,e2,aT]
def yV(P:Program)(d D:Nat):Prop:=∀(t:TypeId) (s:List Nat),flat P d t=some s->∀(f:Loc) (w:World) (a b:List EV) (r:Bool),shaped s a=true->E8 a b=some r->(Op.equalIn D t (lP P f t a) (lP P f t b)).run P w=.ok r w
theorem SP(f:Loc)(w:World){D:Nat}(F:yV P d D)(a b:List EV)(G:a.length=b.length):∀(B:List Field) (off:Nat) (s:List Nat) (r:Bool),pz (flat P d) B off=some s->shaped s (a.drop off)=true->E8 (a.drop off) (b.drop off)=some r ->
 (Op.eqFields D (Bw f a).toArray (Bw f b).toArray B).run P w=.ok r w
 | [],off,s,r,h,hs,y=>by
  simp only[pz]at h;cases h;have:=Lo hs;rw[fS,cS]at this;rw[this]at y;have h2:=vz y;rw[fS]at h2;rw[cS.1 h2.symm]at y;cases y;simp[Op.eqFields]
 | fd::B,off,s,r,h,hs,y=>by
  simp only[pz]at h;split at h
  ·rename_i s1 e
   split at h
   ·rename_i j
    split at h
    ·rename_i s2 H
     cases h;obtain⟨J,U⟩:=vB hs;obtain⟨C,Y,L,h2,W⟩:=vA s1.length y;rw[cX]at U;rw[cX,cX]at h2;have hlen:=Lo hs;rw[bB,aF]at hlen;have X:=SP f w F a b G B (off+s1.length) s2 Y H U h2;by_cases Z:off+s1.length<=a.length
     ·have p1:=Q0 f w e (xs:=a) (off:=off) Z
      have p2:=Q0 f w e (xs:=b) (off:=off);have M:=F fd.type s1 e f w _ _ C J L;simp only[Op.eqFields,j.2,ne_eq,aR,bJ,Sem.run_bind,j.1,p1,p2,M,aK];subst W;cases C
      ·simp
      ·simpa using X
     ·
      have h0:s1.length=0:=by omega
      obtain⟨⟨i,hi,O⟩,Q,A⟩:=Wd e;have hA:iC P fd.type=true:=by
       cases ha:iC P fd.type with
       | true=>rfl
       | false=>rcases Q ha with⟨rfl,_⟩|⟨rfl,_⟩|⟨rfl,_⟩<;>simp at h0
      have u:(sizeOf fd.type).run P w=.ok 0 w:=by simp[sizeOf,typeInfo,hi,O,h0]
      have hp:∀xs:List EV,(Go.part fd.type (Bw f xs).toArray off).run P w=.ok (lP P f fd.type []) w:=by
       intro xs;simp only[Go.part,Sem.run_bind,A w,hA,aK,bJ,u,aT,lP,dS];congr 2;apply fC;simp[Bw]
      rw[h0,List.take_zero,List.take_zero]at L;rw[h0,List.take_zero]at J;have M:=F fd.type s1 e f w [] [] C J L;simp only[Op.eqFields,j.2,ne_eq,aR,bJ,Sem.run_bind,j.1,hp,M,aK];subst W;cases C
      ·simp
      ·simpa using X
    ·cases h
   ·cases h
  ·cases h
theorem SQ(f:Loc)(w:World){D:Nat}(F:yV P d D){e:TypeId}{s:List Nat}(hs:flat P d e=some s)(a b:List EV)(B:a.length=b.length):∀(n k:Nat) (r:Bool),(k+n)*s.length=a.length->shaped (List.replicate n s).flatten (a.drop (k*s.length))=true ->
 E8 (a.drop (k*s.length)) (b.drop (k*s.length))=some r ->
 (Op.eqItems D e (P.cellsOf e) (Bw f a).toArray (Bw f b).toArray (List.range' k n)).run P w=.ok r w
 | 0,k,r,j,u,A=>by
  rw[dS]at j;rw[dh (by omega),dh (by omega)]at A;cases A;simp[Op.eqItems]
 | n+1,k,r,j,u,A=>by
  obtain⟨⟨i,M,C⟩,_⟩:=Wd hs;have G:P.cellsOf e=s.length:=by simp[Program.cellsOf,M,C]
  rw[eC,cJ]at u;obtain⟨O,H⟩:=vB u;obtain⟨J,Q,U,h2,W⟩:=vA s.length A;have y:k*s.length+s.length=(k+1)*s.length:=by rw[gH];omega
  rw[cX,y]at H;rw[cX,cX,y]at h2;have L:=SQ f w F hs a b B n (k+1) Q (by rw[<-j];congr 1;omega) H h2;have X:k*s.length+s.length<=a.length:=by
   rw[<-j,show k+(n+1)=(k+1)+n by omega,gH,gH];omega
  have p1:=Q0 f w hs (xs:=a) (off:=k*s.length) X;have Y:=Q0 f w hs (xs:=b) (off:=k*s.length);have Z:=F e s hs f w _ _ J O U;rw[gF];simp only[Op.eqItems,Sem.run_bind,G,p1,Y,Z,aK];rw[G]at L;subst W;cases J
  ·simp
  ·simpa using L
theorem SR:∀(d D:Nat),d<=D->yV P d D
 | 0,_,_=>fun t n h=>by simp[flat]at h
 | d+1,0,h=>by omega
 | d+1,D+1,hd=>by
  have U:=SR d D (by omega);intro t s h f w a b r j u;have A:=vz u;obtain⟨_,F,_⟩:=Wd h;by_cases C:iC P t=true
  ·simp only[flat]at h
   split at h
   ·rename_i i hi
    split at h
    ·rename_i k hu;simp[iC,hu]at C
    ·rename_i hu;simp[iC,hu]at C
    ·rename_i hu;simp[iC,hu]at C
    ·rename_i W hu
     split at h
     ·rename_i J
      split at h
      ·rename_i s' L
       split at h
       ·cases h
        have X:P.fieldsOf t=W:=by simp[Program.fieldsOf,hu]
        simp only[lP,C,bJ];rw[run_equalIn_struct w D t _ _ (by rw[X];exact hu) J,X];exact SP f w U a b A W.toList 0 s r L (by simpa using j) (by simpa using u)
       ·cases h
      ·cases h
     ·cases h
    ·rename_i len e hu
     split at h
     ·rename_i s' hs
      split at h
      ·rename_i hc
       cases h;obtain⟨⟨ie,M,_⟩,_⟩:=Wd hs;simp only[lP,C,bJ];rw[run_equalIn_array w D _ _ hu M,List.range_eq_range'];refine SQ f w U hs a b A len 0 r ?_ (by simpa using j) (by simpa using u);rw[Lo j,V7,bM]
      ·cases h
     ·cases h
    ·cases h
   ·cases h
  ·have B:iC P t=false:=by simpa using C
   have hlen:=Lo j;have O:s.length=1:=by rcases F B with⟨rfl,_⟩|⟨rfl,_⟩|⟨rfl,_⟩<;>rfl
   rw[O]at hlen
   match a,b,hlen,A with
   | [x],[y],_,_=>
    simp only[lP,B,aX,ak];simp only[E8]at u;have hle:jO x y=some r:=by
     split at u
     ·rename_i Q;cases u;exact Q
     ·rename_i Q;cases u;exact Q
     ·cases u
    rcases F B with⟨rfl,Y,hu⟩|⟨rfl,hu⟩|⟨rfl,hu⟩
    ·rcases(sV j).2 with⟨_,k,n,rfl⟩|⟨h0,_⟩|⟨h0,_⟩
     ·cases y with
      | int k' m=>
       simp only[jO]at hle;obtain⟨Z,G⟩:=Ap hle;have:=sM Z;subst this;have hle:=gQ G;simp only[Cr];rw[run_equalIn_int w D t k Y n m hu,<-hle,lI];congr 1
      | _=>cases hle
     ·cases h0
     ·cases h0
    ·rcases(sV j).2 with⟨h0,_⟩|⟨_,c,rfl⟩|⟨h0,_⟩
     ·cases h0
     ·cases y with
      | bool H=>
       simp only[jO,cU]at hle;simp only[Cr];rw[QE w D t c H hu,<-hle];cases c<;>cases H<;>rfl
      | _=>cases hle
     ·cases h0
    ·rcases(sV j).2 with⟨h0,_⟩|⟨h0,_⟩|⟨_,c,rfl⟩
     ·cases h0
     ·cases h0
     ·cases y with
      | str H=>
       simp only[jO,cU]at hle;simp only[Cr];rw[Bmq w D t c H hu,<-hle,vf]
      | _=>cases hle
def rN(P:Program)(t:TypeId):Bool:=
 match P.underlying t with
 | some (.struct e)=>e.toList.all fun f=>f.name != "_"&&(match P.underlying f.type with|some (.int _)=>true|some .bool=>true|_=>false)
 | _=>false
theorem SS(f:Loc)(w:World)(e:Bool)(D:Nat)(a:List EV):∀(u:List Field) (off:Nat) (s:List Nat) (d:Nat),(u.all fun f=>f.name != "_"&&(match P.underlying f.type with|some (.int _)=>true|some .bool=>true|_=>false))=true ->
 pz (flat P d) u off=some s->shaped s (a.drop off)=true ->
 (forIn u PUnit.unit fun(fd:Field) (_:PUnit)=>(do
  if fd.name≠"_" then do
   Instr.checkKey e (D+1) fd.type (←Go.part fd.type (Bw f a).toArray fd.offset)
   pure (.yield PUnit.unit)
  else pure (.yield PUnit.unit):Sem (ForInStep PUnit))).run P w=.ok PUnit.unit w
 | [],off,s,d,_,h,hs=>by simp
 | fd::u,off,s,d,j,h,hs=>by
  simp only[List.all_cons,aS]at j;simp only[pz]at h;split at h
  ·rename_i s1 y
   split at h
   ·rename_i A
    split at h
    ·rename_i s2 B
     cases h;obtain⟨F,C⟩:=vB hs;rw[cX]at C;have G:=SS f w e D a u (off+s1.length) s2 d j.2 B C;have hlen:=Lo F;rw[bZ,bB]at hlen;have H:s1.length=1:=by
      have J:iC P fd.type=false:=by
       have:=j.1.2;unfold iC;split at this<;>simp_all
      rcases(Wd y).2.1 J with⟨rfl,_⟩|⟨rfl,_⟩|⟨rfl,_⟩<;>rfl
     have p1:=Q0 f w y (xs:=a) (off:=off);have L:∀v,(Instr.checkKey e (D+1) fd.type v).run P w=.ok () w:=by
      intro v;have:=j.1.2;rw[Instr.checkKey.eq_def];split at this
      ·rename_i k hu;simp[underlying,hu]
      ·rename_i hu;simp[underlying,hu]
      ·cases this
     rw[List.forIn_cons];simp only[A.2,ne_eq,aR,bJ,Sem.run_bind,A.1,p1,L,aK,aT];exact G
    ·cases h
   ·cases h
  ·cases h
def rO(P:Program)(t:TypeId):Bool:=
 match P.underlying t with
 | some (.array _ e)=>(match P.underlying e with|some (.int _)=>true|_=>false)
 | _=>false
theorem SU(f:Loc)(w:World)(e:Bool)(D:Nat){u:TypeId}{k:IntKind}(hu:P.underlying u=some (.int k))(hs:flat P d u=some [0])(a:List EV):∀(n i:Nat),i+n<=a.length ->
 (forIn (List.range' i n) PUnit.unit fun(j:Nat) (_:PUnit)=>(do
  Instr.checkKey e (D+1) u (←Go.part u (Bw f a).toArray (j*(←sizeOf u)))
  pure (.yield PUnit.unit):Sem (ForInStep PUnit))).run P w=.ok PUnit.unit w
 | 0,i,_=>by simp
 | n+1,i,h=>by
  have A:=SU f w e D hu hs a n (i+1) (by omega);have p1:=Q0 f w hs (xs:=a) (off:=i) (by simp;omega);have B:∀v,(Instr.checkKey e (D+1) u v).run P w=.ok () w:=by
   intro v;rw[Instr.checkKey.eq_def];simp[underlying,hu]
  obtain⟨⟨ii,C,y⟩,_⟩:=Wd hs;have F:(sizeOf u).run P w=.ok 1 w:=by simp[sizeOf,typeInfo,C,y]
  rw[gF,List.forIn_cons];simp only[Sem.run_bind,F,aK,bk,p1,B,aT];exact A
theorem Bds(u:rO P t=true){s:List Nat}(h:flat P d t=some s)(f:Loc)(w:World)(e:Bool)(a:List EV)(hs:shaped s a=true):
 (Instr.checkKey e 10000 t (.agg (Bw f a).toArray)).run P w=.ok () w:=by
 unfold rO at u;split at u
 ·rename_i len B hu
  split at u
  ·rename_i k j
   cases d with
   | zero=>simp[flat]at h
   | succ d=>
    simp only[flat]at h;split at h
    ·simp only[hu]at h
     split at h
     ·rename_i s' y
      split at h
      ·rename_i F
       cases h;have C:iC P B=false:=by simp[iC,j]
       have A:s' = [0]:=by
        rcases(Wd y).2.1 C with⟨rfl,_⟩|⟨_,h2⟩|⟨_,h2⟩
        ·rfl
        ·rw[j]at h2;cases h2
        ·rw[j]at h2;cases h2
       subst A;have hlen:=Lo hs;rw[V7]at hlen;simp only[bG,fS,bM,bk]at hlen;have:=SU f w e 9998 j y a len 0 (by omega);rw[Instr.checkKey.eq_def];simp only[underlying,hu,Sem.run_bind,gI,aK,aT];simp only[Std.Legacy.Range.forIn_eq_forIn_range',Std.Legacy.Range.size,gh,Nat.add_one_sub_one,Nat.div_one];rw[this];rfl
      ·cases h
     ·cases h
    ·cases h
  ·cases u
 ·cases u
theorem A3g(j:rN P t=true){s:List Nat}(h:flat P d t=some s)(f:Loc)(w:World)(e:Bool)(a:List EV)(hs:shaped s a=true):
 (∃u,P.underlying t=some (.struct u))/\(Instr.checkKey e 10000 t (.agg (Bw f a).toArray)).run P w=.ok () w:=by
 unfold rN at j;split at j
 ·rename_i u hu
  refine⟨⟨u,hu⟩,?_⟩;cases d with
  | zero=>simp[flat]at h
  | succ d=>
   simp only[flat]at h;split at h
   ·simp only[hu]at h
    split at h
    ·split at h
     ·rename_i s' y
      split at h
      ·cases h
       have:=SS f w e 9998 a u.toList 0 s d j y (by simpa using hs);rw[Instr.checkKey.eq_def];simp only[underlying,hu,Sem.run_bind,gI,aK,aT];rw[<-Array.forIn_toList];rw[this];rfl
      ·cases h
     ·cases h
    ·cases h
   ·cases h
 ·cases j
end
noncomputable def F1 {α:Type}:List α->Nat->Tr α->Tr α
 | [],_,t=>t
 | a::r,i,t=>F1 r (Nat.succ i) (t.put i (some a))
theorem SV:∀(l:List α) (i:Nat) (t:Tr α) (j:Nat),(F1 l i t).get j=if i<=j/\j<i+l.length then l[j-i]? else t.get j
 | [],i,t,j=>by simp[F1];omega
 | a::r,i,t,j=>by
  simp only[F1];rw[SV r (i+1) (t.put i (some a)) j,Tr.get_put];simp only[bG];by_cases e:i=j
  ·subst e
   rw[aG (by omega),aI rfl,aI (by omega)];simp
  ·by_cases h2:i+1<=j/\j<i+1+r.length
   ·rw[aI h2,aI (by omega)]
    rw[show j-i=(j-(i+1))+1 by omega,br]
   ·rw[aG h2,aG e,aG (by omega)]
theorem SW(l:List α)(j:Nat):(F1 l 0 .nil).get j=l[j]?:=by
 rw[SV];by_cases h:j<l.length
 ·rw[aI (by omega),gh]
 ·rw[aG (by omega),cC (by omega)];rfl
noncomputable def vC:List Nat->Nat->Bool
 | [],_=>false
 | a::r,x=>Bb (Nat.beq a x) true (vC r x)
theorem SX:∀{l:List Nat} {x:Nat},vC l x=true->x∈l
 | [],_,h=>by cases h
 | a::r,x,h=>by
  simp only[vC]at h;rw[Bq]at h;split at h
  ·rename_i e;rw[aL e];exact aW
  ·exact aU _ (SX h)
noncomputable def vD:List (Nat × List Nat)->Nat->Option (List Nat)
 | [],_=>none
 | (a,s)::r,x=>Bb (Nat.beq a x) (some s) (vD r x)
theorem vE:∀{l:List (Nat × List Nat)} {x:Nat} {s:List Nat},vD l x=some s->(x,s)∈l
 | [],_,_,h=>by cases h
 | (a,s')::r,x,s,h=>by
  simp only[vD]at h;rw[Bq]at h;split at h
  ·rename_i e;cases h;rw[aL e];exact aW
  ·exact aU _ (vE h)
noncomputable def vF(ty:Tr TypeInfo)(t:Nat):Option TypeDesc:=
 match ty.get t with
 | some i=>match i.desc with
  | .named _ u=>(match ty.get u with|some j=>some j.desc|none=>none)
  | d=>some d
 | none=>none
noncomputable def sW(ty:Tr TypeInfo)(t:Nat):Option Bool:=match vF ty t with|some d=>some (Axj d)|none=>none
noncomputable def yW(ty:Tr TypeInfo)(t:Nat):Option (List EV):=
 match ty.get t with
 | some i=>match i.zero with
  | some v=>match ofV v with
   | some x=>Bb x.plain (Bb (Nat.beq i.size (len x.cells)) (Bb (Nat.ble i.bytes 1048576) (match sW ty t with
    | some true=>(match x with | .agg l=>some l|_=>none)
    | some false=>Bb x.one (some [x]) none
    | none=>none) none) none) none
   | none=>none
  | none=>none
 | none=>none
noncomputable def tW(e:Tr Func)(ty:Tr TypeInfo)(eqs:List (Nat × List Nat))(keys:List Nat):Ig where
 fn:=e.get
 Tv:=vF ty
 size t:=match ty.get t with|some i=>Bb (Nat.ble i.bytes 1048576) (some i.size) none|none=>none
 zero:=yW ty
 agg:=sW ty
 eqs:=vD eqs
 key:=vC keys
theorem Boy{t:Nat}{i:TypeInfo}(h:P.types[t]? = some i):P.info? t=some i:=by
 have e:t<P.types.size:=(cq.1 h).1;unfold Tables.info?;rw[aI e];exact h
theorem Blu{keys:List Nat}(hm:P.follows .mixedOrders=true)
 (C:(P.funcs.toList.all fun f=>!(f.name == "runtime.NumGoroutine"))=true)
 (B:∀x∈eqs,flat P 6 x.1=some x.2/\iC P x.1=true/\P.eqGuardType P.depth x.1=false) (H:∀t∈keys,rN P t=true\/rO P t=true) :
 Qg P (tW (F1 P.funcs.toList 0 .nil) (F1 P.types.toList 0 .nil) eqs keys):=by
 have F:∀t i,(F1 P.types.toList 0 .nil).get t=some i->P.info? t=some i:=by
  intro t i h;rw[SW,cM]at h;exact Boy h
 have G:∀t d,vF (F1 P.types.toList 0 .nil) t=some d->P.underlying t=some d:=by
  intro t d h;unfold vF at h;split at h
  ·rename_i i Q
   have A:=F t i Q;split at h
   ·rename_i s u hd
    split at h
    ·rename_i j hj
     cases h;have h2:=F u j hj;obtain⟨desc,str,size,bytes,hp,al,fa,z⟩:=i;simp only at hd;subst hd;simp[Program.underlying,A,h2]
    ·cases h
   ·rename_i hd
    cases h;unfold Program.underlying;rw[A];split
    ·rename_i J;cases J;exact absurd rfl (hd _ _)
    ·rename_i J;cases J;rfl
    ·rename_i J;cases J
  ·cases h
 have U:∀t b,sW (F1 P.types.toList 0 .nil) t=some b->∃d,P.underlying t=some d/\Axj d=b:=by
  intro t b h;unfold sW at h;split at h
  ·rename_i d hd;cases h;exact⟨d,G t d hd,rfl⟩
  ·cases h
 refine⟨hm,fun g fn h=>?_,G,fun t n h=>?_,fun t z h=>?_,U,fun t sh h=>?_,fun t h=>?_⟩
 ·have h':(F1 P.funcs.toList 0 .nil).get g=some fn:=h
  rw[SW]at h';refine⟨by rw[<-cM];exact h',?_⟩;have:=dV.1 C fn (bc h');simpa using this
 ·simp only[tW]at h
  split at h
  ·rename_i i Q
   obtain⟨A,h2⟩:=Ap h;cases h2;exact⟨i,F t i Q,rfl,bL A⟩
  ·cases h
 ·have h':yW (F1 P.types.toList 0 .nil) t=some z:=h
  unfold yW at h';split at h'
  ·rename_i i Q
   split at h'
   ·rename_i v hv
    split at h'
    ·rename_i x J
     obtain⟨A,h'⟩:=Ap h';obtain⟨h2,h'⟩:=Ap h';obtain⟨Y,h'⟩:=Ap h';have W:i.size=x.cells.length:=by rw[<-Ye];exact aL h2
     refine⟨i,v,x,F t i Q,hv,J,A,?_⟩;have X:∀b,sW (F1 P.types.toList 0 .nil) t=some b->(tW (F1 P.funcs.toList 0 .nil) (F1 P.types.toList 0 .nil) eqs keys).agg t=some b:=fun _ h=>h
     split at h'
     ·rename_i Z
      have L:=X true Z;cases x with
      | agg l=>
       simp only[cU]at h';subst h';exact⟨rfl,W,bL Y,fun _=>rfl,fun e=>(by rw[L]at e;cases e)⟩
      | _=>cases h'
     ·rename_i Z
      have L:=X false Z;obtain⟨ho,h'⟩:=Ap h';cases h';have hc:x.cells = [x]:=by
       cases x<;>first|rfl|(simp[EV.one]at ho)
      exact⟨hc.symm,by rw[W,hc],bL Y,fun e=>(by rw[L]at e;cases e),fun _=>rfl⟩
     ·cases h'
    ·cases h'
   ·cases h'
  ·cases h'
 ·obtain⟨A,h2,Y⟩:=B _ (vE h)
  refine⟨Y,fun f w a b r hl hs=>?_⟩;have:=SR (P:=P) 6 10000 (by omega) t sh A f w a b r hs hl;simp only[lP,h2,bJ]at this;exact this
 ·have M:=H t (SX h)
  rcases M with M|M
  ·constructor
   ·have y:=M
    unfold rN at y;split at y
    ·rename_i fs hu;exact⟨_,hu,rfl⟩
    ·cases y
   ·intro f w e a sh O hs
    obtain⟨A,_,_⟩:=B _ (vE O);exact(A3g M A f w e a hs).2
  ·constructor
   ·have y:=M
    unfold rO at y;split at y
    ·rename_i n e hu;exact⟨_,hu,rfl⟩
    ·cases y
   ·intro f w e a sh O hs
    obtain⟨A,_,_⟩:=B _ (vE O);exact Bds M A f w e a hs
theorem Bk1(f:Loc)(w:World)(n m:Nat):T7 f ⟨.nil,n,m⟩ w:=⟨fun i o h=>(by cases h),fun i j o o' h=>(by cases h)⟩
theorem Bmr(n m:Nat):T1 (fun _=>False) ⟨.nil,n,m⟩:=⟨fun i h=>h.elim,fun i o h=>(by cases h)⟩
theorem Bdz{c:Ah}(hC:kJ P c){g:Nat}(h:c g [] ⟨.nil,0,0⟩=some (v,h')){V:Value}(y:∀f,Cr f v=V)(w:World):
 Calls P g #[] w fun e w'=>e=.returned V/\RowKit.Below w.heap.size w w':=by
 obtain⟨_,A⟩:=hC _ _ _ _ _ h;intro cs;obtain⟨fr,f',w',hs,j,u,hm,hwf,B⟩:=A (fun _=>False) ⟨fun _=>0,fun _=>0⟩ w (Bmr 0 0) (Bk1 _ _ 0 0) trivial cs;rw[y]at u;exact⟨.returned V,w',fr,⟨rfl,hm.os,hm.tape,hm.output,hm.size,fun k C=>hm.kept k C (fun i o F=>(by cases F))⟩,hs,j,u⟩
noncomputable def vG(g:Nat)(v:EV):Ah:=fun e args h=>Bb (Nat.beq e g) (match args with | []=>some (v,h)|_=>none) none
theorem Bef{g:Nat}{V:Value}(H:∀f,Cr f v=V)(y:∀p,v.ok p){fn:Func}(J:P.funcs[g]? = some fn)(hb:fn.body.isSome=true)(L:(fn.name == "runtime.NumGoroutine")=false)
 (hC:∀w,Calls P g #[] w fun e w'=>e=.returned V/\RowKit.Below w.heap.size w w'):kJ P (vG g v)/\Wc (vG g v):=by
 have key:∀A args h B h',vG g v A args h=some (B,h')->A=g/\args = []/\B=v/\h'=h:=by
  intro A args h B h' u;unfold vG at u;obtain⟨C,h2⟩:=Ap u;split at h2
  ·cases h2;exact⟨aL C,rfl,rfl,rfl⟩
  ·cases h2
 constructor
 ·intro A args h B h' u
  obtain⟨rfl,rfl,rfl,rfl⟩:=key _ _ _ _ _ u;refine⟨⟨fn,J,hb,L⟩,fun p f w u F O cs=>?_⟩;obtain⟨e,w',fr,⟨rfl,j⟩,hs,G,M⟩:=hC w cs;refine⟨fr,f,w',hs,G,?_,⟨Loc.uZ _ _,⟨fun i o y=>?_,F.inj⟩,fun b hb _=>j.block b hb,j.size,j.tape,j.os,j.output,fun i o y=>.inr ⟨i,o,y,rfl⟩⟩,Wf.refl u,y _⟩
  ·rw[H];exact M
  ·obtain⟨r,C,h2⟩:=F.obj i o y
   exact⟨r,by rw[j.block _ (F.lt y)];exact C,h2⟩
 ·intro A args h B h' u
  obtain⟨_,_,_,rfl⟩:=key _ _ _ _ _ u;exact .refl _
end Go.Ev
