import Derived.Test.YtpkcfamminlmaaaGreatTab
import Derived.Test.YtpkcfamminlmaaaGreatEvSix
set_option linter.unusedVariables false
set_option linter.unusedSimpArgs false
set_option linter.unusedSectionVars false
namespace Go.Ev
def Ok(x:R)(Q:EV->Aa->Prop):Prop:=∃ v h,x=some (v,h)/\Q v h
theorem Ok.ret {v:EV}{h:Aa}{Q:EV->Aa->Prop}(q:Q v h):Ok (some (v,h)) Q:=⟨v,h,rfl,q⟩
theorem Ok.mono {x:R}{P Q:EV->Aa->Prop}(a:Ok x P)(b:∀ v h,P v h->Q v h):Ok x Q:=by
 obtain⟨v,h,e,p⟩:=a;exact⟨v,h,e,b v h p⟩
theorem Ok.Al {x:R}{k:EV->Aa->R}{P Q:EV->Aa->Prop}(a:Ok x P)(b:∀ v h,P v h->Ok (k v h) Q):Ok (Al x k) Q:=by
 obtain⟨v,h,e,p⟩:=a
 rw[e];exact b v h p
def HB(h:Aa):Prop:=∀ q o,h.get q=some o->q<h.next
theorem HB.new {h:Aa}(a:HB h)(o:Cn):HB (h.new o):=fun q x e=>by
 rw[Aa.H9]at e
 split at e
 ·rename_i hq;rw[Aa.Dd];omega
 ·exact Nat.lt_succ_of_lt (a q x e)
theorem HB.put {h:Aa}(a:HB h){i:Nat}(hi:i<h.next)(o:Cn):HB (h.put i o):=fun q x e=>by
 rw[Aa.get_put]at e
 split at e
 ·rename_i hq;subst hq;exact hi
 ·exact a q x e
theorem HB.del {h:Aa}(a:HB h)(i:Nat):HB (h.del i):=fun q x e=>by
 rw[Aa.Rk]at e
 split at e
 ·cases e
 ·exact a q x e
structure A4(S:Nat->Prop)(h h':Aa):Prop where
 get:∀ i,i<h.next->¬ S i->h'.get i=h.get i
 next:h.next<=h'.next
 mw:∀ w,w<=h.mw->w<=h.next->(∀ i,S i->w<=i)->w<=h'.mw
 hb:HB h->HB h'
abbrev Ext:Aa->Aa->Prop:=A4 fun _=>False
variable {S T:Nat->Prop}{h h' h1 h2 h3:Aa}
theorem A4.refl(h:Aa):A4 S h h:=⟨fun _ _ _=>rfl,Nat.le_refl _,fun _ a _ _=>a,id⟩
theorem A4.trans(a:A4 S h1 h2)(b:A4 S h2 h3):A4 S h1 h3:=
 ⟨fun i hi hs=>by rw[b.get i (Nat.lt_of_lt_of_le hi a.next) hs,a.get i hi hs],Nat.le_trans a.next b.next,
  fun w w1 w2 w3=>b.mw w (a.mw w w1 w2 w3) (Nat.le_trans w2 a.next) w3,fun x=>b.hb (a.hb x)⟩
theorem A4.mono(a:A4 S h h')(st:∀ i,S i->T i):A4 T h h':=⟨fun i hi hs=>a.get i hi fun x=>hs (st i x),a.next,fun w w1 w2 w3=>a.mw w w1 w2 fun i hi=>w3 i (st i hi),a.hb⟩
theorem A4.then(a:A4 S h1 h2)(b:A4 T h2 h3)(st:∀ i,T i->i<h1.next->S i):A4 S h1 h3:=by
 refine⟨fun i hi hs=>by rw[b.get i (Nat.lt_of_lt_of_le hi a.next) fun x=>hs (st i x hi),a.get i hi hs],Nat.le_trans a.next b.next,fun w w1 w2 w3=>?_,fun x=>b.hb (a.hb x)⟩
 refine b.mw w (a.mw w w1 w2 w3) (Nat.le_trans w2 a.next) fun i hi=>?_
 by_cases hl:i<h1.next
 ·exact w3 i (st i hi hl)
 ·omega
theorem Ext.to(a:Ext h h'):A4 S h h':=a.mono fun _ x=>x.elim
theorem A4.new(h:Aa)(o:Cn):A4 S h (h.new o):=
 ⟨fun i hi _=>Bm o hi,by rw[Aa.Dd];omega,fun w w1 _ _=>by rw[Aa.A45];exact w1,fun x=>x.new o⟩
theorem A4.put(h:Aa){i:Nat}(hi:S i\/h.next<=i)(hn:HB h->i<h.next)(o:Cn):A4 S h (h.put i o):=by
 refine⟨fun j hj hs=>Ar o fun e=>?_,by rw[Aa.Abk];exact Nat.le_refl _,fun w w1 w2 w3=>?_,fun x=>x.put (hn x) o⟩
 ·subst e;rcases hi with hi|hi
  ·exact hs hi
  ·omega
 ·rw[Aa.Aa7]
  rcases hi with hi|hi
  ·have:=w3 i hi;omega
  ·omega
theorem A4.del(h:Aa){i:Nat}(hi:S i\/h.next<=i):A4 S h (h.del i):=by
 refine⟨fun j hj hs=>Ato fun e=>?_,by rw[Aa.Aa5];exact Nat.le_refl _,fun w w1 w2 w3=>?_,fun x=>x.del i⟩
 ·subst e;rcases hi with hi|hi
  ·exact hs hi
  ·omega
 ·rw[Aa.Ajk]
  rcases hi with hi|hi
  ·have:=w3 i hi;omega
  ·omega
theorem A4.A8 {h0:Aa}(x:A4 S h0 h){i:Nat}(hi:S i\/h0.next<=i)(hn:i<h.next)(o:Cn):A4 S h0 (h.put i o):=
 x.then (T:=fun j=>j=i) (A4.put (S:=fun j=>j=i) h (.inl rfl) (fun _=>hn) o) fun j hj hl=>by
  have e:j=i:=hj
  subst e
  rcases hi with hi|hi
  ·exact hi
  ·omega
theorem A4.Hy {h0:Aa}(x:A4 S h0 h)(o:Cn):A4 S h0 (h.new o):=x.trans (A4.new _ _)
theorem A4.at(c:A4 S h h')(hb:HB h){i:Nat}{o:Cn}(g:h.get i=some o)(hn:¬ S i):h'.get i=some o:=by rw[c.get i (hb i o g) hn];exact g
theorem Ext.at(c:Ext h h')(hb:HB h){i:Nat}{o:Cn}(g:h.get i=some o):h'.get i=some o:=A4.at c hb g id
theorem Bh {i j:Nat}{o o':Cn}(a:h.get i=some o)(b:h.get j=some o')(n:o ≠ o'):i ≠ j:=fun e=>n (by rw[e,b]at a;cases a;rfl)
noncomputable def Aa.lift(h:Aa):Aa:=⟨h.t,h.next,h.next⟩
structure Aqe(h h':Aa):Prop where
 get:∀ i,h'.get i=h.get i
 next:h'.next=h.next
theorem Ada(h:Aa)(i:Nat):h.get i=h.t.get i:=by cases h;rfl
theorem Dg(h:Aa)(i:Nat):h.lift.get i=h.get i:=by rw[Ada,Ada];rfl
theorem Xr(h:Aa):h.lift.next=h.next:=rfl
theorem Hu {h:Aa}(a:HB h):HB h.lift:=fun q o e=>a q o (by rw[<-Dg];exact e)
theorem Aqe.hb {h h':Aa}(a:Aqe h h')(b:HB h):HB h':=fun q o e=>by rw[a.next];exact b q o (by rw[<-a.get];exact e)
section
variable {i b:Nat}{s:DX}{h:Aa}{call:Aa->R}{k:EV->Aa->DX->R}{P Q:EV->Aa->Prop}
theorem Ok.Cs(hb:Uh b s=true)(hl:loose b s.nw = [])(hc:Ok (call h.lift) P)(he:∀ v h1,P v h1->Ext h.lift h1)
 (hk:∀ v h1 h2,P v h1->Aqe h1 h2->Ext h h2->Ok (k v h2 (s.T4 i)) Q):Ok (Cs i b s h call k) Q:=by
 obtain⟨v,h1,e,p⟩:=hc
 have x:=he v h1 p
 have hf:Hf b s h=h.lift:=by unfold Hf;rw[hl];rfl
 have hm:h.next<=h1.mw:=x.mw h.next (Nat.le_refl _) (Nat.le_refl _) fun _ y=>y.elim
 have hE:Ev.Cs i b s h call k=k v ⟨h1.t,h1.next,h.mw⟩ (s.T4 i):=by
  show Ao (Uh b s) (Ev.Al (call (Hf b s h)) fun v h'=>Jy i b s h h' fun s h=>k v h s) none=_
  rw[hb,Ai,hf,e]
  show Jy i b s h h1 (fun s h=>k v h s)=_
  unfold Jy
  rw[Nat.ble_eq_true_of_le hm,Ai,hl];rfl
 rw[hE]
 refine hk v h1 _ p ⟨fun i=>by rw[Ada,Ada],rfl⟩ ⟨fun i hi hn=>?_,x.next,fun w w1 _ _=>w1,fun y=>?_⟩
 ·rw[Ada];show h1.t.get i=_;rw[<-Ada,x.get i hi hn,Dg]
 ·exact Aqe.hb (h:=h1) ⟨fun i=>by rw[Ada,Ada],rfl⟩ (x.hb (Hu y))
theorem Ok.Amo(hb:Uh b s=true)(hl:loose b s.nw = [])(hr:∀ w,R6 b w s.B2=true)(hc:Ok (call h.lift) P)(he:∀ v h1,P v h1->A4 S h.lift h1)
 (hk:∀ v h1 h2 s',P v h1->Aqe h1 h2->A4 S h h2->(s'=s.T4 i\/∃ w,s'=s.Atb i w/\w=h1.mw)->Ok (k v h2 s') Q):Ok (Ev.Cs i b s h call k) Q:=by
 obtain⟨v,h1,e,p⟩:=hc
 have x:=he v h1 p
 have hf:Hf b s h=h.lift:=by unfold Hf;rw[hl];rfl
 have hE:Ev.Cs i b s h call k=Jy i b s h h1 fun s h=>k v h s:=by
  show Ao (Uh b s) (Ev.Al (call (Hf b s h)) fun v h'=>Jy i b s h h' fun s h=>k v h s) none=_
  rw[hb,Ai,hf,e];rfl
 rw[hE]
 unfold Jy
 rw[hl]
 have sm:∀ w,Aqe h1 ⟨h1.t,h1.next,w⟩:=fun w=>⟨fun i=>by rw[Ada,Ada],rfl⟩
 have hg:∀ w i,i<h.next->¬ S i->(⟨h1.t,h1.next,w⟩:Aa).get i=h.get i:=fun w i hi hn=>by
  rw[(sm w).get,x.get i hi hn,Dg]
 cases hle:Nat.ble h.next h1.mw with
 | true=>
  rw[Ai]
  exact hk v h1 _ _ p (sm _) ⟨hg _,x.next,fun w w1 _ _=>w1,fun y=>(sm _).hb (x.hb (Hu y))⟩ (.inl rfl)
 | false=>
  rw[Aw,hr,Ai]
  refine hk v h1 _ _ p (sm _) ⟨hg _,x.next,fun w w1 w2 w3=>?_,fun y=>(sm _).hb (x.hb (Hu y))⟩ (.inr ⟨_,rfl,rfl⟩)
  have:=x.mw w w2 w2 w3
  show w<=Ao (Nat.ble h.mw h1.mw) h.mw h1.mw
  rw[A3];split <;> assumption
theorem Aq {i b base q o:Nat}{s:DX}{k:DX->R}(hq:q<base)(hc:Ao (D3 b q s.st) (Rh b q s.Y1) false=true):A9 i b base (.ptr q o) s k=k (s.ld i q):=by
 show Ao (Ab5 b base q s) _ none=_
 unfold Ab5
 rw[Nat.ble_eq_true_of_le (show Nat.succ q<=base from hq),Ai,hc,Ai]
theorem Rd {i b q o:Nat}{s:DX}{k:DX->R}(hc:Ahz b q s=true):Ac3 i b (.ptr q o) s k=k (s.X7 i q):=by
 show Ao (Ahz b q s) _ none=_
 rw[hc,Ai]
end
section
variable {i o c n s j len:Nat}{h:Aa}{l l':List EV}{t:TypeId}{v:EV}{k:EV->R}{kh:EV->Aa->R}
noncomputable def rowOf:Cn->Option (List EV)
 | .cells l _=>some l
 | .vec l _ _=>some l
 | _=>none
theorem Ce {x:Cn}(hg:h.get i=some x)(hr:rowOf x=some l)(hv:l[o]? = some v):Am (.ptr i o) h k=k v:=by
 show oB _ (Zr (h.get i) o 1)=_
 rw[hg]
 have hc:Oh l o 1=some [v]:=by
  obtain⟨h1,h2⟩:=List.getElem?_eq_some_iff.1 hv
  rw[Im (by omega),List.drop_eq_getElem_cons h1,h2];rfl
 cases x <;> first|(cases hr;done)|(cases hr;show oB _ (Oh l o 1)=_;rw[hc];rfl)
theorem Wu {q off ln rm sz:Nat}{op:Bool}{kd:IntKind}(hj:j<ln):Ix sz (.slice q off ln rm op) (.int kd (j:Int)) k=k (.ptr q (off+j*sz)):=A2l hj k kd
theorem Kg {x:Cn}(hg:h.get i=some x)(hr:rowOf x=some l)(hv:Oh l o n=some l'):B8 n (.ptr i o) h k=k (.agg l'):=by
 show oB _ (Zr (h.get i) o n)=_
 rw[hg]
 cases x <;> first|(cases hr;done)|(cases hr;show oB _ (Oh l o n)=_;rw[hv];rfl)
theorem Asx {kk:Aa->R}(hg:h.get i=some (.cells l t))(hp:v.plain=true)(hn:Je v.cells=n)(hl:L5 l o v.cells=some l'):Jf n (.ptr i o) v h kk=kk (h.put i (.cells l' t)):=by
 show Ao v.plain (Ao (Nat.beq (Je v.cells) n) (Ty h i (fun l=>L5 l o v.cells) kk) none) none=_
 rw[hp,Ai,hn,Nat.beq_refl,Ai,Amn hg,hl];rfl
theorem A3k {kk:Aa->R}{z:Nat}(hg:h.get i=some (.vec l t z))(hp:v.plain=true)(hn:Je v.cells=n)(hl:L5 l o v.cells=some l'):Jf n (.ptr i o) v h kk=kk (h.put i (.vec l' t z)):=by
 show Ao v.plain (Ao (Nat.beq (Je v.cells) n) (Ty h i (fun l=>L5 l o v.cells) kk) none) none=_
 rw[hp,Ai,hn,Nat.beq_refl,Ai]
 unfold Ty;rw[hg];simp only;rw[hl];rfl
theorem Ok.st {kk:Aa->R}{Q:EV->Aa->Prop}(l':List EV)(hg:h.get i=some (.cells l t))(hp:v.plain=true)(hn:Je v.cells=n)(hl:L5 l o v.cells=some l')(hk:Ok (kk (h.put i (.cells l' t))) Q):Ok (Jf n (.ptr i o) v h kk) Q:=by
 rw[Asx hg hp hn hl];exact hk
theorem Ok.st1 {kk:Aa->R}{Q:EV->Aa->Prop}(hg:h.get i=some (.cells l t))(hp:v.plain=true)(hc:v.cells = [v])(ho:o<l.length)(hk:Ok (kk (h.put i (.cells (l.set o v) t))) Q):Ok (Jf 1 (.ptr i o) v h kk) Q:=by
 rw[Asx hg hp (by rw[hc];rfl) (by rw[hc];exact Anl v l o ho)];exact hk
theorem Akk {a b:EV}{x:Bool}:Bg (.bool x) a b k=Ao x (k a) (k b):=rfl
theorem A10 {kk:Nat->DX->R}:Gn h kk=kk h.next ⟨0,[],[],[],[]⟩:=rfl
theorem Bf {h':Aa}:Al (some (v,h')) kh=kh v h':=rfl
theorem An6 {q off ln sz:Nat}{kd:IntKind}(hj:j<ln):Aiw ln sz (.ptr q off) (.int kd (j:Int)) k=k (.ptr q (off+j*sz)):=by
 show Ao (Nat.ble (Nat.succ j) ln) _ none=_
 rw[Nat.ble_eq_true_of_le hj,Ai];rfl
theorem Ax8 {kd kd':IntKind}{x:Int}:O7 kd (.int kd' x) k=k (.int kd (Cv kd x)):=rfl
theorem A1p {kd:IntKind}{x:Int}:Ao9 (.int kd x) k=k (.int kd (Cv kd (0-x))):=rfl
theorem Cu {place:Nat->Option (Nat × Nat)}{z:List EV}{ps:List (Nat × EV)}(hf:Uw place ps z=some l):C0 place z ps k=k (.agg l):=by
 unfold C0;rw[hf];rfl
theorem Av {l:List EV}{n:Nat}(hn:l.length=n):Oh l 0 n=some l:=by
 subst hn;rw[Im (by omega),List.drop_zero,List.take_length]
theorem C6 {n:Int}(h1 : -9223372036854775808<=n)(h2:n<=9223372036854775807):Cv .i64 n=n:=Ang h1 (by omega)
end
theorem Ay3 {b:Int}{T:D4}{t:Nat}{a:Int}{k:EV->R}(hb:0<b)(h1:0<=a)(h2:a<9223372036854775808):N1 (bin T .quo t) (.int .i64 a) (.int .i64 b) k=k (.int .i64 (a / b)):=by
 obtain⟨n,rfl⟩:=Int.eq_ofNat_of_zero_le (Int.le_of_lt hb)
 show oB k (Ao (eqB (.ofNat n) 0) none (some (.int .i64 (Cv .i64 (a.tdiv (.ofNat n))))))=_
 have:eqB (.ofNat n) 0=false:=by
  show Nat.beq n 0=false
  cases n with
  | zero=>exact absurd hb (by decide)
  | succ n=>rfl
 rw[this,Aw]
 have e:a.tdiv (.ofNat n)=a / n:=Int.tdiv_eq_ediv_of_nonneg h1
 have h3:a / (n:Int)<=a:=Int.ediv_le_self _ h1
 have h4:0<=a / (n:Int):=Int.ediv_nonneg h1 (by omega)
 rw[e,Ang (by omega) (by omega)];rfl
section
variable {v v' w w' a a' b b' x':EV}{x y r r':R}{h h':Aa}{k:EV->R}{kh:EV->Aa->R}{kk:Aa->R}{kd:DX->R}{kb:Nat->DX->R}{ke:EV->Aa->DX->R}
@[congr] theorem Ok.c {Q:EV->Aa->Prop}(e:r=r'):Ok r Q=Ok r' Q:=by rw[e]
@[congr] theorem Ao.c {α:Type}{p q:Bool}{x y:α}(e:p=q):Ao p x y=Ao q x y:=by rw[e]
@[congr] theorem oB.c {α β:Type}{k:α->Option β}{p q:Option α}(e:p=q):oB k p=oB k q:=by rw[e]
@[congr] theorem Al.c(e:r=r'):Al r kh=Al r' kh:=by rw[e]
@[congr] theorem Am.c(e:v=v'):Am v h k=Am v' h k:=by rw[e]
@[congr] theorem B8.c {n:Nat}(e:v=v'):B8 n v h k=B8 n v' h k:=by rw[e]
@[congr] theorem Jf.c {n:Nat}(e:a=a')(e':v=v'):Jf n a v h kk=Jf n a' v' h kk:=by rw[e,e']
@[congr] theorem Mo.c {o o':Cn}(e:o=o'):Mo o h kh=Mo o' h kh:=by rw[e]
@[congr] theorem E3.c {t:Nat}(e:v=v'):E3 t v h kh=E3 t v' h kh:=by rw[e]
@[congr] theorem Ap.c {g:IG}{f:EV->EV->Option EV}(e:v=v')(e':w=w'):Ap g f v w k=Ap g f v' w' k:=by rw[e,e']
@[congr] theorem N1.c {f:EV->EV->Option EV}(e:v=v')(e':w=w'):N1 f v w k=N1 f v' w' k:=by rw[e,e']
@[congr] theorem Bg.c(e:v=v'):Bg v a b k=Bg v' a b k:=by rw[e]
@[congr] theorem Sz.c(e:v=v'):Sz v k=Sz v' k:=by rw[e]
@[congr] theorem Ao9.c(e:v=v'):Ao9 v k=Ao9 v' k:=by rw[e]
@[congr] theorem Bj.c(e:v=v'):Bj v k=Bj v' k:=by rw[e]
@[congr] theorem An.c {n:Nat}(e:v=v'):An n v k=An n v' k:=by rw[e]
@[congr] theorem Aiw.c {n m:Nat}(e:v=v')(e':w=w'):Aiw n m v w k=Aiw n m v' w' k:=by rw[e,e']
@[congr] theorem Ix.c {n:Nat}(e:v=v')(e':w=w'):Ix n v w k=Ix n v' w' k:=by rw[e,e']
@[congr] theorem A02.c {n m q:Nat}{g:Bool}(e:v=v')(e':w=w'):A02 n m g q v w k=A02 n m g q v' w' k:=by rw[e,e']
@[congr] theorem Aei.c {n m:Nat}{g:Bool}(e:v=v'):Aei n g m v k=Aei n g m v' k:=by rw[e]
@[congr] theorem O7.c {c:IntKind}(e:v=v'):O7 c v k=O7 c v' k:=by rw[e]
@[congr] theorem Cq.c {n:Nat}(e:v=v'):Cq n v k=Cq n v' k:=by rw[e]
@[congr] theorem Ho.c(e:v=v'):Ho v k=Ho v' k:=by rw[e]
@[congr] theorem Af8.c {n:Nat}(e:v=v'):Af8 n v k=Af8 n v' k:=by rw[e]
@[congr] theorem C0.c {place:Nat->Option (Nat × Nat)}{z:List EV}{ps ps':List (Nat × EV)}(e:ps=ps'):C0 place z ps k=C0 place z ps' k:=by rw[e]
@[congr] theorem Apa.c {n:Nat}{lo lo' hi hi' mx mx':Option EV}(e:v=v')(e1:lo=lo')(e2:hi=hi')(e3:mx=mx'):Apa n v lo hi mx k=Apa n v' lo' hi' mx' k:=by rw[e,e1,e2,e3]
@[congr] theorem Us.c {n m:Nat}{lo lo' hi hi' mx mx':Option EV}(e:v=v')(e1:lo=lo')(e2:hi=hi')(e3:mx=mx'):Us n m v lo hi mx k=Us n m v' lo' hi' mx' k:=by rw[e,e1,e2,e3]
@[congr] theorem Fg.c(e:v=v'):Fg v x y=Fg v' x y:=by rw[e]
@[congr] theorem Gn.c(e:h=h'):Gn h kb=Gn h' kb:=by rw[e]
@[congr] theorem A9.c {i b base:Nat}{s:DX}(e:v=v'):A9 i b base v s kd=A9 i b base v' s kd:=by rw[e]
@[congr] theorem Ac3.c {i b:Nat}{s:DX}(e:v=v'):Ac3 i b v s kd=Ac3 i b v' s kd:=by rw[e]
@[congr] theorem Ad6.c {i:Nat}{s s':DX}(e:s=s'):Ad6 i h s kd=Ad6 i h s' kd:=by rw[e]
@[congr] theorem Cs.c {i b:Nat}{s s':DX}{call:Aa->R}(e:s=s'):Cs i b s h call ke=Cs i b s' h call ke:=by rw[e]
@[congr] theorem Abc.c {c:Ac}{T:D4}{g n i:Nat}{tm:Ah}{ds:List Nat}{k1:Aa->List Nat->R}{k2:Nat->Aa->List Nat->R}{k3:Aa->List Nat->R}(e:v=v'):Abc c T g n i v tm h ds k1 k2 k3=Abc c T g n i v' tm h ds k1 k2 k3:=by rw[e]
@[congr] theorem Ajf.c {c:Ac}{T:D4}{g n i l0:Nat}{tm:Ah}{ds:List Nat}{k1:Aa->List Nat->R}{k2:Nat->Aa->List Nat->R}{k3:Aa->List Nat->R}(e:v=v'):Ajf c T g n i l0 v tm h ds k1 k2 k3=Ajf c T g n i l0 v' tm h ds k1 k2 k3:=by rw[e]
@[congr] theorem I0.c {l:Nat}(e:h=h'):I0 l h kk=I0 l h' kk:=by rw[e]
end
theorem B2 {h:Aa}{i:Nat}{x:Cn}{l:List EV}(hg:h.get i=some x)(hr:rowOf x=some l):∀ (o:Nat) (k:EV->R),Am (.ptr i o) h k=oB k l[o]?:=by
 intro o k
 cases hv:l[o]? with
 | some v=>exact Ce hg hr hv
 | none=>
  show oB _ (Zr (h.get i) o 1)=_
  rw[hg]
  have hl:l.length<=o:=List.getElem?_eq_none_iff.1 hv
  have hc:Oh l o 1=none:=by
   rw[Ts,Mb,List.drop_eq_nil_of_le hl];rfl
  cases x <;> first|(cases hr;done)|(cases hr;show oB _ (Oh l o 1)=_;rw[hc];rfl)
theorem F4 {h:Aa}{i:Nat}{x:Cn}{l:List EV}(hg:h.get i=some x)(hr:rowOf x=some l):∀ (n o:Nat) (k:EV->R),B8 n (.ptr i o) h k=oB (fun l=>k (.agg l)) (Oh l o n):=by
 intro n o k
 show oB _ (Zr (h.get i) o n)=_
 rw[hg]
 cases x <;> first|(cases hr;done)|(cases hr;rfl)
theorem Ab:
 (∀ (i o:Nat) (k:EV->R),Bj (.ptr i o) k=k (.ptr i o))/\(∀ (c i o:Nat) (k:EV->R),An c (.ptr i o) k=k (.ptr i (o+c))) /\
 (∀ (o:Cn) (h:Aa) (k:EV->Aa->R),Mo o h k=k (.ptr h.next 0) (h.new o)) /\
 (∀ (t:Nat) (c:IntKind) (n:Int) (h:Aa) (k:EV->Aa->R),E3 t (.int c n) h k=k (.ptr h.next 0) (h.new (.cells [.int c n] t))) /\
 (∀ (t:Nat) (l:List EV) (h:Aa) (k:EV->Aa->R),E3 t (.agg l) h k=k (.ptr h.next 0) (h.new (.cells l t))) /\
 (∀ (t i o:Nat) (h:Aa) (k:EV->Aa->R),E3 t (.ptr i o) h k=k (.ptr h.next 0) (h.new (.cells [.ptr i o] t))) /\
 (∀ (t i o n m:Nat) (p:Bool) (h:Aa) (k:EV->Aa->R),E3 t (.slice i o n m p) h k=k (.ptr h.next 0) (h.new (.cells [.slice i o n m p] t))) /\
 (∀ (t:Nat) (h:Aa) (k:EV->Aa->R),E3 t .Ag h k=k (.ptr h.next 0) (h.new (.cells [.Ag] t))) /\
 (∀ (x:Bool) (a b:EV) (k:EV->R),Bg (.bool x) a b k=Ao x (k a) (k b)) /\
 (∀ (x:Bool) (k:EV->R),Sz (.bool x) k=Ao x (k (.bool false)) (k (.bool true))) /\
 (∀ (x:Bool) (a b:R),Fg (.bool x) a b=Ao x a b) /\
 (∀ (k:EV->R),Ho .Ag k=k (.int .i64 0))/\(∀ (q off ln rm:Nat) (op:Bool) (k:EV->R),Ho (.slice q off ln rm op) k=k (.int .i64 (ln:Int))) /\
 (∀ (o:Nat) (l:List EV) (k:EV->R),Cq o (.tuple l) k=oB k l[o]?) /\
 (∀ (h:Aa) (k:Nat->DX->R),Gn h k=k h.next ⟨0,[],[],[],[]⟩)/\(∀ (i:Nat) (h:Aa) (s:DX) (k:DX->R),Ad6 i h s k=k (s.new i h.next)) /\
 (∀ (v:EV) (h:Aa) (k:EV->Aa->R),Al (some (v,h)) k=k v h) /\
 (∀ (o:Nat) (l:List EV) (k:EV->R),Aei o false 0 (.agg l) k=oB k l[o]?) /\
 (∀ (c c':IntKind) (n:Int) (k:EV->R),O7 c (.int c' n) k=k (.int c (Cv c n))) /\
 (∀ (x y:R),Ao true x y=x)/\(∀ (x y:R),Ao false x y=y)/\(Ao true true false=true)/\(Ao false true false=false)/\(Ao true false true=false)/\(Ao false false true=true)/\Z6 true=false/\Z6 false=true /\
 (∀ (k:EV->R) (v:EV),oB k (some v)=k v)/\(∀ (h:Aa) (v:EV),H3 TT [.v v] h=some (v,h))/\(∀ (h:Aa) (v w:EV),H3 TT [.v v,.v w] h=some (.tuple [v,w],h))/\(∀ (h:Aa) (v w x:EV),H3 TT [.v v,.v w,.v x] h=some (.tuple [v,w,x],h)) /\
 (∀ (h:Aa) (k:Aa->R),F0 [] h k=k h)/\(∀ (p:EV) (r:List EV),(p::r)[0]? = some p)/\(∀ (p:EV) (r:List EV) (n:Nat),(p::r)[n+1]? = r[n]?)/\(∀ n:Nat,0+n=n)/\(∀ (k:List EV->R) (l:List EV),oB k (some l)=k l):=
 ⟨fun _ _ _=>rfl,fun _ _ _ _=>rfl,fun _ _ _=>rfl,fun _ _ _ _ _=>rfl,fun _ _ _ _=>rfl,fun _ _ _ _ _=>rfl,fun _ _ _ _ _ _ _ _=>rfl,fun _ _ _=>rfl,fun _ _ _ _=>rfl,fun _ _=>rfl,fun _ _ _=>rfl,
  fun _=>rfl,fun _ _ _ _ _ _=>rfl,fun o l k=>by show oB k (Ahf l o)=_;rw[Agf],fun _ _=>rfl,fun _ _ _ _=>rfl,fun _ _ _=>rfl,fun o l k=>by show oB k (Ahf l o)=_;rw[Agf],fun _ _ _ _=>rfl,
  fun _ _=>rfl,fun _ _=>rfl,rfl,rfl,rfl,rfl,rfl,rfl,fun _ _=>rfl,fun _ _=>rfl,fun _ _ _=>rfl,fun _ _ _ _=>rfl,fun _ _=>rfl,fun _ _=>rfl,fun _ _ _=>rfl,Nat.zero_add,fun _ _=>rfl⟩
theorem Bo:
 (∀ (s:DX) (i q:Nat),s.ld i q=⟨s.bg,s.nw,(Nat.shiftLeft 1 i,q)::s.B2,s.Y1,s.st⟩)/\(∀ (s:DX) (i q:Nat),s.new i q=⟨s.bg,(Nat.shiftLeft 1 i,q)::s.nw,s.B2,s.Y1,s.st⟩) /\
 (∀ (s:DX) (i:Nat),s.T4 i=⟨Nat.lor s.bg (Nat.shiftLeft 1 i),s.nw,s.B2,s.Y1,s.st⟩)/\(∀ (b q:Nat),D3 b q []=true)/\(∀ (b q:Nat),Rh b q []=true):=
 ⟨fun _ _ _=>rfl,fun _ _ _=>rfl,fun _ _=>rfl,fun _ _=>rfl,fun _ _=>rfl⟩
theorem Ad:
 (∀ (g:IG) (f:EV->EV->Option EV) (x y:Int) (k:EV->R),Ap g f (.int .i64 x) (.int .i64 y) k=k (g .i64 x y)) /\
 (∀ (c:IntKind) (a b:Int),Ih c a b=.bool (decide (a<b)))/\(∀ (c:IntKind) (a b:Int),Aab c a b=.bool (decide (a<=b))) /\
 (∀ (c:IntKind) (a b:Int),Tz c a b=.bool (decide (b<a)))/\(∀ (c:IntKind) (a b:Int),Vj c a b=.bool (decide (b<=a))) /\
 (∀ (c:IntKind) (a b:Int),Gj c a b=.bool (decide (a=b)))/\(∀ (c:IntKind) (a b:Int),La c a b=.bool (decide (¬ a=b))) /\
 (∀ (c:IntKind) (a b:Int),Ip c a b=.int c (Cv c (a+b)))/\(∀ (c:IntKind) (a b:Int),Qn c a b=.int c (Cv c (a-b)))/\(∀ (c:IntKind) (a b:Int),Wz c a b=.int c (Cv c (a*b))) /\
 (∀ (b w:Bool),As (.bool b) w=Ao b w (Z6 w))/\(∀ w,As (.tuple []) w=false):=
 ⟨fun _ _ _ _ _=>rfl,fun _ a b=>by rw[A27,Afw],fun _ a b=>by rw[A29,Afw,Akf];congr 1;exact decide_eq_decide.2 (by omega),
  fun _ a b=>by rw[A2e,Afw],fun _ a b=>by rw[A15,Afw,Akf];congr 1;exact decide_eq_decide.2 (by omega),
  fun _ a b=>by rw[A3h,Avl],fun _ a b=>by rw[A2s,Avl,Akf],
  fun _ a b=>by rw[A2u,Axb],fun _ a b=>by unfold Qn;rw[At5],fun _ a b=>rfl,fun _ _=>rfl,fun _=>rfl⟩
end Go.Ev

namespace Go.Ev
variable {h h':Aa}
def B0(h:Aa)(s:EV)(q:Nat)(e:TypeId)(sz len:Nat)(l:List EV):Prop:=
 (len=0/\l = []/\(s=.Ag\/∃ b,s=.slice b 0 0 0 false))\/(0<len/\s=.slice q 0 len len true/\h.get q=some (.vec l e sz)/\l.length=len*sz)
theorem B0.nil(h:Aa)(q:Nat)(e:TypeId)(sz:Nat):B0 h .Ag q e sz 0 []:=.inl ⟨rfl,rfl,.inl rfl⟩
theorem B0.empty(h:Aa)(b q:Nat)(e:TypeId)(sz:Nat):B0 h (.slice b 0 0 0 false) q e sz 0 []:=.inl ⟨rfl,rfl,.inr ⟨_,rfl⟩⟩
theorem B0.frame {s:EV}{q:Nat}{e:TypeId}{sz len:Nat}{l:List EV}(r:B0 h s q e sz len l)(g:0<len->h'.get q=h.get q):B0 h' s q e sz len l:=by
 rcases r with r|⟨a,b,c,d⟩
 ·exact .inl r
 ·exact .inr ⟨a,b,by rw[g a];exact c,d⟩
theorem B0.len {s:EV}{q:Nat}{e:TypeId}{sz len:Nat}{l:List EV}(r:B0 h s q e sz len l):lenOf s=some len:=by
 rcases r with ⟨rfl,_,rfl|⟨_,rfl⟩⟩|⟨_,rfl,_⟩ <;> rfl
theorem B0.Ho {s:EV}{q:Nat}{e:TypeId}{sz len:Nat}{l:List EV}(r:B0 h s q e sz len l)(k:EV->R):Ev.Ho s k=k (.int .i64 (len:Int)):=by
 unfold Ev.Ho;rw[r.len];rfl
theorem B0.plain {s:EV}{q:Nat}{e:TypeId}{sz len:Nat}{l:List EV}(r:B0 h s q e sz len l):s.plain=true/\s.cells = [s]:=by
 rcases r with ⟨rfl,_,rfl|⟨_,rfl⟩⟩|⟨_,rfl,_⟩ <;> exact⟨rfl,rfl⟩
theorem B0.size {s:EV}{q:Nat}{e:TypeId}{sz len:Nat}{l:List EV}(r:B0 h s q e sz len l):l.length=len*sz:=by
 rcases r with ⟨rfl,rfl,_⟩|⟨_,_,_,d⟩
 ·rw[Nat.zero_mul];rfl
 ·exact d
theorem B0.ix {s:EV}{q:Nat}{e:TypeId}{sz len:Nat}{l:List EV}(r:B0 h s q e sz len l){j:Nat}(hj:j<len)(kd:IntKind)(k:EV->R):Ix sz s (.int kd (j:Int)) k=k (.ptr q (j*sz)):=by
 rcases r with ⟨rfl,_,_⟩|⟨_,rfl,_,_⟩
 ·omega
 ·rw[Wu hj,Nat.zero_add]
theorem B0.block {s:EV}{q:Nat}{e:TypeId}{sz len:Nat}{l:List EV}(r:B0 h s q e sz len l)(hl:0<len):h.get q=some (.vec l e sz):=by
 rcases r with ⟨rfl,_,_⟩|⟨_,_,c,_⟩
 ·omega
 ·exact c
theorem B0.slice {s:EV}{q:Nat}{e:TypeId}{sz len:Nat}{l:List EV}(r:B0 h s q e sz len l)(hl:0<len):s=.slice q 0 len len true:=by
 rcases r with ⟨rfl,_,_⟩|⟨_,c,_⟩
 ·omega
 ·exact c
theorem Q2 {s x:EV}{q:Nat}{e:TypeId}{sz len n:Nat}{l new:List EV}(r:B0 h s q e sz len l)(hx:lenOf x=some n)(hn:0<n)(hn':n<=65536)(hl:len<=65536)(hc:Nj h sz n x=some new)(hs:new.length=n*sz):
 ∃ h',D5 e sz s x h=some (.slice h.next 0 (len+n) (len+n) true,h')/\B0 h' (.slice h.next 0 (len+n) (len+n) true) h.next e sz (len+n) (l++new)/\h'.next=h.next+1/\A4 (fun i=>0<len/\i=q) h h':=by
 have e0:Nat.beq n 0=false:=by cases n with|zero=>omega|succ n=>rfl
 rcases r with ⟨rfl,rfl,rfl|⟨b,rfl⟩⟩|⟨hp,rfl,hq,hlen⟩
 ·refine⟨h.new (.vec new e sz),?_,.inr ⟨by omega,rfl,?_,by rw[List.nil_append,Nat.zero_add];exact hs⟩,rfl,A4.new _ _⟩
  ·unfold D5
   simp only[hx,I8,e0,Aw,hc,Nat.ble_eq_true_of_le hn',Ai,Nat.zero_add]
  ·rw[Ae];rfl
 ·have e2:Nat.ble (Nat.add 0 n) 0=false:=by cases n with|zero=>omega|succ n=>show Nat.ble (0+(n+1)) 0=false;rw[Nat.zero_add];rfl
  have e3:Nj h sz 0 (.slice b 0 0 0 false)=some []:=rfl
  refine⟨h.new (.vec new e sz),?_,.inr ⟨by omega,rfl,?_,by rw[List.nil_append,Nat.zero_add];exact hs⟩,rfl,A4.new _ _⟩
  ·unfold D5
   simp only[hx,I8,e0,Aw,hc,e3,e2,Nat.ble_eq_true_of_le hn',Nat.ble_eq_true_of_le hl,Ai]
   rfl
  ·rw[Ae];rfl
 ·have hs2:Nj h sz len (.slice q 0 len len true)=some l:=by
   show Ao (Nat.beq len 0) (some []) (So h q 0 (Nat.mul len sz))=_
   have:Nat.beq len 0=false:=by cases len with|zero=>omega|succ n=>rfl
   rw[this,Aw]
   unfold So U1
   rw[hq]
   exact Av hlen
  refine⟨(h.del q).new (.vec (l++new) e sz),?_,.inr ⟨by omega,rfl,?_,by rw[List.length_append,hlen,hs,Nat.add_mul]⟩,rfl,?_⟩
  ·unfold D5
   simp only[hx,I8,e0,Aw,hc,hs2,hq,Nat.ble_eq_true_of_le hn',Nat.ble_eq_true_of_le hl,Ai]
   rw[show Nat.beq 0 0=true from rfl,Ai,Nat.beq_refl,Ai,Ch,hlen,show Nat.beq (len*sz) (Nat.mul len sz)=true from Nat.beq_refl _,Ai,Nat.beq_refl,Ai,Nat.beq_refl,Ai,Ajb]
   rfl
  ·rw[show h.next=(h.del q).next from rfl,Ae]
  ·exact(A4.del h (.inl ⟨hp,rfl⟩)).trans (A4.new _ _)
theorem Wd {z:List EV}{e:TypeId}{sz:Nat}{v:EV}(hp:v.plain=true)(hz:z.length=sz)(hv:v.cells.length=sz)(hs:sz<=65536):B3 z e sz 1 [(0,v)] h=some (.slice h.next 0 1 1 false,h.new (.cells v.cells e)):=by
 unfold B3 Ru
 simp only
 rw[Nat.ble_eq_true_of_le (show Nat.mul 1 sz<=65536 by show 1*sz<=65536;omega),Ai]
 have hf:Uw (Aie sz) [(0,v)] (rep z 1)=some v.cells:=by
  show oB (Afs fun off size=>Ao v.plain (Ao (Nat.beq (Je v.cells) size) (oB _ (L5 (rep z 1) off v.cells)) none) none) (Aie sz 0)=_
  show Ao v.plain (Ao (Nat.beq (Je v.cells) sz) (oB _ (L5 (rep z 1) (Nat.mul 0 sz) v.cells)) none) none=_
  rw[hp,Ai,Ch,hv,Nat.beq_refl,Ai]
  have:rep z 1=z:=by show z++[]=z;rw[List.append_nil]
  rw[this,show Nat.mul 0 sz=0 from Nat.zero_mul sz,Cd (by rw[hz,hv])]
  rfl
 rw[hf];rfl
theorem Zo {b:Nat}{e:TypeId}{sz:Nat}{l:List EV}(hb:h.get b=some (.cells l e))(hl:l.length=sz):Nj h sz 1 (.slice b 0 1 1 false)=some l:=by
 show Ao (Nat.beq 1 0) (some []) (So h b 0 (Nat.mul 1 sz))=_
 rw[show Nat.beq 1 0=false from rfl,Aw]
 unfold So U1
 rw[hb]
 exact Av (by rw[hl];show sz=1*sz;omega)
theorem Q5 {s v:EV}{q:Nat}{e:TypeId}{sz len:Nat}{l z:List EV}{k:EV->Aa->R}{Q:EV->Aa->Prop}(r:B0 h s q e sz len l)(hb:HB h)(hp:v.plain=true)(hz:z.length=sz)(hv:v.cells.length=sz)(hs:sz<=65536)(hl:len<=65535)
 (hk:∀ h',B0 h' (.slice (h.next+1) 0 (len+1) (len+1) true) (h.next+1) e sz (len+1) (l++v.cells)->h'.next=h.next+2->A4 (fun i=>0<len/\i=q) h h'->Ok (k (.slice (h.next+1) 0 (len+1) (len+1) true) h') Q) :
 Ok (Al (B3 z e sz 1 [(0,v)] h) fun w h=>Al (D5 e sz s w h) k) Q:=by
 rw[Wd hp hz hv hs,Bf]
 have r1:B0 (h.new (.cells v.cells e)) s q e sz len l:=r.frame fun hl=>Bm _ (hb q _ (r.block hl))
 obtain⟨h',e1,r2,n2,c2⟩:=Q2 (n:=1) (x:=.slice h.next 0 1 1 false) r1 rfl (by omega) (by omega) (by omega) (Zo (Ae _ _) hv) (by rw[hv];omega)
 rw[e1,Bf]
 exact hk h' r2 n2 ((A4.new h _).trans c2)
end Go.Ev
