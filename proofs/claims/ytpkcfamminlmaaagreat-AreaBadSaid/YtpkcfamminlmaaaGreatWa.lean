import Derived.Test.YtpkcfamminlmaaaGreatTab
import Derived.Test.YtpkcfamminlmaaaGreatEvSix
set_option linter.unusedVariables false
set_option linter.unusedSimpArgs false
set_option linter.unusedSectionVars false
namespace Go.Ev
def Ok(x:R)(Q:EV->Aa->Prop):Prop:=∃ v h,x=some (v,h)/\Q v h
theorem Ok.ret {v:EV}{h:Aa}{Q:EV->Aa->Prop}(q:Q v h):Ok (some (v,h)) Q:=⟨v,h,rfl,q⟩
theorem Ok.mono {x:R}{P Q:EV->Aa->Prop}(a:Ok x P)(b:∀ v h,P v h->Q v h):Ok x Q:=by
 obtain⟨v,h,e,p⟩:=a;exact⟨v,h,e,b v h p⟩
theorem Ok.Aj {x:R}{k:EV->Aa->R}{P Q:EV->Aa->Prop}(a:Ok x P)(b:∀ v h,P v h->Ok (k v h) Q):Ok (Aj x k) Q:=by
 obtain⟨v,h,e,p⟩:=a
 rw[e];exact b v h p
def HB(h:Aa):Prop:=∀ q o,h.get q=some o->q<h.next
theorem HB.new {h:Aa}(a:HB h)(o:Cu):HB (h.new o):=fun q x e=>by
 rw[Aa.Hz]at e
 split at e
 ·rename_i hq;rw[Aa.Ee];omega
 ·exact Nat.lt_succ_of_lt (a q x e)
theorem HB.put {h:Aa}(a:HB h){i:Nat}(hi:i<h.next)(o:Cu):HB (h.put i o):=fun q x e=>by
 rw[Aa.get_put]at e
 split at e
 ·rename_i hq;subst hq;exact hi
 ·exact a q x e
theorem HB.del {h:Aa}(a:HB h)(i:Nat):HB (h.del i):=fun q x e=>by
 rw[Aa.Rs]at e
 split at e
 ·cases e
 ·exact a q x e
structure A1(S:Nat->Prop)(h h':Aa):Prop where
 get:∀ i,i<h.next->¬ S i->h'.get i=h.get i
 next:h.next<=h'.next
 mw:∀ w,w<=h.mw->w<=h.next->(∀ i,S i->w<=i)->w<=h'.mw
 hb:HB h->HB h'
abbrev Ext:Aa->Aa->Prop:=A1 fun _=>False
variable {S T:Nat->Prop}{h h' h1 h2 h3:Aa}
theorem A1.refl(h:Aa):A1 S h h:=⟨fun _ _ _=>rfl,Nat.le_refl _,fun _ a _ _=>a,id⟩
theorem A1.trans(a:A1 S h1 h2)(b:A1 S h2 h3):A1 S h1 h3:=
 ⟨fun i hi hs=>by rw[b.get i (Nat.lt_of_lt_of_le hi a.next) hs,a.get i hi hs],Nat.le_trans a.next b.next,
  fun w w1 w2 w3=>b.mw w (a.mw w w1 w2 w3) (Nat.le_trans w2 a.next) w3,fun x=>b.hb (a.hb x)⟩
theorem A1.mono(a:A1 S h h')(st:∀ i,S i->T i):A1 T h h':=⟨fun i hi hs=>a.get i hi fun x=>hs (st i x),a.next,fun w w1 w2 w3=>a.mw w w1 w2 fun i hi=>w3 i (st i hi),a.hb⟩
theorem A1.then(a:A1 S h1 h2)(b:A1 T h2 h3)(st:∀ i,T i->i<h1.next->S i):A1 S h1 h3:=by
 refine⟨fun i hi hs=>by rw[b.get i (Nat.lt_of_lt_of_le hi a.next) fun x=>hs (st i x hi),a.get i hi hs],Nat.le_trans a.next b.next,fun w w1 w2 w3=>?_,fun x=>b.hb (a.hb x)⟩
 refine b.mw w (a.mw w w1 w2 w3) (Nat.le_trans w2 a.next) fun i hi=>?_
 by_cases hl:i<h1.next
 ·exact w3 i (st i hi hl)
 ·omega
theorem Ext.to(a:Ext h h'):A1 S h h':=a.mono fun _ x=>x.elim
theorem A1.new(h:Aa)(o:Cu):A1 S h (h.new o):=
 ⟨fun i hi _=>Bj o hi,by rw[Aa.Ee];omega,fun w w1 _ _=>by rw[Aa.A6g];exact w1,fun x=>x.new o⟩
theorem A1.put(h:Aa){i:Nat}(hi:S i\/h.next<=i)(hn:HB h->i<h.next)(o:Cu):A1 S h (h.put i o):=by
 refine⟨fun j hj hs=>Al o fun e=>?_,by rw[Aa.Vd];exact Nat.le_refl _,fun w w1 w2 w3=>?_,fun x=>x.put (hn x) o⟩
 ·subst e;rcases hi with hi|hi
  ·exact hs hi
  ·omega
 ·rw[Aa.Ac9]
  rcases hi with hi|hi
  ·have:=w3 i hi;omega
  ·omega
theorem A1.del(h:Aa){i:Nat}(hi:S i\/h.next<=i):A1 S h (h.del i):=by
 refine⟨fun j hj hs=>At5 fun e=>?_,by rw[Aa.Ams];exact Nat.le_refl _,fun w w1 w2 w3=>?_,fun x=>x.del i⟩
 ·subst e;rcases hi with hi|hi
  ·exact hs hi
  ·omega
 ·rw[Aa.Al5]
  rcases hi with hi|hi
  ·have:=w3 i hi;omega
  ·omega
theorem A1.Az {h0:Aa}(x:A1 S h0 h){i:Nat}(hi:S i\/h0.next<=i)(hn:i<h.next)(o:Cu):A1 S h0 (h.put i o):=
 x.then (T:=fun j=>j=i) (A1.put (S:=fun j=>j=i) h (.inl rfl) (fun _=>hn) o) fun j hj hl=>by
  have e:j=i:=hj
  subst e
  rcases hi with hi|hi
  ·exact hi
  ·omega
theorem A1.Gg {h0:Aa}(x:A1 S h0 h)(o:Cu):A1 S h0 (h.new o):=x.trans (A1.new _ _)
theorem A1.at(c:A1 S h h')(hb:HB h){i:Nat}{o:Cu}(g:h.get i=some o)(hn:¬ S i):h'.get i=some o:=by rw[c.get i (hb i o g) hn];exact g
theorem Ext.at(c:Ext h h')(hb:HB h){i:Nat}{o:Cu}(g:h.get i=some o):h'.get i=some o:=A1.at c hb g id
theorem Ba {i j:Nat}{o o':Cu}(a:h.get i=some o)(b:h.get j=some o')(n:o ≠ o'):i ≠ j:=fun e=>n (by rw[e,b]at a;cases a;rfl)
noncomputable def Aa.lift(h:Aa):Aa:=⟨h.t,h.next,h.next⟩
structure Af8(h h':Aa):Prop where
 get:∀ i,h'.get i=h.get i
 next:h'.next=h.next
theorem Vs(h:Aa)(i:Nat):h.get i=h.t.get i:=by cases h;rfl
theorem Cq(h:Aa)(i:Nat):h.lift.get i=h.get i:=by rw[Vs,Vs];rfl
theorem X1(h:Aa):h.lift.next=h.next:=rfl
theorem Fh {h:Aa}(a:HB h):HB h.lift:=fun q o e=>a q o (by rw[<-Cq];exact e)
theorem Af8.lift(h:Aa):Af8 h h.lift:=⟨Cq h,rfl⟩
theorem Af8.hb {h h':Aa}(a:Af8 h h')(b:HB h):HB h':=fun q o e=>by rw[a.next];exact b q o (by rw[<-a.get];exact e)
section
variable {i b:Nat}{s:DX}{h:Aa}{call:Aa->R}{k:EV->Aa->DX->R}{P Q:EV->Aa->Prop}
theorem Ok.Ct(hb:Q5 b s=true)(hl:loose b s.nw = [])(hc:Ok (call h.lift) P)(he:∀ v h1,P v h1->Ext h.lift h1)
 (hk:∀ v h1 h2,P v h1->Af8 h1 h2->Ext h h2->Ok (k v h2 (s.Tu i)) Q):Ok (Ct i b s h call k) Q:=by
 obtain⟨v,h1,e,p⟩:=hc
 have x:=he v h1 p
 have hf:Et b s h=h.lift:=by unfold Et;rw[hl];rfl
 have hm:h.next<=h1.mw:=x.mw h.next (Nat.le_refl _) (Nat.le_refl _) fun _ y=>y.elim
 have hE:Ev.Ct i b s h call k=k v ⟨h1.t,h1.next,h.mw⟩ (s.Tu i):=by
  show Ar (Q5 b s) (Ev.Aj (call (Et b s h)) fun v h'=>Hm i b s h h' fun s h=>k v h s) none=_
  rw[hb,Ak,hf,e]
  show Hm i b s h h1 (fun s h=>k v h s)=_
  unfold Hm
  rw[Nat.ble_eq_true_of_le hm,Ak,hl];rfl
 rw[hE]
 refine hk v h1 _ p ⟨fun i=>by rw[Vs,Vs],rfl⟩ ⟨fun i hi hn=>?_,x.next,fun w w1 _ _=>w1,fun y=>?_⟩
 ·rw[Vs];show h1.t.get i=_;rw[<-Vs,x.get i hi hn,Cq]
 ·exact Af8.hb (h:=h1) ⟨fun i=>by rw[Vs,Vs],rfl⟩ (x.hb (Fh y))
theorem Ok.Aqi(hb:Q5 b s=true)(hl:loose b s.nw = [])(hr:∀ w,Qg b w s.Cl=true)(hc:Ok (call h.lift) P)(he:∀ v h1,P v h1->A1 S h.lift h1)
 (hk:∀ v h1 h2 s',P v h1->Af8 h1 h2->A1 S h h2->(s'=s.Tu i\/∃ w,s'=s.Ast i w/\w=h1.mw)->Ok (k v h2 s') Q):Ok (Ev.Ct i b s h call k) Q:=by
 obtain⟨v,h1,e,p⟩:=hc
 have x:=he v h1 p
 have hf:Et b s h=h.lift:=by unfold Et;rw[hl];rfl
 have hE:Ev.Ct i b s h call k=Hm i b s h h1 fun s h=>k v h s:=by
  show Ar (Q5 b s) (Ev.Aj (call (Et b s h)) fun v h'=>Hm i b s h h' fun s h=>k v h s) none=_
  rw[hb,Ak,hf,e];rfl
 rw[hE]
 unfold Hm
 rw[hl]
 have sm:∀ w,Af8 h1 ⟨h1.t,h1.next,w⟩:=fun w=>⟨fun i=>by rw[Vs,Vs],rfl⟩
 have hg:∀ w i,i<h.next->¬ S i->(⟨h1.t,h1.next,w⟩:Aa).get i=h.get i:=fun w i hi hn=>by
  rw[(sm w).get,x.get i hi hn,Cq]
 cases hle:Nat.ble h.next h1.mw with
 | true=>
  rw[Ak]
  exact hk v h1 _ _ p (sm _) ⟨hg _,x.next,fun w w1 _ _=>w1,fun y=>(sm _).hb (x.hb (Fh y))⟩ (.inl rfl)
 | false=>
  rw[Av,hr,Ak]
  refine hk v h1 _ _ p (sm _) ⟨hg _,x.next,fun w w1 w2 w3=>?_,fun y=>(sm _).hb (x.hb (Fh y))⟩ (.inr ⟨_,rfl,rfl⟩)
  have:=x.mw w w2 w2 w3
  show w<=Ar (Nat.ble h.mw h1.mw) h.mw h1.mw
  rw[A5];split <;> assumption
theorem As {i b base q o:Nat}{s:DX}{k:DX->R}(hq:q<base)(hc:Ar (D6 b q s.st) (Rp b q s.Za) false=true):Bn i b base (.ptr q o) s k=k (s.ld i q):=by
 show Ar (Ab0 b base q s) _ none=_
 unfold Ab0
 rw[Nat.ble_eq_true_of_le (show Nat.succ q<=base from hq),Ak,hc,Ak]
theorem Wd {i b q o:Nat}{s:DX}{k:DX->R}(hc:Ajo b q s=true):Ahp i b (.ptr q o) s k=k (s.Yr i q):=by
 show Ar (Ajo b q s) _ none=_
 rw[hc,Ak]
end
section
variable {i o c n s j len:Nat}{h:Aa}{l l':List EV}{t:TypeId}{v:EV}{k:EV->R}{kh:EV->Aa->R}
noncomputable def rowOf:Cu->Option (List EV)
 | .cells l _=>some l
 | .vec l _ _=>some l
 | _=>none
theorem A3 {x:Cu}(hg:h.get i=some x)(hr:rowOf x=some l)(hv:l[o]? = some v):Ao (.ptr i o) h k=k v:=by
 show oB _ (Ae5 (h.get i) o 1)=_
 rw[hg]
 have hc:Na l o 1=some [v]:=by
  obtain⟨h1,h2⟩:=List.getElem?_eq_some_iff.1 hv
  rw[Ki (by omega),List.drop_eq_getElem_cons h1,h2];rfl
 cases x <;> first|(cases hr;done)|(cases hr;show oB _ (Na l o 1)=_;rw[hc];rfl)
theorem Sw {q off ln rm sz:Nat}{op:Bool}{kd:IntKind}(hj:j<ln):Ib sz (.slice q off ln rm op) (.int kd (j:Int)) k=k (.ptr q (off+j*sz)):=A4a hj k kd
theorem Gn {x:Cu}(hg:h.get i=some x)(hr:rowOf x=some l)(hv:Na l o n=some l'):Ck n (.ptr i o) h k=k (.agg l'):=by
 show oB _ (Ae5 (h.get i) o n)=_
 rw[hg]
 cases x <;> first|(cases hr;done)|(cases hr;show oB _ (Na l o n)=_;rw[hv];rfl)
theorem Aps {kk:Aa->R}(hg:h.get i=some (.cells l t))(hp:v.plain=true)(hn:K9 v.cells=n)(hl:Kl l o v.cells=some l'):I9 n (.ptr i o) v h kk=kk (h.put i (.cells l' t)):=by
 show Ar v.plain (Ar (Nat.beq (K9 v.cells) n) (Un h i (fun l=>Kl l o v.cells) kk) none) none=_
 rw[hp,Ak,hn,Nat.beq_refl,Ak,Anh hg,hl];rfl
theorem A5b {kk:Aa->R}{z:Nat}(hg:h.get i=some (.vec l t z))(hp:v.plain=true)(hn:K9 v.cells=n)(hl:Kl l o v.cells=some l'):I9 n (.ptr i o) v h kk=kk (h.put i (.vec l' t z)):=by
 show Ar v.plain (Ar (Nat.beq (K9 v.cells) n) (Un h i (fun l=>Kl l o v.cells) kk) none) none=_
 rw[hp,Ak,hn,Nat.beq_refl,Ak]
 unfold Un;rw[hg];simp only;rw[hl];rfl
theorem Ok.st {kk:Aa->R}{Q:EV->Aa->Prop}(l':List EV)(hg:h.get i=some (.cells l t))(hp:v.plain=true)(hn:K9 v.cells=n)(hl:Kl l o v.cells=some l')(hk:Ok (kk (h.put i (.cells l' t))) Q):Ok (I9 n (.ptr i o) v h kk) Q:=by
 rw[Aps hg hp hn hl];exact hk
theorem Ok.st1 {kk:Aa->R}{Q:EV->Aa->Prop}(hg:h.get i=some (.cells l t))(hp:v.plain=true)(hc:v.cells = [v])(ho:o<l.length)(hk:Ok (kk (h.put i (.cells (l.set o v) t))) Q):Ok (I9 1 (.ptr i o) v h kk) Q:=by
 rw[Aps hg hp (by rw[hc];rfl) (by rw[hc];exact Ao9 v l o ho)];exact hk
theorem Alf {a b:EV}{x:Bool}:Bu (.bool x) a b k=Ar x (k a) (k b):=rfl
theorem A0 {h':Aa}:Aj (some (v,h')) kh=kh v h':=rfl
theorem Wu {q off ln sz:Nat}{kd:IntKind}(hj:j<ln):Aa7 ln sz (.ptr q off) (.int kd (j:Int)) k=k (.ptr q (off+j*sz)):=by
 show Ar (Nat.ble (Nat.succ j) ln) _ none=_
 rw[Nat.ble_eq_true_of_le hj,Ak];rfl
theorem Ax4 {kd kd':IntKind}{x:Int}:Qx kd (.int kd' x) k=k (.int kd (Dk kd x)):=rfl
theorem A1s {kd:IntKind}{x:Int}:Ara (.int kd x) k=k (.int kd (Dk kd (0-x))):=rfl
theorem Ca {place:Nat->Option (Nat × Nat)}{z:List EV}{ps:List (Nat × EV)}(hf:Ww place ps z=some l):C1 place z ps k=k (.agg l):=by
 unfold C1;rw[hf];rfl
theorem Ax {l:List EV}{n:Nat}(hn:l.length=n):Na l 0 n=some l:=by
 subst hn;rw[Ki (by omega),List.drop_zero,List.take_length]
theorem Cx {n:Int}(h1 : -9223372036854775808<=n)(h2:n<=9223372036854775807):Dk .i64 n=n:=Aoq h1 (by omega)
end
theorem A5k {b:Int}{T:D7}{t:Nat}{a:Int}{k:EV->R}(hb:0<b)(h1:0<=a)(h2:a<9223372036854775808):Oc (bin T .quo t) (.int .i64 a) (.int .i64 b) k=k (.int .i64 (a / b)):=by
 obtain⟨n,rfl⟩:=Int.eq_ofNat_of_zero_le (Int.le_of_lt hb)
 show oB k (Ar (eqB (.ofNat n) 0) none (some (.int .i64 (Dk .i64 (a.tdiv (.ofNat n))))))=_
 have:eqB (.ofNat n) 0=false:=by
  show Nat.beq n 0=false
  cases n with
  | zero=>exact absurd hb (by decide)
  | succ n=>rfl
 rw[this,Av]
 have e:a.tdiv (.ofNat n)=a / n:=Int.tdiv_eq_ediv_of_nonneg h1
 have h3:a / (n:Int)<=a:=Int.ediv_le_self _ h1
 have h4:0<=a / (n:Int):=Int.ediv_nonneg h1 (by omega)
 rw[e,Aoq (by omega) (by omega)];rfl
section
variable {v v' w w' a a' b b' x':EV}{x y r r':R}{h h':Aa}{k:EV->R}{kh:EV->Aa->R}{kk:Aa->R}{kd:DX->R}{kb:Nat->DX->R}{ke:EV->Aa->DX->R}
@[congr] theorem Ok.c {Q:EV->Aa->Prop}(e:r=r'):Ok r Q=Ok r' Q:=by rw[e]
@[congr] theorem Ar.c {α:Type}{p q:Bool}{x y:α}(e:p=q):Ar p x y=Ar q x y:=by rw[e]
@[congr] theorem oB.c {α β:Type}{k:α->Option β}{p q:Option α}(e:p=q):oB k p=oB k q:=by rw[e]
@[congr] theorem Aj.c(e:r=r'):Aj r kh=Aj r' kh:=by rw[e]
@[congr] theorem Ao.c(e:v=v'):Ao v h k=Ao v' h k:=by rw[e]
@[congr] theorem Ck.c {n:Nat}(e:v=v'):Ck n v h k=Ck n v' h k:=by rw[e]
@[congr] theorem I9.c {n:Nat}(e:a=a')(e':v=v'):I9 n a v h kk=I9 n a' v' h kk:=by rw[e,e']
@[congr] theorem Kn.c {o o':Cu}(e:o=o'):Kn o h kh=Kn o' h kh:=by rw[e]
@[congr] theorem Dn.c {t:Nat}(e:v=v'):Dn t v h kh=Dn t v' h kh:=by rw[e]
@[congr] theorem Aq.c {g:IG}{f:EV->EV->Option EV}(e:v=v')(e':w=w'):Aq g f v w k=Aq g f v' w' k:=by rw[e,e']
@[congr] theorem Oc.c {f:EV->EV->Option EV}(e:v=v')(e':w=w'):Oc f v w k=Oc f v' w' k:=by rw[e,e']
@[congr] theorem Bu.c(e:v=v'):Bu v a b k=Bu v' a b k:=by rw[e]
@[congr] theorem Lf.c(e:v=v'):Lf v k=Lf v' k:=by rw[e]
@[congr] theorem Ara.c(e:v=v'):Ara v k=Ara v' k:=by rw[e]
@[congr] theorem Bg.c(e:v=v'):Bg v k=Bg v' k:=by rw[e]
@[congr] theorem Ap.c {n:Nat}(e:v=v'):Ap n v k=Ap n v' k:=by rw[e]
@[congr] theorem Aa7.c {n m:Nat}(e:v=v')(e':w=w'):Aa7 n m v w k=Aa7 n m v' w' k:=by rw[e,e']
@[congr] theorem Ib.c {n:Nat}(e:v=v')(e':w=w'):Ib n v w k=Ib n v' w' k:=by rw[e,e']
@[congr] theorem Ari.c {n m q:Nat}{g:Bool}(e:v=v')(e':w=w'):Ari n m g q v w k=Ari n m g q v' w' k:=by rw[e,e']
@[congr] theorem Afu.c {n m:Nat}{g:Bool}(e:v=v'):Afu n g m v k=Afu n g m v' k:=by rw[e]
@[congr] theorem Qx.c {c:IntKind}(e:v=v'):Qx c v k=Qx c v' k:=by rw[e]
@[congr] theorem C9.c {n:Nat}(e:v=v'):C9 n v k=C9 n v' k:=by rw[e]
@[congr] theorem H8.c(e:v=v'):H8 v k=H8 v' k:=by rw[e]
@[congr] theorem Agy.c {n:Nat}(e:v=v'):Agy n v k=Agy n v' k:=by rw[e]
@[congr] theorem C1.c {place:Nat->Option (Nat × Nat)}{z:List EV}{ps ps':List (Nat × EV)}(e:ps=ps'):C1 place z ps k=C1 place z ps' k:=by rw[e]
@[congr] theorem Arj.c {n:Nat}{lo lo' hi hi' mx mx':Option EV}(e:v=v')(e1:lo=lo')(e2:hi=hi')(e3:mx=mx'):Arj n v lo hi mx k=Arj n v' lo' hi' mx' k:=by rw[e,e1,e2,e3]
@[congr] theorem Acs.c {n m:Nat}{lo lo' hi hi' mx mx':Option EV}(e:v=v')(e1:lo=lo')(e2:hi=hi')(e3:mx=mx'):Acs n m v lo hi mx k=Acs n m v' lo' hi' mx' k:=by rw[e,e1,e2,e3]
@[congr] theorem D8.c(e:v=v'):D8 v x y=D8 v' x y:=by rw[e]
@[congr] theorem Gs.c(e:h=h'):Gs h kb=Gs h' kb:=by rw[e]
@[congr] theorem Bn.c {i b base:Nat}{s:DX}(e:v=v'):Bn i b base v s kd=Bn i b base v' s kd:=by rw[e]
@[congr] theorem Ahp.c {i b:Nat}{s:DX}(e:v=v'):Ahp i b v s kd=Ahp i b v' s kd:=by rw[e]
@[congr] theorem Adm.c {i:Nat}{s s':DX}(e:s=s'):Adm i h s kd=Adm i h s' kd:=by rw[e]
@[congr] theorem Ct.c {i b:Nat}{s s':DX}{call:Aa->R}(e:s=s'):Ct i b s h call ke=Ct i b s' h call ke:=by rw[e]
@[congr] theorem Xj.c {c:Ac}{T:D7}{g n i:Nat}{tm:Ag}{ds:List Nat}{k1:Aa->List Nat->R}{k2:Nat->Aa->List Nat->R}{k3:Aa->List Nat->R}(e:v=v'):Xj c T g n i v tm h ds k1 k2 k3=Xj c T g n i v' tm h ds k1 k2 k3:=by rw[e]
@[congr] theorem Ak9.c {c:Ac}{T:D7}{g n i l0:Nat}{tm:Ag}{ds:List Nat}{k1:Aa->List Nat->R}{k2:Nat->Aa->List Nat->R}{k3:Aa->List Nat->R}(e:v=v'):Ak9 c T g n i l0 v tm h ds k1 k2 k3=Ak9 c T g n i l0 v' tm h ds k1 k2 k3:=by rw[e]
@[congr] theorem Fm.c {l:Nat}(e:h=h'):Fm l h kk=Fm l h' kk:=by rw[e]
end
theorem Cl {h:Aa}{i:Nat}{x:Cu}{l:List EV}(hg:h.get i=some x)(hr:rowOf x=some l):∀ (o:Nat) (k:EV->R),Ao (.ptr i o) h k=oB k l[o]?:=by
 intro o k
 cases hv:l[o]? with
 | some v=>exact A3 hg hr hv
 | none=>
  show oB _ (Ae5 (h.get i) o 1)=_
  rw[hg]
  have hl:l.length<=o:=List.getElem?_eq_none_iff.1 hv
  have hc:Na l o 1=none:=by
   rw[Wk,Lb,List.drop_eq_nil_of_le hl];rfl
  cases x <;> first|(cases hr;done)|(cases hr;show oB _ (Na l o 1)=_;rw[hc];rfl)
theorem Gf {h:Aa}{i:Nat}{x:Cu}{l:List EV}(hg:h.get i=some x)(hr:rowOf x=some l):∀ (n o:Nat) (k:EV->R),Ck n (.ptr i o) h k=oB (fun l=>k (.agg l)) (Na l o n):=by
 intro n o k
 show oB _ (Ae5 (h.get i) o n)=_
 rw[hg]
 cases x <;> first|(cases hr;done)|(cases hr;rfl)
theorem Ab:
 (∀ (i o:Nat) (k:EV->R),Bg (.ptr i o) k=k (.ptr i o))/\(∀ (c i o:Nat) (k:EV->R),Ap c (.ptr i o) k=k (.ptr i (o+c))) /\
 (∀ (o:Cu) (h:Aa) (k:EV->Aa->R),Kn o h k=k (.ptr h.next 0) (h.new o)) /\
 (∀ (t:Nat) (c:IntKind) (n:Int) (h:Aa) (k:EV->Aa->R),Dn t (.int c n) h k=k (.ptr h.next 0) (h.new (.cells [.int c n] t))) /\
 (∀ (t:Nat) (l:List EV) (h:Aa) (k:EV->Aa->R),Dn t (.agg l) h k=k (.ptr h.next 0) (h.new (.cells l t))) /\
 (∀ (t i o:Nat) (h:Aa) (k:EV->Aa->R),Dn t (.ptr i o) h k=k (.ptr h.next 0) (h.new (.cells [.ptr i o] t))) /\
 (∀ (t i o n m:Nat) (p:Bool) (h:Aa) (k:EV->Aa->R),Dn t (.slice i o n m p) h k=k (.ptr h.next 0) (h.new (.cells [.slice i o n m p] t))) /\
 (∀ (t:Nat) (h:Aa) (k:EV->Aa->R),Dn t .Af h k=k (.ptr h.next 0) (h.new (.cells [.Af] t))) /\
 (∀ (x:Bool) (a b:EV) (k:EV->R),Bu (.bool x) a b k=Ar x (k a) (k b)) /\
 (∀ (x:Bool) (k:EV->R),Lf (.bool x) k=Ar x (k (.bool false)) (k (.bool true))) /\
 (∀ (x:Bool) (a b:R),D8 (.bool x) a b=Ar x a b) /\
 (∀ (k:EV->R),H8 .Af k=k (.int .i64 0))/\(∀ (q off ln rm:Nat) (op:Bool) (k:EV->R),H8 (.slice q off ln rm op) k=k (.int .i64 (ln:Int))) /\
 (∀ (o:Nat) (l:List EV) (k:EV->R),C9 o (.tuple l) k=oB k l[o]?) /\
 (∀ (h:Aa) (k:Nat->DX->R),Gs h k=k h.next ⟨0,[],[],[],[]⟩)/\(∀ (i:Nat) (h:Aa) (s:DX) (k:DX->R),Adm i h s k=k (s.new i h.next)) /\
 (∀ (v:EV) (h:Aa) (k:EV->Aa->R),Aj (some (v,h)) k=k v h) /\
 (∀ (o:Nat) (l:List EV) (k:EV->R),Afu o false 0 (.agg l) k=oB k l[o]?) /\
 (∀ (c c':IntKind) (n:Int) (k:EV->R),Qx c (.int c' n) k=k (.int c (Dk c n))) /\
 (∀ (x y:R),Ar true x y=x)/\(∀ (x y:R),Ar false x y=y)/\(Ar true true false=true)/\(Ar false true false=false)/\(Ar true false true=false)/\(Ar false false true=true)/\Aax true=false/\Aax false=true /\
 (∀ (k:EV->R) (v:EV),oB k (some v)=k v)/\(∀ (h:Aa) (v:EV),Iz TT [.v v] h=some (v,h))/\(∀ (h:Aa) (v w:EV),Iz TT [.v v,.v w] h=some (.tuple [v,w],h))/\(∀ (h:Aa) (v w x:EV),Iz TT [.v v,.v w,.v x] h=some (.tuple [v,w,x],h)) /\
 (∀ (h:Aa) (k:Aa->R),D3 [] h k=k h)/\(∀ (p:EV) (r:List EV),(p::r)[0]? = some p)/\(∀ (p:EV) (r:List EV) (n:Nat),(p::r)[n+1]? = r[n]?)/\(∀ n:Nat,0+n=n)/\(∀ (k:List EV->R) (l:List EV),oB k (some l)=k l):=
 ⟨fun _ _ _=>rfl,fun _ _ _ _=>rfl,fun _ _ _=>rfl,fun _ _ _ _ _=>rfl,fun _ _ _ _=>rfl,fun _ _ _ _ _=>rfl,fun _ _ _ _ _ _ _ _=>rfl,fun _ _ _=>rfl,fun _ _ _ _=>rfl,fun _ _=>rfl,fun _ _ _=>rfl,
  fun _=>rfl,fun _ _ _ _ _ _=>rfl,fun o l k=>by show oB k (Ai2 l o)=_;rw[Aho],fun _ _=>rfl,fun _ _ _ _=>rfl,fun _ _ _=>rfl,fun o l k=>by show oB k (Ai2 l o)=_;rw[Aho],fun _ _ _ _=>rfl,
  fun _ _=>rfl,fun _ _=>rfl,rfl,rfl,rfl,rfl,rfl,rfl,fun _ _=>rfl,fun _ _=>rfl,fun _ _ _=>rfl,fun _ _ _ _=>rfl,fun _ _=>rfl,fun _ _=>rfl,fun _ _ _=>rfl,Nat.zero_add,fun _ _=>rfl⟩
theorem Bh:
 (∀ (s:DX) (i q:Nat),s.ld i q=⟨s.bg,s.nw,(Nat.shiftLeft 1 i,q)::s.Cl,s.Za,s.st⟩)/\(∀ (s:DX) (i q:Nat),s.new i q=⟨s.bg,(Nat.shiftLeft 1 i,q)::s.nw,s.Cl,s.Za,s.st⟩) /\
 (∀ (s:DX) (i:Nat),s.Tu i=⟨Nat.lor s.bg (Nat.shiftLeft 1 i),s.nw,s.Cl,s.Za,s.st⟩)/\(∀ (b q:Nat),D6 b q []=true)/\(∀ (b q:Nat),Rp b q []=true):=
 ⟨fun _ _ _=>rfl,fun _ _ _=>rfl,fun _ _=>rfl,fun _ _=>rfl,fun _ _=>rfl⟩
theorem Ah:
 (∀ (g:IG) (f:EV->EV->Option EV) (x y:Int) (k:EV->R),Aq g f (.int .i64 x) (.int .i64 y) k=k (g .i64 x y)) /\
 (∀ (c:IntKind) (a b:Int),Gr c a b=.bool (decide (a<b)))/\(∀ (c:IntKind) (a b:Int),Ahs c a b=.bool (decide (a<=b))) /\
 (∀ (c:IntKind) (a b:Int),Ye c a b=.bool (decide (b<a)))/\(∀ (c:IntKind) (a b:Int),V5 c a b=.bool (decide (b<=a))) /\
 (∀ (c:IntKind) (a b:Int),G7 c a b=.bool (decide (a=b)))/\(∀ (c:IntKind) (a b:Int),Ka c a b=.bool (decide (¬ a=b))) /\
 (∀ (c:IntKind) (a b:Int),Hj c a b=.int c (Dk c (a+b)))/\(∀ (c:IntKind) (a b:Int),Um c a b=.int c (Dk c (a-b)))/\(∀ (c:IntKind) (a b:Int),Ud c a b=.int c (Dk c (a*b))) /\
 (∀ (b w:Bool),Au (.bool b) w=Ar b w (Aax w))/\(∀ w,Au (.tuple []) w=false):=
 ⟨fun _ _ _ _ _=>rfl,fun _ a b=>by rw[A5m,Aii],fun _ a b=>by rw[A41,Aii,Alc];congr 1;exact decide_eq_decide.2 (by omega),
  fun _ a b=>by rw[A4e,Aii],fun _ a b=>by rw[A47,Aii,Alc];congr 1;exact decide_eq_decide.2 (by omega),
  fun _ a b=>by rw[A4y,Apv],fun _ a b=>by rw[A4k,Apv,Alc],
  fun _ a b=>by rw[A5j,Azc],fun _ a b=>by unfold Um;rw[At6],fun _ a b=>rfl,fun _ _=>rfl,fun _=>rfl⟩
end Go.Ev

namespace Go.Ev
variable {h h':Aa}
def Bz(h:Aa)(s:EV)(q:Nat)(e:TypeId)(sz len:Nat)(l:List EV):Prop:=
 (len=0/\l = []/\(s=.Af\/∃ b,s=.slice b 0 0 0 false))\/(0<len/\s=.slice q 0 len len true/\h.get q=some (.vec l e sz)/\l.length=len*sz)
theorem Bz.nil(h:Aa)(q:Nat)(e:TypeId)(sz:Nat):Bz h .Af q e sz 0 []:=.inl ⟨rfl,rfl,.inl rfl⟩
theorem Bz.empty(h:Aa)(b q:Nat)(e:TypeId)(sz:Nat):Bz h (.slice b 0 0 0 false) q e sz 0 []:=.inl ⟨rfl,rfl,.inr ⟨_,rfl⟩⟩
theorem Bz.frame {s:EV}{q:Nat}{e:TypeId}{sz len:Nat}{l:List EV}(r:Bz h s q e sz len l)(g:0<len->h'.get q=h.get q):Bz h' s q e sz len l:=by
 rcases r with r|⟨a,b,c,d⟩
 ·exact .inl r
 ·exact .inr ⟨a,b,by rw[g a];exact c,d⟩
theorem Bz.len {s:EV}{q:Nat}{e:TypeId}{sz len:Nat}{l:List EV}(r:Bz h s q e sz len l):lenOf s=some len:=by
 rcases r with ⟨rfl,_,rfl|⟨_,rfl⟩⟩|⟨_,rfl,_⟩ <;> rfl
theorem Bz.H8 {s:EV}{q:Nat}{e:TypeId}{sz len:Nat}{l:List EV}(r:Bz h s q e sz len l)(k:EV->R):Ev.H8 s k=k (.int .i64 (len:Int)):=by
 unfold Ev.H8;rw[r.len];rfl
theorem Bz.plain {s:EV}{q:Nat}{e:TypeId}{sz len:Nat}{l:List EV}(r:Bz h s q e sz len l):s.plain=true/\s.cells = [s]:=by
 rcases r with ⟨rfl,_,rfl|⟨_,rfl⟩⟩|⟨_,rfl,_⟩ <;> exact⟨rfl,rfl⟩
theorem Bz.size {s:EV}{q:Nat}{e:TypeId}{sz len:Nat}{l:List EV}(r:Bz h s q e sz len l):l.length=len*sz:=by
 rcases r with ⟨rfl,rfl,_⟩|⟨_,_,_,d⟩
 ·rw[Nat.zero_mul];rfl
 ·exact d
theorem Bz.ix {s:EV}{q:Nat}{e:TypeId}{sz len:Nat}{l:List EV}(r:Bz h s q e sz len l){j:Nat}(hj:j<len)(kd:IntKind)(k:EV->R):Ib sz s (.int kd (j:Int)) k=k (.ptr q (j*sz)):=by
 rcases r with ⟨rfl,_,_⟩|⟨_,rfl,_,_⟩
 ·omega
 ·rw[Sw hj,Nat.zero_add]
theorem Bz.block {s:EV}{q:Nat}{e:TypeId}{sz len:Nat}{l:List EV}(r:Bz h s q e sz len l)(hl:0<len):h.get q=some (.vec l e sz):=by
 rcases r with ⟨rfl,_,_⟩|⟨_,_,c,_⟩
 ·omega
 ·exact c
theorem Bz.slice {s:EV}{q:Nat}{e:TypeId}{sz len:Nat}{l:List EV}(r:Bz h s q e sz len l)(hl:0<len):s=.slice q 0 len len true:=by
 rcases r with ⟨rfl,_,_⟩|⟨_,c,_⟩
 ·omega
 ·exact c
theorem Rj {s x:EV}{q:Nat}{e:TypeId}{sz len n:Nat}{l new:List EV}(r:Bz h s q e sz len l)(hx:lenOf x=some n)(hn:0<n)(hn':n<=65536)(hl:len<=65536)(hc:N4 h sz n x=some new)(hs:new.length=n*sz):
 ∃ h',Da e sz s x h=some (.slice h.next 0 (len+n) (len+n) true,h')/\Bz h' (.slice h.next 0 (len+n) (len+n) true) h.next e sz (len+n) (l++new)/\h'.next=h.next+1/\A1 (fun i=>0<len/\i=q) h h':=by
 have e0:Nat.beq n 0=false:=by cases n with|zero=>omega|succ n=>rfl
 rcases r with ⟨rfl,rfl,rfl|⟨b,rfl⟩⟩|⟨hp,rfl,hq,hlen⟩
 ·refine⟨h.new (.vec new e sz),?_,.inr ⟨by omega,rfl,?_,by rw[List.nil_append,Nat.zero_add];exact hs⟩,rfl,A1.new _ _⟩
  ·unfold Da
   simp only[hx,Ue,e0,Av,hc,Nat.ble_eq_true_of_le hn',Ak,Nat.zero_add]
  ·rw[Ae];rfl
 ·have e2:Nat.ble (Nat.add 0 n) 0=false:=by cases n with|zero=>omega|succ n=>show Nat.ble (0+(n+1)) 0=false;rw[Nat.zero_add];rfl
  have e3:N4 h sz 0 (.slice b 0 0 0 false)=some []:=rfl
  refine⟨h.new (.vec new e sz),?_,.inr ⟨by omega,rfl,?_,by rw[List.nil_append,Nat.zero_add];exact hs⟩,rfl,A1.new _ _⟩
  ·unfold Da
   simp only[hx,Ue,e0,Av,hc,e3,e2,Nat.ble_eq_true_of_le hn',Nat.ble_eq_true_of_le hl,Ak]
   rfl
  ·rw[Ae];rfl
 ·have hs2:N4 h sz len (.slice q 0 len len true)=some l:=by
   show Ar (Nat.beq len 0) (some []) (Vx h q 0 (Nat.mul len sz))=_
   have:Nat.beq len 0=false:=by cases len with|zero=>omega|succ n=>rfl
   rw[this,Av]
   unfold Vx Wi
   rw[hq]
   exact Ax hlen
  refine⟨(h.del q).new (.vec (l++new) e sz),?_,.inr ⟨by omega,rfl,?_,by rw[List.length_append,hlen,hs,Nat.add_mul]⟩,rfl,?_⟩
  ·unfold Da
   simp only[hx,Ue,e0,Av,hc,hs2,hq,Nat.ble_eq_true_of_le hn',Nat.ble_eq_true_of_le hl,Ak]
   rw[show Nat.beq 0 0=true from rfl,Ak,Nat.beq_refl,Ak,Dx,hlen,show Nat.beq (len*sz) (Nat.mul len sz)=true from Nat.beq_refl _,Ak,Nat.beq_refl,Ak,Nat.beq_refl,Ak,Ahl]
   rfl
  ·rw[show h.next=(h.del q).next from rfl,Ae]
  ·exact(A1.del h (.inl ⟨hp,rfl⟩)).trans (A1.new _ _)
theorem Sc {z:List EV}{e:TypeId}{sz:Nat}{v:EV}(hp:v.plain=true)(hz:z.length=sz)(hv:v.cells.length=sz)(hs:sz<=65536):B3 z e sz 1 [(0,v)] h=some (.slice h.next 0 1 1 false,h.new (.cells v.cells e)):=by
 unfold B3 Sg
 simp only
 rw[Nat.ble_eq_true_of_le (show Nat.mul 1 sz<=65536 by show 1*sz<=65536;omega),Ak]
 have hf:Ww (Aex sz) [(0,v)] (rep z 1)=some v.cells:=by
  show oB (Agn fun off size=>Ar v.plain (Ar (Nat.beq (K9 v.cells) size) (oB _ (Kl (rep z 1) off v.cells)) none) none) (Aex sz 0)=_
  show Ar v.plain (Ar (Nat.beq (K9 v.cells) sz) (oB _ (Kl (rep z 1) (Nat.mul 0 sz) v.cells)) none) none=_
  rw[hp,Ak,Dx,hv,Nat.beq_refl,Ak]
  have:rep z 1=z:=by show z++[]=z;rw[List.append_nil]
  rw[this,show Nat.mul 0 sz=0 from Nat.zero_mul sz,Gc (by rw[hz,hv])]
  rfl
 rw[hf];rfl
theorem Ql {b:Nat}{e:TypeId}{sz:Nat}{l:List EV}(hb:h.get b=some (.cells l e))(hl:l.length=sz):N4 h sz 1 (.slice b 0 1 1 false)=some l:=by
 show Ar (Nat.beq 1 0) (some []) (Vx h b 0 (Nat.mul 1 sz))=_
 rw[show Nat.beq 1 0=false from rfl,Av]
 unfold Vx Wi
 rw[hb]
 exact Ax (by rw[hl];show sz=1*sz;omega)
theorem Ml {s v:EV}{q:Nat}{e:TypeId}{sz len:Nat}{l z:List EV}{k:EV->Aa->R}{Q:EV->Aa->Prop}(r:Bz h s q e sz len l)(hb:HB h)(hp:v.plain=true)(hz:z.length=sz)(hv:v.cells.length=sz)(hs:sz<=65536)(hl:len<=65535)
 (hk:∀ h',Bz h' (.slice (h.next+1) 0 (len+1) (len+1) true) (h.next+1) e sz (len+1) (l++v.cells)->h'.next=h.next+2->A1 (fun i=>0<len/\i=q) h h'->Ok (k (.slice (h.next+1) 0 (len+1) (len+1) true) h') Q) :
 Ok (Aj (B3 z e sz 1 [(0,v)] h) fun w h=>Aj (Da e sz s w h) k) Q:=by
 rw[Sc hp hz hv hs,A0]
 have r1:Bz (h.new (.cells v.cells e)) s q e sz len l:=r.frame fun hl=>Bj _ (hb q _ (r.block hl))
 obtain⟨h',e1,r2,n2,c2⟩:=Rj (n:=1) (x:=.slice h.next 0 1 1 false) r1 rfl (by omega) (by omega) (by omega) (Ql (Ae _ _) hv) (by rw[hv];omega)
 rw[e1,A0]
 exact hk h' r2 n2 ((A1.new h _).trans c2)
end Go.Ev
