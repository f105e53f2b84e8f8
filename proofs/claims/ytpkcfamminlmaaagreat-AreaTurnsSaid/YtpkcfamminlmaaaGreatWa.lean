import Derived.Test.YtpkcfamminlmaaaGreatTab
import Derived.Test.YtpkcfamminlmaaaGreatEvSix
set_option linter.unusedVariables false
set_option linter.unusedSimpArgs false
set_option linter.unusedSectionVars false
namespace Go.Ev
def Ok(x:R)(Q:EV->Aa->Prop):Prop:=∃ v h,x=some (v,h)/\Q v h
theorem Ok.ret {v:EV}{h:Aa}{Q:EV->Aa->Prop}(q:Q v h):Ok (some (v,h)) Q:=⟨v,h,rfl,q⟩
theorem Ok.mono {x:R}{P Q:EV->Aa->Prop}(a:Ok x P)(b:∀ v h,P v h->Q v h):Ok x Q:=by
 obtain⟨v,h,e,p⟩:=a;exact⟨v,h,e,b v h p⟩
theorem Ok.Aj {x:R}{k:EV->Aa->R}{P Q:EV->Aa->Prop}(a:Ok x P)(b:∀ v h,P v h->Ok (k v h) Q):Ok (Aj x k) Q:=by
 obtain⟨v,h,e,p⟩:=a
 rw[e];exact b v h p
def HB(h:Aa):Prop:=∀ q o,h.get q=some o->q<h.next
theorem HB.new {h:Aa}(a:HB h)(o:Cx):HB (h.new o):=fun q x e=>by
 rw[Aa.Hg]at e
 split at e
 ·rename_i hq;rw[Aa.D7];omega
 ·exact Nat.lt_succ_of_lt (a q x e)
theorem HB.put {h:Aa}(a:HB h){i:Nat}(hi:i<h.next)(o:Cx):HB (h.put i o):=fun q x e=>by
 rw[Aa.get_put]at e
 split at e
 ·rename_i hq;subst hq;exact hi
 ·exact a q x e
theorem HB.del {h:Aa}(a:HB h)(i:Nat):HB (h.del i):=fun q x e=>by
 rw[Aa.Qo]at e
 split at e
 ·cases e
 ·exact a q x e
structure A6(S:Nat->Prop)(h h':Aa):Prop where
 get:∀ i,i<h.next->¬ S i->h'.get i=h.get i
 next:h.next<=h'.next
 mw:∀ w,w<=h.mw->w<=h.next->(∀ i,S i->w<=i)->w<=h'.mw
 hb:HB h->HB h'
abbrev Ext:Aa->Aa->Prop:=A6 fun _=>False
variable {S T:Nat->Prop}{h h' h1 h2 h3:Aa}
theorem A6.refl(h:Aa):A6 S h h:=⟨fun _ _ _=>rfl,Nat.le_refl _,fun _ a _ _=>a,id⟩
theorem A6.trans(a:A6 S h1 h2)(b:A6 S h2 h3):A6 S h1 h3:=
 ⟨fun i hi hs=>by rw[b.get i (Nat.lt_of_lt_of_le hi a.next) hs,a.get i hi hs],Nat.le_trans a.next b.next,
  fun w w1 w2 w3=>b.mw w (a.mw w w1 w2 w3) (Nat.le_trans w2 a.next) w3,fun x=>b.hb (a.hb x)⟩
theorem A6.mono(a:A6 S h h')(st:∀ i,S i->T i):A6 T h h':=⟨fun i hi hs=>a.get i hi fun x=>hs (st i x),a.next,fun w w1 w2 w3=>a.mw w w1 w2 fun i hi=>w3 i (st i hi),a.hb⟩
theorem A6.then(a:A6 S h1 h2)(b:A6 T h2 h3)(st:∀ i,T i->i<h1.next->S i):A6 S h1 h3:=by
 refine⟨fun i hi hs=>by rw[b.get i (Nat.lt_of_lt_of_le hi a.next) fun x=>hs (st i x hi),a.get i hi hs],Nat.le_trans a.next b.next,fun w w1 w2 w3=>?_,fun x=>b.hb (a.hb x)⟩
 refine b.mw w (a.mw w w1 w2 w3) (Nat.le_trans w2 a.next) fun i hi=>?_
 by_cases hl:i<h1.next
 ·exact w3 i (st i hi hl)
 ·omega
theorem Ext.to(a:Ext h h'):A6 S h h':=a.mono fun _ x=>x.elim
theorem A6.new(h:Aa)(o:Cx):A6 S h (h.new o):=
 ⟨fun i hi _=>Bn o hi,by rw[Aa.D7];omega,fun w w1 _ _=>by rw[Aa.A3x];exact w1,fun x=>x.new o⟩
theorem A6.put(h:Aa){i:Nat}(hi:S i\/h.next<=i)(hn:HB h->i<h.next)(o:Cx):A6 S h (h.put i o):=by
 refine⟨fun j hj hs=>Am o fun e=>?_,by rw[Aa.Aa8];exact Nat.le_refl _,fun w w1 w2 w3=>?_,fun x=>x.put (hn x) o⟩
 ·subst e;rcases hi with hi|hi
  ·exact hs hi
  ·omega
 ·rw[Aa.Zy]
  rcases hi with hi|hi
  ·have:=w3 i hi;omega
  ·omega
theorem A6.del(h:Aa){i:Nat}(hi:S i\/h.next<=i):A6 S h (h.del i):=by
 refine⟨fun j hj hs=>Asi fun e=>?_,by rw[Aa.Ake];exact Nat.le_refl _,fun w w1 w2 w3=>?_,fun x=>x.del i⟩
 ·subst e;rcases hi with hi|hi
  ·exact hs hi
  ·omega
 ·rw[Aa.Aji]
  rcases hi with hi|hi
  ·have:=w3 i hi;omega
  ·omega
theorem A6.A3 {h0:Aa}(x:A6 S h0 h){i:Nat}(hi:S i\/h0.next<=i)(hn:i<h.next)(o:Cx):A6 S h0 (h.put i o):=
 x.then (T:=fun j=>j=i) (A6.put (S:=fun j=>j=i) h (.inl rfl) (fun _=>hn) o) fun j hj hl=>by
  have e:j=i:=hj
  subst e
  rcases hi with hi|hi
  ·exact hi
  ·omega
theorem A6.Gw {h0:Aa}(x:A6 S h0 h)(o:Cx):A6 S h0 (h.new o):=x.trans (A6.new _ _)
theorem A6.at(c:A6 S h h')(hb:HB h){i:Nat}{o:Cx}(g:h.get i=some o)(hn:¬ S i):h'.get i=some o:=by rw[c.get i (hb i o g) hn];exact g
theorem Ext.at(c:Ext h h')(hb:HB h){i:Nat}{o:Cx}(g:h.get i=some o):h'.get i=some o:=A6.at c hb g id
theorem Bf {i j:Nat}{o o':Cx}(a:h.get i=some o)(b:h.get j=some o')(n:o ≠ o'):i ≠ j:=fun e=>n (by rw[e,b]at a;cases a;rfl)
noncomputable def Aa.lift(h:Aa):Aa:=⟨h.t,h.next,h.next⟩
structure Afh(h h':Aa):Prop where
 get:∀ i,h'.get i=h.get i
 next:h'.next=h.next
theorem T7(h:Aa)(i:Nat):h.get i=h.t.get i:=by cases h;rfl
theorem Cj(h:Aa)(i:Nat):h.lift.get i=h.get i:=by rw[T7,T7];rfl
theorem Wk(h:Aa):h.lift.next=h.next:=rfl
theorem E8 {h:Aa}(a:HB h):HB h.lift:=fun q o e=>a q o (by rw[<-Cj];exact e)
theorem Afh.lift(h:Aa):Afh h h.lift:=⟨Cj h,rfl⟩
theorem Afh.hb {h h':Aa}(a:Afh h h')(b:HB h):HB h':=fun q o e=>by rw[a.next];exact b q o (by rw[<-a.get];exact e)
section
variable {i b:Nat}{s:DX}{h:Aa}{call:Aa->R}{k:EV->Aa->DX->R}{P Q:EV->Aa->Prop}
theorem Ok.Ct(hb:Po b s=true)(hl:loose b s.nw = [])(hc:Ok (call h.lift) P)(he:∀ v h1,P v h1->Ext h.lift h1)
 (hk:∀ v h1 h2,P v h1->Afh h1 h2->Ext h h2->Ok (k v h2 (s.Sl i)) Q):Ok (Ct i b s h call k) Q:=by
 obtain⟨v,h1,e,p⟩:=hc
 have x:=he v h1 p
 have hf:Ei b s h=h.lift:=by unfold Ei;rw[hl];rfl
 have hm:h.next<=h1.mw:=x.mw h.next (Nat.le_refl _) (Nat.le_refl _) fun _ y=>y.elim
 have hE:Ev.Ct i b s h call k=k v ⟨h1.t,h1.next,h.mw⟩ (s.Sl i):=by
  show An (Po b s) (Ev.Aj (call (Ei b s h)) fun v h'=>G3 i b s h h' fun s h=>k v h s) none=_
  rw[hb,Ak,hf,e]
  show G3 i b s h h1 (fun s h=>k v h s)=_
  unfold G3
  rw[Nat.ble_eq_true_of_le hm,Ak,hl];rfl
 rw[hE]
 refine hk v h1 _ p ⟨fun i=>by rw[T7,T7],rfl⟩ ⟨fun i hi hn=>?_,x.next,fun w w1 _ _=>w1,fun y=>?_⟩
 ·rw[T7];show h1.t.get i=_;rw[<-T7,x.get i hi hn,Cj]
 ·exact Afh.hb (h:=h1) ⟨fun i=>by rw[T7,T7],rfl⟩ (x.hb (E8 y))
theorem Ok.Ak5(hb:Po b s=true)(hl:loose b s.nw = [])(hr:∀ w,O4 b w s.Cn=true)(hc:Ok (call h.lift) P)(he:∀ v h1,P v h1->A6 S h.lift h1)
 (hk:∀ v h1 h2 s',P v h1->Afh h1 h2->A6 S h h2->(s'=s.Sl i\/∃ w,s'=s.Ao8 i w/\w=h1.mw)->Ok (k v h2 s') Q):Ok (Ev.Ct i b s h call k) Q:=by
 obtain⟨v,h1,e,p⟩:=hc
 have x:=he v h1 p
 have hf:Ei b s h=h.lift:=by unfold Ei;rw[hl];rfl
 have hE:Ev.Ct i b s h call k=G3 i b s h h1 fun s h=>k v h s:=by
  show An (Po b s) (Ev.Aj (call (Ei b s h)) fun v h'=>G3 i b s h h' fun s h=>k v h s) none=_
  rw[hb,Ak,hf,e];rfl
 rw[hE]
 unfold G3
 rw[hl]
 have sm:∀ w,Afh h1 ⟨h1.t,h1.next,w⟩:=fun w=>⟨fun i=>by rw[T7,T7],rfl⟩
 have hg:∀ w i,i<h.next->¬ S i->(⟨h1.t,h1.next,w⟩:Aa).get i=h.get i:=fun w i hi hn=>by
  rw[(sm w).get,x.get i hi hn,Cj]
 cases hle:Nat.ble h.next h1.mw with
 | true=>
  rw[Ak]
  exact hk v h1 _ _ p (sm _) ⟨hg _,x.next,fun w w1 _ _=>w1,fun y=>(sm _).hb (x.hb (E8 y))⟩ (.inl rfl)
 | false=>
  rw[Ax,hr,Ak]
  refine hk v h1 _ _ p (sm _) ⟨hg _,x.next,fun w w1 w2 w3=>?_,fun y=>(sm _).hb (x.hb (E8 y))⟩ (.inr ⟨_,rfl,rfl⟩)
  have:=x.mw w w2 w2 w3
  show w<=An (Nat.ble h.mw h1.mw) h.mw h1.mw
  rw[A1];split <;> assumption
theorem As {i b base q o:Nat}{s:DX}{k:DX->R}(hq:q<base)(hc:An (Dz b q s.st) (Qi b q s.W7) false=true):Bm i b base (.ptr q o) s k=k (s.ld i q):=by
 show An (Aaw b base q s) _ none=_
 unfold Aaw
 rw[Nat.ble_eq_true_of_le (show Nat.succ q<=base from hq),Ak,hc,Ak]
theorem U9 {i b q o:Nat}{s:DX}{k:DX->R}(hc:Ag3 b q s=true):Afl i b (.ptr q o) s k=k (s.Wq i q):=by
 show An (Ag3 b q s) _ none=_
 rw[hc,Ak]
end
section
variable {i o c n s j len:Nat}{h:Aa}{l l':List EV}{t:TypeId}{v:EV}{k:EV->R}{kh:EV->Aa->R}
noncomputable def rowOf:Cx->Option (List EV)
 | .cells l _=>some l
 | .vec l _ _=>some l
 | _=>none
theorem Az {x:Cx}(hg:h.get i=some x)(hr:rowOf x=some l)(hv:l[o]? = some v):Aq (.ptr i o) h k=k v:=by
 show oB _ (Ahp (h.get i) o 1)=_
 rw[hg]
 have hc:N0 l o 1=some [v]:=by
  obtain⟨h1,h2⟩:=List.getElem?_eq_some_iff.1 hv
  rw[K2 (by omega),List.drop_eq_getElem_cons h1,h2];rfl
 cases x <;> first|(cases hr;done)|(cases hr;show oB _ (N0 l o 1)=_;rw[hc];rfl)
theorem Vq {q off ln rm sz:Nat}{op:Bool}{kd:IntKind}(hj:j<ln):I5 sz (.slice q off ln rm op) (.int kd (j:Int)) k=k (.ptr q (off+j*sz)):=A1n hj k kd
theorem Gk {x:Cx}(hg:h.get i=some x)(hr:rowOf x=some l)(hv:N0 l o n=some l'):Cm n (.ptr i o) h k=k (.agg l'):=by
 show oB _ (Ahp (h.get i) o n)=_
 rw[hg]
 cases x <;> first|(cases hr;done)|(cases hr;show oB _ (N0 l o n)=_;rw[hv];rfl)
theorem Ar7 {kk:Aa->R}(hg:h.get i=some (.cells l t))(hp:v.plain=true)(hn:Jz v.cells=n)(hl:Jl l o v.cells=some l'):Jq n (.ptr i o) v h kk=kk (h.put i (.cells l' t)):=by
 show An v.plain (An (Nat.beq (Jz v.cells) n) (Sv h i (fun l=>Jl l o v.cells) kk) none) none=_
 rw[hp,Ak,hn,Nat.beq_refl,Ak,Ak4 hg,hl];rfl
theorem A19 {kk:Aa->R}{z:Nat}(hg:h.get i=some (.vec l t z))(hp:v.plain=true)(hn:Jz v.cells=n)(hl:Jl l o v.cells=some l'):Jq n (.ptr i o) v h kk=kk (h.put i (.vec l' t z)):=by
 show An v.plain (An (Nat.beq (Jz v.cells) n) (Sv h i (fun l=>Jl l o v.cells) kk) none) none=_
 rw[hp,Ak,hn,Nat.beq_refl,Ak]
 unfold Sv;rw[hg];simp only;rw[hl];rfl
theorem Ok.st {kk:Aa->R}{Q:EV->Aa->Prop}(l':List EV)(hg:h.get i=some (.cells l t))(hp:v.plain=true)(hn:Jz v.cells=n)(hl:Jl l o v.cells=some l')(hk:Ok (kk (h.put i (.cells l' t))) Q):Ok (Jq n (.ptr i o) v h kk) Q:=by
 rw[Ar7 hg hp hn hl];exact hk
theorem Ok.st1 {kk:Aa->R}{Q:EV->Aa->Prop}(hg:h.get i=some (.cells l t))(hp:v.plain=true)(hc:v.cells = [v])(ho:o<l.length)(hk:Ok (kk (h.put i (.cells (l.set o v) t))) Q):Ok (Jq 1 (.ptr i o) v h kk) Q:=by
 rw[Ar7 hg hp (by rw[hc];rfl) (by rw[hc];exact Amm v l o ho)];exact hk
theorem Ajw {a b:EV}{x:Bool}:B2 (.bool x) a b k=An x (k a) (k b):=rfl
theorem A2 {h':Aa}:Aj (some (v,h')) kh=kh v h':=rfl
theorem Nn {q off ln sz:Nat}{kd:IntKind}(hj:j<ln):Uj ln sz (.ptr q off) (.int kd (j:Int)) k=k (.ptr q (off+j*sz)):=by
 show An (Nat.ble (Nat.succ j) ln) _ none=_
 rw[Nat.ble_eq_true_of_le hj,Ak];rfl
theorem Avq {kd kd':IntKind}{x:Int}:Pn kd (.int kd' x) k=k (.int kd (Dc kd x)):=rfl
theorem A0e {kd:IntKind}{x:Int}:Ane (.int kd x) k=k (.int kd (Dc kd (0-x))):=rfl
theorem Ca {place:Nat->Option (Nat × Nat)}{z:List EV}{ps:List (Nat × EV)}(hf:Uv place ps z=some l):C4 place z ps k=k (.agg l):=by
 unfold C4;rw[hf];rfl
theorem Aw {l:List EV}{n:Nat}(hn:l.length=n):N0 l 0 n=some l:=by
 subst hn;rw[K2 (by omega),List.drop_zero,List.take_length]
theorem Cu {n:Int}(h1 : -9223372036854775808<=n)(h2:n<=9223372036854775807):Dc .i64 n=n:=Amx h1 (by omega)
end
theorem A1g {b:Int}{T:D1}{t:Nat}{a:Int}{k:EV->R}(hb:0<b)(h1:0<=a)(h2:a<9223372036854775808):Ng (bin T .quo t) (.int .i64 a) (.int .i64 b) k=k (.int .i64 (a / b)):=by
 obtain⟨n,rfl⟩:=Int.eq_ofNat_of_zero_le (Int.le_of_lt hb)
 show oB k (An (eqB (.ofNat n) 0) none (some (.int .i64 (Dc .i64 (a.tdiv (.ofNat n))))))=_
 have:eqB (.ofNat n) 0=false:=by
  show Nat.beq n 0=false
  cases n with
  | zero=>exact absurd hb (by decide)
  | succ n=>rfl
 rw[this,Ax]
 have e:a.tdiv (.ofNat n)=a / n:=Int.tdiv_eq_ediv_of_nonneg h1
 have h3:a / (n:Int)<=a:=Int.ediv_le_self _ h1
 have h4:0<=a / (n:Int):=Int.ediv_nonneg h1 (by omega)
 rw[e,Amx (by omega) (by omega)];rfl
section
variable {v v' w w' a a' b b' x':EV}{x y r r':R}{h h':Aa}{k:EV->R}{kh:EV->Aa->R}{kk:Aa->R}{kd:DX->R}{kb:Nat->DX->R}{ke:EV->Aa->DX->R}
@[congr] theorem Ok.c {Q:EV->Aa->Prop}(e:r=r'):Ok r Q=Ok r' Q:=by rw[e]
@[congr] theorem An.c {α:Type}{p q:Bool}{x y:α}(e:p=q):An p x y=An q x y:=by rw[e]
@[congr] theorem oB.c {α β:Type}{k:α->Option β}{p q:Option α}(e:p=q):oB k p=oB k q:=by rw[e]
@[congr] theorem Aj.c(e:r=r'):Aj r kh=Aj r' kh:=by rw[e]
@[congr] theorem Aq.c(e:v=v'):Aq v h k=Aq v' h k:=by rw[e]
@[congr] theorem Cm.c {n:Nat}(e:v=v'):Cm n v h k=Cm n v' h k:=by rw[e]
@[congr] theorem Jq.c {n:Nat}(e:a=a')(e':v=v'):Jq n a v h kk=Jq n a' v' h kk:=by rw[e,e']
@[congr] theorem J6.c {o o':Cx}(e:o=o'):J6 o h kh=J6 o' h kh:=by rw[e]
@[congr] theorem Dx.c {t:Nat}(e:v=v'):Dx t v h kh=Dx t v' h kh:=by rw[e]
@[congr] theorem Ar.c {g:IG}{f:EV->EV->Option EV}(e:v=v')(e':w=w'):Ar g f v w k=Ar g f v' w' k:=by rw[e,e']
@[congr] theorem Ng.c {f:EV->EV->Option EV}(e:v=v')(e':w=w'):Ng f v w k=Ng f v' w' k:=by rw[e,e']
@[congr] theorem B2.c(e:v=v'):B2 v a b k=B2 v' a b k:=by rw[e]
@[congr] theorem Mp.c(e:v=v'):Mp v k=Mp v' k:=by rw[e]
@[congr] theorem Ane.c(e:v=v'):Ane v k=Ane v' k:=by rw[e]
@[congr] theorem Bp.c(e:v=v'):Bp v k=Bp v' k:=by rw[e]
@[congr] theorem Ao.c {n:Nat}(e:v=v'):Ao n v k=Ao n v' k:=by rw[e]
@[congr] theorem Uj.c {n m:Nat}(e:v=v')(e':w=w'):Uj n m v w k=Uj n m v' w' k:=by rw[e,e']
@[congr] theorem I5.c {n:Nat}(e:v=v')(e':w=w'):I5 n v w k=I5 n v' w' k:=by rw[e,e']
@[congr] theorem Ayq.c {n m q:Nat}{g:Bool}(e:v=v')(e':w=w'):Ayq n m g q v w k=Ayq n m g q v' w' k:=by rw[e,e']
@[congr] theorem Acz.c {n m:Nat}{g:Bool}(e:v=v'):Acz n g m v k=Acz n g m v' k:=by rw[e]
@[congr] theorem Pn.c {c:IntKind}(e:v=v'):Pn c v k=Pn c v' k:=by rw[e]
@[congr] theorem Cy.c {n:Nat}(e:v=v'):Cy n v k=Cy n v' k:=by rw[e]
@[congr] theorem I4.c(e:v=v'):I4 v k=I4 v' k:=by rw[e]
@[congr] theorem Afa.c {n:Nat}(e:v=v'):Afa n v k=Afa n v' k:=by rw[e]
@[congr] theorem C4.c {place:Nat->Option (Nat × Nat)}{z:List EV}{ps ps':List (Nat × EV)}(e:ps=ps'):C4 place z ps k=C4 place z ps' k:=by rw[e]
@[congr] theorem Ao0.c {n:Nat}{lo lo' hi hi' mx mx':Option EV}(e:v=v')(e1:lo=lo')(e2:hi=hi')(e3:mx=mx'):Ao0 n v lo hi mx k=Ao0 n v' lo' hi' mx' k:=by rw[e,e1,e2,e3]
@[congr] theorem Zj.c {n m:Nat}{lo lo' hi hi' mx mx':Option EV}(e:v=v')(e1:lo=lo')(e2:hi=hi')(e3:mx=mx'):Zj n m v lo hi mx k=Zj n m v' lo' hi' mx' k:=by rw[e,e1,e2,e3]
@[congr] theorem Et.c(e:v=v'):Et v x y=Et v' x y:=by rw[e]
@[congr] theorem Gf.c(e:h=h'):Gf h kb=Gf h' kb:=by rw[e]
@[congr] theorem Bm.c {i b base:Nat}{s:DX}(e:v=v'):Bm i b base v s kd=Bm i b base v' s kd:=by rw[e]
@[congr] theorem Afl.c {i b:Nat}{s:DX}(e:v=v'):Afl i b v s kd=Afl i b v' s kd:=by rw[e]
@[congr] theorem Aax.c {i:Nat}{s s':DX}(e:s=s'):Aax i h s kd=Aax i h s' kd:=by rw[e]
@[congr] theorem Ct.c {i b:Nat}{s s':DX}{call:Aa->R}(e:s=s'):Ct i b s h call ke=Ct i b s' h call ke:=by rw[e]
@[congr] theorem Xd.c {c:Ac}{T:D1}{g n i:Nat}{tm:Ag}{ds:List Nat}{k1:Aa->List Nat->R}{k2:Nat->Aa->List Nat->R}{k3:Aa->List Nat->R}(e:v=v'):Xd c T g n i v tm h ds k1 k2 k3=Xd c T g n i v' tm h ds k1 k2 k3:=by rw[e]
@[congr] theorem Aiu.c {c:Ac}{T:D1}{g n i l0:Nat}{tm:Ag}{ds:List Nat}{k1:Aa->List Nat->R}{k2:Nat->Aa->List Nat->R}{k3:Aa->List Nat->R}(e:v=v'):Aiu c T g n i l0 v tm h ds k1 k2 k3=Aiu c T g n i l0 v' tm h ds k1 k2 k3:=by rw[e]
@[congr] theorem Fj.c {l:Nat}(e:h=h'):Fj l h kk=Fj l h' kk:=by rw[e]
end
theorem Cn {h:Aa}{i:Nat}{x:Cx}{l:List EV}(hg:h.get i=some x)(hr:rowOf x=some l):∀ (o:Nat) (k:EV->R),Aq (.ptr i o) h k=oB k l[o]?:=by
 intro o k
 cases hv:l[o]? with
 | some v=>exact Az hg hr hv
 | none=>
  show oB _ (Ahp (h.get i) o 1)=_
  rw[hg]
  have hl:l.length<=o:=List.getElem?_eq_none_iff.1 hv
  have hc:N0 l o 1=none:=by
   rw[Vc,Km,List.drop_eq_nil_of_le hl];rfl
  cases x <;> first|(cases hr;done)|(cases hr;show oB _ (N0 l o 1)=_;rw[hc];rfl)
theorem F2 {h:Aa}{i:Nat}{x:Cx}{l:List EV}(hg:h.get i=some x)(hr:rowOf x=some l):∀ (n o:Nat) (k:EV->R),Cm n (.ptr i o) h k=oB (fun l=>k (.agg l)) (N0 l o n):=by
 intro n o k
 show oB _ (Ahp (h.get i) o n)=_
 rw[hg]
 cases x <;> first|(cases hr;done)|(cases hr;rfl)
theorem Ab:
 (∀ (i o:Nat) (k:EV->R),Bp (.ptr i o) k=k (.ptr i o))/\(∀ (c i o:Nat) (k:EV->R),Ao c (.ptr i o) k=k (.ptr i (o+c))) /\
 (∀ (o:Cx) (h:Aa) (k:EV->Aa->R),J6 o h k=k (.ptr h.next 0) (h.new o)) /\
 (∀ (t:Nat) (c:IntKind) (n:Int) (h:Aa) (k:EV->Aa->R),Dx t (.int c n) h k=k (.ptr h.next 0) (h.new (.cells [.int c n] t))) /\
 (∀ (t:Nat) (l:List EV) (h:Aa) (k:EV->Aa->R),Dx t (.agg l) h k=k (.ptr h.next 0) (h.new (.cells l t))) /\
 (∀ (t i o:Nat) (h:Aa) (k:EV->Aa->R),Dx t (.ptr i o) h k=k (.ptr h.next 0) (h.new (.cells [.ptr i o] t))) /\
 (∀ (t i o n m:Nat) (p:Bool) (h:Aa) (k:EV->Aa->R),Dx t (.slice i o n m p) h k=k (.ptr h.next 0) (h.new (.cells [.slice i o n m p] t))) /\
 (∀ (t:Nat) (h:Aa) (k:EV->Aa->R),Dx t .Af h k=k (.ptr h.next 0) (h.new (.cells [.Af] t))) /\
 (∀ (x:Bool) (a b:EV) (k:EV->R),B2 (.bool x) a b k=An x (k a) (k b)) /\
 (∀ (x:Bool) (k:EV->R),Mp (.bool x) k=An x (k (.bool false)) (k (.bool true))) /\
 (∀ (x:Bool) (a b:R),Et (.bool x) a b=An x a b) /\
 (∀ (k:EV->R),I4 .Af k=k (.int .i64 0))/\(∀ (q off ln rm:Nat) (op:Bool) (k:EV->R),I4 (.slice q off ln rm op) k=k (.int .i64 (ln:Int))) /\
 (∀ (o:Nat) (l:List EV) (k:EV->R),Cy o (.tuple l) k=oB k l[o]?) /\
 (∀ (h:Aa) (k:Nat->DX->R),Gf h k=k h.next ⟨0,[],[],[],[]⟩)/\(∀ (i:Nat) (h:Aa) (s:DX) (k:DX->R),Aax i h s k=k (s.new i h.next)) /\
 (∀ (v:EV) (h:Aa) (k:EV->Aa->R),Aj (some (v,h)) k=k v h) /\
 (∀ (o:Nat) (l:List EV) (k:EV->R),Acz o false 0 (.agg l) k=oB k l[o]?) /\
 (∀ (c c':IntKind) (n:Int) (k:EV->R),Pn c (.int c' n) k=k (.int c (Dc c n))) /\
 (∀ (x y:R),An true x y=x)/\(∀ (x y:R),An false x y=y)/\(An true true false=true)/\(An false true false=false)/\(An true false true=false)/\(An false false true=true)/\Y2 true=false/\Y2 false=true /\
 (∀ (k:EV->R) (v:EV),oB k (some v)=k v)/\(∀ (h:Aa) (v:EV),Jh TT [.v v] h=some (v,h))/\(∀ (h:Aa) (v w:EV),Jh TT [.v v,.v w] h=some (.tuple [v,w],h))/\(∀ (h:Aa) (v w x:EV),Jh TT [.v v,.v w,.v x] h=some (.tuple [v,w,x],h)) /\
 (∀ (h:Aa) (k:Aa->R),Eh [] h k=k h)/\(∀ (p:EV) (r:List EV),(p::r)[0]? = some p)/\(∀ (p:EV) (r:List EV) (n:Nat),(p::r)[n+1]? = r[n]?)/\(∀ n:Nat,0+n=n)/\(∀ (k:List EV->R) (l:List EV),oB k (some l)=k l):=
 ⟨fun _ _ _=>rfl,fun _ _ _ _=>rfl,fun _ _ _=>rfl,fun _ _ _ _ _=>rfl,fun _ _ _ _=>rfl,fun _ _ _ _ _=>rfl,fun _ _ _ _ _ _ _ _=>rfl,fun _ _ _=>rfl,fun _ _ _ _=>rfl,fun _ _=>rfl,fun _ _ _=>rfl,
  fun _=>rfl,fun _ _ _ _ _ _=>rfl,fun o l k=>by show oB k (Ag0 l o)=_;rw[Aed],fun _ _=>rfl,fun _ _ _ _=>rfl,fun _ _ _=>rfl,fun o l k=>by show oB k (Ag0 l o)=_;rw[Aed],fun _ _ _ _=>rfl,
  fun _ _=>rfl,fun _ _=>rfl,rfl,rfl,rfl,rfl,rfl,rfl,fun _ _=>rfl,fun _ _=>rfl,fun _ _ _=>rfl,fun _ _ _ _=>rfl,fun _ _=>rfl,fun _ _=>rfl,fun _ _ _=>rfl,Nat.zero_add,fun _ _=>rfl⟩
theorem Bh:
 (∀ (s:DX) (i q:Nat),s.ld i q=⟨s.bg,s.nw,(Nat.shiftLeft 1 i,q)::s.Cn,s.W7,s.st⟩)/\(∀ (s:DX) (i q:Nat),s.new i q=⟨s.bg,(Nat.shiftLeft 1 i,q)::s.nw,s.Cn,s.W7,s.st⟩) /\
 (∀ (s:DX) (i:Nat),s.Sl i=⟨Nat.lor s.bg (Nat.shiftLeft 1 i),s.nw,s.Cn,s.W7,s.st⟩)/\(∀ (b q:Nat),Dz b q []=true)/\(∀ (b q:Nat),Qi b q []=true):=
 ⟨fun _ _ _=>rfl,fun _ _ _=>rfl,fun _ _=>rfl,fun _ _=>rfl,fun _ _=>rfl⟩
theorem Ah:
 (∀ (g:IG) (f:EV->EV->Option EV) (x y:Int) (k:EV->R),Ar g f (.int .i64 x) (.int .i64 y) k=k (g .i64 x y)) /\
 (∀ (c:IntKind) (a b:Int),G4 c a b=.bool (decide (a<b)))/\(∀ (c:IntKind) (a b:Int),Ad9 c a b=.bool (decide (a<=b))) /\
 (∀ (c:IntKind) (a b:Int),Y8 c a b=.bool (decide (b<a)))/\(∀ (c:IntKind) (a b:Int),Wa c a b=.bool (decide (b<=a))) /\
 (∀ (c:IntKind) (a b:Int),Jg c a b=.bool (decide (a=b)))/\(∀ (c:IntKind) (a b:Int),Jr c a b=.bool (decide (¬ a=b))) /\
 (∀ (c:IntKind) (a b:Int),Hh c a b=.int c (Dc c (a+b)))/\(∀ (c:IntKind) (a b:Int),Sx c a b=.int c (Dc c (a-b)))/\(∀ (c:IntKind) (a b:Int),Q4 c a b=.int c (Dc c (a*b))) /\
 (∀ (b w:Bool),Au (.bool b) w=An b w (Y2 w))/\(∀ w,Au (.tuple []) w=false):=
 ⟨fun _ _ _ _ _=>rfl,fun _ a b=>by rw[A11,Ae3],fun _ a b=>by rw[A00,Ae3,Aiz];congr 1;exact decide_eq_decide.2 (by omega),
  fun _ a b=>by rw[A1f,Ae3],fun _ a b=>by rw[A2g,Ae3,Aiz];congr 1;exact decide_eq_decide.2 (by omega),
  fun _ a b=>by rw[A17,Anf],fun _ a b=>by rw[A16,Anf,Aiz],
  fun _ a b=>by rw[A2c,Axd],fun _ a b=>by unfold Sx;rw[Ar5],fun _ a b=>rfl,fun _ _=>rfl,fun _=>rfl⟩
end Go.Ev

namespace Go.Ev
variable {h h':Aa}
def Bx(h:Aa)(s:EV)(q:Nat)(e:TypeId)(sz len:Nat)(l:List EV):Prop:=
 (len=0/\l = []/\(s=.Af\/∃ b,s=.slice b 0 0 0 false))\/(0<len/\s=.slice q 0 len len true/\h.get q=some (.vec l e sz)/\l.length=len*sz)
theorem Bx.nil(h:Aa)(q:Nat)(e:TypeId)(sz:Nat):Bx h .Af q e sz 0 []:=.inl ⟨rfl,rfl,.inl rfl⟩
theorem Bx.empty(h:Aa)(b q:Nat)(e:TypeId)(sz:Nat):Bx h (.slice b 0 0 0 false) q e sz 0 []:=.inl ⟨rfl,rfl,.inr ⟨_,rfl⟩⟩
theorem Bx.frame {s:EV}{q:Nat}{e:TypeId}{sz len:Nat}{l:List EV}(r:Bx h s q e sz len l)(g:0<len->h'.get q=h.get q):Bx h' s q e sz len l:=by
 rcases r with r|⟨a,b,c,d⟩
 ·exact .inl r
 ·exact .inr ⟨a,b,by rw[g a];exact c,d⟩
theorem Bx.len {s:EV}{q:Nat}{e:TypeId}{sz len:Nat}{l:List EV}(r:Bx h s q e sz len l):lenOf s=some len:=by
 rcases r with ⟨rfl,_,rfl|⟨_,rfl⟩⟩|⟨_,rfl,_⟩ <;> rfl
theorem Bx.I4 {s:EV}{q:Nat}{e:TypeId}{sz len:Nat}{l:List EV}(r:Bx h s q e sz len l)(k:EV->R):Ev.I4 s k=k (.int .i64 (len:Int)):=by
 unfold Ev.I4;rw[r.len];rfl
theorem Bx.plain {s:EV}{q:Nat}{e:TypeId}{sz len:Nat}{l:List EV}(r:Bx h s q e sz len l):s.plain=true/\s.cells = [s]:=by
 rcases r with ⟨rfl,_,rfl|⟨_,rfl⟩⟩|⟨_,rfl,_⟩ <;> exact⟨rfl,rfl⟩
theorem Bx.size {s:EV}{q:Nat}{e:TypeId}{sz len:Nat}{l:List EV}(r:Bx h s q e sz len l):l.length=len*sz:=by
 rcases r with ⟨rfl,rfl,_⟩|⟨_,_,_,d⟩
 ·rw[Nat.zero_mul];rfl
 ·exact d
theorem Bx.ix {s:EV}{q:Nat}{e:TypeId}{sz len:Nat}{l:List EV}(r:Bx h s q e sz len l){j:Nat}(hj:j<len)(kd:IntKind)(k:EV->R):I5 sz s (.int kd (j:Int)) k=k (.ptr q (j*sz)):=by
 rcases r with ⟨rfl,_,_⟩|⟨_,rfl,_,_⟩
 ·omega
 ·rw[Vq hj,Nat.zero_add]
theorem Bx.block {s:EV}{q:Nat}{e:TypeId}{sz len:Nat}{l:List EV}(r:Bx h s q e sz len l)(hl:0<len):h.get q=some (.vec l e sz):=by
 rcases r with ⟨rfl,_,_⟩|⟨_,_,c,_⟩
 ·omega
 ·exact c
theorem Bx.slice {s:EV}{q:Nat}{e:TypeId}{sz len:Nat}{l:List EV}(r:Bx h s q e sz len l)(hl:0<len):s=.slice q 0 len len true:=by
 rcases r with ⟨rfl,_,_⟩|⟨_,c,_⟩
 ·omega
 ·exact c
theorem Qb {s x:EV}{q:Nat}{e:TypeId}{sz len n:Nat}{l new:List EV}(r:Bx h s q e sz len l)(hx:lenOf x=some n)(hn:0<n)(hn':n<=65536)(hl:len<=65536)(hc:M0 h sz n x=some new)(hs:new.length=n*sz):
 ∃ h',C8 e sz s x h=some (.slice h.next 0 (len+n) (len+n) true,h')/\Bx h' (.slice h.next 0 (len+n) (len+n) true) h.next e sz (len+n) (l++new)/\h'.next=h.next+1/\A6 (fun i=>0<len/\i=q) h h':=by
 have e0:Nat.beq n 0=false:=by cases n with|zero=>omega|succ n=>rfl
 rcases r with ⟨rfl,rfl,rfl|⟨b,rfl⟩⟩|⟨hp,rfl,hq,hlen⟩
 ·refine⟨h.new (.vec new e sz),?_,.inr ⟨by omega,rfl,?_,by rw[List.nil_append,Nat.zero_add];exact hs⟩,rfl,A6.new _ _⟩
  ·unfold C8
   simp only[hx,Su,e0,Ax,hc,Nat.ble_eq_true_of_le hn',Ak,Nat.zero_add]
  ·rw[Ae];rfl
 ·have e2:Nat.ble (Nat.add 0 n) 0=false:=by cases n with|zero=>omega|succ n=>show Nat.ble (0+(n+1)) 0=false;rw[Nat.zero_add];rfl
  have e3:M0 h sz 0 (.slice b 0 0 0 false)=some []:=rfl
  refine⟨h.new (.vec new e sz),?_,.inr ⟨by omega,rfl,?_,by rw[List.nil_append,Nat.zero_add];exact hs⟩,rfl,A6.new _ _⟩
  ·unfold C8
   simp only[hx,Su,e0,Ax,hc,e3,e2,Nat.ble_eq_true_of_le hn',Nat.ble_eq_true_of_le hl,Ak]
   rfl
  ·rw[Ae];rfl
 ·have hs2:M0 h sz len (.slice q 0 len len true)=some l:=by
   show An (Nat.beq len 0) (some []) (Tv h q 0 (Nat.mul len sz))=_
   have:Nat.beq len 0=false:=by cases len with|zero=>omega|succ n=>rfl
   rw[this,Ax]
   unfold Tv Ut
   rw[hq]
   exact Aw hlen
  refine⟨(h.del q).new (.vec (l++new) e sz),?_,.inr ⟨by omega,rfl,?_,by rw[List.length_append,hlen,hs,Nat.add_mul]⟩,rfl,?_⟩
  ·unfold C8
   simp only[hx,Su,e0,Ax,hc,hs2,hq,Nat.ble_eq_true_of_le hn',Nat.ble_eq_true_of_le hl,Ak]
   rw[show Nat.beq 0 0=true from rfl,Ak,Nat.beq_refl,Ak,Dq,hlen,show Nat.beq (len*sz) (Nat.mul len sz)=true from Nat.beq_refl _,Ak,Nat.beq_refl,Ak,Nat.beq_refl,Ak,Aei]
   rfl
  ·rw[show h.next=(h.del q).next from rfl,Ae]
  ·exact(A6.del h (.inl ⟨hp,rfl⟩)).trans (A6.new _ _)
theorem Qw {z:List EV}{e:TypeId}{sz:Nat}{v:EV}(hp:v.plain=true)(hz:z.length=sz)(hv:v.cells.length=sz)(hs:sz<=65536):B4 z e sz 1 [(0,v)] h=some (.slice h.next 0 1 1 false,h.new (.cells v.cells e)):=by
 unfold B4 Qt
 simp only
 rw[Nat.ble_eq_true_of_le (show Nat.mul 1 sz<=65536 by show 1*sz<=65536;omega),Ak]
 have hf:Uv (Aec sz) [(0,v)] (rep z 1)=some v.cells:=by
  show oB (Ae2 fun off size=>An v.plain (An (Nat.beq (Jz v.cells) size) (oB _ (Jl (rep z 1) off v.cells)) none) none) (Aec sz 0)=_
  show An v.plain (An (Nat.beq (Jz v.cells) sz) (oB _ (Jl (rep z 1) (Nat.mul 0 sz) v.cells)) none) none=_
  rw[hp,Ak,Dq,hv,Nat.beq_refl,Ak]
  have:rep z 1=z:=by show z++[]=z;rw[List.append_nil]
  rw[this,show Nat.mul 0 sz=0 from Nat.zero_mul sz,Fy (by rw[hz,hv])]
  rfl
 rw[hf];rfl
theorem O1 {b:Nat}{e:TypeId}{sz:Nat}{l:List EV}(hb:h.get b=some (.cells l e))(hl:l.length=sz):M0 h sz 1 (.slice b 0 1 1 false)=some l:=by
 show An (Nat.beq 1 0) (some []) (Tv h b 0 (Nat.mul 1 sz))=_
 rw[show Nat.beq 1 0=false from rfl,Ax]
 unfold Tv Ut
 rw[hb]
 exact Aw (by rw[hl];show sz=1*sz;omega)
theorem Mc {s v:EV}{q:Nat}{e:TypeId}{sz len:Nat}{l z:List EV}{k:EV->Aa->R}{Q:EV->Aa->Prop}(r:Bx h s q e sz len l)(hb:HB h)(hp:v.plain=true)(hz:z.length=sz)(hv:v.cells.length=sz)(hs:sz<=65536)(hl:len<=65535)
 (hk:∀ h',Bx h' (.slice (h.next+1) 0 (len+1) (len+1) true) (h.next+1) e sz (len+1) (l++v.cells)->h'.next=h.next+2->A6 (fun i=>0<len/\i=q) h h'->Ok (k (.slice (h.next+1) 0 (len+1) (len+1) true) h') Q) :
 Ok (Aj (B4 z e sz 1 [(0,v)] h) fun w h=>Aj (C8 e sz s w h) k) Q:=by
 rw[Qw hp hz hv hs,A2]
 have r1:Bx (h.new (.cells v.cells e)) s q e sz len l:=r.frame fun hl=>Bn _ (hb q _ (r.block hl))
 obtain⟨h',e1,r2,n2,c2⟩:=Qb (n:=1) (x:=.slice h.next 0 1 1 false) r1 rfl (by omega) (by omega) (by omega) (O1 (Ae _ _) hv) (by rw[hv];omega)
 rw[e1,A2]
 exact hk h' r2 n2 ((A6.new h _).trans c2)
end Go.Ev
