import Derived.Test.YtpkcfamminlmaaaGreatTab
import Derived.Test.YtpkcfamminlmaaaGreatEvSix
set_option linter.unusedVariables false
set_option linter.unusedSimpArgs false
set_option linter.unusedSectionVars false
namespace Go.Ev
def Ok(x:R)(Q:EV->Aa->Prop):Prop:=∃ v h,x=some (v,h)/\Q v h
theorem Ok.ret {v:EV}{h:Aa}{Q:EV->Aa->Prop}(q:Q v h):Ok (some (v,h)) Q:=⟨v,h,rfl,q⟩
theorem Ok.mono {x:R}{P Q:EV->Aa->Prop}(a:Ok x P)(b:∀ v h,P v h->Q v h):Ok x Q:=by
 obtain⟨v,h,e,p⟩:=a;exact⟨v,h,e,b v h p⟩
theorem Ok.Aj {x:R}{k:EV->Aa->R}{P Q:EV->Aa->Prop}(a:Ok x P)(b:∀ v h,P v h->Ok (k v h) Q):Ok (Aj x k) Q:=by
 obtain⟨v,h,e,p⟩:=a
 rw[e];exact b v h p
def HB(h:Aa):Prop:=∀ q o,h.get q=some o->q<h.next
theorem HB.new {h:Aa}(a:HB h)(o:Cs):HB (h.new o):=fun q x e=>by
 rw[Aa.Jb]at e
 split at e
 ·rename_i hq;rw[Aa.Eu];omega
 ·exact Nat.lt_succ_of_lt (a q x e)
theorem HB.put {h:Aa}(a:HB h){i:Nat}(hi:i<h.next)(o:Cs):HB (h.put i o):=fun q x e=>by
 rw[Aa.get_put]at e
 split at e
 ·rename_i hq;subst hq;exact hi
 ·exact a q x e
theorem HB.del {h:Aa}(a:HB h)(i:Nat):HB (h.del i):=fun q x e=>by
 rw[Aa.Tf]at e
 split at e
 ·cases e
 ·exact a q x e
structure A0(S:Nat->Prop)(h h':Aa):Prop where
 get:∀ i,i<h.next->¬ S i->h'.get i=h.get i
 next:h.next<=h'.next
 mw:∀ w,w<=h.mw->w<=h.next->(∀ i,S i->w<=i)->w<=h'.mw
 hb:HB h->HB h'
abbrev Ext:Aa->Aa->Prop:=A0 fun _=>False
variable {S T:Nat->Prop}{h h' h1 h2 h3:Aa}
theorem A0.refl(h:Aa):A0 S h h:=⟨fun _ _ _=>rfl,Nat.le_refl _,fun _ a _ _=>a,id⟩
theorem A0.trans(a:A0 S h1 h2)(b:A0 S h2 h3):A0 S h1 h3:=
 ⟨fun i hi hs=>by rw[b.get i (Nat.lt_of_lt_of_le hi a.next) hs,a.get i hi hs],Nat.le_trans a.next b.next,
  fun w w1 w2 w3=>b.mw w (a.mw w w1 w2 w3) (Nat.le_trans w2 a.next) w3,fun x=>b.hb (a.hb x)⟩
theorem A0.mono(a:A0 S h h')(st:∀ i,S i->T i):A0 T h h':=⟨fun i hi hs=>a.get i hi fun x=>hs (st i x),a.next,fun w w1 w2 w3=>a.mw w w1 w2 fun i hi=>w3 i (st i hi),a.hb⟩
theorem A0.then(a:A0 S h1 h2)(b:A0 T h2 h3)(st:∀ i,T i->i<h1.next->S i):A0 S h1 h3:=by
 refine⟨fun i hi hs=>by rw[b.get i (Nat.lt_of_lt_of_le hi a.next) fun x=>hs (st i x hi),a.get i hi hs],Nat.le_trans a.next b.next,fun w w1 w2 w3=>?_,fun x=>b.hb (a.hb x)⟩
 refine b.mw w (a.mw w w1 w2 w3) (Nat.le_trans w2 a.next) fun i hi=>?_
 by_cases hl:i<h1.next
 ·exact w3 i (st i hi hl)
 ·omega
theorem Ext.to(a:Ext h h'):A0 S h h':=a.mono fun _ x=>x.elim
theorem A0.new(h:Aa)(o:Cs):A0 S h (h.new o):=
 ⟨fun i hi _=>A4 o hi,by rw[Aa.Eu];omega,fun w w1 _ _=>by rw[Aa.A8y];exact w1,fun x=>x.new o⟩
theorem A0.put(h:Aa){i:Nat}(hi:S i\/h.next<=i)(hn:HB h->i<h.next)(o:Cs):A0 S h (h.put i o):=by
 refine⟨fun j hj hs=>Aq o fun e=>?_,by rw[Aa.Aer];exact Nat.le_refl _,fun w w1 w2 w3=>?_,fun x=>x.put (hn x) o⟩
 ·subst e;rcases hi with hi|hi
  ·exact hs hi
  ·omega
 ·rw[Aa.Ae5]
  rcases hi with hi|hi
  ·have:=w3 i hi;omega
  ·omega
theorem A0.del(h:Aa){i:Nat}(hi:S i\/h.next<=i):A0 S h (h.del i):=by
 refine⟨fun j hj hs=>Aw1 fun e=>?_,by rw[Aa.Apc];exact Nat.le_refl _,fun w w1 w2 w3=>?_,fun x=>x.del i⟩
 ·subst e;rcases hi with hi|hi
  ·exact hs hi
  ·omega
 ·rw[Aa.An6]
  rcases hi with hi|hi
  ·have:=w3 i hi;omega
  ·omega
theorem A0.Az {h0:Aa}(x:A0 S h0 h){i:Nat}(hi:S i\/h0.next<=i)(hn:i<h.next)(o:Cs):A0 S h0 (h.put i o):=
 x.then (T:=fun j=>j=i) (A0.put (S:=fun j=>j=i) h (.inl rfl) (fun _=>hn) o) fun j hj hl=>by
  have e:j=i:=hj
  subst e
  rcases hi with hi|hi
  ·exact hi
  ·omega
theorem A0.Fa {h0:Aa}(x:A0 S h0 h)(o:Cs):A0 S h0 (h.new o):=x.trans (A0.new _ _)
theorem A0.at(c:A0 S h h')(hb:HB h){i:Nat}{o:Cs}(g:h.get i=some o)(hn:¬ S i):h'.get i=some o:=by rw[c.get i (hb i o g) hn];exact g
theorem Ext.at(c:Ext h h')(hb:HB h){i:Nat}{o:Cs}(g:h.get i=some o):h'.get i=some o:=A0.at c hb g id
theorem Bo {i j:Nat}{o o':Cs}(a:h.get i=some o)(b:h.get j=some o')(n:o ≠ o'):i ≠ j:=fun e=>n (by rw[e,b]at a;cases a;rfl)
noncomputable def Aa.lift(h:Aa):Aa:=⟨h.t,h.next,h.next⟩
structure Aug(h h':Aa):Prop where
 get:∀ i,h'.get i=h.get i
 next:h'.next=h.next
theorem Agr(h:Aa)(i:Nat):h.get i=h.t.get i:=by cases h;rfl
theorem C5(h:Aa)(i:Nat):h.lift.get i=h.get i:=by rw[Agr,Agr];rfl
theorem Aac(h:Aa):h.lift.next=h.next:=rfl
theorem D6 {h:Aa}(a:HB h):HB h.lift:=fun q o e=>a q o (by rw[<-C5];exact e)
theorem Aug.hb {h h':Aa}(a:Aug h h')(b:HB h):HB h':=fun q o e=>by rw[a.next];exact b q o (by rw[<-a.get];exact e)
section
variable {i b:Nat}{s:DX}{h:Aa}{call:Aa->R}{k:EV->Aa->DX->R}{P Q:EV->Aa->Prop}
theorem Ok.Ci(hb:Xy b s=true)(hl:loose b s.nw = [])(hc:Ok (call h.lift) P)(he:∀ v h1,P v h1->Ext h.lift h1)
 (hk:∀ v h1 h2,P v h1->Aug h1 h2->Ext h h2->Ok (k v h2 (s.Wn i)) Q):Ok (Ci i b s h call k) Q:=by
 obtain⟨v,h1,e,p⟩:=hc
 have x:=he v h1 p
 have hf:Ii b s h=h.lift:=by unfold Ii;rw[hl];rfl
 have hm:h.next<=h1.mw:=x.mw h.next (Nat.le_refl _) (Nat.le_refl _) fun _ y=>y.elim
 have hE:Ev.Ci i b s h call k=k v ⟨h1.t,h1.next,h.mw⟩ (s.Wn i):=by
  show As (Xy b s) (Ev.Aj (call (Ii b s h)) fun v h'=>Kk i b s h h' fun s h=>k v h s) none=_
  rw[hb,Ak,hf,e]
  show Kk i b s h h1 (fun s h=>k v h s)=_
  unfold Kk
  rw[Nat.ble_eq_true_of_le hm,Ak,hl];rfl
 rw[hE]
 refine hk v h1 _ p ⟨fun i=>by rw[Agr,Agr],rfl⟩ ⟨fun i hi hn=>?_,x.next,fun w w1 _ _=>w1,fun y=>?_⟩
 ·rw[Agr];show h1.t.get i=_;rw[<-Agr,x.get i hi hn,C5]
 ·exact Aug.hb (h:=h1) ⟨fun i=>by rw[Agr,Agr],rfl⟩ (x.hb (D6 y))
theorem Ok.Ake(hb:Xy b s=true)(hl:loose b s.nw = [])(hr:∀ w,Ts b w s.B8=true)(hc:Ok (call h.lift) P)(he:∀ v h1,P v h1->A0 S h.lift h1)
 (hk:∀ v h1 h2 s',P v h1->Aug h1 h2->A0 S h h2->(s'=s.Wn i\/∃ w,s'=s.Am4 i w/\w=h1.mw)->Ok (k v h2 s') Q):Ok (Ev.Ci i b s h call k) Q:=by
 obtain⟨v,h1,e,p⟩:=hc
 have x:=he v h1 p
 have hf:Ii b s h=h.lift:=by unfold Ii;rw[hl];rfl
 have hE:Ev.Ci i b s h call k=Kk i b s h h1 fun s h=>k v h s:=by
  show As (Xy b s) (Ev.Aj (call (Ii b s h)) fun v h'=>Kk i b s h h' fun s h=>k v h s) none=_
  rw[hb,Ak,hf,e];rfl
 rw[hE]
 unfold Kk
 rw[hl]
 have sm:∀ w,Aug h1 ⟨h1.t,h1.next,w⟩:=fun w=>⟨fun i=>by rw[Agr,Agr],rfl⟩
 have hg:∀ w i,i<h.next->¬ S i->(⟨h1.t,h1.next,w⟩:Aa).get i=h.get i:=fun w i hi hn=>by
  rw[(sm w).get,x.get i hi hn,C5]
 cases hle:Nat.ble h.next h1.mw with
 | true=>
  rw[Ak]
  exact hk v h1 _ _ p (sm _) ⟨hg _,x.next,fun w w1 _ _=>w1,fun y=>(sm _).hb (x.hb (D6 y))⟩ (.inl rfl)
 | false=>
  rw[Ax,hr,Ak]
  refine hk v h1 _ _ p (sm _) ⟨hg _,x.next,fun w w1 w2 w3=>?_,fun y=>(sm _).hb (x.hb (D6 y))⟩ (.inr ⟨_,rfl,rfl⟩)
  have:=x.mw w w2 w2 w3
  show w<=As (Nat.ble h.mw h1.mw) h.mw h1.mw
  rw[A8];split <;> assumption
theorem Au {i b base q o:Nat}{s:DX}{k:DX->R}(hq:q<base)(hc:As (Er b q s.st) (Tj b q s.lou) false=true):Bd i b base (.ptr q o) s k=k (s.ld i q):=by
 show As (Aen b base q s) _ none=_
 unfold Aen
 rw[Nat.ble_eq_true_of_le (show Nat.succ q<=base from hq),Ak,hc,Ak]
theorem R5 {i b q o:Nat}{s:DX}{k:DX->R}(hc:Ak7 b q s=true):Ad4 i b (.ptr q o) s k=k (s.sto i q):=by
 show As (Ak7 b q s) _ none=_
 rw[hc,Ak]
end
section
variable {i o c n s j len:Nat}{h:Aa}{l l':List EV}{t:TypeId}{v:EV}{k:EV->R}{kh:EV->Aa->R}
noncomputable def rowOf:Cs->Option (List EV)
 | .cells l _=>some l
 | .vec l _ _=>some l
 | _=>none
theorem Dy {x:Cs}(hg:h.get i=some x)(hr:rowOf x=some l)(hv:l[o]? = some v):Al (.ptr i o) h k=k v:=by
 show oB _ (Agt (h.get i) o 1)=_
 rw[hg]
 have hc:Of l o 1=some [v]:=by
  obtain⟨h1,h2⟩:=List.getElem?_eq_some_iff.1 hv
  rw[Ff (by omega),List.drop_eq_getElem_cons h1,h2];rfl
 cases x <;> first|(cases hr;done)|(cases hr;show oB _ (Of l o 1)=_;rw[hc];rfl)
theorem Zw {q off ln rm sz:Nat}{op:Bool}{kd:IntKind}(hj:j<ln):It sz (.slice q off ln rm op) (.int kd (j:Int)) k=k (.ptr q (off+j*sz)):=A7r hj k kd
theorem Rt {x:Cs}(hg:h.get i=some x)(hr:rowOf x=some l)(hv:Of l o n=some l'):Ca n (.ptr i o) h k=k (.agg l'):=by
 show oB _ (Agt (h.get i) o n)=_
 rw[hg]
 cases x <;> first|(cases hr;done)|(cases hr;show oB _ (Of l o n)=_;rw[hv];rfl)
theorem Ayo {kk:Aa->R}(hg:h.get i=some (.cells l t))(hp:v.plain=true)(hn:Gx v.cells=n)(hl:Ni l o v.cells=some l'):D5 n (.ptr i o) v h kk=kk (h.put i (.cells l' t)):=by
 show As v.plain (As (Nat.beq (Gx v.cells) n) (V8 h i (fun l=>Ni l o v.cells) kk) none) none=_
 rw[hp,Ak,hn,Nat.beq_refl,Ak,Apu hg,hl];rfl
theorem A73 {kk:Aa->R}{z:Nat}(hg:h.get i=some (.vec l t z))(hp:v.plain=true)(hn:Gx v.cells=n)(hl:Ni l o v.cells=some l'):D5 n (.ptr i o) v h kk=kk (h.put i (.vec l' t z)):=by
 show As v.plain (As (Nat.beq (Gx v.cells) n) (V8 h i (fun l=>Ni l o v.cells) kk) none) none=_
 rw[hp,Ak,hn,Nat.beq_refl,Ak]
 unfold V8;rw[hg];simp only;rw[hl];rfl
theorem Ok.st {kk:Aa->R}{Q:EV->Aa->Prop}(l':List EV)(hg:h.get i=some (.cells l t))(hp:v.plain=true)(hn:Gx v.cells=n)(hl:Ni l o v.cells=some l')(hk:Ok (kk (h.put i (.cells l' t))) Q):Ok (D5 n (.ptr i o) v h kk) Q:=by
 rw[Ayo hg hp hn hl];exact hk
theorem Ok.st1 {kk:Aa->R}{Q:EV->Aa->Prop}(hg:h.get i=some (.cells l t))(hp:v.plain=true)(hc:v.cells = [v])(ho:o<l.length)(hk:Ok (kk (h.put i (.cells (l.set o v) t))) Q):Ok (D5 1 (.ptr i o) v h kk) Q:=by
 rw[Ayo hg hp (by rw[hc];rfl) (by rw[hc];exact Arl v l o ho)];exact hk
theorem Ana {a b:EV}{x:Bool}:Bk (.bool x) a b k=As x (k a) (k b):=rfl
theorem A9 {h':Aa}:Aj (some (v,h')) kh=kh v h':=rfl
theorem Arz {q off ln sz:Nat}{kd:IntKind}(hj:j<ln):Adg ln sz (.ptr q off) (.int kd (j:Int)) k=k (.ptr q (off+j*sz)):=by
 show As (Nat.ble (Nat.succ j) ln) _ none=_
 rw[Nat.ble_eq_true_of_le hj,Ak];rfl
theorem A1o {kd kd':IntKind}{x:Int}:My kd (.int kd' x) k=k (.int kd (Cv kd x)):=rfl
theorem A34 {kd:IntKind}{x:Int}:Asq (.int kd x) k=k (.int kd (Cv kd (0-x))):=rfl
theorem Bi {place:Nat->Option (Nat × Nat)}{z:List EV}{ps:List (Nat × EV)}(hf:V2 place ps z=some l):Bu place z ps k=k (.agg l):=by
 unfold Bu;rw[hf];rfl
theorem Av {l:List EV}{n:Nat}(hn:l.length=n):Of l 0 n=some l:=by
 subst hn;rw[Ff (by omega),List.drop_zero,List.take_length]
theorem Cq {n:Int}(h1 : -9223372036854775808<=n)(h2:n<=9223372036854775807):Cv .i64 n=n:=Aqt h1 (by omega)
end
theorem A6j {b:Int}{T:Et}{t:Nat}{a:Int}{k:EV->R}(hb:0<b)(h1:0<=a)(h2:a<9223372036854775808):Lt (bin T .quo t) (.int .i64 a) (.int .i64 b) k=k (.int .i64 (a / b)):=by
 obtain⟨n,rfl⟩:=Int.eq_ofNat_of_zero_le (Int.le_of_lt hb)
 show oB k (As (eqB (.ofNat n) 0) none (some (.int .i64 (Cv .i64 (a.tdiv (.ofNat n))))))=_
 have:eqB (.ofNat n) 0=false:=by
  show Nat.beq n 0=false
  cases n with
  | zero=>exact absurd hb (by decide)
  | succ n=>rfl
 rw[this,Ax]
 have e:a.tdiv (.ofNat n)=a / n:=Int.tdiv_eq_ediv_of_nonneg h1
 have h3:a / (n:Int)<=a:=Int.ediv_le_self _ h1
 have h4:0<=a / (n:Int):=Int.ediv_nonneg h1 (by omega)
 rw[e,Aqt (by omega) (by omega)];rfl
section
variable {v v' w w' a a' b b' x':EV}{x y r r':R}{h h':Aa}{k:EV->R}{kh:EV->Aa->R}{kk:Aa->R}{kd:DX->R}{kb:Nat->DX->R}{ke:EV->Aa->DX->R}
@[congr] theorem Ok.c {Q:EV->Aa->Prop}(e:r=r'):Ok r Q=Ok r' Q:=by rw[e]
@[congr] theorem As.c {α:Type}{p q:Bool}{x y:α}(e:p=q):As p x y=As q x y:=by rw[e]
@[congr] theorem oB.c {α β:Type}{k:α->Option β}{p q:Option α}(e:p=q):oB k p=oB k q:=by rw[e]
@[congr] theorem Aj.c(e:r=r'):Aj r kh=Aj r' kh:=by rw[e]
@[congr] theorem Al.c(e:v=v'):Al v h k=Al v' h k:=by rw[e]
@[congr] theorem Ca.c {n:Nat}(e:v=v'):Ca n v h k=Ca n v' h k:=by rw[e]
@[congr] theorem D5.c {n:Nat}(e:a=a')(e':v=v'):D5 n a v h kk=D5 n a' v' h kk:=by rw[e,e']
@[congr] theorem Hj.c {o o':Cs}(e:o=o'):Hj o h kh=Hj o' h kh:=by rw[e]
@[congr] theorem Ea.c {t:Nat}(e:v=v'):Ea t v h kh=Ea t v' h kh:=by rw[e]
@[congr] theorem An.c {g:IG}{f:EV->EV->Option EV}(e:v=v')(e':w=w'):An g f v w k=An g f v' w' k:=by rw[e,e']
@[congr] theorem Lt.c {f:EV->EV->Option EV}(e:v=v')(e':w=w'):Lt f v w k=Lt f v' w' k:=by rw[e,e']
@[congr] theorem Bk.c(e:v=v'):Bk v a b k=Bk v' a b k:=by rw[e]
@[congr] theorem Q1.c(e:v=v'):Q1 v k=Q1 v' k:=by rw[e]
@[congr] theorem Asq.c(e:v=v'):Asq v k=Asq v' k:=by rw[e]
@[congr] theorem A7.c(e:v=v'):A7 v k=A7 v' k:=by rw[e]
@[congr] theorem Am.c {n:Nat}(e:v=v'):Am n v k=Am n v' k:=by rw[e]
@[congr] theorem Adg.c {n m:Nat}(e:v=v')(e':w=w'):Adg n m v w k=Adg n m v' w' k:=by rw[e,e']
@[congr] theorem It.c {n:Nat}(e:v=v')(e':w=w'):It n v w k=It n v' w' k:=by rw[e,e']
@[congr] theorem Ayx.c {n m q:Nat}{g:Bool}(e:v=v')(e':w=w'):Ayx n m g q v w k=Ayx n m g q v' w' k:=by rw[e,e']
@[congr] theorem Ag3.c {n m:Nat}{g:Bool}(e:v=v'):Ag3 n g m v k=Ag3 n g m v' k:=by rw[e]
@[congr] theorem My.c {c:IntKind}(e:v=v'):My c v k=My c v' k:=by rw[e]
@[congr] theorem Bv.c {n:Nat}(e:v=v'):Bv n v k=Bv n v' k:=by rw[e]
@[congr] theorem Hg.c(e:v=v'):Hg v k=Hg v' k:=by rw[e]
@[congr] theorem Aig.c {n:Nat}(e:v=v'):Aig n v k=Aig n v' k:=by rw[e]
@[congr] theorem Bu.c {place:Nat->Option (Nat × Nat)}{z:List EV}{ps ps':List (Nat × EV)}(e:ps=ps'):Bu place z ps k=Bu place z ps' k:=by rw[e]
@[congr] theorem R9.c {n:Nat}{lo lo' hi hi' mx mx':Option EV}(e:v=v')(e1:lo=lo')(e2:hi=hi')(e3:mx=mx'):R9 n v lo hi mx k=R9 n v' lo' hi' mx' k:=by rw[e,e1,e2,e3]
@[congr] theorem Mu.c {n m:Nat}{lo lo' hi hi' mx mx':Option EV}(e:v=v')(e1:lo=lo')(e2:hi=hi')(e3:mx=mx'):Mu n m v lo hi mx k=Mu n m v' lo' hi' mx' k:=by rw[e,e1,e2,e3]
@[congr] theorem De.c(e:v=v'):De v x y=De v' x y:=by rw[e]
@[congr] theorem Fz.c(e:h=h'):Fz h kb=Fz h' kb:=by rw[e]
@[congr] theorem Bd.c {i b base:Nat}{s:DX}(e:v=v'):Bd i b base v s kd=Bd i b base v' s kd:=by rw[e]
@[congr] theorem Ad4.c {i b:Nat}{s:DX}(e:v=v'):Ad4 i b v s kd=Ad4 i b v' s kd:=by rw[e]
@[congr] theorem Af0.c {i:Nat}{s s':DX}(e:s=s'):Af0 i h s kd=Af0 i h s' kd:=by rw[e]
@[congr] theorem Ci.c {i b:Nat}{s s':DX}{call:Aa->R}(e:s=s'):Ci i b s h call ke=Ci i b s' h call ke:=by rw[e]
@[congr] theorem Aeu.c {c:Ad}{T:Et}{g n i:Nat}{tm:Ai}{ds:List Nat}{k1:Aa->List Nat->R}{k2:Nat->Aa->List Nat->R}{k3:Aa->List Nat->R}(e:v=v'):Aeu c T g n i v tm h ds k1 k2 k3=Aeu c T g n i v' tm h ds k1 k2 k3:=by rw[e]
@[congr] theorem Amz.c {c:Ad}{T:Et}{g n i l0:Nat}{tm:Ai}{ds:List Nat}{k1:Aa->List Nat->R}{k2:Nat->Aa->List Nat->R}{k3:Aa->List Nat->R}(e:v=v'):Amz c T g n i l0 v tm h ds k1 k2 k3=Amz c T g n i l0 v' tm h ds k1 k2 k3:=by rw[e]
@[congr] theorem Ga.c {l:Nat}(e:h=h'):Ga l h kk=Ga l h' kk:=by rw[e]
end
theorem B8 {h:Aa}{i:Nat}{x:Cs}{l:List EV}(hg:h.get i=some x)(hr:rowOf x=some l):∀ (o:Nat) (k:EV->R),Al (.ptr i o) h k=oB k l[o]?:=by
 intro o k
 cases hv:l[o]? with
 | some v=>exact Dy hg hr hv
 | none=>
  show oB _ (Agt (h.get i) o 1)=_
  rw[hg]
  have hl:l.length<=o:=List.getElem?_eq_none_iff.1 hv
  have hc:Of l o 1=none:=by
   rw[Re,Nh,List.drop_eq_nil_of_le hl];rfl
  cases x <;> first|(cases hr;done)|(cases hr;show oB _ (Of l o 1)=_;rw[hc];rfl)
theorem C0 {h:Aa}{i:Nat}{x:Cs}{l:List EV}(hg:h.get i=some x)(hr:rowOf x=some l):∀ (n o:Nat) (k:EV->R),Ca n (.ptr i o) h k=oB (fun l=>k (.agg l)) (Of l o n):=by
 intro n o k
 show oB _ (Agt (h.get i) o n)=_
 rw[hg]
 cases x <;> first|(cases hr;done)|(cases hr;rfl)
theorem Ab:
 (∀ (i o:Nat) (k:EV->R),A7 (.ptr i o) k=k (.ptr i o))/\(∀ (c i o:Nat) (k:EV->R),Am c (.ptr i o) k=k (.ptr i (o+c))) /\
 (∀ (o:Cs) (h:Aa) (k:EV->Aa->R),Hj o h k=k (.ptr h.next 0) (h.new o)) /\
 (∀ (t:Nat) (c:IntKind) (n:Int) (h:Aa) (k:EV->Aa->R),Ea t (.int c n) h k=k (.ptr h.next 0) (h.new (.cells [.int c n] t))) /\
 (∀ (t:Nat) (l:List EV) (h:Aa) (k:EV->Aa->R),Ea t (.agg l) h k=k (.ptr h.next 0) (h.new (.cells l t))) /\
 (∀ (t i o:Nat) (h:Aa) (k:EV->Aa->R),Ea t (.ptr i o) h k=k (.ptr h.next 0) (h.new (.cells [.ptr i o] t))) /\
 (∀ (t i o n m:Nat) (p:Bool) (h:Aa) (k:EV->Aa->R),Ea t (.slice i o n m p) h k=k (.ptr h.next 0) (h.new (.cells [.slice i o n m p] t))) /\
 (∀ (t:Nat) (h:Aa) (k:EV->Aa->R),Ea t .Ag h k=k (.ptr h.next 0) (h.new (.cells [.Ag] t))) /\
 (∀ (x:Bool) (a b:EV) (k:EV->R),Bk (.bool x) a b k=As x (k a) (k b)) /\
 (∀ (x:Bool) (k:EV->R),Q1 (.bool x) k=As x (k (.bool false)) (k (.bool true))) /\
 (∀ (x:Bool) (a b:R),De (.bool x) a b=As x a b) /\
 (∀ (k:EV->R),Hg .Ag k=k (.int .i64 0))/\(∀ (q off ln rm:Nat) (op:Bool) (k:EV->R),Hg (.slice q off ln rm op) k=k (.int .i64 (ln:Int))) /\
 (∀ (o:Nat) (l:List EV) (k:EV->R),Bv o (.tuple l) k=oB k l[o]?) /\
 (∀ (h:Aa) (k:Nat->DX->R),Fz h k=k h.next ⟨0,[],[],[],[]⟩)/\(∀ (i:Nat) (h:Aa) (s:DX) (k:DX->R),Af0 i h s k=k (s.new i h.next)) /\
 (∀ (v:EV) (h:Aa) (k:EV->Aa->R),Aj (some (v,h)) k=k v h) /\
 (∀ (o:Nat) (l:List EV) (k:EV->R),Ag3 o false 0 (.agg l) k=oB k l[o]?) /\
 (∀ (c c':IntKind) (n:Int) (k:EV->R),My c (.int c' n) k=k (.int c (Cv c n))) /\
 (∀ (x y:R),As true x y=x)/\(∀ (x y:R),As false x y=y)/\(As true true false=true)/\(As false true false=false)/\(As true false true=false)/\(As false false true=true)/\Adh true=false/\Adh false=true /\
 (∀ (k:EV->R) (v:EV),oB k (some v)=k v)/\(∀ (h:Aa) (v:EV),Cx TT [.v v] h=some (v,h))/\(∀ (h:Aa) (v w:EV),Cx TT [.v v,.v w] h=some (.tuple [v,w],h))/\(∀ (h:Aa) (v w x:EV),Cx TT [.v v,.v w,.v x] h=some (.tuple [v,w,x],h)) /\
 (∀ (h:Aa) (k:Aa->R),Gp [] h k=k h)/\(∀ (p:EV) (r:List EV),(p::r)[0]? = some p)/\(∀ (p:EV) (r:List EV) (n:Nat),(p::r)[n+1]? = r[n]?)/\(∀ n:Nat,0+n=n)/\(∀ (k:List EV->R) (l:List EV),oB k (some l)=k l):=
 ⟨fun _ _ _=>rfl,fun _ _ _ _=>rfl,fun _ _ _=>rfl,fun _ _ _ _ _=>rfl,fun _ _ _ _=>rfl,fun _ _ _ _ _=>rfl,fun _ _ _ _ _ _ _ _=>rfl,fun _ _ _=>rfl,fun _ _ _ _=>rfl,fun _ _=>rfl,fun _ _ _=>rfl,
  fun _=>rfl,fun _ _ _ _ _ _=>rfl,fun o l k=>by show oB k (Akz l o)=_;rw[Aii],fun _ _=>rfl,fun _ _ _ _=>rfl,fun _ _ _=>rfl,fun o l k=>by show oB k (Akz l o)=_;rw[Aii],fun _ _ _ _=>rfl,
  fun _ _=>rfl,fun _ _=>rfl,rfl,rfl,rfl,rfl,rfl,rfl,fun _ _=>rfl,fun _ _=>rfl,fun _ _ _=>rfl,fun _ _ _ _=>rfl,fun _ _=>rfl,fun _ _=>rfl,fun _ _ _=>rfl,Nat.zero_add,fun _ _=>rfl⟩
theorem Bg:
 (∀ (s:DX) (i q:Nat),s.ld i q=⟨s.bg,s.nw,(Nat.shiftLeft 1 i,q)::s.B8,s.lou,s.st⟩)/\(∀ (s:DX) (i q:Nat),s.new i q=⟨s.bg,(Nat.shiftLeft 1 i,q)::s.nw,s.B8,s.lou,s.st⟩) /\
 (∀ (s:DX) (i:Nat),s.Wn i=⟨Nat.lor s.bg (Nat.shiftLeft 1 i),s.nw,s.B8,s.lou,s.st⟩)/\(∀ (b q:Nat),Er b q []=true)/\(∀ (b q:Nat),Tj b q []=true):=
 ⟨fun _ _ _=>rfl,fun _ _ _=>rfl,fun _ _=>rfl,fun _ _=>rfl,fun _ _=>rfl⟩
theorem Af:
 (∀ (g:IG) (f:EV->EV->Option EV) (x y:Int) (k:EV->R),An g f (.int .i64 x) (.int .i64 y) k=k (g .i64 x y)) /\
 (∀ (c:IntKind) (a b:Int),Hl c a b=.bool (decide (a<b)))/\(∀ (c:IntKind) (a b:Int),Aei c a b=.bool (decide (a<=b))) /\
 (∀ (c:IntKind) (a b:Int),Ww c a b=.bool (decide (b<a)))/\(∀ (c:IntKind) (a b:Int),Zu c a b=.bool (decide (b<=a))) /\
 (∀ (c:IntKind) (a b:Int),Fj c a b=.bool (decide (a=b)))/\(∀ (c:IntKind) (a b:Int),Gv c a b=.bool (decide (¬ a=b))) /\
 (∀ (c:IntKind) (a b:Int),Hw c a b=.int c (Cv c (a+b)))/\(∀ (c:IntKind) (a b:Int),R8 c a b=.int c (Cv c (a-b)))/\(∀ (c:IntKind) (a b:Int),X4 c a b=.int c (Cv c (a*b))) /\
 (∀ (b w:Bool),Ay (.bool b) w=As b w (Adh w))/\(∀ w,Ay (.tuple []) w=false):=
 ⟨fun _ _ _ _ _=>rfl,fun _ a b=>by rw[A66,Aiq],fun _ a b=>by rw[A7k,Aiq,Ais];congr 1;exact decide_eq_decide.2 (by omega),
  fun _ a b=>by rw[A7n,Aiq],fun _ a b=>by rw[A7d,Aiq,Ais];congr 1;exact decide_eq_decide.2 (by omega),
  fun _ a b=>by rw[A76,Asr],fun _ a b=>by rw[Ay1,Asr,Ais],
  fun _ a b=>by rw[A6m,A06],fun _ a b=>by unfold R8;rw[Aws],fun _ a b=>rfl,fun _ _=>rfl,fun _=>rfl⟩
end Go.Ev

namespace Go.Ev
variable {h h':Aa}
def B7(h:Aa)(s:EV)(q:Nat)(e:TypeId)(sz len:Nat)(l:List EV):Prop:=
 (len=0/\l = []/\(s=.Ag\/∃ b,s=.slice b 0 0 0 false))\/(0<len/\s=.slice q 0 len len true/\h.get q=some (.vec l e sz)/\l.length=len*sz)
theorem B7.nil(h:Aa)(q:Nat)(e:TypeId)(sz:Nat):B7 h .Ag q e sz 0 []:=.inl ⟨rfl,rfl,.inl rfl⟩
theorem B7.empty(h:Aa)(b q:Nat)(e:TypeId)(sz:Nat):B7 h (.slice b 0 0 0 false) q e sz 0 []:=.inl ⟨rfl,rfl,.inr ⟨_,rfl⟩⟩
theorem B7.frame {s:EV}{q:Nat}{e:TypeId}{sz len:Nat}{l:List EV}(r:B7 h s q e sz len l)(g:0<len->h'.get q=h.get q):B7 h' s q e sz len l:=by
 rcases r with r|⟨a,b,c,d⟩
 ·exact .inl r
 ·exact .inr ⟨a,b,by rw[g a];exact c,d⟩
theorem B7.len {s:EV}{q:Nat}{e:TypeId}{sz len:Nat}{l:List EV}(r:B7 h s q e sz len l):lenOf s=some len:=by
 rcases r with ⟨rfl,_,rfl|⟨_,rfl⟩⟩|⟨_,rfl,_⟩ <;> rfl
theorem B7.Hg {s:EV}{q:Nat}{e:TypeId}{sz len:Nat}{l:List EV}(r:B7 h s q e sz len l)(k:EV->R):Ev.Hg s k=k (.int .i64 (len:Int)):=by
 unfold Ev.Hg;rw[r.len];rfl
theorem B7.plain {s:EV}{q:Nat}{e:TypeId}{sz len:Nat}{l:List EV}(r:B7 h s q e sz len l):s.plain=true/\s.cells = [s]:=by
 rcases r with ⟨rfl,_,rfl|⟨_,rfl⟩⟩|⟨_,rfl,_⟩ <;> exact⟨rfl,rfl⟩
theorem B7.size {s:EV}{q:Nat}{e:TypeId}{sz len:Nat}{l:List EV}(r:B7 h s q e sz len l):l.length=len*sz:=by
 rcases r with ⟨rfl,rfl,_⟩|⟨_,_,_,d⟩
 ·rw[Nat.zero_mul];rfl
 ·exact d
theorem B7.ix {s:EV}{q:Nat}{e:TypeId}{sz len:Nat}{l:List EV}(r:B7 h s q e sz len l){j:Nat}(hj:j<len)(kd:IntKind)(k:EV->R):It sz s (.int kd (j:Int)) k=k (.ptr q (j*sz)):=by
 rcases r with ⟨rfl,_,_⟩|⟨_,rfl,_,_⟩
 ·omega
 ·rw[Zw hj,Nat.zero_add]
theorem B7.block {s:EV}{q:Nat}{e:TypeId}{sz len:Nat}{l:List EV}(r:B7 h s q e sz len l)(hl:0<len):h.get q=some (.vec l e sz):=by
 rcases r with ⟨rfl,_,_⟩|⟨_,_,c,_⟩
 ·omega
 ·exact c
theorem B7.slice {s:EV}{q:Nat}{e:TypeId}{sz len:Nat}{l:List EV}(r:B7 h s q e sz len l)(hl:0<len):s=.slice q 0 len len true:=by
 rcases r with ⟨rfl,_,_⟩|⟨_,c,_⟩
 ·omega
 ·exact c
theorem S3 {s x:EV}{q:Nat}{e:TypeId}{sz len n:Nat}{l new:List EV}(r:B7 h s q e sz len l)(hx:lenOf x=some n)(hn:0<n)(hn':n<=65536)(hl:len<=65536)(hc:Kb h sz n x=some new)(hs:new.length=n*sz):
 ∃ h',Dt e sz s x h=some (.slice h.next 0 (len+n) (len+n) true,h')/\B7 h' (.slice h.next 0 (len+n) (len+n) true) h.next e sz (len+n) (l++new)/\h'.next=h.next+1/\A0 (fun i=>0<len/\i=q) h h':=by
 have e0:Nat.beq n 0=false:=by cases n with|zero=>omega|succ n=>rfl
 rcases r with ⟨rfl,rfl,rfl|⟨b,rfl⟩⟩|⟨hp,rfl,hq,hlen⟩
 ·refine⟨h.new (.vec new e sz),?_,.inr ⟨by omega,rfl,?_,by rw[List.nil_append,Nat.zero_add];exact hs⟩,rfl,A0.new _ _⟩
  ·unfold Dt
   simp only[hx,Gl,e0,Ax,hc,Nat.ble_eq_true_of_le hn',Ak,Nat.zero_add]
  ·rw[Ac];rfl
 ·have e2:Nat.ble (Nat.add 0 n) 0=false:=by cases n with|zero=>omega|succ n=>show Nat.ble (0+(n+1)) 0=false;rw[Nat.zero_add];rfl
  have e3:Kb h sz 0 (.slice b 0 0 0 false)=some []:=rfl
  refine⟨h.new (.vec new e sz),?_,.inr ⟨by omega,rfl,?_,by rw[List.nil_append,Nat.zero_add];exact hs⟩,rfl,A0.new _ _⟩
  ·unfold Dt
   simp only[hx,Gl,e0,Ax,hc,e3,e2,Nat.ble_eq_true_of_le hn',Nat.ble_eq_true_of_le hl,Ak]
   rfl
  ·rw[Ac];rfl
 ·have hs2:Kb h sz len (.slice q 0 len len true)=some l:=by
   show As (Nat.beq len 0) (some []) (Ph h q 0 (Nat.mul len sz))=_
   have:Nat.beq len 0=false:=by cases len with|zero=>omega|succ n=>rfl
   rw[this,Ax]
   unfold Ph V3
   rw[hq]
   exact Av hlen
  refine⟨(h.del q).new (.vec (l++new) e sz),?_,.inr ⟨by omega,rfl,?_,by rw[List.length_append,hlen,hs,Nat.add_mul]⟩,rfl,?_⟩
  ·unfold Dt
   simp only[hx,Gl,e0,Ax,hc,hs2,hq,Nat.ble_eq_true_of_le hn',Nat.ble_eq_true_of_le hl,Ak]
   rw[show Nat.beq 0 0=true from rfl,Ak,Nat.beq_refl,Ak,Bf,hlen,show Nat.beq (len*sz) (Nat.mul len sz)=true from Nat.beq_refl _,Ak,Nat.beq_refl,Ak,Nat.beq_refl,Ak,Amg]
   rfl
  ·rw[show h.next=(h.del q).next from rfl,Ac]
  ·exact(A0.del h (.inl ⟨hp,rfl⟩)).trans (A0.new _ _)
theorem Aej {z:List EV}{e:TypeId}{sz:Nat}{v:EV}(hp:v.plain=true)(hz:z.length=sz)(hv:v.cells.length=sz)(hs:sz<=65536):B1 z e sz 1 [(0,v)] h=some (.slice h.next 0 1 1 false,h.new (.cells v.cells e)):=by
 unfold B1 Uc
 simp only
 rw[Nat.ble_eq_true_of_le (show Nat.mul 1 sz<=65536 by show 1*sz<=65536;omega),Ak]
 have hf:V2 (Pz sz) [(0,v)] (rep z 1)=some v.cells:=by
  show oB (Aiy fun off size=>As v.plain (As (Nat.beq (Gx v.cells) size) (oB _ (Ni (rep z 1) off v.cells)) none) none) (Pz sz 0)=_
  show As v.plain (As (Nat.beq (Gx v.cells) sz) (oB _ (Ni (rep z 1) (Nat.mul 0 sz) v.cells)) none) none=_
  rw[hp,Ak,Bf,hv,Nat.beq_refl,Ak]
  have:rep z 1=z:=by show z++[]=z;rw[List.append_nil]
  rw[this,show Nat.mul 0 sz=0 from Nat.zero_mul sz,Bb (by rw[hz,hv])]
  rfl
 rw[hf];rfl
theorem Abg {b:Nat}{e:TypeId}{sz:Nat}{l:List EV}(hb:h.get b=some (.cells l e))(hl:l.length=sz):Kb h sz 1 (.slice b 0 1 1 false)=some l:=by
 show As (Nat.beq 1 0) (some []) (Ph h b 0 (Nat.mul 1 sz))=_
 rw[show Nat.beq 1 0=false from rfl,Ax]
 unfold Ph V3
 rw[hb]
 exact Av (by rw[hl];show sz=1*sz;omega)
theorem S2 {s v:EV}{q:Nat}{e:TypeId}{sz len:Nat}{l z:List EV}{k:EV->Aa->R}{Q:EV->Aa->Prop}(r:B7 h s q e sz len l)(hb:HB h)(hp:v.plain=true)(hz:z.length=sz)(hv:v.cells.length=sz)(hs:sz<=65536)(hl:len<=65535)
 (hk:∀ h',B7 h' (.slice (h.next+1) 0 (len+1) (len+1) true) (h.next+1) e sz (len+1) (l++v.cells)->h'.next=h.next+2->A0 (fun i=>0<len/\i=q) h h'->Ok (k (.slice (h.next+1) 0 (len+1) (len+1) true) h') Q) :
 Ok (Aj (B1 z e sz 1 [(0,v)] h) fun w h=>Aj (Dt e sz s w h) k) Q:=by
 rw[Aej hp hz hv hs,A9]
 have r1:B7 (h.new (.cells v.cells e)) s q e sz len l:=r.frame fun hl=>A4 _ (hb q _ (r.block hl))
 obtain⟨h',e1,r2,n2,c2⟩:=S3 (n:=1) (x:=.slice h.next 0 1 1 false) r1 rfl (by omega) (by omega) (by omega) (Abg (Ac _ _) hv) (by rw[hv];omega)
 rw[e1,A9]
 exact hk h' r2 n2 ((A0.new h _).trans c2)
end Go.Ev
