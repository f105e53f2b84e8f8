import Derived.Test.YtpkcfamminlmaaaGreatTab
import Derived.Test.YtpkcfamminlmaaaGreatEvSix
set_option linter.unusedVariables false
set_option linter.unusedSimpArgs false
set_option linter.unusedSectionVars false
namespace Go.Ev
def Ok(x:R)(Q:EV->Aa->Prop):Prop:=∃ v h,x=some (v,h)/\Q v h
theorem Ok.ret {v:EV}{h:Aa}{Q:EV->Aa->Prop}(q:Q v h):Ok (some (v,h)) Q:=⟨v,h,rfl,q⟩
theorem Ok.mono {x:R}{P Q:EV->Aa->Prop}(a:Ok x P)(b:∀ v h,P v h->Q v h):Ok x Q:=by
 obtain⟨v,h,e,p⟩:=a;exact⟨v,h,e,b v h p⟩
theorem Ok.Al {x:R}{k:EV->Aa->R}{P Q:EV->Aa->Prop}(a:Ok x P)(b:∀ v h,P v h->Ok (k v h) Q):Ok (Al x k) Q:=by
 obtain⟨v,h,e,p⟩:=a
 rw[e];exact b v h p
def HB(h:Aa):Prop:=∀ q o,h.get q=some o->q<h.next
theorem HB.new {h:Aa}(a:HB h)(o:C7):HB (h.new o):=fun q x e=>by
 rw[Aa.Jg]at e
 split at e
 ·rename_i hq;rw[Aa.Fj];omega
 ·exact Nat.lt_succ_of_lt (a q x e)
theorem HB.put {h:Aa}(a:HB h){i:Nat}(hi:i<h.next)(o:C7):HB (h.put i o):=fun q x e=>by
 rw[Aa.get_put]at e
 split at e
 ·rename_i hq;subst hq;exact hi
 ·exact a q x e
theorem HB.del {h:Aa}(a:HB h)(i:Nat):HB (h.del i):=fun q x e=>by
 rw[Aa.Tz]at e
 split at e
 ·cases e
 ·exact a q x e
structure A9(S:Nat->Prop)(h h':Aa):Prop where
 get:∀ i,i<h.next->¬ S i->h'.get i=h.get i
 next:h.next<=h'.next
 mw:∀ w,w<=h.mw->w<=h.next->(∀ i,S i->w<=i)->w<=h'.mw
 hb:HB h->HB h'
abbrev Ext:Aa->Aa->Prop:=A9 fun _=>False
variable {S T:Nat->Prop}{h h' h1 h2 h3:Aa}
theorem A9.refl(h:Aa):A9 S h h:=⟨fun _ _ _=>rfl,Nat.le_refl _,fun _ a _ _=>a,id⟩
theorem A9.trans(a:A9 S h1 h2)(b:A9 S h2 h3):A9 S h1 h3:=
 ⟨fun i hi hs=>by rw[b.get i (Nat.lt_of_lt_of_le hi a.next) hs,a.get i hi hs],Nat.le_trans a.next b.next,
  fun w w1 w2 w3=>b.mw w (a.mw w w1 w2 w3) (Nat.le_trans w2 a.next) w3,fun x=>b.hb (a.hb x)⟩
theorem A9.mono(a:A9 S h h')(st:∀ i,S i->T i):A9 T h h':=⟨fun i hi hs=>a.get i hi fun x=>hs (st i x),a.next,fun w w1 w2 w3=>a.mw w w1 w2 fun i hi=>w3 i (st i hi),a.hb⟩
theorem A9.then(a:A9 S h1 h2)(b:A9 T h2 h3)(st:∀ i,T i->i<h1.next->S i):A9 S h1 h3:=by
 refine⟨fun i hi hs=>by rw[b.get i (Nat.lt_of_lt_of_le hi a.next) fun x=>hs (st i x hi),a.get i hi hs],Nat.le_trans a.next b.next,fun w w1 w2 w3=>?_,fun x=>b.hb (a.hb x)⟩
 refine b.mw w (a.mw w w1 w2 w3) (Nat.le_trans w2 a.next) fun i hi=>?_
 by_cases hl:i<h1.next
 ·exact w3 i (st i hi hl)
 ·omega
theorem Ext.to(a:Ext h h'):A9 S h h':=a.mono fun _ x=>x.elim
theorem A9.new(h:Aa)(o:C7):A9 S h (h.new o):=
 ⟨fun i hi _=>Bd o hi,by rw[Aa.Fj];omega,fun w w1 _ _=>by rw[Aa.Beu];exact w1,fun x=>x.new o⟩
theorem A9.put(h:Aa){i:Nat}(hi:S i\/h.next<=i)(hn:HB h->i<h.next)(o:C7):A9 S h (h.put i o):=by
 refine⟨fun j hj hs=>As o fun e=>?_,by rw[Aa.X1];exact Nat.le_refl _,fun w w1 w2 w3=>?_,fun x=>x.put (hn x) o⟩
 ·subst e;rcases hi with hi|hi
  ·exact hs hi
  ·omega
 ·rw[Aa.Af8]
  rcases hi with hi|hi
  ·have:=w3 i hi;omega
  ·omega
theorem A9.del(h:Aa){i:Nat}(hi:S i\/h.next<=i):A9 S h (h.del i):=by
 refine⟨fun j hj hs=>A06 fun e=>?_,by rw[Aa.Arc];exact Nat.le_refl _,fun w w1 w2 w3=>?_,fun x=>x.del i⟩
 ·subst e;rcases hi with hi|hi
  ·exact hs hi
  ·omega
 ·rw[Aa.Apj]
  rcases hi with hi|hi
  ·have:=w3 i hi;omega
  ·omega
theorem A9.A5 {h0:Aa}(x:A9 S h0 h){i:Nat}(hi:S i\/h0.next<=i)(hn:i<h.next)(o:C7):A9 S h0 (h.put i o):=
 x.then (T:=fun j=>j=i) (A9.put (S:=fun j=>j=i) h (.inl rfl) (fun _=>hn) o) fun j hj hl=>by
  have e:j=i:=hj
  subst e
  rcases hi with hi|hi
  ·exact hi
  ·omega
theorem A9.Fp {h0:Aa}(x:A9 S h0 h)(o:C7):A9 S h0 (h.new o):=x.trans (A9.new _ _)
theorem A9.at(c:A9 S h h')(hb:HB h){i:Nat}{o:C7}(g:h.get i=some o)(hn:¬ S i):h'.get i=some o:=by rw[c.get i (hb i o g) hn];exact g
theorem Ext.at(c:Ext h h')(hb:HB h){i:Nat}{o:C7}(g:h.get i=some o):h'.get i=some o:=A9.at c hb g id
theorem Bt {i j:Nat}{o o':C7}(a:h.get i=some o)(b:h.get j=some o')(n:o ≠ o'):i ≠ j:=fun e=>n (by rw[e,b]at a;cases a;rfl)
noncomputable def Aa.lift(h:Aa):Aa:=⟨h.t,h.next,h.next⟩
structure Akg(h h':Aa):Prop where
 get:∀ i,h'.get i=h.get i
 next:h'.next=h.next
theorem Adv(h:Aa)(i:Nat):h.get i=h.t.get i:=by cases h;rfl
theorem Di(h:Aa)(i:Nat):h.lift.get i=h.get i:=by rw[Adv,Adv];rfl
theorem Abf(h:Aa):h.lift.next=h.next:=rfl
theorem F0 {h:Aa}(a:HB h):HB h.lift:=fun q o e=>a q o (by rw[<-Di];exact e)
theorem Akg.lift(h:Aa):Akg h h.lift:=⟨Di h,rfl⟩
theorem Akg.hb {h h':Aa}(a:Akg h h')(b:HB h):HB h':=fun q o e=>by rw[a.next];exact b q o (by rw[<-a.get];exact e)
section
variable {i b:Nat}{s:DX}{h:Aa}{call:Aa->R}{k:EV->Aa->DX->R}{P Q:EV->Aa->Prop}
theorem Ok.Cs(hb:Sz b s=true)(hl:loose b s.nw = [])(hc:Ok (call h.lift) P)(he:∀ v h1,P v h1->Ext h.lift h1)
 (hk:∀ v h1 h2,P v h1->Akg h1 h2->Ext h h2->Ok (k v h2 (s.Ww i)) Q):Ok (Cs i b s h call k) Q:=by
 obtain⟨v,h1,e,p⟩:=hc
 have x:=he v h1 p
 have hf:Hb b s h=h.lift:=by unfold Hb;rw[hl];rfl
 have hm:h.next<=h1.mw:=x.mw h.next (Nat.le_refl _) (Nat.le_refl _) fun _ y=>y.elim
 have hE:Ev.Cs i b s h call k=k v ⟨h1.t,h1.next,h.mw⟩ (s.Ww i):=by
  show Ay (Sz b s) (Ev.Al (call (Hb b s h)) fun v h'=>Iv i b s h h' fun s h=>k v h s) none=_
  rw[hb,An,hf,e]
  show Iv i b s h h1 (fun s h=>k v h s)=_
  unfold Iv
  rw[Nat.ble_eq_true_of_le hm,An,hl];rfl
 rw[hE]
 refine hk v h1 _ p ⟨fun i=>by rw[Adv,Adv],rfl⟩ ⟨fun i hi hn=>?_,x.next,fun w w1 _ _=>w1,fun y=>?_⟩
 ·rw[Adv];show h1.t.get i=_;rw[<-Adv,x.get i hi hn,Di]
 ·exact Akg.hb (h:=h1) ⟨fun i=>by rw[Adv,Adv],rfl⟩ (x.hb (F0 y))
theorem Ok.Anz(hb:Sz b s=true)(hl:loose b s.nw = [])(hr:∀ w,Ob b w s.Ck=true)(hc:Ok (call h.lift) P)(he:∀ v h1,P v h1->A9 S h.lift h1)
 (hk:∀ v h1 h2 s',P v h1->Akg h1 h2->A9 S h h2->(s'=s.Ww i\/∃ w,s'=s.Arx i w/\w=h1.mw)->Ok (k v h2 s') Q):Ok (Ev.Cs i b s h call k) Q:=by
 obtain⟨v,h1,e,p⟩:=hc
 have x:=he v h1 p
 have hf:Hb b s h=h.lift:=by unfold Hb;rw[hl];rfl
 have hE:Ev.Cs i b s h call k=Iv i b s h h1 fun s h=>k v h s:=by
  show Ay (Sz b s) (Ev.Al (call (Hb b s h)) fun v h'=>Iv i b s h h' fun s h=>k v h s) none=_
  rw[hb,An,hf,e];rfl
 rw[hE]
 unfold Iv
 rw[hl]
 have sm:∀ w,Akg h1 ⟨h1.t,h1.next,w⟩:=fun w=>⟨fun i=>by rw[Adv,Adv],rfl⟩
 have hg:∀ w i,i<h.next->¬ S i->(⟨h1.t,h1.next,w⟩:Aa).get i=h.get i:=fun w i hi hn=>by
  rw[(sm w).get,x.get i hi hn,Di]
 cases hle:Nat.ble h.next h1.mw with
 | true=>
  rw[An]
  exact hk v h1 _ _ p (sm _) ⟨hg _,x.next,fun w w1 _ _=>w1,fun y=>(sm _).hb (x.hb (F0 y))⟩ (.inl rfl)
 | false=>
  rw[A6,hr,An]
  refine hk v h1 _ _ p (sm _) ⟨hg _,x.next,fun w w1 w2 w3=>?_,fun y=>(sm _).hb (x.hb (F0 y))⟩ (.inr ⟨_,rfl,rfl⟩)
  have:=x.mw w w2 w2 w3
  show w<=Ay (Nat.ble h.mw h1.mw) h.mw h1.mw
  rw[Bh];split <;> assumption
theorem A4 {i b base q o:Nat}{s:DX}{k:DX->R}(hq:q<base)(hc:Ay (Fa b q s.st) (Ty b q s.lou) false=true):Bc i b base (.ptr q o) s k=k (s.ld i q):=by
 show Ay (Ae0 b base q s) _ none=_
 unfold Ae0
 rw[Nat.ble_eq_true_of_le (show Nat.succ q<=base from hq),An,hc,An]
theorem O4 {i b q o:Nat}{s:DX}{k:DX->R}(hc:Amq b q s=true):Xi i b (.ptr q o) s k=k (s.sto i q):=by
 show Ay (Amq b q s) _ none=_
 rw[hc,An]
end
section
variable {i o c n s j len:Nat}{h:Aa}{l l':List EV}{t:TypeId}{v:EV}{k:EV->R}{kh:EV->Aa->R}
noncomputable def rowOf:C7->Option (List EV)
 | .cells l _=>some l
 | .vec l _ _=>some l
 | _=>none
theorem C3 {x:C7}(hg:h.get i=some x)(hr:rowOf x=some l)(hv:l[o]? = some v):Av (.ptr i o) h k=k v:=by
 show oB _ (Ahf (h.get i) o 1)=_
 rw[hg]
 have hc:Nf l o 1=some [v]:=by
  obtain⟨h1,h2⟩:=List.getElem?_eq_some_iff.1 hv
  rw[Hx (by omega),List.drop_eq_getElem_cons h1,h2];rfl
 cases x <;> first|(cases hr;done)|(cases hr;show oB _ (Nf l o 1)=_;rw[hc];rfl)
theorem Aas {q off ln rm sz:Nat}{op:Bool}{kd:IntKind}(hj:j<ln):Gn sz (.slice q off ln rm op) (.int kd (j:Int)) k=k (.ptr q (off+j*sz)):=Bce hj k kd
theorem Ij {x:C7}(hg:h.get i=some x)(hr:rowOf x=some l)(hv:Nf l o n=some l'):B4 n (.ptr i o) h k=k (.agg l'):=by
 show oB _ (Ahf (h.get i) o n)=_
 rw[hg]
 cases x <;> first|(cases hr;done)|(cases hr;show oB _ (Nf l o n)=_;rw[hv];rfl)
theorem Ayx {kk:Aa->R}(hg:h.get i=some (.cells l t))(hp:v.plain=true)(hn:Jh v.cells=n)(hl:Lt l o v.cells=some l'):Dw n (.ptr i o) v h kk=kk (h.put i (.cells l' t)):=by
 show Ay v.plain (Ay (Nat.beq (Jh v.cells) n) (W9 h i (fun l=>Lt l o v.cells) kk) none) none=_
 rw[hp,An,hn,Nat.beq_refl,An,Ari hg,hl];rfl
theorem Bco {kk:Aa->R}{z:Nat}(hg:h.get i=some (.vec l t z))(hp:v.plain=true)(hn:Jh v.cells=n)(hl:Lt l o v.cells=some l'):Dw n (.ptr i o) v h kk=kk (h.put i (.vec l' t z)):=by
 show Ay v.plain (Ay (Nat.beq (Jh v.cells) n) (W9 h i (fun l=>Lt l o v.cells) kk) none) none=_
 rw[hp,An,hn,Nat.beq_refl,An]
 unfold W9;rw[hg];simp only;rw[hl];rfl
theorem Ok.st {kk:Aa->R}{Q:EV->Aa->Prop}(l':List EV)(hg:h.get i=some (.cells l t))(hp:v.plain=true)(hn:Jh v.cells=n)(hl:Lt l o v.cells=some l')(hk:Ok (kk (h.put i (.cells l' t))) Q):Ok (Dw n (.ptr i o) v h kk) Q:=by
 rw[Ayx hg hp hn hl];exact hk
theorem Ok.st1 {kk:Aa->R}{Q:EV->Aa->Prop}(hg:h.get i=some (.cells l t))(hp:v.plain=true)(hc:v.cells = [v])(ho:o<l.length)(hk:Ok (kk (h.put i (.cells (l.set o v) t))) Q):Ok (Dw 1 (.ptr i o) v h kk) Q:=by
 rw[Ayx hg hp (by rw[hc];rfl) (by rw[hc];exact Att v l o ho)];exact hk
theorem Ara {a b:EV}{x:Bool}:Br (.bool x) a b k=Ay x (k a) (k b):=rfl
theorem Bg {h':Aa}:Al (some (v,h')) kh=kh v h':=rfl
theorem A2q {q off ln sz:Nat}{kd:IntKind}(hj:j<ln):Aqu ln sz (.ptr q off) (.int kd (j:Int)) k=k (.ptr q (off+j*sz)):=by
 show Ay (Nat.ble (Nat.succ j) ln) _ none=_
 rw[Nat.ble_eq_true_of_le hj,An];rfl
theorem A5x {kd kd':IntKind}{x:Int}:Pk kd (.int kd' x) k=k (.int kd (Dk kd x)):=rfl
theorem A8g {kd:IntKind}{x:Int}:Avh (.int kd x) k=k (.int kd (Dk kd (0-x))):=rfl
theorem B6 {place:Nat->Option (Nat × Nat)}{z:List EV}{ps:List (Nat × EV)}(hf:Wm place ps z=some l):B7 place z ps k=k (.agg l):=by
 unfold B7;rw[hf];rfl
theorem A3 {l:List EV}{n:Nat}(hn:l.length=n):Nf l 0 n=some l:=by
 subst hn;rw[Hx (by omega),List.drop_zero,List.take_length]
theorem C8 {n:Int}(h1 : -9223372036854775808<=n)(h2:n<=9223372036854775807):Dk .i64 n=n:=Atd h1 (by omega)
end
theorem A7f {b:Int}{T:Ff}{t:Nat}{a:Int}{k:EV->R}(hb:0<b)(h1:0<=a)(h2:a<9223372036854775808):K3 (bin T .quo t) (.int .i64 a) (.int .i64 b) k=k (.int .i64 (a / b)):=by
 obtain⟨n,rfl⟩:=Int.eq_ofNat_of_zero_le (Int.le_of_lt hb)
 show oB k (Ay (eqB (.ofNat n) 0) none (some (.int .i64 (Dk .i64 (a.tdiv (.ofNat n))))))=_
 have:eqB (.ofNat n) 0=false:=by
  show Nat.beq n 0=false
  cases n with
  | zero=>exact absurd hb (by decide)
  | succ n=>rfl
 rw[this,A6]
 have e:a.tdiv (.ofNat n)=a / n:=Int.tdiv_eq_ediv_of_nonneg h1
 have h3:a / (n:Int)<=a:=Int.ediv_le_self _ h1
 have h4:0<=a / (n:Int):=Int.ediv_nonneg h1 (by omega)
 rw[e,Atd (by omega) (by omega)];rfl
section
variable {v v' w w' a a' b b' x':EV}{x y r r':R}{h h':Aa}{k:EV->R}{kh:EV->Aa->R}{kk:Aa->R}{kd:DX->R}{kb:Nat->DX->R}{ke:EV->Aa->DX->R}
@[congr] theorem Ok.c {Q:EV->Aa->Prop}(e:r=r'):Ok r Q=Ok r' Q:=by rw[e]
@[congr] theorem Ay.c {α:Type}{p q:Bool}{x y:α}(e:p=q):Ay p x y=Ay q x y:=by rw[e]
@[congr] theorem oB.c {α β:Type}{k:α->Option β}{p q:Option α}(e:p=q):oB k p=oB k q:=by rw[e]
@[congr] theorem Al.c(e:r=r'):Al r kh=Al r' kh:=by rw[e]
@[congr] theorem Av.c(e:v=v'):Av v h k=Av v' h k:=by rw[e]
@[congr] theorem B4.c {n:Nat}(e:v=v'):B4 n v h k=B4 n v' h k:=by rw[e]
@[congr] theorem Dw.c {n:Nat}(e:a=a')(e':v=v'):Dw n a v h kk=Dw n a' v' h kk:=by rw[e,e']
@[congr] theorem Fw.c {o o':C7}(e:o=o'):Fw o h kh=Fw o' h kh:=by rw[e]
@[congr] theorem D8.c {t:Nat}(e:v=v'):D8 t v h kh=D8 t v' h kh:=by rw[e]
@[congr] theorem Ar.c {g:IG}{f:EV->EV->Option EV}(e:v=v')(e':w=w'):Ar g f v w k=Ar g f v' w' k:=by rw[e,e']
@[congr] theorem K3.c {f:EV->EV->Option EV}(e:v=v')(e':w=w'):K3 f v w k=K3 f v' w' k:=by rw[e,e']
@[congr] theorem Br.c(e:v=v'):Br v a b k=Br v' a b k:=by rw[e]
@[congr] theorem Pw.c(e:v=v'):Pw v k=Pw v' k:=by rw[e]
@[congr] theorem Avh.c(e:v=v'):Avh v k=Avh v' k:=by rw[e]
@[congr] theorem Bj.c(e:v=v'):Bj v k=Bj v' k:=by rw[e]
@[congr] theorem Ap.c {n:Nat}(e:v=v'):Ap n v k=Ap n v' k:=by rw[e]
@[congr] theorem Aqu.c {n m:Nat}(e:v=v')(e':w=w'):Aqu n m v w k=Aqu n m v' w' k:=by rw[e,e']
@[congr] theorem Gn.c {n:Nat}(e:v=v')(e':w=w'):Gn n v w k=Gn n v' w' k:=by rw[e,e']
@[congr] theorem A8r.c {n m q:Nat}{g:Bool}(e:v=v')(e':w=w'):A8r n m g q v w k=A8r n m g q v' w' k:=by rw[e,e']
@[congr] theorem Agc.c {n m:Nat}{g:Bool}(e:v=v'):Agc n g m v k=Agc n g m v' k:=by rw[e]
@[congr] theorem Pk.c {c:IntKind}(e:v=v'):Pk c v k=Pk c v' k:=by rw[e]
@[congr] theorem B3.c {n:Nat}(e:v=v'):B3 n v k=B3 n v' k:=by rw[e]
@[congr] theorem E9.c(e:v=v'):E9 v k=E9 v' k:=by rw[e]
@[congr] theorem Aj3.c {n:Nat}(e:v=v'):Aj3 n v k=Aj3 n v' k:=by rw[e]
@[congr] theorem B7.c {place:Nat->Option (Nat × Nat)}{z:List EV}{ps ps':List (Nat × EV)}(e:ps=ps'):B7 place z ps k=B7 place z ps' k:=by rw[e]
@[congr] theorem Wz.c {n:Nat}{lo lo' hi hi' mx mx':Option EV}(e:v=v')(e1:lo=lo')(e2:hi=hi')(e3:mx=mx'):Wz n v lo hi mx k=Wz n v' lo' hi' mx' k:=by rw[e,e1,e2,e3]
@[congr] theorem Pe.c {n m:Nat}{lo lo' hi hi' mx mx':Option EV}(e:v=v')(e1:lo=lo')(e2:hi=hi')(e3:mx=mx'):Pe n m v lo hi mx k=Pe n m v' lo' hi' mx' k:=by rw[e,e1,e2,e3]
@[congr] theorem Dx.c(e:v=v'):Dx v x y=Dx v' x y:=by rw[e]
@[congr] theorem E4.c(e:h=h'):E4 h kb=E4 h' kb:=by rw[e]
@[congr] theorem Bc.c {i b base:Nat}{s:DX}(e:v=v'):Bc i b base v s kd=Bc i b base v' s kd:=by rw[e]
@[congr] theorem Xi.c {i b:Nat}{s:DX}(e:v=v'):Xi i b v s kd=Xi i b v' s kd:=by rw[e]
@[congr] theorem Yz.c {i:Nat}{s s':DX}(e:s=s'):Yz i h s kd=Yz i h s' kd:=by rw[e]
@[congr] theorem Cs.c {i b:Nat}{s s':DX}{call:Aa->R}(e:s=s'):Cs i b s h call ke=Cs i b s' h call ke:=by rw[e]
@[congr] theorem Aab.c {c:Ae}{T:Ff}{g n i:Nat}{tm:Ac}{ds:List Nat}{k1:Aa->List Nat->R}{k2:Nat->Aa->List Nat->R}{k3:Aa->List Nat->R}(e:v=v'):Aab c T g n i v tm h ds k1 k2 k3=Aab c T g n i v' tm h ds k1 k2 k3:=by rw[e]
@[congr] theorem Aon.c {c:Ae}{T:Ff}{g n i l0:Nat}{tm:Ac}{ds:List Nat}{k1:Aa->List Nat->R}{k2:Nat->Aa->List Nat->R}{k3:Aa->List Nat->R}(e:v=v'):Aon c T g n i l0 v tm h ds k1 k2 k3=Aon c T g n i l0 v' tm h ds k1 k2 k3:=by rw[e]
@[congr] theorem Gb.c {l:Nat}(e:h=h'):Gb l h kk=Gb l h' kk:=by rw[e]
end
theorem Ck {h:Aa}{i:Nat}{x:C7}{l:List EV}(hg:h.get i=some x)(hr:rowOf x=some l):∀ (o:Nat) (k:EV->R),Av (.ptr i o) h k=oB k l[o]?:=by
 intro o k
 cases hv:l[o]? with
 | some v=>exact C3 hg hr hv
 | none=>
  show oB _ (Ahf (h.get i) o 1)=_
  rw[hg]
  have hl:l.length<=o:=List.getElem?_eq_none_iff.1 hv
  have hc:Nf l o 1=none:=by
   rw[T7,Mr,List.drop_eq_nil_of_le hl];rfl
  cases x <;> first|(cases hr;done)|(cases hr;show oB _ (Nf l o 1)=_;rw[hc];rfl)
theorem Fy {h:Aa}{i:Nat}{x:C7}{l:List EV}(hg:h.get i=some x)(hr:rowOf x=some l):∀ (n o:Nat) (k:EV->R),B4 n (.ptr i o) h k=oB (fun l=>k (.agg l)) (Nf l o n):=by
 intro n o k
 show oB _ (Ahf (h.get i) o n)=_
 rw[hg]
 cases x <;> first|(cases hr;done)|(cases hr;rfl)
theorem Ab:
 (∀ (i o:Nat) (k:EV->R),Bj (.ptr i o) k=k (.ptr i o))/\(∀ (c i o:Nat) (k:EV->R),Ap c (.ptr i o) k=k (.ptr i (o+c))) /\
 (∀ (o:C7) (h:Aa) (k:EV->Aa->R),Fw o h k=k (.ptr h.next 0) (h.new o)) /\
 (∀ (t:Nat) (c:IntKind) (n:Int) (h:Aa) (k:EV->Aa->R),D8 t (.int c n) h k=k (.ptr h.next 0) (h.new (.cells [.int c n] t))) /\
 (∀ (t:Nat) (l:List EV) (h:Aa) (k:EV->Aa->R),D8 t (.agg l) h k=k (.ptr h.next 0) (h.new (.cells l t))) /\
 (∀ (t i o:Nat) (h:Aa) (k:EV->Aa->R),D8 t (.ptr i o) h k=k (.ptr h.next 0) (h.new (.cells [.ptr i o] t))) /\
 (∀ (t i o n m:Nat) (p:Bool) (h:Aa) (k:EV->Aa->R),D8 t (.slice i o n m p) h k=k (.ptr h.next 0) (h.new (.cells [.slice i o n m p] t))) /\
 (∀ (t:Nat) (h:Aa) (k:EV->Aa->R),D8 t .Af h k=k (.ptr h.next 0) (h.new (.cells [.Af] t))) /\
 (∀ (x:Bool) (a b:EV) (k:EV->R),Br (.bool x) a b k=Ay x (k a) (k b)) /\
 (∀ (x:Bool) (k:EV->R),Pw (.bool x) k=Ay x (k (.bool false)) (k (.bool true))) /\
 (∀ (x:Bool) (a b:R),Dx (.bool x) a b=Ay x a b) /\
 (∀ (k:EV->R),E9 .Af k=k (.int .i64 0))/\(∀ (q off ln rm:Nat) (op:Bool) (k:EV->R),E9 (.slice q off ln rm op) k=k (.int .i64 (ln:Int))) /\
 (∀ (o:Nat) (l:List EV) (k:EV->R),B3 o (.tuple l) k=oB k l[o]?) /\
 (∀ (h:Aa) (k:Nat->DX->R),E4 h k=k h.next ⟨0,[],[],[],[]⟩)/\(∀ (i:Nat) (h:Aa) (s:DX) (k:DX->R),Yz i h s k=k (s.new i h.next)) /\
 (∀ (v:EV) (h:Aa) (k:EV->Aa->R),Al (some (v,h)) k=k v h) /\
 (∀ (o:Nat) (l:List EV) (k:EV->R),Agc o false 0 (.agg l) k=oB k l[o]?) /\
 (∀ (c c':IntKind) (n:Int) (k:EV->R),Pk c (.int c' n) k=k (.int c (Dk c n))) /\
 (∀ (x y:R),Ay true x y=x)/\(∀ (x y:R),Ay false x y=y)/\(Ay true true false=true)/\(Ay false true false=false)/\(Ay true false true=false)/\(Ay false false true=true)/\Aef true=false/\Aef false=true /\
 (∀ (k:EV->R) (v:EV),oB k (some v)=k v)/\(∀ (h:Aa) (v:EV),Ct TT [.v v] h=some (v,h))/\(∀ (h:Aa) (v w:EV),Ct TT [.v v,.v w] h=some (.tuple [v,w],h))/\(∀ (h:Aa) (v w x:EV),Ct TT [.v v,.v w,.v x] h=some (.tuple [v,w,x],h)) /\
 (∀ (h:Aa) (k:Aa->R),Ej [] h k=k h)/\(∀ (p:EV) (r:List EV),(p::r)[0]? = some p)/\(∀ (p:EV) (r:List EV) (n:Nat),(p::r)[n+1]? = r[n]?)/\(∀ n:Nat,0+n=n)/\(∀ (k:List EV->R) (l:List EV),oB k (some l)=k l):=
 ⟨fun _ _ _=>rfl,fun _ _ _ _=>rfl,fun _ _ _=>rfl,fun _ _ _ _ _=>rfl,fun _ _ _ _=>rfl,fun _ _ _ _ _=>rfl,fun _ _ _ _ _ _ _ _=>rfl,fun _ _ _=>rfl,fun _ _ _ _=>rfl,fun _ _=>rfl,fun _ _ _=>rfl,
  fun _=>rfl,fun _ _ _ _ _ _=>rfl,fun o l k=>by show oB k (Amf l o)=_;rw[Ak4],fun _ _=>rfl,fun _ _ _ _=>rfl,fun _ _ _=>rfl,fun o l k=>by show oB k (Amf l o)=_;rw[Ak4],fun _ _ _ _=>rfl,
  fun _ _=>rfl,fun _ _=>rfl,rfl,rfl,rfl,rfl,rfl,rfl,fun _ _=>rfl,fun _ _=>rfl,fun _ _ _=>rfl,fun _ _ _ _=>rfl,fun _ _=>rfl,fun _ _=>rfl,fun _ _ _=>rfl,Nat.zero_add,fun _ _=>rfl⟩
theorem Bz:
 (∀ (s:DX) (i q:Nat),s.ld i q=⟨s.bg,s.nw,(Nat.shiftLeft 1 i,q)::s.Ck,s.lou,s.st⟩)/\(∀ (s:DX) (i q:Nat),s.new i q=⟨s.bg,(Nat.shiftLeft 1 i,q)::s.nw,s.Ck,s.lou,s.st⟩) /\
 (∀ (s:DX) (i:Nat),s.Ww i=⟨Nat.lor s.bg (Nat.shiftLeft 1 i),s.nw,s.Ck,s.lou,s.st⟩)/\(∀ (b q:Nat),Fa b q []=true)/\(∀ (b q:Nat),Ty b q []=true):=
 ⟨fun _ _ _=>rfl,fun _ _ _=>rfl,fun _ _=>rfl,fun _ _=>rfl,fun _ _=>rfl⟩
theorem Ai:
 (∀ (g:IG) (f:EV->EV->Option EV) (x y:Int) (k:EV->R),Ar g f (.int .i64 x) (.int .i64 y) k=k (g .i64 x y)) /\
 (∀ (c:IntKind) (a b:Int),Gc c a b=.bool (decide (a<b)))/\(∀ (c:IntKind) (a b:Int),Afk c a b=.bool (decide (a<=b))) /\
 (∀ (c:IntKind) (a b:Int),Sc c a b=.bool (decide (b<a)))/\(∀ (c:IntKind) (a b:Int),Y0 c a b=.bool (decide (b<=a))) /\
 (∀ (c:IntKind) (a b:Int),G1 c a b=.bool (decide (a=b)))/\(∀ (c:IntKind) (a b:Int),E5 c a b=.bool (decide (¬ a=b))) /\
 (∀ (c:IntKind) (a b:Int),Fx c a b=.int c (Dk c (a+b)))/\(∀ (c:IntKind) (a b:Int),Sq c a b=.int c (Dk c (a-b)))/\(∀ (c:IntKind) (a b:Int),Vm c a b=.int c (Dk c (a*b))) /\
 (∀ (b w:Bool),Ah (.bool b) w=Ay b w (Aef w))/\(∀ w,Ah (.tuple []) w=false):=
 ⟨fun _ _ _ _ _=>rfl,fun _ a b=>by rw[Ba1,Aka],fun _ a b=>by rw[Bbr,Aka,Ajp];congr 1;exact decide_eq_decide.2 (by omega),
  fun _ a b=>by rw[Bcc,Aka],fun _ a b=>by rw[Bcz,Aka,Ajp];congr 1;exact decide_eq_decide.2 (by omega),
  fun _ a b=>by rw[Bb0,Avg],fun _ a b=>by rw[A1r,Avg,Ajp],
  fun _ a b=>by rw[Bc9,A4c],fun _ a b=>by unfold Sq;rw[Az0],fun _ a b=>rfl,fun _ _=>rfl,fun _=>rfl⟩
end Go.Ev

namespace Go.Ev
variable {h h':Aa}
def Bu(h:Aa)(s:EV)(q:Nat)(e:TypeId)(sz len:Nat)(l:List EV):Prop:=
 (len=0/\l = []/\(s=.Af\/∃ b,s=.slice b 0 0 0 false))\/(0<len/\s=.slice q 0 len len true/\h.get q=some (.vec l e sz)/\l.length=len*sz)
theorem Bu.nil(h:Aa)(q:Nat)(e:TypeId)(sz:Nat):Bu h .Af q e sz 0 []:=.inl ⟨rfl,rfl,.inl rfl⟩
theorem Bu.empty(h:Aa)(b q:Nat)(e:TypeId)(sz:Nat):Bu h (.slice b 0 0 0 false) q e sz 0 []:=.inl ⟨rfl,rfl,.inr ⟨_,rfl⟩⟩
theorem Bu.frame {s:EV}{q:Nat}{e:TypeId}{sz len:Nat}{l:List EV}(r:Bu h s q e sz len l)(g:0<len->h'.get q=h.get q):Bu h' s q e sz len l:=by
 rcases r with r|⟨a,b,c,d⟩
 ·exact .inl r
 ·exact .inr ⟨a,b,by rw[g a];exact c,d⟩
theorem Bu.len {s:EV}{q:Nat}{e:TypeId}{sz len:Nat}{l:List EV}(r:Bu h s q e sz len l):lenOf s=some len:=by
 rcases r with ⟨rfl,_,rfl|⟨_,rfl⟩⟩|⟨_,rfl,_⟩ <;> rfl
theorem Bu.E9 {s:EV}{q:Nat}{e:TypeId}{sz len:Nat}{l:List EV}(r:Bu h s q e sz len l)(k:EV->R):Ev.E9 s k=k (.int .i64 (len:Int)):=by
 unfold Ev.E9;rw[r.len];rfl
theorem Bu.plain {s:EV}{q:Nat}{e:TypeId}{sz len:Nat}{l:List EV}(r:Bu h s q e sz len l):s.plain=true/\s.cells = [s]:=by
 rcases r with ⟨rfl,_,rfl|⟨_,rfl⟩⟩|⟨_,rfl,_⟩ <;> exact⟨rfl,rfl⟩
theorem Bu.size {s:EV}{q:Nat}{e:TypeId}{sz len:Nat}{l:List EV}(r:Bu h s q e sz len l):l.length=len*sz:=by
 rcases r with ⟨rfl,rfl,_⟩|⟨_,_,_,d⟩
 ·rw[Nat.zero_mul];rfl
 ·exact d
theorem Bu.ix {s:EV}{q:Nat}{e:TypeId}{sz len:Nat}{l:List EV}(r:Bu h s q e sz len l){j:Nat}(hj:j<len)(kd:IntKind)(k:EV->R):Gn sz s (.int kd (j:Int)) k=k (.ptr q (j*sz)):=by
 rcases r with ⟨rfl,_,_⟩|⟨_,rfl,_,_⟩
 ·omega
 ·rw[Aas hj,Nat.zero_add]
theorem Bu.block {s:EV}{q:Nat}{e:TypeId}{sz len:Nat}{l:List EV}(r:Bu h s q e sz len l)(hl:0<len):h.get q=some (.vec l e sz):=by
 rcases r with ⟨rfl,_,_⟩|⟨_,_,c,_⟩
 ·omega
 ·exact c
theorem Bu.slice {s:EV}{q:Nat}{e:TypeId}{sz len:Nat}{l:List EV}(r:Bu h s q e sz len l)(hl:0<len):s=.slice q 0 len len true:=by
 rcases r with ⟨rfl,_,_⟩|⟨_,c,_⟩
 ·omega
 ·exact c
theorem Qe {s x:EV}{q:Nat}{e:TypeId}{sz len n:Nat}{l new:List EV}(r:Bu h s q e sz len l)(hx:lenOf x=some n)(hn:0<n)(hn':n<=65536)(hl:len<=65536)(hc:Ni h sz n x=some new)(hs:new.length=n*sz):
 ∃ h',Dy e sz s x h=some (.slice h.next 0 (len+n) (len+n) true,h')/\Bu h' (.slice h.next 0 (len+n) (len+n) true) h.next e sz (len+n) (l++new)/\h'.next=h.next+1/\A9 (fun i=>0<len/\i=q) h h':=by
 have e0:Nat.beq n 0=false:=by cases n with|zero=>omega|succ n=>rfl
 rcases r with ⟨rfl,rfl,rfl|⟨b,rfl⟩⟩|⟨hp,rfl,hq,hlen⟩
 ·refine⟨h.new (.vec new e sz),?_,.inr ⟨by omega,rfl,?_,by rw[List.nil_append,Nat.zero_add];exact hs⟩,rfl,A9.new _ _⟩
  ·unfold Dy
   simp only[hx,Ls,e0,A6,hc,Nat.ble_eq_true_of_le hn',An,Nat.zero_add]
  ·rw[Ag];rfl
 ·have e2:Nat.ble (Nat.add 0 n) 0=false:=by cases n with|zero=>omega|succ n=>show Nat.ble (0+(n+1)) 0=false;rw[Nat.zero_add];rfl
  have e3:Ni h sz 0 (.slice b 0 0 0 false)=some []:=rfl
  refine⟨h.new (.vec new e sz),?_,.inr ⟨by omega,rfl,?_,by rw[List.nil_append,Nat.zero_add];exact hs⟩,rfl,A9.new _ _⟩
  ·unfold Dy
   simp only[hx,Ls,e0,A6,hc,e3,e2,Nat.ble_eq_true_of_le hn',Nat.ble_eq_true_of_le hl,An]
   rfl
  ·rw[Ag];rfl
 ·have hs2:Ni h sz len (.slice q 0 len len true)=some l:=by
   show Ay (Nat.beq len 0) (some []) (Ut h q 0 (Nat.mul len sz))=_
   have:Nat.beq len 0=false:=by cases len with|zero=>omega|succ n=>rfl
   rw[this,A6]
   unfold Ut Xt
   rw[hq]
   exact A3 hlen
  refine⟨(h.del q).new (.vec (l++new) e sz),?_,.inr ⟨by omega,rfl,?_,by rw[List.length_append,hlen,hs,Nat.add_mul]⟩,rfl,?_⟩
  ·unfold Dy
   simp only[hx,Ls,e0,A6,hc,hs2,hq,Nat.ble_eq_true_of_le hn',Nat.ble_eq_true_of_le hl,An]
   rw[show Nat.beq 0 0=true from rfl,An,Nat.beq_refl,An,B8,hlen,show Nat.beq (len*sz) (Nat.mul len sz)=true from Nat.beq_refl _,An,Nat.beq_refl,An,Nat.beq_refl,An,Aog]
   rfl
  ·rw[show h.next=(h.del q).next from rfl,Ag]
  ·exact(A9.del h (.inl ⟨hp,rfl⟩)).trans (A9.new _ _)
theorem Zg {z:List EV}{e:TypeId}{sz:Nat}{v:EV}(hp:v.plain=true)(hz:z.length=sz)(hv:v.cells.length=sz)(hs:sz<=65536):B5 z e sz 1 [(0,v)] h=some (.slice h.next 0 1 1 false,h.new (.cells v.cells e)):=by
 unfold B5 Ux
 simp only
 rw[Nat.ble_eq_true_of_le (show Nat.mul 1 sz<=65536 by show 1*sz<=65536;omega),An]
 have hf:Wm (Akv sz) [(0,v)] (rep z 1)=some v.cells:=by
  show oB (Ai7 fun off size=>Ay v.plain (Ay (Nat.beq (Jh v.cells) size) (oB _ (Lt (rep z 1) off v.cells)) none) none) (Akv sz 0)=_
  show Ay v.plain (Ay (Nat.beq (Jh v.cells) sz) (oB _ (Lt (rep z 1) (Nat.mul 0 sz) v.cells)) none) none=_
  rw[hp,An,B8,hv,Nat.beq_refl,An]
  have:rep z 1=z:=by show z++[]=z;rw[List.append_nil]
  rw[this,show Nat.mul 0 sz=0 from Nat.zero_mul sz,Cb (by rw[hz,hv])]
  rfl
 rw[hf];rfl
theorem Xd {b:Nat}{e:TypeId}{sz:Nat}{l:List EV}(hb:h.get b=some (.cells l e))(hl:l.length=sz):Ni h sz 1 (.slice b 0 1 1 false)=some l:=by
 show Ay (Nat.beq 1 0) (some []) (Ut h b 0 (Nat.mul 1 sz))=_
 rw[show Nat.beq 1 0=false from rfl,A6]
 unfold Ut Xt
 rw[hb]
 exact A3 (by rw[hl];show sz=1*sz;omega)
theorem Of {s v:EV}{q:Nat}{e:TypeId}{sz len:Nat}{l z:List EV}{k:EV->Aa->R}{Q:EV->Aa->Prop}(r:Bu h s q e sz len l)(hb:HB h)(hp:v.plain=true)(hz:z.length=sz)(hv:v.cells.length=sz)(hs:sz<=65536)(hl:len<=65535)
 (hk:∀ h',Bu h' (.slice (h.next+1) 0 (len+1) (len+1) true) (h.next+1) e sz (len+1) (l++v.cells)->h'.next=h.next+2->A9 (fun i=>0<len/\i=q) h h'->Ok (k (.slice (h.next+1) 0 (len+1) (len+1) true) h') Q) :
 Ok (Al (B5 z e sz 1 [(0,v)] h) fun w h=>Al (Dy e sz s w h) k) Q:=by
 rw[Zg hp hz hv hs,Bg]
 have r1:Bu (h.new (.cells v.cells e)) s q e sz len l:=r.frame fun hl=>Bd _ (hb q _ (r.block hl))
 obtain⟨h',e1,r2,n2,c2⟩:=Qe (n:=1) (x:=.slice h.next 0 1 1 false) r1 rfl (by omega) (by omega) (by omega) (Xd (Ag _ _) hv) (by rw[hv];omega)
 rw[e1,Bg]
 exact hk h' r2 n2 ((A9.new h _).trans c2)
end Go.Ev
