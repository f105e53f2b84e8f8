import Derived.Test.YtpkcfamminlmaaaGreatEvThree
import Derived.Laws.StructEq
import Derived.ChangeKeysEq
import Derived.KernelRfl
import Derived.Below
set_option linter.unusedVariables false
set_option linter.unusedSimpArgs false
set_option linter.unusedSectionVars false
namespace Go.Ev
open Classical
section
variable {T:Ff}{call round:Ae}(hC:Qm call)(hR:Qm round){n:Nat}{ops:List Oper}{bs:Tr Nat}{base:Nat}
theorem Sd.awf {o:Oper}{i:Nat}{s s':DSt}{v:EV}{E E':Aa}{kd:Kd}(sd:Sd T call round n ops bs base o i s s' v E E' kd):AWf s.h s'.h where
 next:=by rw[<-sd.Xx,<-sd.Yc];exact sd.w.next
 mw:=sd.mw.1
 same q h1 h2:=by rw[sd.A66,if_pos (sd.mw.2 q h1 h2)]
 live q x hx:=by
  rw[sd.A66]at hx
  split at hx
  ·exact .inl ⟨x,hx⟩
  ·rcases sd.w.live q x hx with ⟨o',h⟩|h
   ·exact .inl ⟨o',sd.sub q o' h⟩
   ·rw[sd.Xx]at h;exact .inr h
 lt H q x hx:=by
  have hnext:s.h.next<=s'.h.next:=by rw[<-sd.Xx,<-sd.Yc];exact sd.w.next
  rw[sd.A66]at hx
  split at hx
  ·exact Nat.lt_of_lt_of_le (H q x hx) hnext
  ·rw[<-sd.Yc]
   refine sd.w.lt (fun q x hx=>?_) q x hx
   rw[sd.Xx];exact H q x (sd.sub q x hx)
theorem Sd.nw {o:Oper}{i:Nat}{s s':DSt}{v:EV}{E E':Aa}{kd:Kd}(sd:Sd T call round n ops bs base o i s s' v E E' kd)(h:∀ x ∈ s.nw,x.2<s.h.next):∀ x ∈ s'.nw,x.2<s'.h.next:=by
 have hnext:s.h.next<=s'.h.next:=sd.awf.next
 intro x hx
 have:=sd.kd
 cases kd with
 | idle=>rw[this.2.2.2.1]at hx;exact Nat.lt_of_lt_of_le (h x hx) hnext
 | load q=>rw[this.2.2.2.1]at hx;exact Nat.lt_of_lt_of_le (h x hx) hnext
 | new=>
  obtain⟨a,⟨y,b⟩,c,d,_⟩:=this
  rw[d]at hx
  rcases List.mem_cons.1 hx with rfl|hx
  ·show s.h.next<_
   rw[<-sd.Yc,b,Aa.Fj,sd.Xx];omega
  ·exact Nat.lt_of_lt_of_le (h x hx) hnext
 | sto q=>
  obtain⟨_,_,d,_⟩:=this
  rw[d]at hx;exact Nat.lt_of_lt_of_le (h x hx) hnext
 | Ww mw=>
  obtain⟨b,_,_,_,_,_,d,_⟩:=this
  rw[d]at hx;exact Nat.lt_of_lt_of_le (h x hx) hnext
include hC hR in
theorem Ayf:∀ {l:List Oper} {i:Nat} {s r:DSt},Ng T call round n ops bs base l i s=some r->(∀ x ∈ s.nw,x.2<s.h.next)->AWf s.h r.h
 | [],_,s,r,h,_=>by cases h;exact .refl _
 | o::l,i,s,r,h,hn=>by
  simp only[Ng]at h
  split at h
  ·rename_i s' hs
   obtain⟨v,E,E',kd,sd⟩:=Aq3 hC hR hs hn
   exact sd.awf.trans (Ayf h (sd.nw hn))
  ·cases h
include hC hR in
theorem A1s {tm tm':Ac}{h h':Aa}(hop:Ahd T call round n ops tm h=some (tm',h')):AWf h h':=by
 unfold Ahd at hop
 obtain⟨_,hop⟩:=Aw hop
 obtain⟨_,hop⟩:=Aw hop
 split at hop
 ·rename_i hs
  cases hop
  exact Ayf hC hR hs (fun x hx=>by cases hx)
 ·cases hop
end
theorem A74 {P:Program}{T:Ff}(hT:Ly P T){call round:Ae}(hC:Xs P call)(hR:Ab6 P round)(wC:Qm call)(wR:Qm round)
 {ops:Array Oper} {n:Nat} {p:Nat->Prop} {f:Loc} {h:Aa} {w:World} {tm tm':Ac} {h':Aa} (ht:Jm p n tm) (hh:Pj p h) (rp:Pa f h w)
 (hop:Ahd T call round n ops.toList tm h=some (tm',h')) (b:FB) (t:Nat) (k:List Item) (cs:List Frame) (dr:Nat) :
 ∃ f' w',Steps P (lone (b.at (Ba f n tm) (.inRegion ops (Region.linearise .any ops t)::k)) cs { w with drawn:=dr }) (lone (b.at (Ba f' n tm') (.inRegion ops []::k)) cs w') /\
  Move p f h w f' h' w'/\Wf p h h'/\Jm (grow p h h') n tm':=by
 have Xq:=A1s wC wR hop
 unfold Ahd at hop
 obtain⟨hbk,hop⟩:=Aw hop
 obtain⟨htm,hop⟩:=Aw hop
 split at hop
 ·rename_i tm1 h1 b1 b2 b3 b4 b5 hs
  cases hop
  obtain⟨σ,V,E,E',K,e0,eN,tr⟩:=Bec (s:=⟨tm,h,0,[],[],[],[]⟩) wC wR hs (fun q x hx=>hh.lt q (hh.get q x hx).1) rfl
  have hlen:ops.toList.length=ops.size:=by simp
  rw[hlen]at eN
  have ht0:Jm p n (σ 0).tm:=by rw[e0];exact ht
  have hh0:Pj p (σ 0).h:=by rw[e0];exact hh
  have hfalse:∀ j,¬ ((Array.replicate ops.size false).getD j false=true):=by
   intro j
   simp only[Array.getD_eq_getD_getElem?,Array.getElem?_replicate]
   split <;> simp
  have hI:Inv n ops (I0 ops.toList 0 .nil) σ V E E' p f w (fun j=>(Array.replicate ops.size false).getD j false=true) f { w with drawn:=dr }:=by
   refine⟨fun j hj=>absurd hj (hfalse j),fun j hj=>absurd hj (hfalse j),fun j hj=>absurd hj (hfalse j),?_⟩
   have:hS E E' (σ 0).h.get (fun j=>(Array.replicate ops.size false).getD j false=true) ops.size=(σ 0).h.get:=by
    funext q;exact Bac _ (fun j _ hs=>absurd hs (hfalse j)) _ (Nat.zero_le _)
   rw[this]
   have hr0:Pa f (σ 0).h w:=by rw[e0];exact rp
   exact(Zd.start hr0).drew dr
  have htm0:Ba f n (tmS n ops V (σ 0).tm (fun j=>(Array.replicate ops.size false).getD j false=true) ops.size)=Ba f n tm:=by
   rw[show tm=(σ 0).tm by rw[e0]]
   exact Aip f n fun t=>A2u _ (fun j _ hs=>absurd hs (hfalse j)) _ (Nat.zero_le _)
  obtain⟨f',w',hst,S,hS,I⟩:=A7c hT hC hR tr rfl htm hbk ht0 hh0 b k cs ops.size t (Array.replicate ops.size false) f _ (by simp) (by
   unfold unl;exact Nat.le_trans (List.length_filter_le _ _) (by simp)) hI
  rw[htm0]at hst
  have hmv:=I.mv.move (h:=(σ ops.size).h) (fun q=>(A7h tr hS q).symm)
  have e1:(σ ops.size).h=h':=by rw[eN]
  have e2:(σ ops.size).tm=tm':=by rw[eN]
  have e3:(σ 0).h=h:=by rw[e0]
  have hgrow:∀ q,pS p σ ops.size S q/\q<nx σ ops.size->grow p h h' q:=by
   rintro q ⟨h1|⟨j,_,hj,h1,h2⟩,h3⟩
   ·exact .inl h1
   ·refine .inr ⟨?_,?_⟩
    ·have:=tr.Aq2 (i:=0) (m:=j) (by omega) (by omega)
     rw[<-e3];exact Nat.le_trans this h1
    ·rw[<-e1];exact h3
  rw[e2]at hst
  rw[e1,e3]at hmv
  refine⟨f',w',hst,hmv,⟨Xq.next,Xq.mw,Xq.same,Xq.live,⟨fun q hq=>?_,fun q x hx=>?_⟩⟩,?_⟩
  ·rcases hq with hq|hq
   ·exact Nat.lt_of_lt_of_le (hh.lt q hq) Xq.next
   ·exact hq.2
  ·obtain⟨a,b⟩:=I.hok tr hh0 ops.size (Nat.le_refl _) q x (by rw[A7h tr hS q,e1];exact hx)
   exact⟨hgrow q a,b.mono hgrow⟩
  ·have:=I.Bc1 tr ht0 hh0.lt ops.size (Nat.le_refl _)
   rw[Aje tr hS _ (Nat.le_refl _),e2]at this
   exact this.mono hgrow
 ·cases hop
end Go.Ev

namespace Go.Ev
def Ib(f:Loc)(d:Nat):Deferred:={ target:=.collected (f.b d),args:=#[] }
def Az8(f:Loc)(a:Aam):FB:=⟨a.fn,a.defers.map (Ib f),a.Eu.map f.b⟩
noncomputable def K9(f:Loc)(a:Aam):Frame:=
 { fn:=a.fn,tmps:=Ba f a.n a.tmps,todo:=a.todo,defers:=a.defers.map (Ib f),mode:=if a.ret=true then .returning else .run,kind:=.normal,roundOf:=a.Eu.map f.b }
structure R7(p:Nat->Prop)(a:Aam):Prop where
 tm:Jm p a.n a.tmps
 dfr:∀ d ∈ a.defers,p d
 Eu:∀ l,a.Eu=some l->p l
 ret:a.ret=true->a.Eu=none
theorem R7.mono {p q:Nat->Prop}{a:Aam}(h:R7 p a)(hpq:∀ i,p i->q i):R7 q a:=⟨h.tm.mono hpq,fun d hd=>hpq d (h.dfr d hd),fun l hl=>hpq l (h.Eu l hl),h.ret⟩
theorem Asi {p:Nat->Prop}{f g:Loc}(hfg:Loc.Ex p f g){a:Aam}(h:R7 p a):K9 f a=K9 g a:=by
 unfold K9
 rw[I9 hfg h.tm]
 have h1:a.defers.map (Ib f)=a.defers.map (Ib g):=by
  apply List.map_congr_left
  intro d hd
  unfold Ib;rw[(hfg d (h.dfr d hd)).1]
 have h2:a.Eu.map f.b=a.Eu.map g.b:=by
  cases hr:a.Eu with
  | none=>rfl
  | some l=>simp only[Option.map_some];rw[(hfg l (h.Eu l hr)).1]
 rw[h1,h2]
theorem Ac9 {p:Nat->Prop}{f g:Loc}(hfg:Loc.Ex p f g){a:Aam}(h:R7 p a):Az8 f a=Az8 g a:=by
 have:=Asi hfg h
 unfold K9 at this
 unfold Az8
 injection this with _ _ _ h4 _ _ h7
 rw[h4,h7]
section
variable {P:Program}{b:FB}{tmps:Array Value}{k:List Item}{cs:List Frame}{w:World}
theorem Bc6:step P (lone (b.at tmps (.code .skip::k)) cs w)=.next (lone (b.at tmps k) cs w):=step_lone_go (by simp[stepG,stepG.exec,FB.at])
theorem A9p {l:Nat}:step P (lone (b.at tmps (.code (.label l)::k)) cs w)=.next (lone (b.at tmps k) cs w):=step_lone_go (by simp[stepG,stepG.exec,FB.at])
theorem Ayy {id:Nat}:step P (lone (b.at tmps (.inBlock id::k)) cs w)=.next (lone (b.at tmps k) cs w):=step_lone_go (by simp[stepG,stepG.exec,FB.at])
theorem Bh3 {x y:Code}:step P (lone (b.at tmps (.code (.seq x y)::k)) cs w)=.next (lone (b.at tmps (.code x :: .code y::k)) cs w):=step_lone_go (by simp[stepG,stepG.exec,FB.at])
theorem A1i {c:Operand}{x y:Code}{t:Bool}(h:H4 tmps c=.bool t):step P (lone (b.at tmps (.code (.cond c x y)::k)) cs w)=.next (lone (b.at tmps (.code (if t then x else y)::k)) cs w):=
 step_lone_go (by
  have:=FB.eval_at b tmps (.code (.cond c x y)::k)
  simp only[FB.at]at this
  simp[stepG,stepG.exec,FB.at,this,h])
theorem Bal {id:Nat}{c:Code}:step P (lone (b.at tmps (.code (.block id c)::k)) cs w)=.next (lone (b.at tmps (.code c :: .inBlock id::k)) cs w):=step_lone_go (by simp[stepG,stepG.exec,FB.at])
theorem Ba4 {c:Code}:step P (lone (b.at tmps (.code (.loop c)::k)) cs w)=.next (lone (b.at tmps (.code c :: .inLoop c::k)) cs w):=step_lone_go (by simp[stepG,stepG.exec,FB.at])
theorem A4e {c:Code}:step P (lone (b.at tmps (.inLoop c::k)) cs w)=.next (lone (b.at tmps (.code c :: .inLoop c::k)) cs w):=step_lone_go (by simp[stepG,stepG.exec,FB.at])
theorem Bb8 {id:Nat}{k':List Item}(h:exitTo id k=some k'):step P (lone (b.at tmps (.code (.exit id)::k)) cs w)=.next (lone (b.at tmps k') cs w):=step_lone_go (by simp[stepG,stepG.exec,FB.at,h])
theorem Bgm(h:b.Eu=none):step P (lone (b.at tmps (.code .ret::k)) cs w)=.next (lone { b.at tmps (.code .ret::k) with mode:=.returning } cs w):=step_lone_go (by simp[stepG,stepG.exec,FB.at,h])
theorem Bew(h:b.Eu=none):step P (lone (b.at tmps []) cs w)=.next (lone { b.at tmps [] with mode:=.returning } cs w):=step_lone_go (by simp[stepG,stepG.exec,FB.at,h])
theorem A3x {id:Nat}{ops:Array Oper}:step P (lone (b.at tmps (.code (.region id ops false)::k)) cs w)=.next (lone (b.at tmps (.inRegion ops (List.range ops.size)::k)) cs w):=step_lone_go (by simp[stepG,stepG.exec,FB.at])
theorem Bbs(hm:P.follows .mixedOrders=true){id:Nat}{ops:Array Oper}:step P (lone (b.at tmps (.code (.region id ops true)::k)) cs w) =
 .next (lone (b.at tmps (.inRegion ops (Region.linearise .any ops (w.tape w.drawn (.order b.fn id)))::k)) cs { w with drawn:=w.drawn+1 }):=
 step_lone_go (by simp[stepG,stepG.exec,FB.at,choose,Sem.run,Question.forced,Question.cut,hm,Region.schedule])
theorem Avx {l:Nat}(hr:b.Eu=some l){v:Value}{w':World}{jump:Option Code}(he:(Instr.endRound l jump).run P w=.ok v w'){todo:List Item}
 (ht:(todo = []/\jump=none)\/(∃ k,todo=.code .ret::k/\jump=some .ret)\/(∃ id k,todo=.code (.exit id)::k/\exitTo id k=none/\jump=some (.exit id))) {caller:Frame} :
 step P (lone (b.at tmps todo) (caller::cs) w)=.next (lone (caller.finish v) cs w'):=by
 refine step_lone_go ?_
 rcases ht with ⟨rfl,rfl⟩|⟨k,rfl,rfl⟩|⟨id,k,rfl,hx,rfl⟩
 ·simp[stepG,stepG.exec,FB.at,hr,he,doReturn]
 ·simp[stepG,stepG.exec,FB.at,hr,he,doReturn]
 ·simp[stepG,stepG.exec,FB.at,hr,hx,he,doReturn]
end
section
variable {P:Program}{T:Ff}(hT:Ly P T){p:Nat->Prop}{f:Loc}{h:Aa}{w:World}
theorem Awl(hT:Ly P T)(hh:Pj p h)(rp:Pa f h w){t:TypeId}{i off n:Nat}{cs:List EV}(hs:T.size t=some n)(hc:Hh h i off n=some cs){b:Bool}(ha:T.agg t=some b){v:EV}
 (hv:(b=true/\v=.agg cs)\/(b=false/\cs = [v])):(loadVar t ⟨f.b i,off,none⟩).run P w=.ok (B9 f v) w/\v.ok p:=by
 obtain⟨h1,h2,h3,h4,h5⟩:=Abz (P:=P) hh rp hc
 rcases hv with ⟨rfl,rfl⟩|⟨rfl,rfl⟩
 ·refine⟨?_,h2,h3⟩
  simp only[loadVar,Sem.run_bind,Agf hT w ha,Result.andThen_ok,if_true,Gq hT w hs,h1,Sem.run_pure,B9]
 ·refine⟨?_,h2.1⟩
  have:=h5 0 v rfl
  simp only[loadVar,Sem.run_bind,Agf hT w ha,Result.andThen_ok,Bool.false_eq_true,if_false]
  simp only[Nat.add_zero]at this
  rw[run_load,this]
theorem Ats {α β:Type}(P:Program)(w:World)(g:α->Sem β):∀ (l:List α) (r:List β),(l.length=r.length)->(∀ (i:Nat) a b,l[i]? = some a->r[i]? = some b->(g a).run P w=.ok b w)->(l.mapM g).run P w=.ok r w
 | [],[],_,_=>by simp
 | a::l,b::r,hl,h=>by
  have h0:=h 0 a b rfl rfl
  have ih:=Ats P w g l r (by simpa using hl) (fun i a b h1 h2=>h (i+1) a b (by simpa using h1) (by simpa using h2))
  simp[List.mapM_cons,h0,ih]
 | [],_::_,h,_=>by simp at h
 | _::_,[],h,_=>by simp at h
def Ai9(tmps:Array Value):ResultVar->Sem Value
 | .tmp t=>pure (tmps.getD t undef)
 | .cell a t=>do loadVar t (← asAddr (tmps.getD a undef))
theorem Ay6(fn:Func)(tmps:Array Value):results fn tmps=(do
 let vs ← fn.results.mapM (Ai9 tmps)
 pure (if h:vs.size=1 then vs[0] else .tuple vs)):=by
 unfold results
 congr 1
theorem Aal(hT:Ly P T)(hh:Pj p h)(rp:Pa f h w){n:Nat}{tm:Ac}(ht:Jm p n tm):∀ {l:List ResultVar} {vs:List EV},Iz T tm h l=some vs ->
 EV.O9 p vs/\l.length=(Bn f vs).length/\∀ (i:Nat) a b,l[i]? = some a->(Bn f vs)[i]? = some b->(Ai9 (Ba f n tm) a).run P w=.ok b w
 | [],vs,hr=>by cases hr;exact⟨trivial,rfl,fun i a b h=>by simp at h⟩
 | .tmp t::r,vs,hr=>by
  simp only[Iz]at hr
  split at hr
  ·rename_i l hl
   cases hr
   obtain⟨h1,h2,h3⟩:=Aal hT hh rp ht hl
   refine⟨⟨ht.tmp t,h1⟩,by simp[Bn,h2],fun i a b ha hb=>?_⟩
   cases i with
   | zero=>
    simp only[List.getElem?_cons_zero,Option.some.injEq,Bn]at ha hb
    subst ha hb
    simp only[Ai9,Sem.run_pure,Ui f ht]
   | succ i=>exact h3 i a b (by simpa using ha) (by simpa [Bn] using hb)
  ·cases hr
 | .cell a t::r,vs,hr=>by
  simp only[Iz]at hr
  split at hr
  ·rename_i i off l n' ha hl hn
   split at hr
   ·rename_i cs hc
    obtain⟨h1,h2,h3⟩:=Aal hT hh rp ht hl
    have key:∀ (b:Bool) (v:EV),T.agg t=some b->((b=true/\v=.agg cs)\/(b=false/\cs = [v]))->some (v::l)=some vs->EV.O9 p vs/\(ResultVar.cell a t::r).length=(Bn f vs).length/\∀ (i:Nat) a' b',(ResultVar.cell a t::r)[i]? = some a'->(Bn f vs)[i]? = some b'->(Ai9 (Ba f n tm) a').run P w=.ok b' w:=by
     intro b v hb hv e
     cases e
     obtain⟨l1,l2⟩:=Awl hT hh rp hn hc hb hv
     refine⟨⟨l2,h1⟩,by simp[Bn,h2],fun i a' b' ha' hb'=>?_⟩
     cases i with
     | zero=>
      simp only[List.getElem?_cons_zero,Option.some.injEq,Bn]at ha' hb'
      subst ha' hb'
      simp only[Ai9,Ui f ht,ha,B9,asAddr,Sem.run_bind,Sem.run_pure,Result.andThen_ok,l1]
     | succ i=>exact h3 i a' b' (by simpa using ha') (by simpa [Bn] using hb')
    split at hr
    ·rename_i hb;exact key true _ hb (.inl ⟨rfl,rfl⟩) hr
    ·rename_i hb
     split at hr
     ·exact key false _ hb (.inr ⟨rfl,rfl⟩) hr
     ·cases hr
    ·cases hr
   ·cases hr
  ·cases hr
theorem Axd(hT:Ly P T)(hh:Pj p h)(rp:Pa f h w){n:Nat}{tm:Ac}(ht:Jm p n tm){fn:Func}{vs:List EV}(hr:Iz T tm h fn.results.toList=some vs){v:EV}
 (hv:vs = [v]\/((∀ x,vs ≠ [x])/\v=.tuple vs)):(results fn (Ba f n tm)).run P w=.ok (B9 f v) w/\v.ok p:=by
 obtain⟨h1,h2,h3⟩:=Aal hT hh rp ht hr
 have hm:(fn.results.toList.mapM (Ai9 (Ba f n tm))).run P w=.ok (Bn f vs) w:=Ats P w _ _ _ h2 h3
 constructor
 ·have hm':(fn.results.mapM (Ai9 (Ba f n tm))).run P w=.ok (Bn f vs).toArray w:=by
   have e:fn.results.mapM (Ai9 (Ba f n tm))=Functor.map List.toArray (fn.results.toList.mapM (Ai9 (Ba f n tm))):=by
    rw[<-List.mapM_toArray,Array.toArray_toList]
   rw[e,Sem.run_map,hm];rfl
  rw[Ay6,Sem.run_bind,hm',Result.andThen_ok,Sem.run_pure]
  congr 1
  rcases hv with rfl|⟨hne,rfl⟩
  ·simp[Bn]
  ·rw[dif_neg]
   ·simp only[B9]
   ·intro hsz
    simp only[List.size_toArray,Cl]at hsz
    match vs,hsz with
    | [x],_=>exact hne x rfl
 ·rcases hv with rfl|⟨_,rfl⟩
  ·exact h1.1
  ·exact h1
end
end Go.Ev

namespace Go.Ev
theorem Afv(f:Loc)(fn n:Nat)(tm:Ac)(todo:List Item)(ds:List Nat)(Eu:Option Nat):
 K9 f ⟨fn,n,tm,todo,ds,false,Eu⟩=(FB.mk fn (ds.map (Ib f)) (Eu.map f.b)).at (Ba f n tm) todo:=rfl
theorem Ael(f:Loc)(fn n:Nat)(tm:Ac)(todo:List Item)(ds:List Nat):
 K9 f ⟨fn,n,tm,todo,ds,true,none⟩ = { (FB.mk fn (ds.map (Ib f)) none).at (Ba f n tm) todo with mode:=.returning }:=rfl
def Sim(P:Program)(p:Nat->Prop)(f:Loc)(w:World)(cs:List Frame)(s s':Hi):Prop:=
 ∃ f' w',Steps P (lone (K9 f s.fr) cs w) (lone (K9 f' s'.fr) cs w')/\Move p f s.h w f' s'.h w'/\Wf p s.h s'.h/\R7 (grow p s.h s'.h) s'.fr/\s'.fr.fn=s.fr.fn/\s'.fr.Eu=s.fr.Eu
def Fin(P:Program)(p:Nat->Prop)(f:Loc)(w:World)(s:Hi)(v:EV)(h':Aa):Prop:=
 match s.fr.Eu with
 | none=>h'=s.h/\(K9 f s.fr).leaving P w (.returned (B9 f v))/\v.ok p
 | some _=>∀ caller cs,∃ w',Steps P (lone (K9 f s.fr) (caller::cs) w) (lone (caller.finish (B9 f v)) cs w')/\Move p f s.h w f h' w'/\Wf p s.h h'/\v.ok p
section
variable {P:Program}{T:Ff}{p:Nat->Prop}{f:Loc}{h:Aa}{w:World}{cs:List Frame}
theorem Sim.stay {fr fr':Aam}(hh:Pj p h)(rp:Pa f h w)(hs:Steps P (lone (K9 f fr) cs w) (lone (K9 f fr') cs w))(ho:R7 p fr')(h1:fr'.fn=fr.fn)(h2:fr'.Eu=fr.Eu):Sim P p f w cs ⟨fr,h⟩ ⟨fr',h⟩:=
 ⟨f,w,hs,Move.refl rp,Wf.refl hh,by rw[Iw _ _ _ rfl];exact ho,h1,h2⟩
theorem Zk(rp:Pa f h w){l:Nat}{st:LoopState}{pd:Option Code}{fn n:Nat}{tm:Ac}{ps:List Tmp}{asg body:Code}{d:Nat}(hg:h.get l=some (.loop st pd fn n tm ps asg body d)):
 (Instr.getLoop (f.b l)).run P w=.ok ⟨st,pd,fn,Ba f n tm,ps.toArray,asg,body,f.b d⟩ w/\w.heap[f.b l]? = some (.loop ⟨st,pd,fn,Ba f n tm,ps.toArray,asg,body,f.b d⟩):=by
 obtain⟨r,hr,rfl⟩:=rp.obj l _ hg
 have hgo:=Ky (P:=P) hr (by intros;simp)
 refine⟨?_,hr⟩
 simp only[Instr.getLoop,Sem.run_bind,hgo,Result.andThen_ok,Sem.run_pure]
theorem At4(hh:Pj p h)(rp:Pa f h w){l:Nat}{st st':LoopState}{pd pd':Option Code}{fn n:Nat}{tm:Ac}{ps:List Tmp}{asg body:Code}{d:Nat}(hg:h.get l=some (.loop st pd fn n tm ps asg body d)):
 Move p f h w f (h.put l (.loop st' pd' fn n tm ps asg body d)) { w with heap:=w.heap.setIfInBounds (f.b l) (.loop ⟨st',pd',fn,Ba f n tm,ps.toArray,asg,body,f.b d⟩) } /\
 Wf p h (h.put l (.loop st' pd' fn n tm ps asg body d)):=
 ⟨Move.setObj rp hg rfl,Wf.put hh hg (hh.get l _ hg).2⟩
theorem Aut(rp:Pa f h w){l:Nat}{st:LoopState}{pd:Option Code}{fn n:Nat}{tm:Ac}{ps:List Tmp}{asg body:Code}{d:Nat}(hg:h.get l=some (.loop st pd fn n tm ps asg body d))(jump:Option Code):
 (Instr.endRound (f.b l) jump).run P w=.ok (.bool jump.isNone) { w with heap:=w.heap.setIfInBounds (f.b l) (.loop ⟨if jump.isNone then .ready else .done,jump,fn,Ba f n tm,ps.toArray,asg,body,f.b d⟩) }:=by
 obtain⟨h1,h2⟩:=Zk (P:=P) rp hg
 have hs:=Mz (P:=P) (o':=.loop ⟨if jump.isNone then .ready else .done,jump,fn,Ba f n tm,ps.toArray,asg,body,f.b d⟩) h2 (by intros;simp)
 simp only[Instr.endRound,Sem.run_bind,h1,Result.andThen_ok,hs,Sem.run_pure]
theorem Aqm {fn n:Nat}{tm:Ac}{todo:List Item}{ds:List Nat}{Eu:Option Nat}{jump:Option Code}{s':Hi}(hop:leave fn n tm todo ds Eu h jump=.go s'):
 Eu=none/\s'=⟨⟨fn,n,tm,todo,ds,true,none⟩,h⟩/\(jump=none\/jump=some .ret):=by
 unfold leave at hop
 split at hop
 ·split at hop
  ·cases hop;exact⟨rfl,rfl,.inl rfl⟩
  ·cases hop;exact⟨rfl,rfl,.inr rfl⟩
  ·cases hop
 ·split at hop
  ·split at hop <;> cases hop
  ·cases hop
theorem Aij(hh:Pj p h)(rp:Pa f h w){fn n:Nat}{tm:Ac}{todo:List Item}{ds:List Nat}{Eu:Option Nat}{jump:Option Code}{v:EV}{h':Aa}(hop:leave fn n tm todo ds Eu h jump=.done v h')
 (ht:(todo = []/\jump=none)\/(∃ k,todo=.code .ret::k/\jump=some .ret)\/(∃ id k,todo=.code (.exit id)::k/\exitTo id k=none/\jump=some (.exit id))) :
 Fin P p f w ⟨⟨fn,n,tm,todo,ds,false,Eu⟩,h⟩ v h':=by
 unfold leave at hop
 split at hop
 ·split at hop <;> cases hop
 ·rename_i l
  split at hop
  ·rename_i st pd fn' n' tm' ps asg body d hg
   have key:∀ (b:Bool) (st':LoopState),b=jump.isNone->st'=(if jump.isNone then .ready else .done)->Fin P p f w ⟨⟨fn,n,tm,todo,ds,false,some l⟩,h⟩ (.bool b) (h.put l (.loop st' jump fn' n' tm' ps asg body d)):=by
    intro b st' hb hst
    intro caller cs
    obtain⟨m1,m2⟩:=At4 (st':=st') (pd':=jump) hh rp hg
    refine⟨_,.one ?_,m1,m2,trivial⟩
    have he:=Aut (P:=P) rp hg jump
    rw[<-hst,<-hb]at he
    exact Avx (b:=FB.mk fn (ds.map (Ib f)) (some (f.b l))) rfl he ht
   split at hop
   ·cases hop;exact key true _ rfl rfl
   ·cases hop;exact key false _ rfl rfl
  ·cases hop
variable (hT:Ly P T){call round:Ae}(hC:Xs P call)(hR:Ab6 P round)(wC:Qm call)(wR:Qm round)
theorem A5g {fn:Nat}{tmps:Array Value}{todo:List Item}{d:Nat}{ds:List Deferred}{w':World}(h:(Instr.takeDeferred d).run P w=.ok [] w'):
 step P (lone { fn:=fn,tmps:=tmps,todo:=todo,defers:={ target:=.collected d,args:=#[] }::ds,mode:=.returning,kind:=.normal,roundOf:=none } cs w) =
  .next (lone { fn:=fn,tmps:=tmps,todo:=todo,defers:=ds,mode:=.returning,kind:=.normal,roundOf:=none } cs w'):=
 step_lone_go (by simp[stepG,unwind,h])
theorem Arn {b:FB}{l:Nat}(hl:b.Eu=some l){tmps:Array Value}{k:List Item}{w':World}(h:(Instr.beginRound l).run P w=.ok () w'):
 step P (lone (b.at tmps (.beginRound::k)) cs w)=.next (lone (b.at tmps k) cs w'):=
 step_lone_go (by simp[stepG,stepG.exec,stepG.apply,FB.at,hl,h,Frame.finish])
theorem Akl {b:FB}{tmps:Array Value}{k:List Item}{fo:Operand}{ps:Array Tmp}{asg body:Code}{l:Nat}{mark:List Deferred}{w1:World}{g:FuncId}{args:Array Value}
 (h1:(Instr.enterLoop b.fn tmps ps asg body b.Eu).run P w=.ok (l,mark) w1)
 (h2:(do let d ← resolve (H4 tmps) { callee:=.value fo,args:=#[.const (.func (.yield l) #[] #[])],argTypes:=#[] } 0;invoke d.target d.args:Sem Next).run P w1=.ok (.enter g args) w1) :
 step P (lone (b.at tmps (.code (.rangeFunc fo ps asg body)::k)) cs w)=.next (lone (Frame.enter P g args .normal) ((FB.mk b.fn (mark++b.defers) b.Eu).at tmps (.inRangeFunc l::k)::cs) w1):=by
 refine step_lone_go ?_
 have he:=FB.eval_at (FB.mk b.fn (mark++b.defers) b.Eu) tmps (.inRangeFunc l::k)
 simp only[FB.at]at he
 simp only[stepG,stepG.exec,FB.at,Sem.runT_eq,h1,GStep.bare_after,stepG.apply,he]
 rw[h2]
 simp
theorem Ax5 {b:FB}{tmps:Array Value}{k:List Item}{l:Nat}{jump:Option Code}{w1:World}(h1:(Instr.endLoop l).run P w=.ok jump w1):
 step P (lone (b.at tmps (.endRangeFunc l::k)) cs w)=.next (lone (b.at tmps ((jump.map Item.code).toList++k)) cs w1):=
 step_lone_go (by simp[stepG,stepG.exec,FB.at,h1])
theorem Ayw(rp:Pa f h w){l:Nat}{st:LoopState}(hst:st ≠ .busy){pd:Option Code}{fn n:Nat}{tm:Ac}{ps:List Tmp}{asg body:Code}{d:Nat}(hg:h.get l=some (.loop st pd fn n tm ps asg body d)):
 (Instr.endLoop (f.b l)).run P w=.ok pd { w with heap:=w.heap.setIfInBounds (f.b l) (.loop ⟨.exhausted,pd,fn,Ba f n tm,ps.toArray,asg,body,f.b d⟩) }:=by
 obtain⟨h1,h2⟩:=Zk (P:=P) rp hg
 have hs:=Mz (P:=P) (o':=.loop ⟨.exhausted,pd,fn,Ba f n tm,ps.toArray,asg,body,f.b d⟩) h2 (by intros;simp)
 have hb:(st == .busy)=false:=by cases st <;> first|rfl|exact absurd rfl hst
 simp only[Instr.endLoop,Sem.run_bind,h1,Result.andThen_ok,hb,Bool.false_eq_true,if_false,Sem.run_pure,hs]
theorem Ato(hC:Xs P call){fn n:Nat}{tm:Ac}{ds:List Nat}{Eu:Option Nat}{l:Nat}{k:List Item}{g:Nat}{args:List EV}{s':Hi}
 (hop:behind fn n tm ds Eu l k (call g args h)=.go s') (hh:Pj p h) (rp:Pa f h w) (ha:EV.O9 p args) (hf:R7 p ⟨fn,n,tm,k,ds,false,Eu⟩) :
 (∃ gn,P.funcs[g]? = some gn/\gn.body.isSome=true/\(gn.name == "runtime.NumGoroutine")=false)/\∃ f' w',p l ->
  Steps P (lone (Frame.enter P g (Bn f args).toArray .normal) ((FB.mk fn (ds.map (Ib f)) (Eu.map f.b)).at (Ba f n tm) (.inRangeFunc (f.b l)::k)::cs) w) (lone (K9 f' s'.fr) cs w') /\
  Move p f h w f' s'.h w'/\Wf p h s'.h/\R7 (grow p h s'.h) s'.fr/\s'.fr.fn=fn/\s'.fr.Eu=Eu:=by
 unfold behind at hop
 split at hop
 ·cases hop
 ·rename_i v h1 hcall
  obtain⟨hfn,hc⟩:=hC _ _ _ _ _ hcall
  refine⟨hfn,?_⟩
  split at hop
  ·rename_i st pd fn' n' tm' ps asg body d hg
   have key:st ≠ .busy->∀ todo:List Item,todo=(pd.map Item.code).toList++k->(AR.go ⟨⟨fn,n,tm,todo,ds,false,Eu⟩,h1.put l (.loop .exhausted pd fn' n' tm' ps asg body d)⟩=.go s')->∃ f' w',p l ->
    Steps P (lone (Frame.enter P g (Bn f args).toArray .normal) ((FB.mk fn (ds.map (Ib f)) (Eu.map f.b)).at (Ba f n tm) (.inRangeFunc (f.b l)::k)::cs) w) (lone (K9 f' s'.fr) cs w') /\
    Move p f h w f' s'.h w'/\Wf p h s'.h/\R7 (grow p h s'.h) s'.fr/\s'.fr.fn=fn/\s'.fr.Eu=Eu:=by
    intro hst todo htodo e
    cases e
    obtain⟨fr,f1,w1,hs,hfr,hl,hm,Xq,hvo⟩:=hc p f w hh rp ha ((FB.mk fn (ds.map (Ib f)) (Eu.map f.b)).at (Ba f n tm) (.inRangeFunc (f.b l)::k)::cs)
    have hgrow:R7 (grow p h h1) ⟨fn,n,tm,k,ds,false,Eu⟩:=hf.mono fun _ hi=>.inl hi
    obtain⟨m1,m2⟩:=At4 (st':=.exhausted) (pd':=pd) Xq.hok hm.rep hg
    have hnx:grow p h (h1.put l (.loop .exhausted pd fn' n' tm' ps asg body d))=grow p h h1:=by
     funext q;simp only[grow,Aa.X1]
    refine⟨f1,_,fun hpl=>⟨hs.trans (.head (step_leave_returned hl) (.one ?_)),hm.trans m1,Xq.trans m2,?_,rfl,rfl⟩⟩
    ·have e1:((FB.mk fn (ds.map (Ib f)) (Eu.map f.b)).at (Ba f n tm) (.inRangeFunc (f.b l)::k)).finish (B9 f1 v)=(FB.mk fn (ds.map (Ib f1)) (Eu.map f1.b)).at (Ba f1 n tm) (.endRangeFunc (f1.b l)::k):=by
      have:=Ac9 hm.Ex hf
      simp only[Az8]at this
      rw[this,hm.Ba hf.tm,(hm.Ex l hpl).1]
      rfl
     rw[e1,Ax5 (Ayw hm.rep hst hg),<-htodo]
     rfl
    ·rw[hnx]
     exact⟨hgrow.tm,hgrow.dfr,hgrow.Eu,fun x=>by cases x⟩
   split at hop
   ·cases hop
   ·rename_i hne;exact key hne _ (by cases pd <;> rfl) hop
  ·cases hop
end
end Go.Ev

namespace Go.Ev
section
variable {P:Program}{T:Ff}(hT:Ly P T){call round:Ae}(hC:Xs P call)(hR:Ab6 P round)(wC:Qm call)(wR:Qm round)
include wC wR in
theorem Au6 {s:Hi}{h':Aa}(hop:(∃ s',Cc T call round s=.go s'/\s'.h=h')\/∃ v,Cc T call round s=.done v h'):AWf s.h h':=by
 obtain⟨⟨fn,n,tm,todo,ds,ret,Eu⟩,h⟩:=s
 have hleave:∀ {todo:List Item} {jump:Option Code} {h':Aa},((∃ s',leave fn n tm todo ds Eu h jump=.go s'/\s'.h=h')\/∃ v,leave fn n tm todo ds Eu h jump=.done v h')->AWf h h':=by
  intro todo jump h' hl
  rcases hl with ⟨s',h1,h2⟩|⟨v,h1⟩
  ·obtain⟨_,e,_⟩:=Aqm h1
   rw[e]at h2;subst h2;exact .refl _
  ·unfold leave at h1
   split at h1
   ·split at h1 <;> cases h1
   ·split at h1
    ·rename_i hg
     split at h1
     ·cases h1;exact .put hg _
     ·cases h1;exact .put hg _
    ·cases h1
 cases ret with
 | true=>
  cases ds with
  | cons d ds=>
   simp only[Cc]at hop
   split at hop
   ·rename_i hg
    rcases hop with ⟨s',e,rfl⟩|⟨v,e⟩
    ·cases e;exact .put hg _
    ·cases e
   ·rcases hop with ⟨s',e,_⟩|⟨v,e⟩ <;> cases e
  | nil=>
   simp only[Cc]at hop
   rcases hop with ⟨s',e,rfl⟩|⟨v,e⟩
   ·split at e
    ·split at e <;> cases e
    ·cases e
   ·split at e
    ·split at e <;> first|(cases e;done)|(cases e;exact .refl _)
    ·cases e
 | false=>
  cases todo with
  | nil=>simp only[Cc]at hop;exact hleave hop
  | cons it k=>
   have triv:∀ {s0:Hi},((∃ s',AR.go s0=.go s'/\s'.h=h')\/∃ v,AR.go s0=.done v h')->s0.h=h':=by
    rintro s0 (⟨s',e,rfl⟩|⟨v,e⟩) <;> cases e
    rfl
   have nofail:((∃ s',AR.fail=.go s'/\s'.h=h')\/∃ v,AR.fail=.done v h')->AWf h h':=by
    rintro(⟨s',e,_⟩|⟨v,e⟩) <;> cases e
   have hbehind:∀ {ds':List Nat} {l g:Nat} {args:List EV} {h1:Aa},AWf h h1->((∃ s',behind fn n tm ds' Eu l k (call g args h1)=.go s'/\s'.h=h')\/∃ v,behind fn n tm ds' Eu l k (call g args h1)=.done v h')->AWf h h':=by
    intro ds' l g args h1 hw1 hb
    unfold behind at hb
    split at hb
    ·exact nofail hb
    ·rename_i v h2 hc
     split at hb
     ·rename_i hg
      split at hb
      ·exact nofail hb
      ·rw[<-triv hb]
       exact(hw1.trans (wC _ _ _ _ _ hc)).trans (.put hg _)
     ·exact nofail hb
   cases it with
   | code c=>
    cases c with
    | region id ops dr=>
     cases dr with
     | false=>
      simp only[Cc]at hop
      split at hop
      ·rename_i ho;rw[<-triv hop];exact Azt wC wR ho
      ·exact nofail hop
     | true=>
      simp only[Cc]at hop
      split at hop
      ·rename_i ho;rw[<-triv hop];exact A1s wC wR ho
      ·exact nofail hop
    | cond c a b=>
     simp only[Cc]at hop
     split at hop
     ·rw[<-triv hop];exact .refl _
     ·rw[<-triv hop];exact .refl _
     ·exact nofail hop
    | exit id=>
     simp only[Cc]at hop
     split at hop
     ·rw[<-triv hop];exact .refl _
     ·exact hleave hop
    | ret=>simp only[Cc]at hop;exact hleave hop
    | rangeFunc fo ps asg body=>
     simp only[Cc]at hop
     split at hop
     ·split at hop
      ·exact hbehind ((AWf.new _ _).trans (.new _ _)) hop
      ·split at hop
       ·exact hbehind (.new _ _) hop
       ·exact nofail hop
     ·exact nofail hop
    | seq a b=>simp only[Cc]at hop;rw[<-triv hop];exact .refl _
    | skip=>simp only[Cc]at hop;rw[<-triv hop];exact .refl _
    | block id c=>simp only[Cc]at hop;rw[<-triv hop];exact .refl _
    | loop c=>simp only[Cc]at hop;rw[<-triv hop];exact .refl _
    | label l=>simp only[Cc]at hop;rw[<-triv hop];exact .refl _
    | scope c=>simp only[Cc]at hop;exact nofail hop
    | goto c=>simp only[Cc]at hop;exact nofail hop
    | refuse c=>simp only[Cc]at hop;exact nofail hop
   | inBlock id=>simp only[Cc]at hop;rw[<-triv hop];exact .refl _
   | inLoop c=>simp only[Cc]at hop;rw[<-triv hop];exact .refl _
   | beginRound=>
    simp only[Cc]at hop
    split at hop
    ·split at hop
     ·rename_i hg;rw[<-triv hop];exact .put hg _
     ·exact nofail hop
    ·exact nofail hop
   | _=>simp only[Cc]at hop;exact nofail hop
theorem Sim.run {p:Nat->Prop}{f:Loc}{w:World}{cs:List Frame}{h h':Aa}{fn n:Nat}{tm tm':Ac}{todo todo':List Item}{ds ds':List Nat}{Eu:Option Nat}{f':Loc}{w':World}
 (hs:Steps P (lone ((FB.mk fn (ds.map (Ib f)) (Eu.map f.b)).at (Ba f n tm) todo) cs w) (lone ((FB.mk fn (ds'.map (Ib f')) (Eu.map f'.b)).at (Ba f' n tm') todo') cs w'))
 (hm:Move p f h w f' h' w') (Xq:Wf p h h') (hfo:R7 (grow p h h') ⟨fn,n,tm',todo',ds',false,Eu⟩):Sim P p f w cs ⟨⟨fn,n,tm,todo,ds,false,Eu⟩,h⟩ ⟨⟨fn,n,tm',todo',ds',false,Eu⟩,h'⟩:=
 ⟨f',w',hs,hm,Xq,hfo,rfl,rfl⟩
theorem Sim.T8 {p:Nat->Prop}{f:Loc}{w:World}{cs:List Frame}{h:Aa}{fn n:Nat}{tm:Ac}{todo todo':List Item}{ds:List Nat}{Eu:Option Nat}(hh:Pj p h)(rp:Pa f h w)(hf:R7 p ⟨fn,n,tm,todo,ds,false,Eu⟩)
 (hs:step P (lone ((FB.mk fn (ds.map (Ib f)) (Eu.map f.b)).at (Ba f n tm) todo) cs w)=.next (lone ((FB.mk fn (ds.map (Ib f)) (Eu.map f.b)).at (Ba f n tm) todo') cs w)) :
 Sim P p f w cs ⟨⟨fn,n,tm,todo,ds,false,Eu⟩,h⟩ ⟨⟨fn,n,tm,todo',ds,false,Eu⟩,h⟩:=
 Sim.run (.one hs) (Move.refl rp) (Wf.refl hh) (by rw[Iw _ _ _ rfl];exact⟨hf.tm,hf.dfr,hf.Eu,fun x=>by cases x⟩)
variable {p:Nat->Prop}{f:Loc}{w:World}
theorem Ath {cs:List Frame}{h:Aa}{fn n:Nat}{tm:Ac}{ds:List Nat}{Eu:Option Nat}{s':Hi}(hh:Pj p h)(rp:Pa f h w){todo:List Item}{jump:Option Code}(hf:R7 p ⟨fn,n,tm,todo,ds,false,Eu⟩)
 (hl:leave fn n tm todo ds Eu h jump=.go s') (h1:jump=none->todo = []) (h2:jump=some .ret->∃ k,todo=.code .ret::k):Sim P p f w cs ⟨⟨fn,n,tm,todo,ds,false,Eu⟩,h⟩ s':=by
 obtain⟨rfl,rfl,hj⟩:=Aqm hl
 refine Sim.stay hh rp ?_ ⟨hf.tm,hf.dfr,hf.Eu,fun _=>rfl⟩ rfl rfl
 rw[Afv,Ael]
 rcases hj with rfl|rfl
 ·rw[h1 rfl];exact .one (Bew rfl)
 ·obtain⟨k,rfl⟩:=h2 rfl;exact .one (Bgm rfl)
include hT hC hR in
theorem A0h {cs:List Frame}{h h':Aa}{fn n id:Nat}{tm tm':Ac}{ds:List Nat}{Eu:Option Nat}{k:List Item}{ops:Array Oper}(hh:Pj p h)(rp:Pa f h w)(hf:R7 p ⟨fn,n,tm,k,ds,false,Eu⟩)
 (ho:Aco T call round n ops.toList ops.toList tm h=some (tm',h')):Sim P p f w cs ⟨⟨fn,n,tm,.code (.region id ops false)::k,ds,false,Eu⟩,h⟩ ⟨⟨fn,n,tm',k,ds,false,Eu⟩,h'⟩:=by
 obtain⟨f',w',hs,hm,Xq,ht'⟩:=Awf hT hC hR ops (i:=0) rfl hf.tm hh rp ho (FB.mk fn (ds.map (Ib f)) (Eu.map f.b)) k cs
 have e:=Ac9 hm.Ex hf
 simp only[Az8]at e
 refine Sim.run (f':=f') (w':=w') ?_ hm Xq ?_
 ·refine .head A3x (.trans ?_ (.one (Amv (ops:=ops))))
  rw[<-e]
  have e2:List.range' 0 (List.drop 0 ops.toList).length=List.range ops.size:=by rw[List.range_eq_range'];simp
  have hs':Steps P _ _:=hs
  rw[e2]at hs'
  exact hs'
 ·have:=hf.mono (q:=grow p h h') fun _ hi=>.inl hi
  exact⟨ht',this.dfr,this.Eu,fun x=>by cases x⟩
include hT hC hR wC wR in
theorem A54 {cs:List Frame}{h h':Aa}{fn n id:Nat}{tm tm':Ac}{ds:List Nat}{Eu:Option Nat}{k:List Item}{ops:Array Oper}(hh:Pj p h)(rp:Pa f h w)(hf:R7 p ⟨fn,n,tm,k,ds,false,Eu⟩)
 (ho:Ahd T call round n ops.toList tm h=some (tm',h')):Sim P p f w cs ⟨⟨fn,n,tm,.code (.region id ops true)::k,ds,false,Eu⟩,h⟩ ⟨⟨fn,n,tm',k,ds,false,Eu⟩,h'⟩:=by
 obtain⟨f',w',hs,hm,Xq,ht'⟩:=A74 hT hC hR wC wR hf.tm hh rp ho (FB.mk fn (ds.map (Ib f)) (Eu.map f.b)) (w.tape w.drawn (.order fn id)) k cs (w.drawn+1)
 have e:=Ac9 hm.Ex hf
 simp only[Az8]at e
 refine Sim.run (f':=f') (w':=w') ?_ hm Xq ?_
 ·refine .head (Bbs hT.mixed) (.trans ?_ (.one (Amv (ops:=ops))))
  rw[<-e]
  exact hs
 ·have:=hf.mono (q:=grow p h h') fun _ hi=>.inl hi
  exact⟨ht',this.dfr,this.Eu,fun x=>by cases x⟩
theorem As9 {g:Nat}{first captured:List EV}{n:Nat}{tm:Ac}{fo:Operand}(ht:Jm p n tm)(hfo:By tm fo=some (.func g first captured))(l:Nat)(w1:World)(gn:Func)(h1:P.funcs[g]? = some gn)(h2:gn.body.isSome=true)(h3:(gn.name == "runtime.NumGoroutine")=false):
 (do let d ← resolve (H4 (Ba f n tm)) { callee:=.value fo,args:=#[.const (.func (.yield l) #[] #[])],argTypes:=#[] } 0;invoke d.target d.args:Sem Next).run P w1 =
  .ok (.enter g ((Bn f first).toArray ++ #[.func (.yield l) #[] #[]]++(Bn f captured).toArray)) w1:=by
 have hr:=Oz (f:=f) ht
 have hb:¬ gn.body=none:=by cases hx:gn.body <;> simp_all
 have hn:¬ gn.name = "runtime.NumGoroutine":=by simpa using h3
 have hcst:H4 (Ba f n tm) (.const (.func (.yield l) #[] #[]))=.func (.yield l) #[] #[]:=rfl
 simp[resolve,Bb hr hfo,B9,Deferred.ofValue,invoke,callFunc,h1,hn,hb,hcst]
include hC in
theorem A23 {cs:List Frame}{h:Aa}{fn n:Nat}{tm:Ac}{ds:List Nat}{k:List Item}{fo:Operand}{ps:Array Tmp}{asg body:Code}{g:Nat}{first captured:List EV}{s':Hi}(hh:Pj p h)(rp:Pa f h w)(hf:R7 p ⟨fn,n,tm,k,ds,false,none⟩)
 (hfo:By tm fo=some (.func g first captured))
 (hop:behind fn n tm (h.next::ds) none (Nat.succ h.next) k (call g (first++(.Xg (Nat.succ h.next)::captured)) ((h.new (.deferred true)).new (.loop .ready none fn n tm ps.toList asg body h.next)))=.go s') :
 Sim P p f w cs ⟨⟨fn,n,tm,.code (.rangeFunc fo ps asg body)::k,ds,false,none⟩,h⟩ s':=by
 have hfok:=Ec (v:=.func g first captured) hf.tm hfo
 have hd1:(C7.deferred true).ok (grow p h (h.new (.deferred true))):=trivial
 have m1:Move p f h w (f.set h.next w.heap.size 0) (h.new (.deferred true)) { w with heap:=w.heap.push (.deferred (some [])) }:=Move.new hh rp 0 rfl rfl rfl rfl rfl
 have wf1:Wf p h (h.new (.deferred true)):=Wf.new hh hd1
 have ag1:Ba f n tm=Ba (f.set h.next w.heap.size 0) n tm:=I9 m1.Ex hf.tm
 have hp1:grow p h (h.new (.deferred true)) h.next:=.inr ⟨Nat.le_refl _,by rw[Aa.Fj];omega⟩
 have hlok:(C7.loop .ready none fn n tm ps.toList asg body h.next).ok (grow p h (h.new (.deferred true))):=⟨hf.tm.mono fun _ hi=>.inl hi,hp1⟩
 have m2:Move (grow p h (h.new (.deferred true))) (f.set h.next w.heap.size 0) (h.new (.deferred true)) { w with heap:=w.heap.push (.deferred (some [])) }
  ((f.set h.next w.heap.size 0).set (h.next+1) (w.heap.size+1) 0) ((h.new (.deferred true)).new (.loop .ready none fn n tm ps.toList asg body h.next))
  { w with heap:=(w.heap.push (.deferred (some []))).push (.loop ⟨.ready,none,fn,Ba f n tm,ps,asg,body,w.heap.size⟩) }:=by
  have hx:=Move.new (w':={ w with heap:=(w.heap.push (.deferred (some []))).push (.loop ⟨.ready,none,fn,Ba f n tm,ps,asg,body,w.heap.size⟩) }) (o:=.loop .ready none fn n tm ps.toList asg body h.next) (r:=.loop ⟨.ready,none,fn,Ba f n tm,ps,asg,body,w.heap.size⟩) wf1.hok m1.rep 0 rfl ?_ rfl rfl rfl
  ·have e1:(h.new (.deferred true)).next=h.next+1:=rfl
   have e2:({ w with heap:=w.heap.push (.deferred (some [])) }:World).heap.size=w.heap.size+1:=by simp
   rw[e1,e2]at hx
   exact hx
  ·have ag2:Ba f n tm=Ba ((f.set h.next w.heap.size 0).set (h.new (.deferred true)).next ({ w with heap:=w.heap.push (.deferred (some [])) }:World).heap.size 0) n tm:=by
    rw[ag1]
    exact I9 (Loc.Mx _ _ _ (fun x=>absurd (wf1.hok.lt _ x) (by omega))) (hf.tm.mono fun _ hi=>.inl hi)
   show Obj.loop _=Obj.loop _
   rw[<-ag2,Array.toArray_toList]
   have e3:((f.set h.next w.heap.size 0).set (h.new (.deferred true)).next ({ w with heap:=w.heap.push (.deferred (some [])) }:World).heap.size 0).b h.next=w.heap.size:=by
    rw[(Loc.Pp _ _ _ (by rw[Aa.Fj];omega)).1,Loc.Ua]
   rw[e3]
 have wf2:Wf (grow p h (h.new (.deferred true))) (h.new (.deferred true)) ((h.new (.deferred true)).new (.loop .ready none fn n tm ps.toList asg body h.next)):=Wf.new wf1.hok (hlok.mono fun _ hi=>.inl hi)
 have m12:=m1.trans m2
 have wf12:=wf1.trans wf2
 generalize hf2:(f.set h.next w.heap.size 0).set (h.next+1) (w.heap.size+1) 0=f2 at m2 m12
 have eb1:f2.b h.next=w.heap.size:=by rw[<-hf2,(Loc.Pp _ _ _ (by omega)).1,Loc.Ua]
 have eb2:f2.b (h.next+1)=w.heap.size+1:=by rw[<-hf2,Loc.Ua]
 have hpd:grow p h ((h.new (.deferred true)).new (.loop .ready none fn n tm ps.toList asg body h.next)) h.next:=.inr ⟨Nat.le_refl _,by rw[Aa.Fj,Aa.Fj];omega⟩
 have hpl:grow p h ((h.new (.deferred true)).new (.loop .ready none fn n tm ps.toList asg body h.next)) (h.next+1):=.inr ⟨by omega,by rw[Aa.Fj,Aa.Fj];omega⟩
 have hargs:EV.O9 (grow p h ((h.new (.deferred true)).new (.loop .ready none fn n tm ps.toList asg body h.next))) (first++(.Xg (Nat.succ h.next)::captured)):=
  Td (Uj hfok.1) ⟨hpl,Uj hfok.2⟩
 have hfr2:R7 (grow p h ((h.new (.deferred true)).new (.loop .ready none fn n tm ps.toList asg body h.next))) ⟨fn,n,tm,k,h.next::ds,false,none⟩:=by
  refine⟨hf.tm.mono fun _ hi=>.inl hi,fun d hd=>?_,fun l hl=>(by cases hl),fun x=>(by cases x)⟩
  rcases List.mem_cons.1 hd with rfl|hd
  ·exact hpd
  ·exact .inl (hf.dfr d hd)
 obtain⟨⟨gn,g1,g2,g3⟩,f',w',hb⟩:=Ato (cs:=cs) hC hop wf12.hok m12.rep hargs hfr2
 obtain⟨hs,hm,Xq,hfo',hfn',hrn'⟩:=hb hpl
 refine⟨f',w',?_,m12.trans hm,wf12.trans Xq,?_,hfn',hrn'⟩
 ·rw[Afv]
  refine .head ?_ hs
  have hst:=Akl (P:=P) (b:=FB.mk fn (ds.map (Ib f)) none) (k:=k) (cs:=cs) (w:=w) (fo:=fo) (ps:=ps) (asg:=asg) (body:=body) (tmps:=Ba f n tm)
   (l:=w.heap.size+1) (mark:=[{ target:=.collected w.heap.size,args:=#[] }]) (w1:={ w with heap:=(w.heap.push (.deferred (some []))).push (.loop ⟨.ready,none,fn,Ba f n tm,ps,asg,body,w.heap.size⟩) })
   (g:=g) (args:=(Bn f first).toArray ++ #[.func (.yield (w.heap.size+1)) #[] #[]]++(Bn f captured).toArray) (by simp[Instr.enterLoop];rfl) (As9 hf.tm hfo _ _ gn g1 g2 g3)
  have e1:Bn f2 (first++(.Xg (Nat.succ h.next)::captured))=Bn f first++(.func (.yield (w.heap.size+1)) #[] #[]::Bn f captured):=by
   rw[Od,Bn,<-G2 m12.Ex _ hfok.1,<-G2 m12.Ex _ hfok.2]
   simp only[B9]
   rw[show f2.b (Nat.succ h.next)=w.heap.size+1 from eb2]
  have e2:(Ba f n tm)=Ba f2 n tm:=I9 m12.Ex hf.tm
  have e3:ds.map (Ib f)=ds.map (Ib f2):=by
   apply List.map_congr_left
   intro d hd
   unfold Ib;rw[(m12.Ex d (hf.dfr d hd)).1]
  rw[e1,<-e2,List.map_cons,<-e3]
  have e4:Ib f2 h.next = { target:=.collected w.heap.size,args:=#[] }:=by unfold Ib;rw[eb1]
  rw[e4,show f2.b (Nat.succ h.next)=w.heap.size+1 from eb2]
  have e5:((Bn f first).toArray ++ #[Value.func (.yield (w.heap.size+1)) #[] #[]]++(Bn f captured).toArray)=(Bn f first++(.func (.yield (w.heap.size+1)) #[] #[]::Bn f captured)).toArray:=by simp
  rw[e5]at hst
  exact hst
 ·exact hfo'.mono fun q hq=>by rw[Xj p wf12.next Xq.next]at hq;exact hq
include hC in
theorem Axr {cs:List Frame}{h:Aa}{fn n l0:Nat}{tm:Ac}{ds:List Nat}{k:List Item}{fo:Operand}{ps:Array Tmp}{asg body:Code}{g:Nat}{first captured:List EV}{s':Hi}(hh:Pj p h)(rp:Pa f h w)(hf:R7 p ⟨fn,n,tm,k,ds,false,some l0⟩)
 (hfo:By tm fo=some (.func g first captured)) {st0:LoopState} {pd0:Option Code} {fn0 n0:Nat} {tm0:Ac} {ps0:List Tmp} {asg0 body0:Code} {d0:Nat} (hg0:h.get l0=some (.loop st0 pd0 fn0 n0 tm0 ps0 asg0 body0 d0))
 (hop:behind fn n tm ds (some l0) h.next k (call g (first++(.Xg h.next::captured)) (h.new (.loop .ready none fn n tm ps.toList asg body d0)))=.go s') :
 Sim P p f w cs ⟨⟨fn,n,tm,.code (.rangeFunc fo ps asg body)::k,ds,false,some l0⟩,h⟩ s':=by
 have hfok:=Ec (v:=.func g first captured) hf.tm hfo
 have hd0:p d0:=(hh.get l0 _ hg0).2.2
 have m1:Move p f h w (f.set h.next w.heap.size 0) (h.new (.loop .ready none fn n tm ps.toList asg body d0)) { w with heap:=w.heap.push (.loop ⟨.ready,none,fn,Ba f n tm,ps,asg,body,f.b d0⟩) }:=by
  refine Move.new hh rp 0 rfl ?_ rfl rfl rfl
  show Obj.loop _=Obj.loop _
  rw[<-I9 (Loc.Mx f _ _ hh.fresh) hf.tm,Array.toArray_toList,(Loc.Mx f w.heap.size 0 hh.fresh d0 hd0).1]
 have wf1:Wf p h (h.new (.loop .ready none fn n tm ps.toList asg body d0)):=Wf.new hh ⟨hf.tm.mono fun _ hi=>.inl hi,.inl hd0⟩
 generalize hf2:f.set h.next w.heap.size 0=f2 at m1
 have eb:f2.b h.next=w.heap.size:=by rw[<-hf2,Loc.Ua]
 have hpl:grow p h (h.new (.loop .ready none fn n tm ps.toList asg body d0)) h.next:=.inr ⟨Nat.le_refl _,by rw[Aa.Fj];omega⟩
 have hargs:EV.O9 (grow p h (h.new (.loop .ready none fn n tm ps.toList asg body d0))) (first++(.Xg h.next::captured)):=Td (Uj hfok.1) ⟨hpl,Uj hfok.2⟩
 have hfr2:R7 (grow p h (h.new (.loop .ready none fn n tm ps.toList asg body d0))) ⟨fn,n,tm,k,ds,false,some l0⟩:=hf.mono fun _ hi=>.inl hi
 obtain⟨⟨gn,g1,g2,g3⟩,f',w',hb⟩:=Ato (cs:=cs) hC hop wf1.hok m1.rep hargs hfr2
 obtain⟨hs,hm,Xq,hfo',hfn',hrn'⟩:=hb hpl
 refine⟨f',w',?_,m1.trans hm,wf1.trans Xq,?_,hfn',hrn'⟩
 ·rw[Afv]
  refine .head ?_ hs
  obtain⟨gl1,gl2⟩:=Zk (P:=P) rp hg0
  have hst:=Akl (P:=P) (b:=FB.mk fn (ds.map (Ib f)) (some (f.b l0))) (k:=k) (cs:=cs) (w:=w) (fo:=fo) (ps:=ps) (asg:=asg) (body:=body) (tmps:=Ba f n tm)
   (l:=w.heap.size) (mark:=[]) (w1:={ w with heap:=w.heap.push (.loop ⟨.ready,none,fn,Ba f n tm,ps,asg,body,f.b d0⟩) })
   (g:=g) (args:=(Bn f first).toArray ++ #[.func (.yield w.heap.size) #[] #[]]++(Bn f captured).toArray) (by simp[Instr.enterLoop,gl1]) (As9 hf.tm hfo _ _ gn g1 g2 g3)
  have e1:Bn f2 (first++(.Xg h.next::captured))=Bn f first++(.func (.yield w.heap.size) #[] #[]::Bn f captured):=by
   rw[Od,Bn,<-G2 m1.Ex _ hfok.1,<-G2 m1.Ex _ hfok.2]
   simp only[B9]
   rw[eb]
  have e2:=Ac9 m1.Ex hf
  simp only[Az8]at e2
  rw[e1,<-e2,eb,<-I9 m1.Ex hf.tm]
  have e5:((Bn f first).toArray ++ #[Value.func (.yield w.heap.size) #[] #[]]++(Bn f captured).toArray)=(Bn f first++(.func (.yield w.heap.size) #[] #[]::Bn f captured)).toArray:=by simp
  rw[e5]at hst
  exact hst
 ·exact hfo'.mono fun q hq=>by rw[Xj p wf1.next Xq.next]at hq;exact hq
include hT hC hR wC wR in
theorem A6z {s s':Hi}(hop:Cc T call round s=.go s')(hf:R7 p s.fr)(hh:Pj p s.h)(rp:Pa f s.h w)(cs:List Frame):Sim P p f w cs s s':=by
 obtain⟨⟨fn,n,tm,todo,ds,ret,Eu⟩,h⟩:=s
 cases ret with
 | true=>
  have hrn:Eu=none:=hf.ret rfl
  subst hrn
  cases ds with
  | cons d ds=>
   simp only[Cc]at hop
   split at hop
   ·rename_i hg
    cases hop
    obtain⟨r0,hr0,rfl⟩:=rp.obj d _ hg
    have hrun:(Instr.takeDeferred (f.b d)).run P w=.ok [] { w with heap:=w.heap.setIfInBounds (f.b d) (.deferred none) }:=by
     have h1:=Ky (P:=P) hr0 (by intros;simp)
     have h2:=Mz (P:=P) (o':=.deferred none) hr0 (by intros;simp)
     simp only[if_true]at h1
     simp only[Instr.takeDeferred,Sem.run_bind,h1,Result.andThen_ok,h2,Sem.run_pure]
    have hm:Move p f h w f (h.put d (.deferred false)) { w with heap:=w.heap.setIfInBounds (f.b d) (.deferred none) }:=Move.setObj rp hg rfl
    have Xq:Wf p h (h.put d (.deferred false)):=Wf.put hh hg trivial
    refine⟨f,_,.one ?_,hm,Xq,?_,rfl,rfl⟩
    ·rw[Ael,Ael];exact A5g hrun
    ·exact R7.mono (p:=p) ⟨hf.tm,fun x hx=>hf.dfr x (List.mem_cons_of_mem _ hx),hf.Eu,fun _=>rfl⟩ fun _ hi=>.inl hi
   ·cases hop
  | nil=>
   simp only[Cc]at hop
   split at hop
   ·split at hop <;> cases hop
   ·cases hop
 | false=>
  have hr:=Oz (f:=f) hf.tm
  have hk:∀ {it:Item} {k:List Item},R7 p ⟨fn,n,tm,it::k,ds,false,Eu⟩->R7 p ⟨fn,n,tm,k,ds,false,Eu⟩:=fun h=>⟨h.tm,h.dfr,h.Eu,h.ret⟩
  cases todo with
  | nil=>simp only[Cc]at hop;exact Ath hh rp hf hop (fun _=>rfl) (fun e=>by cases e)
  | cons it k=>
   cases it with
   | code c=>
    cases c with
    | region id ops dr=>
     cases dr with
     | false=>
      simp only[Cc]at hop
      split at hop
      ·rename_i ho;cases hop;exact A0h hT hC hR hh rp (hk hf) ho
      ·cases hop
     | true=>
      simp only[Cc]at hop
      split at hop
      ·rename_i ho;cases hop;exact A54 hT hC hR wC wR hh rp (hk hf) ho
      ·cases hop
    | cond c a b=>
     simp only[Cc]at hop
     split at hop
     ·rename_i hc;cases hop;exact Sim.T8 hh rp hf (A1i (t:=true) (by rw[Bb hr hc];rfl))
     ·rename_i hc;cases hop;exact Sim.T8 hh rp hf (A1i (t:=false) (by rw[Bb hr hc];rfl))
     ·cases hop
    | exit id=>
     simp only[Cc]at hop
     split at hop
     ·rename_i he;cases hop;exact Sim.T8 hh rp hf (Bb8 he)
     ·obtain⟨_,_,hj⟩:=Aqm hop
      rcases hj with hj|hj <;> cases hj
    | ret=>simp only[Cc]at hop;exact Ath hh rp hf hop (fun e=>by cases e) (fun _=>⟨k,rfl⟩)
    | rangeFunc fo ps asg body=>
     simp only[Cc]at hop
     split at hop
     ·rename_i g first captured hfo
      split at hop
      ·exact A23 hC hh rp (hk hf) hfo hop
      ·split at hop
       ·rename_i hg0;exact Axr hC hh rp (hk hf) hfo hg0 hop
       ·cases hop
     ·cases hop
    | seq a b=>simp only[Cc]at hop;cases hop;exact Sim.T8 hh rp hf Bh3
    | skip=>simp only[Cc]at hop;cases hop;exact Sim.T8 hh rp hf Bc6
    | block id c=>simp only[Cc]at hop;cases hop;exact Sim.T8 hh rp hf Bal
    | loop c=>simp only[Cc]at hop;cases hop;exact Sim.T8 hh rp hf Ba4
    | label l=>simp only[Cc]at hop;cases hop;exact Sim.T8 hh rp hf A9p
    | scope c=>simp only[Cc]at hop;cases hop
    | goto c=>simp only[Cc]at hop;cases hop
    | refuse c=>simp only[Cc]at hop;cases hop
   | inBlock id=>simp only[Cc]at hop;cases hop;exact Sim.T8 hh rp hf Ayy
   | inLoop c=>simp only[Cc]at hop;cases hop;exact Sim.T8 hh rp hf A4e
   | beginRound=>
    simp only[Cc]at hop
    split at hop
    ·rename_i l
     split at hop
     ·rename_i pd fn' n' tm' ps asg body d hg
      cases hop
      obtain⟨h1,h2⟩:=Zk (P:=P) rp hg
      obtain⟨m1,wf1⟩:=At4 (st':=.busy) (pd':=pd) hh rp hg
      have hs:=Mz (P:=P) (o':=.loop ⟨.busy,pd,fn',Ba f n' tm',ps.toArray,asg,body,f.b d⟩) h2 (by intros;simp)
      have hrun:(Instr.beginRound (f.b l)).run P w=.ok () { w with heap:=w.heap.setIfInBounds (f.b l) (.loop ⟨.busy,pd,fn',Ba f n' tm',ps.toArray,asg,body,f.b d⟩) }:=by
       simp only[Instr.beginRound,Sem.run_bind,h1,Result.andThen_ok,hs,Sem.run_pure]
      exact Sim.run (.one (Arn (b:=FB.mk fn (ds.map (Ib f)) (some (f.b l))) rfl hrun)) m1 wf1 ((hk hf).mono fun _ hi=>.inl hi)
     ·cases hop
    ·cases hop
   | _=>simp only[Cc]at hop;cases hop
end
end Go.Ev

namespace Go.Ev
section
variable {P:Program}{T:Ff}(hT:Ly P T){call round:Ae}(hC:Xs P call)(hR:Ab6 P round)(wC:Qm call)(wR:Qm round)
variable {p:Nat->Prop}{f:Loc}{w:World}
include hT in
theorem Aqq {s:Hi}{v:EV}{h':Aa}(hop:Cc T call round s=.done v h')(hf:R7 p s.fr)(hh:Pj p s.h)(rp:Pa f s.h w):Fin P p f w s v h':=by
 obtain⟨⟨fn,n,tm,todo,ds,ret,Eu⟩,h⟩:=s
 cases ret with
 | true=>
  have hrn:Eu=none:=hf.ret rfl
  subst hrn
  cases ds with
  | cons d ds=>
   simp only[Cc]at hop
   split at hop <;> cases hop
  | nil=>
   simp only[Cc]at hop
   split at hop
   ·rename_i fnc hfn
    have key:∀ {vs:List EV} {v:EV},Iz T tm h fnc.results.toList=some vs->(vs = [v]\/((∀ x,vs ≠ [x])/\v=.tuple vs))->Fin P p f w ⟨⟨fn,n,tm,todo,[],true,none⟩,h⟩ v h:=by
     intro vs v h1 h2
     obtain⟨r1,r2⟩:=Axd hT hh rp hf.tm h1 h2
     exact⟨rfl,⟨rfl,rfl,rfl,fnc,(hT.fn fn fnc hfn).1,r1⟩,r2⟩
    split at hop
    ·rename_i hr;cases hop;exact key hr (.inl rfl)
    ·rename_i l hne hr;cases hop;exact key hr (.inr ⟨fun x e=>by subst e;exact hne x rfl,rfl⟩)
    ·cases hop
   ·cases hop
 | false=>
  cases todo with
  | nil=>simp only[Cc]at hop;exact Aij hh rp hop (.inl ⟨rfl,rfl⟩)
  | cons it k=>
   have hbeh:∀ {ds':List Nat} {l:Nat} {r:Option (EV × Aa)},behind fn n tm ds' Eu l k r=.done v h'->False:=by
    intro ds' l r hb
    unfold behind at hb
    split at hb
    ·cases hb
    ·split at hb
     ·split at hb <;> cases hb
     ·cases hb
   cases it with
   | code c=>
    cases c with
    | region id ops dr=>cases dr <;> (simp only[Cc]at hop;split at hop <;> cases hop)
    | cond c a b=>simp only[Cc]at hop;split at hop <;> cases hop
    | exit id=>
     simp only[Cc]at hop
     split at hop
     ·cases hop
     ·rename_i he;exact Aij hh rp hop (.inr (.inr ⟨id,k,rfl,he,rfl⟩))
    | ret=>simp only[Cc]at hop;exact Aij hh rp hop (.inr (.inl ⟨k,rfl,rfl⟩))
    | rangeFunc fo ps asg body=>
     simp only[Cc]at hop
     split at hop
     ·split at hop
      ·exact(hbeh hop).elim
      ·split at hop
       ·exact(hbeh hop).elim
       ·cases hop
     ·cases hop
    | _=>simp only[Cc]at hop;cases hop
   | beginRound=>
    simp only[Cc]at hop
    split at hop
    ·split at hop <;> cases hop
    ·cases hop
   | _=>simp only[Cc]at hop;cases hop
theorem Sim.refl {cs:List Frame}{s:Hi}(hf:R7 p s.fr)(hh:Pj p s.h)(rp:Pa f s.h w):Sim P p f w cs s s:=
 ⟨f,w,.refl _ _,Move.refl rp,Wf.refl hh,by rw[Iw _ _ _ rfl];exact hf,rfl,rfl⟩
def A4m(P:Program)(s s':Hi):Prop:=∀ p f w cs,R7 p s.fr->Pj p s.h->Pa f s.h w->Sim P p f w cs s s'
theorem A4m.trans {s s1 s2:Hi}(a:A4m P s s1)(b:A4m P s1 s2):A4m P s s2:=by
 intro p f w cs hf hh rp
 obtain⟨f1,w1,hs1,hm1,hwf1,hf1,e1,e2⟩:=a p f w cs hf hh rp
 obtain⟨f2,w2,hs2,hm2,hwf2,hf2,e3,e4⟩:=b _ f1 w1 cs hf1 hwf1.hok hm1.rep
 exact⟨f2,w2,hs1.trans hs2,hm1.trans hm2,hwf1.trans hwf2,by rw[<-Xj p hwf1.next hwf2.next];exact hf2,e3.trans e1,e4.trans e2⟩
theorem Y8:∀ (l:List EV) (i:Nat) (t:Tr EV) (j:Nat),(setArgs l i t).get j=if i<=j/\j<i+l.length then l[j-i]? else t.get j
 | [],i,t,j=>by simp[setArgs];omega
 | v::r,i,t,j=>by
  simp only[setArgs]
  rw[Y8 r (i+1) (t.put i (some v)) j,Tr.get_put]
  simp only[List.length_cons]
  by_cases h1:i=j
  ·subst h1
   rw[if_neg (by omega),if_pos rfl,if_pos (by omega)]
   simp
  ·by_cases h2:i+1<=j/\j<i+1+r.length
   ·rw[if_pos h2,if_pos (by omega)]
    rw[show j-i=(j-(i+1))+1 by omega,List.getElem?_cons_succ]
   ·rw[if_neg h2,if_neg h1,if_neg (by omega)]
theorem A0s(f:Loc){args:List EV}{n:Nat}(h:args.length<=n):Ba f n (setArgs args 0 .nil)=(Bn f args).toArray++Array.replicate (n-(Bn f args).toArray.size) undef:=by
 apply Array.ext_getElem?
 intro j
 rw[Yf]
 rw[Array.getElem?_append]
 simp only[List.size_toArray,Cl,List.getElem?_toArray,X0,Array.getElem?_replicate]
 unfold tmp
 rw[Y8]
 by_cases hj:j<args.length
 ·rw[if_pos (by omega),if_pos (by omega),if_pos hj,Nat.sub_zero]
  rw[List.getElem?_eq_getElem hj];rfl
 ·rw[if_neg (show ¬ (0<=j/\j<0+args.length) by omega),if_neg hj]
  by_cases hn:j<n
  ·rw[if_pos hn,if_pos (by omega)];rfl
  ·rw[if_neg hn,if_neg (by omega)]
theorem A6f {args:List EV}{n:Nat}(h:args.length<=n)(ha:EV.O9 p args):Jm p n (setArgs args 0 .nil) where
 ok t v hv:=by
  rw[Y8]at hv
  split at hv
  ·exact(H3 p args).1 ha v (List.mem_of_getElem? hv)
  ·cases hv
 out t ht:=by
  rw[Y8,if_neg (by omega)];rfl
end
end Go.Ev

namespace Go.Ev
theorem T5:∀ {a b:List EV} {r:Bool},Gr a b=some r->a.length=b.length
 | [],[],_,_=>rfl
 | x::a,y::b,r,h=>by
  simp only[Gr]at h
  split at h
  ·simp[T5 h]
  ·split at h
   ·rename_i h2;simp[T5 h2]
   ·cases h
  ·cases h
 | [],_::_,_,h=>by cases h
 | _::_,[],_,h=>by cases h
theorem W7:∀ (k:Nat) {a b:List EV} {r:Bool},Gr a b=some r->∃ r1 r2,Gr (a.take k) (b.take k)=some r1/\Gr (a.drop k) (b.drop k)=some r2/\r=(r1 && r2)
 | 0,a,b,r,h=>⟨true,r,rfl,h,by simp⟩
 | k+1,[],[],r,h=>by cases h;exact⟨true,true,rfl,rfl,rfl⟩
 | k+1,x::a,y::b,r,h=>by
  simp only[Gr]at h
  split at h
  ·rename_i hl
   obtain⟨r1,r2,h1,h2,h3⟩:=W7 k h
   exact⟨r1,r2,by simp only[List.take_succ_cons,Gr,hl,h1],by simpa using h2,h3⟩
  ·rename_i hl
   split at h
   ·rename_i r0 h0
    cases h
    obtain⟨r1,r2,h1,h2,h3⟩:=W7 k h0
    exact⟨false,r2,by simp only[List.take_succ_cons,Gr,hl,h1],by simpa using h2,rfl⟩
   ·cases h
  ·cases h
 | k+1,[],_::_,_,h=>by cases h
 | k+1,_::_,[],_,h=>by cases h
theorem Uu {b:Nat}{s:List Nat}{x:EV}{l:List EV}(h:shaped (b::s) (x::l)=true):shaped s l=true/\((b=0/\∃ k n,x=.int k n)\/(b=1/\∃ c,x=.bool c)\/(b=2/\∃ c,x=.str c)):=by
 cases x with
 | int k n=>
  simp only[shaped]at h;rw[Bh]at h
  split at h
  ·rename_i hb;exact⟨h,.inl ⟨Nat.eq_of_beq_eq_true hb,k,n,rfl⟩⟩
  ·cases h
 | bool c=>
  simp only[shaped]at h;rw[Bh]at h
  split at h
  ·rename_i hb;exact⟨h,.inr (.inl ⟨Nat.eq_of_beq_eq_true hb,c,rfl⟩)⟩
  ·cases h
 | str c=>
  simp only[shaped]at h;rw[Bh]at h
  split at h
  ·rename_i hb;exact⟨h,.inr (.inr ⟨Nat.eq_of_beq_eq_true hb,c,rfl⟩)⟩
  ·cases h
 | _=>cases h
theorem Jl:∀ {sh:List Nat} {l:List EV},shaped sh l=true->l.length=sh.length
 | [],[],_=>rfl
 | b::s,x::l,h=>by rw[List.length_cons,List.length_cons,Jl (Uu h).1]
 | [],_::_,h=>by cases h
 | _::_,[],h=>by cases h
theorem Wy:∀ {s1 s2:List Nat} {l:List EV},shaped (s1++s2) l=true->shaped s1 (l.take s1.length)=true/\shaped s2 (l.drop s1.length)=true
 | [],s2,l,h=>⟨rfl,h⟩
 | b::s1,s2,l,h=>by
  cases l with
  | nil=>have:=Jl h;simp at this
  | cons x l=>
   obtain⟨h1,h2⟩:=Uu (s:=s1++s2) h
   obtain⟨h3,h4⟩:=Wy h1
   refine⟨?_,h4⟩
   simp only[List.length_cons,List.take_succ_cons]
   rcases h2 with ⟨rfl,k,n,rfl⟩|⟨rfl,c,rfl⟩|⟨rfl,c,rfl⟩
   ·exact h3
   ·exact h3
   ·exact h3
def Aim(fl:TypeId->Option (List Nat)):List Field->Nat->Option (List Nat)
 | [],_=>some []
 | f::r,off=>match fl f.type with
  | some s=>if f.offset=off/\f.name ≠ "_" then (match Aim fl r (off+s.length) with|some t=>some (s++t)|none=>none) else none
  | none=>none
def flat(P:Program):Nat->TypeId->Option (List Nat)
 | 0=>fun _=>none
 | d+1=>fun t=>match P.info? t with
  | some i=>match P.underlying t with
   | some (.int _)=>if i.size=1 then some [0] else none
   | some .bool=>if i.size=1 then some [1] else none
   | some .string=>if i.size=1 then some [2] else none
   | some (.struct fs)=>if P.stoodInHeld t=false then (match Aim (flat P d) fs.toList 0 with
    | some s=>if s.length=i.size then some s else none
    | none=>none) else none
   | some (.array len e)=>match flat P d e with
    | some s=>if len*s.length=i.size then some (List.replicate len s).flatten else none
    | none=>none
   | _=>none
  | none=>none
def isA(P:Program)(t:TypeId):Bool:=match P.underlying t with|some (.struct _)=>true|some (.array _ _)=>true|_=>false
noncomputable def Aap(P:Program)(f:Loc)(t:TypeId)(l:List EV):Value:=if isA P t=true then .agg (Bn f l).toArray else (match l with|v::_=>B9 f v | []=>undef)
theorem Qh(n:Nat)(s:List Nat):(List.replicate n s).flatten.length=n*s.length:=by
 induction n with
 | zero=>simp
 | succ n ih=>rw[List.replicate_succ,List.flatten_cons,List.length_append,ih,Nat.add_mul];omega
section
variable {P:Program}
theorem Qp {d:Nat}{t:TypeId}{s:List Nat}(h:flat P d t=some s):(∃ i,P.info? t=some i/\i.size=s.length)/\(isA P t=false->(s = [0]/\∃ k,P.underlying t=some (.int k))\/(s = [1]/\P.underlying t=some .bool)\/(s = [2]/\P.underlying t=some .string))/\∀ w,(isAgg t).run P w=.ok (isA P t) w:=by
 cases d with
 | zero=>simp[flat]at h
 | succ d=>
  simp only[flat]at h
  split at h
  ·rename_i i hi
   split at h
   ·rename_i k hu
    split at h
    ·rename_i h1;cases h;exact⟨⟨i,hi,h1⟩,fun _=>.inl ⟨rfl,k,hu⟩,fun w=>by simp[isAgg,underlying,isA,hu]⟩
    ·cases h
   ·rename_i hu
    split at h
    ·rename_i h1;cases h;exact⟨⟨i,hi,h1⟩,fun _=>.inr (.inl ⟨rfl,hu⟩),fun w=>by simp[isAgg,underlying,isA,hu]⟩
    ·cases h
   ·rename_i hu
    split at h
    ·rename_i h1;cases h;exact⟨⟨i,hi,h1⟩,fun _=>.inr (.inr ⟨rfl,hu⟩),fun w=>by simp[isAgg,underlying,isA,hu]⟩
    ·cases h
   ·rename_i fs hu
    split at h
    ·split at h
     ·split at h
      ·rename_i h1;cases h;exact⟨⟨i,hi,h1.symm⟩,fun e=>by simp[isA,hu]at e,fun w=>by simp[isAgg,underlying,isA,hu]⟩
      ·cases h
     ·cases h
    ·cases h
   ·rename_i len e hu
    split at h
    ·split at h
     ·rename_i h1;cases h;exact⟨⟨i,hi,by rw[Qh];exact h1.symm⟩,fun e=>by simp[isA,hu]at e,fun w=>by simp[isAgg,underlying,isA,hu]⟩
     ·cases h
    ·cases h
   ·cases h
  ·cases h
theorem Na(f:Loc)(w:World){d:Nat}{t:TypeId}{s:List Nat}(h:flat P d t=some s){xs:List EV}{off:Nat}(hl:off+s.length<=xs.length):
 (Go.part t (Bn f xs).toArray off).run P w=.ok (Aap P f t ((xs.drop off).take s.length)) w:=by
 obtain⟨⟨i,hi,hs⟩,hsc,hagg⟩:=Qp h
 have hsz:(sizeOf t).run P w=.ok s.length w:=by simp[sizeOf,typeInfo,hi,hs]
 unfold Aap
 cases ha:isA P t with
 | true=>
  simp only[Go.part,Sem.run_bind,hagg w,ha,Result.andThen_ok,if_true,hsz,Sem.run_pure]
  congr 2
  apply Array.ext'
  simp[Mo,List.extract_eq_take_drop]
 | false=>
  have h1:s.length=1:=by rcases hsc ha with ⟨rfl,_⟩|⟨rfl,_⟩|⟨rfl,_⟩ <;> rfl
  rw[h1]at hl ⊢
  have hg:xs[off]? = some xs[off]:=List.getElem?_eq_getElem (by omega)
  have e1:(xs.drop off).take 1 = [xs[off]]:=by
   rw[List.drop_eq_getElem_cons (by omega)];rfl
  have e2:(Bn f xs).toArray[off]? = some (B9 f xs[off]):=by simp[Mo,hg]
  rw[e1]
  simp only[Go.part,Sem.run_bind,hagg w,ha,Result.andThen_ok,Bool.false_eq_true,if_false,e2,Sem.run_pure]
def EqF(P:Program)(d D:Nat):Prop:=∀ (t:TypeId) (s:List Nat),flat P d t=some s->∀ (f:Loc) (w:World) (a b:List EV) (r:Bool),shaped s a=true->Gr a b=some r->(Op.equalIn D t (Aap P f t a) (Aap P f t b)).run P w=.ok r w
theorem Aow(f:Loc)(w:World){d D:Nat}(IH:EqF P d D)(a b:List EV)(hab:a.length=b.length):∀ (fs:List Field) (off:Nat) (s:List Nat) (r:Bool),Aim (flat P d) fs off=some s->shaped s (a.drop off)=true->Gr (a.drop off) (b.drop off)=some r ->
 (Op.eqFields D (Bn f a).toArray (Bn f b).toArray fs).run P w=.ok r w
 | [],off,s,r,h,hs,hl=>by
  simp only[Aim]at h
  cases h
  have:=Jl hs
  rw[List.length_nil,List.length_eq_zero_iff]at this
  rw[this]at hl
  have h2:=T5 hl
  rw[List.length_nil]at h2
  rw[List.length_eq_zero_iff.1 h2.symm]at hl
  cases hl
  simp[Op.eqFields]
 | fd::fs,off,s,r,h,hs,hl=>by
  simp only[Aim]at h
  split at h
  ·rename_i s1 hs1
   split at h
   ·rename_i hof
    split at h
    ·rename_i s2 hs2
     cases h
     obtain⟨q1,q2⟩:=Wy hs
     obtain⟨r1,r2,h1,h2,h3⟩:=W7 s1.length hl
     rw[List.drop_drop]at q2
     rw[List.drop_drop,List.drop_drop]at h2
     have hlen:=Jl hs
     rw[List.length_drop,List.length_append]at hlen
     have ih:=Aow f w IH a b hab fs (off+s1.length) s2 r2 hs2 q2 h2
     by_cases hz:off+s1.length<=a.length
     ·have p1:=Na f w hs1 (xs:=a) (off:=off) hz
      have p2:=Na f w hs1 (xs:=b) (off:=off) (by omega)
      have p3:=IH fd.type s1 hs1 f w _ _ r1 q1 h1
      simp only[Op.eqFields,hof.2,ne_eq,not_false_eq_true,if_true,Sem.run_bind,hof.1,p1,p2,p3,Result.andThen_ok]
      subst h3
      cases r1
      ·simp
      ·simpa using ih
     ·
      have h0:s1.length=0:=by omega
      obtain⟨⟨i,hi,hsz⟩,hsc,hagg⟩:=Qp hs1
      have hA:isA P fd.type=true:=by
       cases ha:isA P fd.type with
       | true=>rfl
       | false=>rcases hsc ha with ⟨rfl,_⟩|⟨rfl,_⟩|⟨rfl,_⟩ <;> simp at h0
      have hsize:(sizeOf fd.type).run P w=.ok 0 w:=by simp[sizeOf,typeInfo,hi,hsz,h0]
      have hp:∀ xs:List EV,(Go.part fd.type (Bn f xs).toArray off).run P w=.ok (Aap P f fd.type []) w:=by
       intro xs
       simp only[Go.part,Sem.run_bind,hagg w,hA,Result.andThen_ok,if_true,hsize,Sem.run_pure,Aap,Nat.add_zero]
       congr 2
       apply Array.ext'
       simp[Bn]
      rw[h0,List.take_zero,List.take_zero]at h1
      rw[h0,List.take_zero]at q1
      have p3:=IH fd.type s1 hs1 f w [] [] r1 q1 h1
      simp only[Op.eqFields,hof.2,ne_eq,not_false_eq_true,if_true,Sem.run_bind,hof.1,hp,p3,Result.andThen_ok]
      subst h3
      cases r1
      ·simp
      ·simpa using ih
    ·cases h
   ·cases h
  ·cases h
theorem Atn(f:Loc)(w:World){d D:Nat}(IH:EqF P d D){e:TypeId}{s:List Nat}(hs:flat P d e=some s)(a b:List EV)(hab:a.length=b.length):∀ (n k:Nat) (r:Bool),(k+n)*s.length=a.length->shaped (List.replicate n s).flatten (a.drop (k*s.length))=true ->
 Gr (a.drop (k*s.length)) (b.drop (k*s.length))=some r ->
 (Op.eqItems D e (P.cellsOf e) (Bn f a).toArray (Bn f b).toArray (List.range' k n)).run P w=.ok r w
 | 0,k,r,hal,hsh,hl=>by
  rw[Nat.add_zero]at hal
  rw[List.drop_of_length_le (by omega),List.drop_of_length_le (by omega)]at hl
  cases hl
  simp[Op.eqItems]
 | n+1,k,r,hal,hsh,hl=>by
  obtain⟨⟨i,hi,hsz⟩,_⟩:=Qp hs
  have hc:P.cellsOf e=s.length:=by simp[Program.cellsOf,hi,hsz]
  rw[List.replicate_succ,List.flatten_cons]at hsh
  obtain⟨q1,q2⟩:=Wy hsh
  obtain⟨r1,r2,h1,h2,h3⟩:=W7 s.length hl
  have hks:k*s.length+s.length=(k+1)*s.length:=by rw[Nat.add_mul];omega
  rw[List.drop_drop,hks]at q2
  rw[List.drop_drop,List.drop_drop,hks]at h2
  have ih:=Atn f w IH hs a b hab n (k+1) r2 (by rw[<-hal];congr 1;omega) q2 h2
  have hk:k*s.length+s.length<=a.length:=by
   rw[<-hal,show k+(n+1)=(k+1)+n by omega,Nat.add_mul,Nat.add_mul];omega
  have p1:=Na f w hs (xs:=a) (off:=k*s.length) hk
  have p2:=Na f w hs (xs:=b) (off:=k*s.length) (by omega)
  have p3:=IH e s hs f w _ _ r1 q1 h1
  rw[List.range'_succ]
  simp only[Op.eqItems,Sem.run_bind,hc,p1,p2,p3,Result.andThen_ok]
  rw[hc]at ih
  subst h3
  cases r1
  ·simp
  ·simpa using ih
theorem A1e:∀ (d D:Nat),d<=D->EqF P d D
 | 0,_,_=>fun t n h=>by simp[flat]at h
 | d+1,0,h=>by omega
 | d+1,D+1,hd=>by
  have IH:=A1e d D (by omega)
  intro t s h f w a b r hsh hl
  have hab:=T5 hl
  obtain⟨_,hsc,_⟩:=Qp h
  by_cases hA:isA P t=true
  ·simp only[flat]at h
   split at h
   ·rename_i i hi
    split at h
    ·rename_i k hu;simp[isA,hu]at hA
    ·rename_i hu;simp[isA,hu]at hA
    ·rename_i hu;simp[isA,hu]at hA
    ·rename_i fs hu
     split at h
     ·rename_i hst
      split at h
      ·rename_i s' hgo
       split at h
       ·cases h
        have hf:P.fieldsOf t=fs:=by simp[Program.fieldsOf,hu]
        simp only[Aap,hA,if_true]
        rw[run_equalIn_struct w D t _ _ (by rw[hf];exact hu) hst,hf]
        exact Aow f w IH a b hab fs.toList 0 s r hgo (by simpa using hsh) (by simpa using hl)
       ·cases h
      ·cases h
     ·cases h
    ·rename_i len e hu
     split at h
     ·rename_i s' hs
      split at h
      ·rename_i hc
       cases h
       obtain⟨⟨ie,hie,_⟩,_⟩:=Qp hs
       simp only[Aap,hA,if_true]
       rw[run_equalIn_array w D _ _ hu hie,List.range_eq_range']
       refine Atn f w IH hs a b hab len 0 r ?_ (by simpa using hsh) (by simpa using hl)
       rw[Jl hsh,Qh,Nat.zero_add]
      ·cases h
     ·cases h
    ·cases h
   ·cases h
  ·have hA':isA P t=false:=by simpa using hA
   have hlen:=Jl hsh
   have hs1:s.length=1:=by rcases hsc hA' with ⟨rfl,_⟩|⟨rfl,_⟩|⟨rfl,_⟩ <;> rfl
   rw[hs1]at hlen
   match a,b,hlen,hab with
   | [x],[y],_,_=>
    simp only[Aap,hA',Bool.false_eq_true,if_false]
    simp only[Gr]at hl
    have hle:Ads x y=some r:=by
     split at hl
     ·rename_i h1;cases hl;exact h1
     ·rename_i h1;cases hl;exact h1
     ·cases hl
    rcases hsc hA' with ⟨rfl,k2,hu⟩|⟨rfl,hu⟩|⟨rfl,hu⟩
    ·rcases (Uu hsh).2 with ⟨_,k,n,rfl⟩|⟨h0,_⟩|⟨h0,_⟩
     ·cases y with
      | int k' m=>
       simp only[Ads]at hle
       obtain⟨hk,hle2⟩:=Aw hle
       have:=Ae9 hk
       subst this
       have hle:=Option.some.inj hle2
       simp only[B9]
       rw[run_equalIn_int w D t k k2 n m hu,<-hle,Aad]
       congr 1
      | _=>cases hle
     ·cases h0
     ·cases h0
    ·rcases (Uu hsh).2 with ⟨h0,_⟩|⟨_,c,rfl⟩|⟨h0,_⟩
     ·cases h0
     ·cases y with
      | bool c'=>
       simp only[Ads,Option.some.injEq]at hle
       simp only[B9]
       rw[Atc w D t c c' hu,<-hle]
       cases c <;> cases c' <;> rfl
      | _=>cases hle
     ·cases h0
    ·rcases (Uu hsh).2 with ⟨h0,_⟩|⟨h0,_⟩|⟨_,c,rfl⟩
     ·cases h0
     ·cases h0
     ·cases y with
      | str c'=>
       simp only[Ads,Option.some.injEq]at hle
       simp only[B9]
       rw[A8c w D t c c' hu,<-hle,Aoq]
      | _=>cases hle
def Aa4(P:Program)(t:TypeId):Bool:=
 match P.underlying t with
 | some (.struct fs)=>fs.toList.all fun f=>f.name != "_" && (match P.underlying f.type with|some (.int _)=>true|some .bool=>true|_=>false)
 | _=>false
theorem Adt(f:Loc)(w:World)(e:Bool)(D:Nat)(a:List EV):∀ (fs:List Field) (off:Nat) (s:List Nat) (d:Nat),(fs.all fun f=>f.name != "_" && (match P.underlying f.type with|some (.int _)=>true|some .bool=>true|_=>false))=true ->
 Aim (flat P d) fs off=some s->shaped s (a.drop off)=true ->
 (forIn fs PUnit.unit fun(fd:Field) (_:PUnit)=>(do
  if fd.name ≠ "_" then do
   Instr.checkKey e (D+1) fd.type (← Go.part fd.type (Bn f a).toArray fd.offset)
   pure (.yield PUnit.unit)
  else pure (.yield PUnit.unit):Sem (ForInStep PUnit))).run P w=.ok PUnit.unit w
 | [],off,s,d,_,h,hs=>by simp
 | fd::fs,off,s,d,hall,h,hs=>by
  simp only[List.all_cons,Bool.and_eq_true]at hall
  simp only[Aim]at h
  split at h
  ·rename_i s1 hs1
   split at h
   ·rename_i hof
    split at h
    ·rename_i s2 hs2
     cases h
     obtain⟨q1,q2⟩:=Wy hs
     rw[List.drop_drop]at q2
     have ih:=Adt f w e D a fs (off+s1.length) s2 d hall.2 hs2 q2
     have hlen:=Jl q1
     rw[List.length_take,List.length_drop]at hlen
     have hsc:s1.length=1:=by
      have hA:isA P fd.type=false:=by
       have:=hall.1.2
       unfold isA
       split at this <;> simp_all
      rcases (Qp hs1).2.1 hA with ⟨rfl,_⟩|⟨rfl,_⟩|⟨rfl,_⟩ <;> rfl
     have p1:=Na f w hs1 (xs:=a) (off:=off) (by omega)
     have p2:∀ v,(Instr.checkKey e (D+1) fd.type v).run P w=.ok () w:=by
      intro v
      have:=hall.1.2
      rw[Instr.checkKey.eq_def]
      split at this
      ·rename_i k hu;simp[underlying,hu]
      ·rename_i hu;simp[underlying,hu]
      ·cases this
     rw[List.forIn_cons]
     simp only[hof.2,ne_eq,not_false_eq_true,if_true,Sem.run_bind,hof.1,p1,p2,Result.andThen_ok,Sem.run_pure]
     exact ih
    ·cases h
   ·cases h
  ·cases h
def At8(P:Program)(t:TypeId):Bool:=
 match P.underlying t with
 | some (.array _ e)=>(match P.underlying e with|some (.int _)=>true|_=>false)
 | _=>false
theorem Af6(f:Loc)(w:World)(e:Bool)(D:Nat){d:Nat}{et:TypeId}{k:IntKind}(hu:P.underlying et=some (.int k))(hs:flat P d et=some [0])(a:List EV):∀ (n i:Nat),i+n<=a.length ->
 (forIn (List.range' i n) PUnit.unit fun(j:Nat) (_:PUnit)=>(do
  Instr.checkKey e (D+1) et (← Go.part et (Bn f a).toArray (j*(← sizeOf et)))
  pure (.yield PUnit.unit):Sem (ForInStep PUnit))).run P w=.ok PUnit.unit w
 | 0,i,_=>by simp
 | n+1,i,h=>by
  have ih:=Af6 f w e D hu hs a n (i+1) (by omega)
  have p1:=Na f w hs (xs:=a) (off:=i) (by simp;omega)
  have p2:∀ v,(Instr.checkKey e (D+1) et v).run P w=.ok () w:=by
   intro v
   rw[Instr.checkKey.eq_def]
   simp[underlying,hu]
  obtain⟨⟨ii,hi,hsz⟩,_⟩:=Qp hs
  have p3:(sizeOf et).run P w=.ok 1 w:=by simp[sizeOf,typeInfo,hi,hsz]
  rw[List.range'_succ,List.forIn_cons]
  simp only[Sem.run_bind,p3,Result.andThen_ok,Nat.mul_one,p1,p2,Sem.run_pure]
  exact ih
theorem A0f {t:TypeId}(hk:At8 P t=true){d:Nat}{s:List Nat}(h:flat P d t=some s)(f:Loc)(w:World)(e:Bool)(a:List EV)(hs:shaped s a=true):
 (Instr.checkKey e 10000 t (.agg (Bn f a).toArray)).run P w=.ok () w:=by
 unfold At8 at hk
 split at hk
 ·rename_i len et hu
  split at hk
  ·rename_i k hue
   cases d with
   | zero=>simp[flat]at h
   | succ d=>
    simp only[flat]at h
    split at h
    ·simp only[hu]at h
     split at h
     ·rename_i s' hs'
      split at h
      ·rename_i hc
       cases h
       have hA:isA P et=false:=by simp[isA,hue]
       have hs0:s' = [0]:=by
        rcases (Qp hs').2.1 hA with ⟨rfl,_⟩|⟨_,h2⟩|⟨_,h2⟩
        ·rfl
        ·rw[hue]at h2;cases h2
        ·rw[hue]at h2;cases h2
       subst hs0
       have hlen:=Jl hs
       rw[Qh]at hlen
       simp only[List.length_cons,List.length_nil,Nat.zero_add,Nat.mul_one]at hlen
       have:=Af6 f w e 9998 hue hs' a len 0 (by omega)
       rw[Instr.checkKey.eq_def]
       simp only[underlying,hu,Sem.run_bind,run_program,Result.andThen_ok,Sem.run_pure]
       simp only[Std.Legacy.Range.forIn_eq_forIn_range',Std.Legacy.Range.size,Nat.sub_zero,Nat.add_one_sub_one,Nat.div_one]
       rw[this]
       rfl
      ·cases h
     ·cases h
    ·cases h
  ·cases hk
 ·cases hk
theorem Ar9 {t:TypeId}(hk:Aa4 P t=true){d:Nat}{s:List Nat}(h:flat P d t=some s)(f:Loc)(w:World)(e:Bool)(a:List EV)(hs:shaped s a=true):
 (∃ fs,P.underlying t=some (.struct fs))/\(Instr.checkKey e 10000 t (.agg (Bn f a).toArray)).run P w=.ok () w:=by
 unfold Aa4 at hk
 split at hk
 ·rename_i fs hu
  refine⟨⟨fs,hu⟩,?_⟩
  cases d with
  | zero=>simp[flat]at h
  | succ d=>
   simp only[flat]at h
   split at h
   ·simp only[hu]at h
    split at h
    ·split at h
     ·rename_i s' hgo
      split at h
      ·cases h
       have:=Adt f w e 9998 a fs.toList 0 s d hk hgo (by simpa using hs)
       rw[Instr.checkKey.eq_def]
       simp only[underlying,hu,Sem.run_bind,run_program,Result.andThen_ok,Sem.run_pure]
       rw[<-Array.forIn_toList]
       rw[this]
       rfl
      ·cases h
     ·cases h
    ·cases h
   ·cases h
 ·cases hk
end
end Go.Ev

namespace Go.Ev
noncomputable def Fi {α:Type}:List α->Nat->Tr α->Tr α
 | [],_,t=>t
 | a::r,i,t=>Fi r (Nat.succ i) (t.put i (some a))
theorem Ae5 {α:Type}:∀ (l:List α) (i:Nat) (t:Tr α) (j:Nat),(Fi l i t).get j=if i<=j/\j<i+l.length then l[j-i]? else t.get j
 | [],i,t,j=>by simp[Fi];omega
 | a::r,i,t,j=>by
  simp only[Fi]
  rw[Ae5 r (i+1) (t.put i (some a)) j,Tr.get_put]
  simp only[List.length_cons]
  by_cases h1:i=j
  ·subst h1
   rw[if_neg (by omega),if_pos rfl,if_pos (by omega)]
   simp
  ·by_cases h2:i+1<=j/\j<i+1+r.length
   ·rw[if_pos h2,if_pos (by omega)]
    rw[show j-i=(j-(i+1))+1 by omega,List.getElem?_cons_succ]
   ·rw[if_neg h2,if_neg h1,if_neg (by omega)]
theorem Ap2 {α:Type}(l:List α)(j:Nat):(Fi l 0 .nil).get j=l[j]?:=by
 rw[Ae5]
 by_cases h:j<l.length
 ·rw[if_pos (by omega),Nat.sub_zero]
 ·rw[if_neg (by omega),List.getElem?_eq_none (by omega)];rfl
noncomputable def Bc2:List Nat->Nat->Bool
 | [],_=>false
 | a::r,x=>Ay (Nat.beq a x) true (Bc2 r x)
theorem Atm:∀ {l:List Nat} {x:Nat},Bc2 l x=true->x ∈ l
 | [],_,h=>by cases h
 | a::r,x,h=>by
  simp only[Bc2]at h
  rw[Bh]at h
  split at h
  ·rename_i e;rw[Nat.eq_of_beq_eq_true e];exact List.mem_cons_self
  ·exact List.mem_cons_of_mem _ (Atm h)
noncomputable def A16:List (Nat × List Nat)->Nat->Option (List Nat)
 | [],_=>none
 | (a,s)::r,x=>Ay (Nat.beq a x) (some s) (A16 r x)
theorem Adc:∀ {l:List (Nat × List Nat)} {x:Nat} {s:List Nat},A16 l x=some s->(x,s) ∈ l
 | [],_,_,h=>by cases h
 | (a,s')::r,x,s,h=>by
  simp only[A16]at h
  rw[Bh]at h
  split at h
  ·rename_i e;cases h;rw[Nat.eq_of_beq_eq_true e];exact List.mem_cons_self
  ·exact List.mem_cons_of_mem _ (Adc h)
noncomputable def Bbe(ty:Tr TypeInfo)(t:Nat):Option TypeDesc:=
 match ty.get t with
 | some i=>match i.desc with
  | .named _ u=>(match ty.get u with|some j=>some j.desc|none=>none)
  | d=>some d
 | none=>none
noncomputable def A85(ty:Tr TypeInfo)(t:Nat):Option Bool:=match Bbe ty t with|some d=>some (Alk d)|none=>none
noncomputable def Bao(ty:Tr TypeInfo)(t:Nat):Option (List EV):=
 match ty.get t with
 | some i=>match i.zero with
  | some v=>match ofV v with
   | some x=>Ay x.plain (Ay (Nat.beq i.size (len x.cells)) (Ay (Nat.ble i.bytes 1048576) (match A85 ty t with
    | some true=>(match x with | .agg l=>some l|_=>none)
    | some false=>Ay x.one (some [x]) none
    | none=>none) none) none) none
   | none=>none
  | none=>none
 | none=>none
noncomputable def A1o(fnT:Tr Func)(ty:Tr TypeInfo)(eqs:List (Nat × List Nat))(keys:List Nat):Ff where
 fn:=fnT.get
 I5:=Bbe ty
 size t:=match ty.get t with|some i=>Ay (Nat.ble i.bytes 1048576) (some i.size) none|none=>none
 zero:=Bao ty
 agg:=A85 ty
 eqs:=A16 eqs
 key:=Bc2 keys
theorem Bci {P:Program}{t:Nat}{i:TypeInfo}(h:P.types[t]? = some i):P.info? t=some i:=by
 have hl:t<P.types.size:=(Array.getElem?_eq_some_iff.1 h).1
 unfold Tables.info?
 rw[if_pos hl];exact h
theorem A8q {P:Program}{eqs:List (Nat × List Nat)}{keys:List Nat}(hm:P.follows .mixedOrders=true)
 (hnames:(P.funcs.toList.all fun f=>!(f.name == "runtime.NumGoroutine"))=true)
 (heqs:∀ x ∈ eqs,flat P 6 x.1=some x.2/\isA P x.1=true/\P.eqGuardType P.depth x.1=false) (hkeys:∀ t ∈ keys,Aa4 P t=true\/At8 P t=true) :
 Ly P (A1o (Fi P.funcs.toList 0 .nil) (Fi P.types.toList 0 .nil) eqs keys):=by
 have hty:∀ t i,(Fi P.types.toList 0 .nil).get t=some i->P.info? t=some i:=by
  intro t i h
  rw[Ap2,Array.getElem?_toList]at h
  exact Bci h
 have hund:∀ t d,Bbe (Fi P.types.toList 0 .nil) t=some d->P.underlying t=some d:=by
  intro t d h
  unfold Bbe at h
  split at h
  ·rename_i i hi
   have h1:=hty t i hi
   split at h
   ·rename_i s u hd
    split at h
    ·rename_i j hj
     cases h
     have h2:=hty u j hj
     obtain⟨desc,str,size,bytes,hp,al,fa,z⟩:=i
     simp only at hd
     subst hd
     simp[Program.underlying,h1,h2]
    ·cases h
   ·rename_i hd
    cases h
    unfold Program.underlying
    rw[h1]
    split
    ·rename_i hx;cases hx;exact absurd rfl (hd _ _)
    ·rename_i hx;cases hx;rfl
    ·rename_i hx;cases hx
  ·cases h
 have hagg:∀ t b,A85 (Fi P.types.toList 0 .nil) t=some b->∃ d,P.underlying t=some d/\Alk d=b:=by
  intro t b h
  unfold A85 at h
  split at h
  ·rename_i d hd;cases h;exact⟨d,hund t d hd,rfl⟩
  ·cases h
 refine⟨hm,fun g fn h=>?_,hund,fun t n h=>?_,fun t z h=>?_,hagg,fun t sh h=>?_,fun t h=>?_⟩
 ·have h':(Fi P.funcs.toList 0 .nil).get g=some fn:=h
  rw[Ap2]at h'
  refine⟨by rw[<-Array.getElem?_toList];exact h',?_⟩
  have:=List.all_eq_true.1 hnames fn (List.mem_of_getElem? h')
  simpa using this
 ·simp only[A1o]at h
  split at h
  ·rename_i i hi
   obtain⟨h1,h2⟩:=Aw h
   cases h2
   exact⟨i,hty t i hi,rfl,Nat.le_of_ble_eq_true h1⟩
  ·cases h
 ·have h':Bao (Fi P.types.toList 0 .nil) t=some z:=h
  unfold Bao at h'
  split at h'
  ·rename_i i hi
   split at h'
   ·rename_i v hv
    split at h'
    ·rename_i x hx
     obtain⟨h1,h'⟩:=Aw h'
     obtain⟨h2,h'⟩:=Aw h'
     obtain⟨h3,h'⟩:=Aw h'
     have h2':i.size=x.cells.length:=by rw[<-Qg];exact Nat.eq_of_beq_eq_true h2
     refine⟨i,v,x,hty t i hi,hv,hx,h1,?_⟩
     have hat:∀ b,A85 (Fi P.types.toList 0 .nil) t=some b->(A1o (Fi P.funcs.toList 0 .nil) (Fi P.types.toList 0 .nil) eqs keys).agg t=some b:=fun _ h=>h
     split at h'
     ·rename_i ha
      have ha':=hat true ha
      cases x with
      | agg l=>
       simp only[Option.some.injEq]at h'
       subst h'
       exact⟨rfl,h2',Nat.le_of_ble_eq_true h3,fun _=>rfl,fun e=>(by rw[ha']at e;cases e)⟩
      | _=>cases h'
     ·rename_i ha
      have ha':=hat false ha
      obtain⟨ho,h'⟩:=Aw h'
      cases h'
      have hc:x.cells = [x]:=by
       cases x <;> first|rfl|(simp[EV.one]at ho)
      exact⟨hc.symm,by rw[h2',hc],Nat.le_of_ble_eq_true h3,fun e=>(by rw[ha']at e;cases e),fun _=>rfl⟩
     ·cases h'
    ·cases h'
   ·cases h'
  ·cases h'
 ·obtain⟨h1,h2,h3⟩:=heqs _ (Adc h)
  refine⟨h3,fun f w a b r hl hs=>?_⟩
  have:=A1e (P:=P) 6 10000 (by omega) t sh h1 f w a b r hs hl
  simp only[Aap,h2,if_true]at this
  exact this
 ·have hk:=hkeys t (Atm h)
  rcases hk with hk|hk
  ·constructor
   ·have hk':=hk
    unfold Aa4 at hk'
    split at hk'
    ·rename_i fs hu;exact⟨_,hu,rfl⟩
    ·cases hk'
   ·intro f w e a sh hsh hs
    obtain⟨h1,_,_⟩:=heqs _ (Adc hsh)
    exact(Ar9 hk h1 f w e a hs).2
  ·constructor
   ·have hk':=hk
    unfold At8 at hk'
    split at hk'
    ·rename_i n e hu;exact⟨_,hu,rfl⟩
    ·cases hk'
   ·intro f w e a sh hsh hs
    obtain⟨h1,_,_⟩:=heqs _ (Adc hsh)
    exact A0f hk h1 f w e a hs
theorem A6i(f:Loc)(w:World)(n m:Nat):Pa f ⟨.nil,n,m⟩ w:=⟨fun i o h=>(by cases h),fun i j o o' h=>(by cases h)⟩
theorem A7i(n m:Nat):Pj (fun _=>False) ⟨.nil,n,m⟩:=⟨fun i h=>h.elim,fun i o h=>(by cases h)⟩
theorem Ao4 {P:Program}{c:Ae}(hC:Xs P c){g:Nat}{v:EV}{h':Aa}(h:c g [] ⟨.nil,0,0⟩=some (v,h')){V:Value}(hv:∀ f,B9 f v=V)(w:World):
 Calls P g #[] w fun e w'=>e=.returned V/\RowKit.Below w.heap.size w w':=by
 obtain⟨_,hc⟩:=hC _ _ _ _ _ h
 intro cs
 obtain⟨fr,f',w',hs,hfr,hl,hm,Xq,hvo⟩:=hc (fun _=>False) ⟨fun _=>0,fun _=>0⟩ w (A7i 0 0) (A6i _ _ 0 0) trivial cs
 rw[hv]at hl
 exact⟨.returned V,w',fr,⟨rfl,hm.os,hm.tape,hm.output,hm.size,fun k hk=>hm.kept k hk (fun i o hi=>(by cases hi))⟩,hs,hfr,hl⟩
end Go.Ev

namespace Go.Ev
noncomputable def isTrue:Option (EV × Aa)->Bool
 | some (.bool b,_)=>b
 | _=>false
theorem Ayb {r:Option (EV × Aa)}(h:isTrue r=true):∃ h',r=some (.bool true,h'):=by
 unfold isTrue at h
 split at h
 ·subst h;exact⟨_,rfl⟩
 ·cases h
noncomputable def Ak2(g:Nat)(v:EV):Ae:=fun g' args h=>Ay (Nat.beq g' g) (match args with | []=>some (v,h)|_=>none) none
theorem Apb {P:Program}{g:Nat}{v:EV}{V:Value}(hv:∀ f,B9 f v=V)(ho:∀ p,v.ok p){fn:Func}(hf:P.funcs[g]? = some fn)(hb:fn.body.isSome=true)(hn:(fn.name == "runtime.NumGoroutine")=false)
 (hC:∀ w,Calls P g #[] w fun e w'=>e=.returned V/\RowKit.Below w.heap.size w w'):Xs P (Ak2 g v)/\Qm (Ak2 g v):=by
 have key:∀ g' args h v' h',Ak2 g v g' args h=some (v',h')->g'=g/\args = []/\v'=v/\h'=h:=by
  intro g' args h v' h' hh
  unfold Ak2 at hh
  obtain⟨h1,h2⟩:=Aw hh
  split at h2
  ·cases h2;exact⟨Nat.eq_of_beq_eq_true h1,rfl,rfl,rfl⟩
  ·cases h2
 constructor
 ·intro g' args h v' h' hh
  obtain⟨rfl,rfl,rfl,rfl⟩:=key _ _ _ _ _ hh
  refine⟨⟨fn,hf,hb,hn⟩,fun p f w hh rp ha cs=>?_⟩
  obtain⟨e,w',fr,⟨rfl,hbel⟩,hs,hfr,hl⟩:=hC w cs
  refine⟨fr,f,w',hs,hfr,?_,⟨Loc.Ac8 _ _,⟨fun i o ho=>?_,rp.inj⟩,fun b hb _=>hbel.block b hb,hbel.size,hbel.tape,hbel.os,hbel.output,fun i o ho=>.inr ⟨i,o,ho,rfl⟩⟩,Wf.refl hh,ho _⟩
  ·rw[hv];exact hl
  ·obtain⟨r,h1,h2⟩:=rp.obj i o ho
   exact⟨r,by rw[hbel.block _ (rp.lt ho)];exact h1,h2⟩
 ·intro g' args h v' h' hh
  obtain⟨_,_,_,rfl⟩:=key _ _ _ _ _ hh
  exact .refl _
end Go.Ev
