import Derived.Test.YtpkcfamminlmaaaGreatEvThree
import Derived.Laws.StructEq
import Derived.ChangeKeysEq
import Derived.KernelRfl
import Derived.Below
set_option linter.unusedVariables false
set_option linter.unusedSimpArgs false
set_option linter.unusedSectionVars false
namespace Go.Ev
open Classical
section
variable {T:D7}{call round:Ac}(hC:Pd call)(hR:Pd round){n:Nat}{ops:List Oper}{bs:Tr Nat}{base:Nat}
theorem Sd.awf {o:Oper}{i:Nat}{s s':DSt}{v:EV}{E E':Aa}{kd:Kd}(sd:Sd T call round n ops bs base o i s s' v E E' kd):AWf s.h s'.h where
 next:=by rw[<-sd.Vo,<-sd.Uy];exact sd.w.next
 mw:=sd.mw.1
 same q h1 h2:=by rw[sd.A0i,if_pos (sd.mw.2 q h1 h2)]
 live q x hx:=by
  rw[sd.A0i]at hx
  split at hx
  ·exact .inl ⟨x,hx⟩
  ·rcases sd.w.live q x hx with ⟨o',h⟩|h
   ·exact .inl ⟨o',sd.sub q o' h⟩
   ·rw[sd.Vo]at h;exact .inr h
 lt H q x hx:=by
  have hnext:s.h.next<=s'.h.next:=by rw[<-sd.Vo,<-sd.Uy];exact sd.w.next
  rw[sd.A0i]at hx
  split at hx
  ·exact Nat.lt_of_lt_of_le (H q x hx) hnext
  ·rw[<-sd.Uy]
   refine sd.w.lt (fun q x hx=>?_) q x hx
   rw[sd.Vo];exact H q x (sd.sub q x hx)
theorem Sd.nw {o:Oper}{i:Nat}{s s':DSt}{v:EV}{E E':Aa}{kd:Kd}(sd:Sd T call round n ops bs base o i s s' v E E' kd)(h:∀ x ∈ s.nw,x.2<s.h.next):∀ x ∈ s'.nw,x.2<s'.h.next:=by
 have hnext:s.h.next<=s'.h.next:=sd.awf.next
 intro x hx
 have:=sd.kd
 cases kd with
 | idle=>rw[this.2.2.2.1]at hx;exact Nat.lt_of_lt_of_le (h x hx) hnext
 | load q=>rw[this.2.2.2.1]at hx;exact Nat.lt_of_lt_of_le (h x hx) hnext
 | new=>
  obtain⟨a,⟨y,b⟩,c,d,_⟩:=this
  rw[d]at hx
  rcases List.mem_cons.1 hx with rfl|hx
  ·show s.h.next<_
   rw[<-sd.Uy,b,Aa.Ee,sd.Vo];omega
  ·exact Nat.lt_of_lt_of_le (h x hx) hnext
 | Yr q=>
  obtain⟨_,_,d,_⟩:=this
  rw[d]at hx;exact Nat.lt_of_lt_of_le (h x hx) hnext
 | Tu mw=>
  obtain⟨b,_,_,_,_,_,d,_⟩:=this
  rw[d]at hx;exact Nat.lt_of_lt_of_le (h x hx) hnext
include hC hR in
theorem Atq:∀ {l:List Oper} {i:Nat} {s r:DSt},Lt T call round n ops bs base l i s=some r->(∀ x ∈ s.nw,x.2<s.h.next)->AWf s.h r.h
 | [],_,s,r,h,_=>by cases h;exact .refl _
 | o::l,i,s,r,h,hn=>by
  simp only[Lt]at h
  split at h
  ·rename_i s' hs
   obtain⟨v,E,E',kd,sd⟩:=Ana hC hR hs hn
   exact sd.awf.trans (Atq h (sd.nw hn))
  ·cases h
include hC hR in
theorem Awm {tm tm':Ag}{h h':Aa}(hop:Ae1 T call round n ops tm h=some (tm',h')):AWf h h':=by
 unfold Ae1 at hop
 obtain⟨_,hop⟩:=Am hop
 obtain⟨_,hop⟩:=Am hop
 split at hop
 ·rename_i hs
  cases hop
  exact Atq hC hR hs (fun x hx=>by cases hx)
 ·cases hop
end
theorem A3i {P:Program}{T:D7}(hT:Kq P T){call round:Ac}(hC:Vi P call)(hR:Y2 P round)(wC:Pd call)(wR:Pd round)
 {ops:Array Oper} {n:Nat} {p:Nat->Prop} {f:Loc} {h:Aa} {w:World} {tm tm':Ag} {h':Aa} (ht:Ie p n tm) (hh:Nt p h) (rp:Nv f h w)
 (hop:Ae1 T call round n ops.toList tm h=some (tm',h')) (b:FB) (t:Nat) (k:List Item) (cs:List Frame) (dr:Nat) :
 ∃ f' w',Steps P (lone (b.at (Aw f n tm) (.inRegion ops (Region.linearise .any ops t)::k)) cs { w with drawn:=dr }) (lone (b.at (Aw f' n tm') (.inRegion ops []::k)) cs w') /\
  Move p f h w f' h' w'/\Wf p h h'/\Ie (grow p h h') n tm':=by
 have Vk:=Awm wC wR hop
 unfold Ae1 at hop
 obtain⟨hbk,hop⟩:=Am hop
 obtain⟨htm,hop⟩:=Am hop
 split at hop
 ·rename_i tm1 h1 b1 b2 b3 b4 b5 hs
  cases hop
  obtain⟨σ,V,E,E',K,e0,eN,tr⟩:=A63 (s:=⟨tm,h,0,[],[],[],[]⟩) wC wR hs (fun q x hx=>hh.lt q (hh.get q x hx).1) rfl
  have hlen:ops.toList.length=ops.size:=by simp
  rw[hlen]at eN
  have ht0:Ie p n (σ 0).tm:=by rw[e0];exact ht
  have hh0:Nt p (σ 0).h:=by rw[e0];exact hh
  have hfalse:∀ j,¬ ((Array.replicate ops.size false).getD j false=true):=by
   intro j
   simp only[Array.getD_eq_getD_getElem?,Array.getElem?_replicate]
   split <;> simp
  have hI:Inv n ops (Ho ops.toList 0 .nil) σ V E E' p f w (fun j=>(Array.replicate ops.size false).getD j false=true) f { w with drawn:=dr }:=by
   refine⟨fun j hj=>absurd hj (hfalse j),fun j hj=>absurd hj (hfalse j),fun j hj=>absurd hj (hfalse j),?_⟩
   have:hS E E' (σ 0).h.get (fun j=>(Array.replicate ops.size false).getD j false=true) ops.size=(σ 0).h.get:=by
    funext q;exact A3a _ (fun j _ hs=>absurd hs (hfalse j)) _ (Nat.zero_le _)
   rw[this]
   have hr0:Nv f (σ 0).h w:=by rw[e0];exact rp
   exact(Wb.start hr0).drew dr
  have htm0:Aw f n (tmS n ops V (σ 0).tm (fun j=>(Array.replicate ops.size false).getD j false=true) ops.size)=Aw f n tm:=by
   rw[show tm=(σ 0).tm by rw[e0]]
   exact Af7 f n fun t=>Awl _ (fun j _ hs=>absurd hs (hfalse j)) _ (Nat.zero_le _)
  obtain⟨f',w',hst,S,hS,I⟩:=A2i hT hC hR tr rfl htm hbk ht0 hh0 b k cs ops.size t (Array.replicate ops.size false) f _ (by simp) (by
   unfold unl;exact Nat.le_trans (List.length_filter_le _ _) (by simp)) hI
  rw[htm0]at hst
  have hmv:=I.mv.move (h:=(σ ops.size).h) (fun q=>(A1v tr hS q).symm)
  have e1:(σ ops.size).h=h':=by rw[eN]
  have e2:(σ ops.size).tm=tm':=by rw[eN]
  have e3:(σ 0).h=h:=by rw[e0]
  have hgrow:∀ q,pS p σ ops.size S q/\q<nx σ ops.size->grow p h h' q:=by
   rintro q ⟨h1|⟨j,_,hj,h1,h2⟩,h3⟩
   ·exact .inl h1
   ·refine .inr ⟨?_,?_⟩
    ·have:=tr.Ald (i:=0) (m:=j) (by omega) (by omega)
     rw[<-e3];exact Nat.le_trans this h1
    ·rw[<-e1];exact h3
  rw[e2]at hst
  rw[e1,e3]at hmv
  refine⟨f',w',hst,hmv,⟨Vk.next,Vk.mw,Vk.same,Vk.live,⟨fun q hq=>?_,fun q x hx=>?_⟩⟩,?_⟩
  ·rcases hq with hq|hq
   ·exact Nat.lt_of_lt_of_le (hh.lt q hq) Vk.next
   ·exact hq.2
  ·obtain⟨a,b⟩:=I.Xk tr hh0 ops.size (Nat.le_refl _) q x (by rw[A1v tr hS q,e1];exact hx)
   exact⟨hgrow q a,b.mono hgrow⟩
  ·have:=I.A4s tr ht0 hh0.lt ops.size (Nat.le_refl _)
   rw[Ahc tr hS _ (Nat.le_refl _),e2]at this
   exact this.mono hgrow
 ·cases hop
end Go.Ev

namespace Go.Ev
def Gx(f:Loc)(d:Nat):Deferred:={ target:=.collected (f.b d),args:=#[] }
def Aua(f:Loc)(a:Xb):FB:=⟨a.fn,a.defers.map (Gx f),a.Dm.map f.b⟩
noncomputable def J8(f:Loc)(a:Xb):Frame:=
 { fn:=a.fn,tmps:=Aw f a.n a.tmps,todo:=a.todo,defers:=a.defers.map (Gx f),mode:=if a.ret=true then .returning else .run,kind:=.normal,roundOf:=a.Dm.map f.b }
structure Pt(p:Nat->Prop)(a:Xb):Prop where
 tm:Ie p a.n a.tmps
 dfr:∀ d ∈ a.defers,p d
 Dm:∀ l,a.Dm=some l->p l
 ret:a.ret=true->a.Dm=none
theorem Pt.mono {p q:Nat->Prop}{a:Xb}(h:Pt p a)(hpq:∀ i,p i->q i):Pt q a:=⟨h.tm.mono hpq,fun d hd=>hpq d (h.dfr d hd),fun l hl=>hpq l (h.Dm l hl),h.ret⟩
theorem An2 {p:Nat->Prop}{f g:Loc}(hfg:Loc.Dt p f g){a:Xb}(h:Pt p a):J8 f a=J8 g a:=by
 unfold J8
 rw[Hx hfg h.tm]
 have h1:a.defers.map (Gx f)=a.defers.map (Gx g):=by
  apply List.map_congr_left
  intro d hd
  unfold Gx;rw[(hfg d (h.dfr d hd)).1]
 have h2:a.Dm.map f.b=a.Dm.map g.b:=by
  cases hr:a.Dm with
  | none=>rfl
  | some l=>simp only[Option.map_some];rw[(hfg l (h.Dm l hr)).1]
 rw[h1,h2]
theorem Zo {p:Nat->Prop}{f g:Loc}(hfg:Loc.Dt p f g){a:Xb}(h:Pt p a):Aua f a=Aua g a:=by
 have:=An2 hfg h
 unfold J8 at this
 unfold Aua
 injection this with _ _ _ h4 _ _ h7
 rw[h4,h7]
section
variable {P:Program}{b:FB}{tmps:Array Value}{k:List Item}{cs:List Frame}{w:World}
theorem A5g:step P (lone (b.at tmps (.code .skip::k)) cs w)=.next (lone (b.at tmps k) cs w):=step_lone_go (by simp[stepG,stepG.exec,FB.at])
theorem A1k {l:Nat}:step P (lone (b.at tmps (.code (.label l)::k)) cs w)=.next (lone (b.at tmps k) cs w):=step_lone_go (by simp[stepG,stepG.exec,FB.at])
theorem Ava {id:Nat}:step P (lone (b.at tmps (.inBlock id::k)) cs w)=.next (lone (b.at tmps k) cs w):=step_lone_go (by simp[stepG,stepG.exec,FB.at])
theorem A6h {x y:Code}:step P (lone (b.at tmps (.code (.seq x y)::k)) cs w)=.next (lone (b.at tmps (.code x :: .code y::k)) cs w):=step_lone_go (by simp[stepG,stepG.exec,FB.at])
theorem Aw7 {c:Operand}{x y:Code}{t:Bool}(h:Gv tmps c=.bool t):step P (lone (b.at tmps (.code (.cond c x y)::k)) cs w)=.next (lone (b.at tmps (.code (if t then x else y)::k)) cs w):=
 step_lone_go (by
  have:=FB.eval_at b tmps (.code (.cond c x y)::k)
  simp only[FB.at]at this
  simp[stepG,stepG.exec,FB.at,this,h])
theorem A1o {id:Nat}{c:Code}:step P (lone (b.at tmps (.code (.block id c)::k)) cs w)=.next (lone (b.at tmps (.code c :: .inBlock id::k)) cs w):=step_lone_go (by simp[stepG,stepG.exec,FB.at])
theorem A4n {c:Code}:step P (lone (b.at tmps (.code (.loop c)::k)) cs w)=.next (lone (b.at tmps (.code c :: .inLoop c::k)) cs w):=step_lone_go (by simp[stepG,stepG.exec,FB.at])
theorem Az8 {c:Code}:step P (lone (b.at tmps (.inLoop c::k)) cs w)=.next (lone (b.at tmps (.code c :: .inLoop c::k)) cs w):=step_lone_go (by simp[stepG,stepG.exec,FB.at])
theorem A31 {id:Nat}{k':List Item}(h:exitTo id k=some k'):step P (lone (b.at tmps (.code (.exit id)::k)) cs w)=.next (lone (b.at tmps k') cs w):=step_lone_go (by simp[stepG,stepG.exec,FB.at,h])
theorem A57(h:b.Dm=none):step P (lone (b.at tmps (.code .ret::k)) cs w)=.next (lone { b.at tmps (.code .ret::k) with mode:=.returning } cs w):=step_lone_go (by simp[stepG,stepG.exec,FB.at,h])
theorem A6z(h:b.Dm=none):step P (lone (b.at tmps []) cs w)=.next (lone { b.at tmps [] with mode:=.returning } cs w):=step_lone_go (by simp[stepG,stepG.exec,FB.at,h])
theorem Az9 {id:Nat}{ops:Array Oper}:step P (lone (b.at tmps (.code (.region id ops false)::k)) cs w)=.next (lone (b.at tmps (.inRegion ops (List.range ops.size)::k)) cs w):=step_lone_go (by simp[stepG,stepG.exec,FB.at])
theorem A3w(hm:P.follows .mixedOrders=true){id:Nat}{ops:Array Oper}:step P (lone (b.at tmps (.code (.region id ops true)::k)) cs w) =
 .next (lone (b.at tmps (.inRegion ops (Region.linearise .any ops (w.tape w.drawn (.order b.fn id)))::k)) cs { w with drawn:=w.drawn+1 }):=
 step_lone_go (by simp[stepG,stepG.exec,FB.at,choose,Sem.run,Question.forced,Question.cut,hm,Region.schedule])
theorem Ap8 {l:Nat}(hr:b.Dm=some l){v:Value}{w':World}{jump:Option Code}(he:(Instr.endRound l jump).run P w=.ok v w'){todo:List Item}
 (ht:(todo = []/\jump=none)\/(∃ k,todo=.code .ret::k/\jump=some .ret)\/(∃ id k,todo=.code (.exit id)::k/\exitTo id k=none/\jump=some (.exit id))) {caller:Frame} :
 step P (lone (b.at tmps todo) (caller::cs) w)=.next (lone (caller.finish v) cs w'):=by
 refine step_lone_go ?_
 rcases ht with ⟨rfl,rfl⟩|⟨k,rfl,rfl⟩|⟨id,k,rfl,hx,rfl⟩
 ·simp[stepG,stepG.exec,FB.at,hr,he,doReturn]
 ·simp[stepG,stepG.exec,FB.at,hr,he,doReturn]
 ·simp[stepG,stepG.exec,FB.at,hr,hx,he,doReturn]
end
section
variable {P:Program}{T:D7}(hT:Kq P T){p:Nat->Prop}{f:Loc}{h:Aa}{w:World}
theorem Atb(hT:Kq P T)(hh:Nt p h)(rp:Nv f h w){t:TypeId}{i off n:Nat}{cs:List EV}(hs:T.size t=some n)(hc:Fl h i off n=some cs){b:Bool}(ha:T.agg t=some b){v:EV}
 (hv:(b=true/\v=.agg cs)\/(b=false/\cs = [v])):(loadVar t ⟨f.b i,off,none⟩).run P w=.ok (Br f v) w/\v.ok p:=by
 obtain⟨h1,h2,h3,h4,h5⟩:=Yw (P:=P) hh rp hc
 rcases hv with ⟨rfl,rfl⟩|⟨rfl,rfl⟩
 ·refine⟨?_,h2,h3⟩
  simp only[loadVar,Sem.run_bind,Ad2 hT w ha,Result.andThen_ok,if_true,E5 hT w hs,h1,Sem.run_pure,Br]
 ·refine⟨?_,h2.1⟩
  have:=h5 0 v rfl
  simp only[loadVar,Sem.run_bind,Ad2 hT w ha,Result.andThen_ok,Bool.false_eq_true,if_false]
  simp only[Nat.add_zero]at this
  rw[run_load,this]
theorem Aou {α β:Type}(P:Program)(w:World)(g:α->Sem β):∀ (l:List α) (r:List β),(l.length=r.length)->(∀ (i:Nat) a b,l[i]? = some a->r[i]? = some b->(g a).run P w=.ok b w)->(l.mapM g).run P w=.ok r w
 | [],[],_,_=>by simp
 | a::l,b::r,hl,h=>by
  have h0:=h 0 a b rfl rfl
  have ih:=Aou P w g l r (by simpa using hl) (fun i a b h1 h2=>h (i+1) a b (by simpa using h1) (by simpa using h2))
  simp[List.mapM_cons,h0,ih]
 | [],_::_,h,_=>by simp at h
 | _::_,[],h,_=>by simp at h
def Ag5(tmps:Array Value):ResultVar->Sem Value
 | .tmp t=>pure (tmps.getD t undef)
 | .cell a t=>do loadVar t (← asAddr (tmps.getD a undef))
theorem Avy(fn:Func)(tmps:Array Value):results fn tmps=(do
 let vs ← fn.results.mapM (Ag5 tmps)
 pure (if h:vs.size=1 then vs[0] else .tuple vs)):=by
 unfold results
 congr 1
theorem Xm(hT:Kq P T)(hh:Nt p h)(rp:Nv f h w){n:Nat}{tm:Ag}(ht:Ie p n tm):∀ {l:List ResultVar} {vs:List EV},Hn T tm h l=some vs ->
 EV.N3 p vs/\l.length=(A8 f vs).length/\∀ (i:Nat) a b,l[i]? = some a->(A8 f vs)[i]? = some b->(Ag5 (Aw f n tm) a).run P w=.ok b w
 | [],vs,hr=>by cases hr;exact⟨trivial,rfl,fun i a b h=>by simp at h⟩
 | .tmp t::r,vs,hr=>by
  simp only[Hn]at hr
  split at hr
  ·rename_i l hl
   cases hr
   obtain⟨h1,h2,h3⟩:=Xm hT hh rp ht hl
   refine⟨⟨ht.tmp t,h1⟩,by simp[A8,h2],fun i a b ha hb=>?_⟩
   cases i with
   | zero=>
    simp only[List.getElem?_cons_zero,Option.some.injEq,A8]at ha hb
    subst ha hb
    simp only[Ag5,Sem.run_pure,R4 f ht]
   | succ i=>exact h3 i a b (by simpa using ha) (by simpa [A8] using hb)
  ·cases hr
 | .cell a t::r,vs,hr=>by
  simp only[Hn]at hr
  split at hr
  ·rename_i i off l n' ha hl hn
   split at hr
   ·rename_i cs hc
    obtain⟨h1,h2,h3⟩:=Xm hT hh rp ht hl
    have key:∀ (b:Bool) (v:EV),T.agg t=some b->((b=true/\v=.agg cs)\/(b=false/\cs = [v]))->some (v::l)=some vs->EV.N3 p vs/\(ResultVar.cell a t::r).length=(A8 f vs).length/\∀ (i:Nat) a' b',(ResultVar.cell a t::r)[i]? = some a'->(A8 f vs)[i]? = some b'->(Ag5 (Aw f n tm) a').run P w=.ok b' w:=by
     intro b v hb hv e
     cases e
     obtain⟨l1,l2⟩:=Atb hT hh rp hn hc hb hv
     refine⟨⟨l2,h1⟩,by simp[A8,h2],fun i a' b' ha' hb'=>?_⟩
     cases i with
     | zero=>
      simp only[List.getElem?_cons_zero,Option.some.injEq,A8]at ha' hb'
      subst ha' hb'
      simp only[Ag5,R4 f ht,ha,Br,asAddr,Sem.run_bind,Sem.run_pure,Result.andThen_ok,l1]
     | succ i=>exact h3 i a' b' (by simpa using ha') (by simpa [A8] using hb')
    split at hr
    ·rename_i hb;exact key true _ hb (.inl ⟨rfl,rfl⟩) hr
    ·rename_i hb
     split at hr
     ·exact key false _ hb (.inr ⟨rfl,rfl⟩) hr
     ·cases hr
    ·cases hr
   ·cases hr
  ·cases hr
theorem Asp(hT:Kq P T)(hh:Nt p h)(rp:Nv f h w){n:Nat}{tm:Ag}(ht:Ie p n tm){fn:Func}{vs:List EV}(hr:Hn T tm h fn.results.toList=some vs){v:EV}
 (hv:vs = [v]\/((∀ x,vs ≠ [x])/\v=.tuple vs)):(results fn (Aw f n tm)).run P w=.ok (Br f v) w/\v.ok p:=by
 obtain⟨h1,h2,h3⟩:=Xm hT hh rp ht hr
 have hm:(fn.results.toList.mapM (Ag5 (Aw f n tm))).run P w=.ok (A8 f vs) w:=Aou P w _ _ _ h2 h3
 constructor
 ·have hm':(fn.results.mapM (Ag5 (Aw f n tm))).run P w=.ok (A8 f vs).toArray w:=by
   have e:fn.results.mapM (Ag5 (Aw f n tm))=Functor.map List.toArray (fn.results.toList.mapM (Ag5 (Aw f n tm))):=by
    rw[<-List.mapM_toArray,Array.toArray_toList]
   rw[e,Sem.run_map,hm];rfl
  rw[Avy,Sem.run_bind,hm',Result.andThen_ok,Sem.run_pure]
  congr 1
  rcases hv with rfl|⟨hne,rfl⟩
  ·simp[A8]
  ·rw[dif_neg]
   ·simp only[Br]
   ·intro hsz
    simp only[List.size_toArray,B6]at hsz
    match vs,hsz with
    | [x],_=>exact hne x rfl
 ·rcases hv with rfl|⟨_,rfl⟩
  ·exact h1.1
  ·exact h1
end
end Go.Ev

namespace Go.Ev
theorem Adk(f:Loc)(fn n:Nat)(tm:Ag)(todo:List Item)(ds:List Nat)(Dm:Option Nat):
 J8 f ⟨fn,n,tm,todo,ds,false,Dm⟩=(FB.mk fn (ds.map (Gx f)) (Dm.map f.b)).at (Aw f n tm) todo:=rfl
theorem Ade(f:Loc)(fn n:Nat)(tm:Ag)(todo:List Item)(ds:List Nat):
 J8 f ⟨fn,n,tm,todo,ds,true,none⟩ = { (FB.mk fn (ds.map (Gx f)) none).at (Aw f n tm) todo with mode:=.returning }:=rfl
def Sim(P:Program)(p:Nat->Prop)(f:Loc)(w:World)(cs:List Frame)(s s':Fp):Prop:=
 ∃ f' w',Steps P (lone (J8 f s.fr) cs w) (lone (J8 f' s'.fr) cs w')/\Move p f s.h w f' s'.h w'/\Wf p s.h s'.h/\Pt (grow p s.h s'.h) s'.fr/\s'.fr.fn=s.fr.fn/\s'.fr.Dm=s.fr.Dm
def Fin(P:Program)(p:Nat->Prop)(f:Loc)(w:World)(s:Fp)(v:EV)(h':Aa):Prop:=
 match s.fr.Dm with
 | none=>h'=s.h/\(J8 f s.fr).leaving P w (.returned (Br f v))/\v.ok p
 | some _=>∀ caller cs,∃ w',Steps P (lone (J8 f s.fr) (caller::cs) w) (lone (caller.finish (Br f v)) cs w')/\Move p f s.h w f h' w'/\Wf p s.h h'/\v.ok p
section
variable {P:Program}{T:D7}{p:Nat->Prop}{f:Loc}{h:Aa}{w:World}{cs:List Frame}
theorem Sim.stay {fr fr':Xb}(hh:Nt p h)(rp:Nv f h w)(hs:Steps P (lone (J8 f fr) cs w) (lone (J8 f fr') cs w))(ho:Pt p fr')(h1:fr'.fn=fr.fn)(h2:fr'.Dm=fr.Dm):Sim P p f w cs ⟨fr,h⟩ ⟨fr',h⟩:=
 ⟨f,w,hs,Move.refl rp,Wf.refl hh,by rw[Hq _ _ _ rfl];exact ho,h1,h2⟩
theorem Wc(rp:Nv f h w){l:Nat}{st:LoopState}{pd:Option Code}{fn n:Nat}{tm:Ag}{ps:List Tmp}{asg body:Code}{d:Nat}(hg:h.get l=some (.loop st pd fn n tm ps asg body d)):
 (Instr.getLoop (f.b l)).run P w=.ok ⟨st,pd,fn,Aw f n tm,ps.toArray,asg,body,f.b d⟩ w/\w.heap[f.b l]? = some (.loop ⟨st,pd,fn,Aw f n tm,ps.toArray,asg,body,f.b d⟩):=by
 obtain⟨r,hr,rfl⟩:=rp.obj l _ hg
 have hgo:=Ju (P:=P) hr (by intros;simp)
 refine⟨?_,hr⟩
 simp only[Instr.getLoop,Sem.run_bind,hgo,Result.andThen_ok,Sem.run_pure]
theorem Aqj(hh:Nt p h)(rp:Nv f h w){l:Nat}{st st':LoopState}{pd pd':Option Code}{fn n:Nat}{tm:Ag}{ps:List Tmp}{asg body:Code}{d:Nat}(hg:h.get l=some (.loop st pd fn n tm ps asg body d)):
 Move p f h w f (h.put l (.loop st' pd' fn n tm ps asg body d)) { w with heap:=w.heap.setIfInBounds (f.b l) (.loop ⟨st',pd',fn,Aw f n tm,ps.toArray,asg,body,f.b d⟩) } /\
 Wf p h (h.put l (.loop st' pd' fn n tm ps asg body d)):=
 ⟨Move.setObj rp hg rfl,Wf.put hh hg (hh.get l _ hg).2⟩
theorem Arh(rp:Nv f h w){l:Nat}{st:LoopState}{pd:Option Code}{fn n:Nat}{tm:Ag}{ps:List Tmp}{asg body:Code}{d:Nat}(hg:h.get l=some (.loop st pd fn n tm ps asg body d))(jump:Option Code):
 (Instr.endRound (f.b l) jump).run P w=.ok (.bool jump.isNone) { w with heap:=w.heap.setIfInBounds (f.b l) (.loop ⟨if jump.isNone then .ready else .done,jump,fn,Aw f n tm,ps.toArray,asg,body,f.b d⟩) }:=by
 obtain⟨h1,h2⟩:=Wc (P:=P) rp hg
 have hs:=Lp (P:=P) (o':=.loop ⟨if jump.isNone then .ready else .done,jump,fn,Aw f n tm,ps.toArray,asg,body,f.b d⟩) h2 (by intros;simp)
 simp only[Instr.endRound,Sem.run_bind,h1,Result.andThen_ok,hs,Sem.run_pure]
theorem Anf {fn n:Nat}{tm:Ag}{todo:List Item}{ds:List Nat}{Dm:Option Nat}{jump:Option Code}{s':Fp}(hop:leave fn n tm todo ds Dm h jump=.go s'):
 Dm=none/\s'=⟨⟨fn,n,tm,todo,ds,true,none⟩,h⟩/\(jump=none\/jump=some .ret):=by
 unfold leave at hop
 split at hop
 ·split at hop
  ·cases hop;exact⟨rfl,rfl,.inl rfl⟩
  ·cases hop;exact⟨rfl,rfl,.inr rfl⟩
  ·cases hop
 ·split at hop
  ·split at hop <;> cases hop
  ·cases hop
theorem Afx(hh:Nt p h)(rp:Nv f h w){fn n:Nat}{tm:Ag}{todo:List Item}{ds:List Nat}{Dm:Option Nat}{jump:Option Code}{v:EV}{h':Aa}(hop:leave fn n tm todo ds Dm h jump=.done v h')
 (ht:(todo = []/\jump=none)\/(∃ k,todo=.code .ret::k/\jump=some .ret)\/(∃ id k,todo=.code (.exit id)::k/\exitTo id k=none/\jump=some (.exit id))) :
 Fin P p f w ⟨⟨fn,n,tm,todo,ds,false,Dm⟩,h⟩ v h':=by
 unfold leave at hop
 split at hop
 ·split at hop <;> cases hop
 ·rename_i l
  split at hop
  ·rename_i st pd fn' n' tm' ps asg body d hg
   have key:∀ (b:Bool) (st':LoopState),b=jump.isNone->st'=(if jump.isNone then .ready else .done)->Fin P p f w ⟨⟨fn,n,tm,todo,ds,false,some l⟩,h⟩ (.bool b) (h.put l (.loop st' jump fn' n' tm' ps asg body d)):=by
    intro b st' hb hst
    intro caller cs
    obtain⟨m1,m2⟩:=Aqj (st':=st') (pd':=jump) hh rp hg
    refine⟨_,.one ?_,m1,m2,trivial⟩
    have he:=Arh (P:=P) rp hg jump
    rw[<-hst,<-hb]at he
    exact Ap8 (b:=FB.mk fn (ds.map (Gx f)) (some (f.b l))) rfl he ht
   split at hop
   ·cases hop;exact key true _ rfl rfl
   ·cases hop;exact key false _ rfl rfl
  ·cases hop
variable (hT:Kq P T){call round:Ac}(hC:Vi P call)(hR:Y2 P round)(wC:Pd call)(wR:Pd round)
theorem Ayc {fn:Nat}{tmps:Array Value}{todo:List Item}{d:Nat}{ds:List Deferred}{w':World}(h:(Instr.takeDeferred d).run P w=.ok [] w'):
 step P (lone { fn:=fn,tmps:=tmps,todo:=todo,defers:={ target:=.collected d,args:=#[] }::ds,mode:=.returning,kind:=.normal,roundOf:=none } cs w) =
  .next (lone { fn:=fn,tmps:=tmps,todo:=todo,defers:=ds,mode:=.returning,kind:=.normal,roundOf:=none } cs w'):=
 step_lone_go (by simp[stepG,unwind,h])
theorem An7 {b:FB}{l:Nat}(hl:b.Dm=some l){tmps:Array Value}{k:List Item}{w':World}(h:(Instr.beginRound l).run P w=.ok () w'):
 step P (lone (b.at tmps (.beginRound::k)) cs w)=.next (lone (b.at tmps k) cs w'):=
 step_lone_go (by simp[stepG,stepG.exec,stepG.apply,FB.at,hl,h,Frame.finish])
theorem Aio {b:FB}{tmps:Array Value}{k:List Item}{fo:Operand}{ps:Array Tmp}{asg body:Code}{l:Nat}{mark:List Deferred}{w1:World}{g:FuncId}{args:Array Value}
 (h1:(Instr.enterLoop b.fn tmps ps asg body b.Dm).run P w=.ok (l,mark) w1)
 (h2:(do let d ← resolve (Gv tmps) { callee:=.value fo,args:=#[.const (.func (.yield l) #[] #[])],argTypes:=#[] } 0;invoke d.target d.args:Sem Next).run P w1=.ok (.enter g args) w1) :
 step P (lone (b.at tmps (.code (.rangeFunc fo ps asg body)::k)) cs w)=.next (lone (Frame.enter P g args .normal) ((FB.mk b.fn (mark++b.defers) b.Dm).at tmps (.inRangeFunc l::k)::cs) w1):=by
 refine step_lone_go ?_
 have he:=FB.eval_at (FB.mk b.fn (mark++b.defers) b.Dm) tmps (.inRangeFunc l::k)
 simp only[FB.at]at he
 simp only[stepG,stepG.exec,FB.at,Sem.runT_eq,h1,GStep.bare_after,stepG.apply,he]
 rw[h2]
 simp
theorem As9 {b:FB}{tmps:Array Value}{k:List Item}{l:Nat}{jump:Option Code}{w1:World}(h1:(Instr.endLoop l).run P w=.ok jump w1):
 step P (lone (b.at tmps (.endRangeFunc l::k)) cs w)=.next (lone (b.at tmps ((jump.map Item.code).toList++k)) cs w1):=
 step_lone_go (by simp[stepG,stepG.exec,FB.at,h1])
theorem Ar9(rp:Nv f h w){l:Nat}{st:LoopState}(hst:st ≠ .busy){pd:Option Code}{fn n:Nat}{tm:Ag}{ps:List Tmp}{asg body:Code}{d:Nat}(hg:h.get l=some (.loop st pd fn n tm ps asg body d)):
 (Instr.endLoop (f.b l)).run P w=.ok pd { w with heap:=w.heap.setIfInBounds (f.b l) (.loop ⟨.exhausted,pd,fn,Aw f n tm,ps.toArray,asg,body,f.b d⟩) }:=by
 obtain⟨h1,h2⟩:=Wc (P:=P) rp hg
 have hs:=Lp (P:=P) (o':=.loop ⟨.exhausted,pd,fn,Aw f n tm,ps.toArray,asg,body,f.b d⟩) h2 (by intros;simp)
 have hb:(st == .busy)=false:=by cases st <;> first|rfl|exact absurd rfl hst
 simp only[Instr.endLoop,Sem.run_bind,h1,Result.andThen_ok,hb,Bool.false_eq_true,if_false,Sem.run_pure,hs]
theorem Apd(hC:Vi P call){fn n:Nat}{tm:Ag}{ds:List Nat}{Dm:Option Nat}{l:Nat}{k:List Item}{g:Nat}{args:List EV}{s':Fp}
 (hop:behind fn n tm ds Dm l k (call g args h)=.go s') (hh:Nt p h) (rp:Nv f h w) (ha:EV.N3 p args) (hf:Pt p ⟨fn,n,tm,k,ds,false,Dm⟩) :
 (∃ gn,P.funcs[g]? = some gn/\gn.body.isSome=true/\(gn.name == "runtime.NumGoroutine")=false)/\∃ f' w',p l ->
  Steps P (lone (Frame.enter P g (A8 f args).toArray .normal) ((FB.mk fn (ds.map (Gx f)) (Dm.map f.b)).at (Aw f n tm) (.inRangeFunc (f.b l)::k)::cs) w) (lone (J8 f' s'.fr) cs w') /\
  Move p f h w f' s'.h w'/\Wf p h s'.h/\Pt (grow p h s'.h) s'.fr/\s'.fr.fn=fn/\s'.fr.Dm=Dm:=by
 unfold behind at hop
 split at hop
 ·cases hop
 ·rename_i v h1 hcall
  obtain⟨hfn,hc⟩:=hC _ _ _ _ _ hcall
  refine⟨hfn,?_⟩
  split at hop
  ·rename_i st pd fn' n' tm' ps asg body d hg
   have key:st ≠ .busy->∀ todo:List Item,todo=(pd.map Item.code).toList++k->(AR.go ⟨⟨fn,n,tm,todo,ds,false,Dm⟩,h1.put l (.loop .exhausted pd fn' n' tm' ps asg body d)⟩=.go s')->∃ f' w',p l ->
    Steps P (lone (Frame.enter P g (A8 f args).toArray .normal) ((FB.mk fn (ds.map (Gx f)) (Dm.map f.b)).at (Aw f n tm) (.inRangeFunc (f.b l)::k)::cs) w) (lone (J8 f' s'.fr) cs w') /\
    Move p f h w f' s'.h w'/\Wf p h s'.h/\Pt (grow p h s'.h) s'.fr/\s'.fr.fn=fn/\s'.fr.Dm=Dm:=by
    intro hst todo htodo e
    cases e
    obtain⟨fr,f1,w1,hs,hfr,hl,hm,Vk,hvo⟩:=hc p f w hh rp ha ((FB.mk fn (ds.map (Gx f)) (Dm.map f.b)).at (Aw f n tm) (.inRangeFunc (f.b l)::k)::cs)
    have hgrow:Pt (grow p h h1) ⟨fn,n,tm,k,ds,false,Dm⟩:=hf.mono fun _ hi=>.inl hi
    obtain⟨m1,m2⟩:=Aqj (st':=.exhausted) (pd':=pd) Vk.Xk hm.rep hg
    have hnx:grow p h (h1.put l (.loop .exhausted pd fn' n' tm' ps asg body d))=grow p h h1:=by
     funext q;simp only[grow,Aa.Vd]
    refine⟨f1,_,fun hpl=>⟨hs.trans (.head (step_leave_returned hl) (.one ?_)),hm.trans m1,Vk.trans m2,?_,rfl,rfl⟩⟩
    ·have e1:((FB.mk fn (ds.map (Gx f)) (Dm.map f.b)).at (Aw f n tm) (.inRangeFunc (f.b l)::k)).finish (Br f1 v)=(FB.mk fn (ds.map (Gx f1)) (Dm.map f1.b)).at (Aw f1 n tm) (.endRangeFunc (f1.b l)::k):=by
      have:=Zo hm.Dt hf
      simp only[Aua]at this
      rw[this,hm.Aw hf.tm,(hm.Dt l hpl).1]
      rfl
     rw[e1,As9 (Ar9 hm.rep hst hg),<-htodo]
     rfl
    ·rw[hnx]
     exact⟨hgrow.tm,hgrow.dfr,hgrow.Dm,fun x=>by cases x⟩
   split at hop
   ·cases hop
   ·rename_i hne;exact key hne _ (by cases pd <;> rfl) hop
  ·cases hop
end
end Go.Ev

namespace Go.Ev
section
variable {P:Program}{T:D7}(hT:Kq P T){call round:Ac}(hC:Vi P call)(hR:Y2 P round)(wC:Pd call)(wR:Pd round)
include wC wR in
theorem Aql {s:Fp}{h':Aa}(hop:(∃ s',Bv T call round s=.go s'/\s'.h=h')\/∃ v,Bv T call round s=.done v h'):AWf s.h h':=by
 obtain⟨⟨fn,n,tm,todo,ds,ret,Dm⟩,h⟩:=s
 have hleave:∀ {todo:List Item} {jump:Option Code} {h':Aa},((∃ s',leave fn n tm todo ds Dm h jump=.go s'/\s'.h=h')\/∃ v,leave fn n tm todo ds Dm h jump=.done v h')->AWf h h':=by
  intro todo jump h' hl
  rcases hl with ⟨s',h1,h2⟩|⟨v,h1⟩
  ·obtain⟨_,e,_⟩:=Anf h1
   rw[e]at h2;subst h2;exact .refl _
  ·unfold leave at h1
   split at h1
   ·split at h1 <;> cases h1
   ·split at h1
    ·rename_i hg
     split at h1
     ·cases h1;exact .put hg _
     ·cases h1;exact .put hg _
    ·cases h1
 cases ret with
 | true=>
  cases ds with
  | cons d ds=>
   simp only[Bv]at hop
   split at hop
   ·rename_i hg
    rcases hop with ⟨s',e,rfl⟩|⟨v,e⟩
    ·cases e;exact .put hg _
    ·cases e
   ·rcases hop with ⟨s',e,_⟩|⟨v,e⟩ <;> cases e
  | nil=>
   simp only[Bv]at hop
   rcases hop with ⟨s',e,rfl⟩|⟨v,e⟩
   ·split at e
    ·split at e <;> cases e
    ·cases e
   ·split at e
    ·split at e <;> first|(cases e;done)|(cases e;exact .refl _)
    ·cases e
 | false=>
  cases todo with
  | nil=>simp only[Bv]at hop;exact hleave hop
  | cons it k=>
   have triv:∀ {s0:Fp},((∃ s',AR.go s0=.go s'/\s'.h=h')\/∃ v,AR.go s0=.done v h')->s0.h=h':=by
    rintro s0 (⟨s',e,rfl⟩|⟨v,e⟩) <;> cases e
    rfl
   have nofail:((∃ s',AR.fail=.go s'/\s'.h=h')\/∃ v,AR.fail=.done v h')->AWf h h':=by
    rintro(⟨s',e,_⟩|⟨v,e⟩) <;> cases e
   have hbehind:∀ {ds':List Nat} {l g:Nat} {args:List EV} {h1:Aa},AWf h h1->((∃ s',behind fn n tm ds' Dm l k (call g args h1)=.go s'/\s'.h=h')\/∃ v,behind fn n tm ds' Dm l k (call g args h1)=.done v h')->AWf h h':=by
    intro ds' l g args h1 hw1 hb
    unfold behind at hb
    split at hb
    ·exact nofail hb
    ·rename_i v h2 hc
     split at hb
     ·rename_i hg
      split at hb
      ·exact nofail hb
      ·rw[<-triv hb]
       exact(hw1.trans (wC _ _ _ _ _ hc)).trans (.put hg _)
     ·exact nofail hb
   cases it with
   | code c=>
    cases c with
    | region id ops dr=>
     cases dr with
     | false=>
      simp only[Bv]at hop
      split at hop
      ·rename_i ho;rw[<-triv hop];exact At8 wC wR ho
      ·exact nofail hop
     | true=>
      simp only[Bv]at hop
      split at hop
      ·rename_i ho;rw[<-triv hop];exact Awm wC wR ho
      ·exact nofail hop
    | cond c a b=>
     simp only[Bv]at hop
     split at hop
     ·rw[<-triv hop];exact .refl _
     ·rw[<-triv hop];exact .refl _
     ·exact nofail hop
    | exit id=>
     simp only[Bv]at hop
     split at hop
     ·rw[<-triv hop];exact .refl _
     ·exact hleave hop
    | ret=>simp only[Bv]at hop;exact hleave hop
    | rangeFunc fo ps asg body=>
     simp only[Bv]at hop
     split at hop
     ·split at hop
      ·exact hbehind ((AWf.new _ _).trans (.new _ _)) hop
      ·split at hop
       ·exact hbehind (.new _ _) hop
       ·exact nofail hop
     ·exact nofail hop
    | seq a b=>simp only[Bv]at hop;rw[<-triv hop];exact .refl _
    | skip=>simp only[Bv]at hop;rw[<-triv hop];exact .refl _
    | block id c=>simp only[Bv]at hop;rw[<-triv hop];exact .refl _
    | loop c=>simp only[Bv]at hop;rw[<-triv hop];exact .refl _
    | label l=>simp only[Bv]at hop;rw[<-triv hop];exact .refl _
    | scope c=>simp only[Bv]at hop;exact nofail hop
    | goto c=>simp only[Bv]at hop;exact nofail hop
    | refuse c=>simp only[Bv]at hop;exact nofail hop
   | inBlock id=>simp only[Bv]at hop;rw[<-triv hop];exact .refl _
   | inLoop c=>simp only[Bv]at hop;rw[<-triv hop];exact .refl _
   | beginRound=>
    simp only[Bv]at hop
    split at hop
    ·split at hop
     ·rename_i hg;rw[<-triv hop];exact .put hg _
     ·exact nofail hop
    ·exact nofail hop
   | _=>simp only[Bv]at hop;exact nofail hop
theorem Sim.run {p:Nat->Prop}{f:Loc}{w:World}{cs:List Frame}{h h':Aa}{fn n:Nat}{tm tm':Ag}{todo todo':List Item}{ds ds':List Nat}{Dm:Option Nat}{f':Loc}{w':World}
 (hs:Steps P (lone ((FB.mk fn (ds.map (Gx f)) (Dm.map f.b)).at (Aw f n tm) todo) cs w) (lone ((FB.mk fn (ds'.map (Gx f')) (Dm.map f'.b)).at (Aw f' n tm') todo') cs w'))
 (hm:Move p f h w f' h' w') (Vk:Wf p h h') (hfo:Pt (grow p h h') ⟨fn,n,tm',todo',ds',false,Dm⟩):Sim P p f w cs ⟨⟨fn,n,tm,todo,ds,false,Dm⟩,h⟩ ⟨⟨fn,n,tm',todo',ds',false,Dm⟩,h'⟩:=
 ⟨f',w',hs,hm,Vk,hfo,rfl,rfl⟩
theorem Sim.Ro {p:Nat->Prop}{f:Loc}{w:World}{cs:List Frame}{h:Aa}{fn n:Nat}{tm:Ag}{todo todo':List Item}{ds:List Nat}{Dm:Option Nat}(hh:Nt p h)(rp:Nv f h w)(hf:Pt p ⟨fn,n,tm,todo,ds,false,Dm⟩)
 (hs:step P (lone ((FB.mk fn (ds.map (Gx f)) (Dm.map f.b)).at (Aw f n tm) todo) cs w)=.next (lone ((FB.mk fn (ds.map (Gx f)) (Dm.map f.b)).at (Aw f n tm) todo') cs w)) :
 Sim P p f w cs ⟨⟨fn,n,tm,todo,ds,false,Dm⟩,h⟩ ⟨⟨fn,n,tm,todo',ds,false,Dm⟩,h⟩:=
 Sim.run (.one hs) (Move.refl rp) (Wf.refl hh) (by rw[Hq _ _ _ rfl];exact⟨hf.tm,hf.dfr,hf.Dm,fun x=>by cases x⟩)
variable {p:Nat->Prop}{f:Loc}{w:World}
theorem Ao4 {cs:List Frame}{h:Aa}{fn n:Nat}{tm:Ag}{ds:List Nat}{Dm:Option Nat}{s':Fp}(hh:Nt p h)(rp:Nv f h w){todo:List Item}{jump:Option Code}(hf:Pt p ⟨fn,n,tm,todo,ds,false,Dm⟩)
 (hl:leave fn n tm todo ds Dm h jump=.go s') (h1:jump=none->todo = []) (h2:jump=some .ret->∃ k,todo=.code .ret::k):Sim P p f w cs ⟨⟨fn,n,tm,todo,ds,false,Dm⟩,h⟩ s':=by
 obtain⟨rfl,rfl,hj⟩:=Anf hl
 refine Sim.stay hh rp ?_ ⟨hf.tm,hf.dfr,hf.Dm,fun _=>rfl⟩ rfl rfl
 rw[Adk,Ade]
 rcases hj with rfl|rfl
 ·rw[h1 rfl];exact .one (A6z rfl)
 ·obtain⟨k,rfl⟩:=h2 rfl;exact .one (A57 rfl)
include hT hC hR in
theorem Aud {cs:List Frame}{h h':Aa}{fn n id:Nat}{tm tm':Ag}{ds:List Nat}{Dm:Option Nat}{k:List Item}{ops:Array Oper}(hh:Nt p h)(rp:Nv f h w)(hf:Pt p ⟨fn,n,tm,k,ds,false,Dm⟩)
 (ho:Aah T call round n ops.toList ops.toList tm h=some (tm',h')):Sim P p f w cs ⟨⟨fn,n,tm,.code (.region id ops false)::k,ds,false,Dm⟩,h⟩ ⟨⟨fn,n,tm',k,ds,false,Dm⟩,h'⟩:=by
 obtain⟨f',w',hs,hm,Vk,ht'⟩:=Aq8 hT hC hR ops (i:=0) rfl hf.tm hh rp ho (FB.mk fn (ds.map (Gx f)) (Dm.map f.b)) k cs
 have e:=Zo hm.Dt hf
 simp only[Aua]at e
 refine Sim.run (f':=f') (w':=w') ?_ hm Vk ?_
 ·refine .head Az9 (.trans ?_ (.one (Akd (ops:=ops))))
  rw[<-e]
  have e2:List.range' 0 (List.drop 0 ops.toList).length=List.range ops.size:=by rw[List.range_eq_range'];simp
  have hs':Steps P _ _:=hs
  rw[e2]at hs'
  exact hs'
 ·have:=hf.mono (q:=grow p h h') fun _ hi=>.inl hi
  exact⟨ht',this.dfr,this.Dm,fun x=>by cases x⟩
include hT hC hR wC wR in
theorem A1h {cs:List Frame}{h h':Aa}{fn n id:Nat}{tm tm':Ag}{ds:List Nat}{Dm:Option Nat}{k:List Item}{ops:Array Oper}(hh:Nt p h)(rp:Nv f h w)(hf:Pt p ⟨fn,n,tm,k,ds,false,Dm⟩)
 (ho:Ae1 T call round n ops.toList tm h=some (tm',h')):Sim P p f w cs ⟨⟨fn,n,tm,.code (.region id ops true)::k,ds,false,Dm⟩,h⟩ ⟨⟨fn,n,tm',k,ds,false,Dm⟩,h'⟩:=by
 obtain⟨f',w',hs,hm,Vk,ht'⟩:=A3i hT hC hR wC wR hf.tm hh rp ho (FB.mk fn (ds.map (Gx f)) (Dm.map f.b)) (w.tape w.drawn (.order fn id)) k cs (w.drawn+1)
 have e:=Zo hm.Dt hf
 simp only[Aua]at e
 refine Sim.run (f':=f') (w':=w') ?_ hm Vk ?_
 ·refine .head (A3w hT.mixed) (.trans ?_ (.one (Akd (ops:=ops))))
  rw[<-e]
  exact hs
 ·have:=hf.mono (q:=grow p h h') fun _ hi=>.inl hi
  exact⟨ht',this.dfr,this.Dm,fun x=>by cases x⟩
theorem Apc {g:Nat}{first captured:List EV}{n:Nat}{tm:Ag}{fo:Operand}(ht:Ie p n tm)(hfo:Bk tm fo=some (.func g first captured))(l:Nat)(w1:World)(gn:Func)(h1:P.funcs[g]? = some gn)(h2:gn.body.isSome=true)(h3:(gn.name == "runtime.NumGoroutine")=false):
 (do let d ← resolve (Gv (Aw f n tm)) { callee:=.value fo,args:=#[.const (.func (.yield l) #[] #[])],argTypes:=#[] } 0;invoke d.target d.args:Sem Next).run P w1 =
  .ok (.enter g ((A8 f first).toArray ++ #[.func (.yield l) #[] #[]]++(A8 f captured).toArray)) w1:=by
 have hr:=Ns (f:=f) ht
 have hb:¬ gn.body=none:=by cases hx:gn.body <;> simp_all
 have hn:¬ gn.name = "runtime.NumGoroutine":=by simpa using h3
 have hcst:Gv (Aw f n tm) (.const (.func (.yield l) #[] #[]))=.func (.yield l) #[] #[]:=rfl
 simp[resolve,Ay hr hfo,Br,Deferred.ofValue,invoke,callFunc,h1,hn,hb,hcst]
include hC in
theorem A0c {cs:List Frame}{h:Aa}{fn n:Nat}{tm:Ag}{ds:List Nat}{k:List Item}{fo:Operand}{ps:Array Tmp}{asg body:Code}{g:Nat}{first captured:List EV}{s':Fp}(hh:Nt p h)(rp:Nv f h w)(hf:Pt p ⟨fn,n,tm,k,ds,false,none⟩)
 (hfo:Bk tm fo=some (.func g first captured))
 (hop:behind fn n tm (h.next::ds) none (Nat.succ h.next) k (call g (first++(.Rm (Nat.succ h.next)::captured)) ((h.new (.deferred true)).new (.loop .ready none fn n tm ps.toList asg body h.next)))=.go s') :
 Sim P p f w cs ⟨⟨fn,n,tm,.code (.rangeFunc fo ps asg body)::k,ds,false,none⟩,h⟩ s':=by
 have hfok:=Dg (v:=.func g first captured) hf.tm hfo
 have hd1:(Cu.deferred true).ok (grow p h (h.new (.deferred true))):=trivial
 have m1:Move p f h w (f.set h.next w.heap.size 0) (h.new (.deferred true)) { w with heap:=w.heap.push (.deferred (some [])) }:=Move.new hh rp 0 rfl rfl rfl rfl rfl
 have wf1:Wf p h (h.new (.deferred true)):=Wf.new hh hd1
 have ag1:Aw f n tm=Aw (f.set h.next w.heap.size 0) n tm:=Hx m1.Dt hf.tm
 have hp1:grow p h (h.new (.deferred true)) h.next:=.inr ⟨Nat.le_refl _,by rw[Aa.Ee];omega⟩
 have hlok:(Cu.loop .ready none fn n tm ps.toList asg body h.next).ok (grow p h (h.new (.deferred true))):=⟨hf.tm.mono fun _ hi=>.inl hi,hp1⟩
 have m2:Move (grow p h (h.new (.deferred true))) (f.set h.next w.heap.size 0) (h.new (.deferred true)) { w with heap:=w.heap.push (.deferred (some [])) }
  ((f.set h.next w.heap.size 0).set (h.next+1) (w.heap.size+1) 0) ((h.new (.deferred true)).new (.loop .ready none fn n tm ps.toList asg body h.next))
  { w with heap:=(w.heap.push (.deferred (some []))).push (.loop ⟨.ready,none,fn,Aw f n tm,ps,asg,body,w.heap.size⟩) }:=by
  have hx:=Move.new (w':={ w with heap:=(w.heap.push (.deferred (some []))).push (.loop ⟨.ready,none,fn,Aw f n tm,ps,asg,body,w.heap.size⟩) }) (o:=.loop .ready none fn n tm ps.toList asg body h.next) (r:=.loop ⟨.ready,none,fn,Aw f n tm,ps,asg,body,w.heap.size⟩) wf1.Xk m1.rep 0 rfl ?_ rfl rfl rfl
  ·have e1:(h.new (.deferred true)).next=h.next+1:=rfl
   have e2:({ w with heap:=w.heap.push (.deferred (some [])) }:World).heap.size=w.heap.size+1:=by simp
   rw[e1,e2]at hx
   exact hx
  ·have ag2:Aw f n tm=Aw ((f.set h.next w.heap.size 0).set (h.new (.deferred true)).next ({ w with heap:=w.heap.push (.deferred (some [])) }:World).heap.size 0) n tm:=by
    rw[ag1]
    exact Hx (Loc.Lq _ _ _ (fun x=>absurd (wf1.Xk.lt _ x) (by omega))) (hf.tm.mono fun _ hi=>.inl hi)
   show Obj.loop _=Obj.loop _
   rw[<-ag2,Array.toArray_toList]
   have e3:((f.set h.next w.heap.size 0).set (h.new (.deferred true)).next ({ w with heap:=w.heap.push (.deferred (some [])) }:World).heap.size 0).b h.next=w.heap.size:=by
    rw[(Loc.Oe _ _ _ (by rw[Aa.Ee];omega)).1,Loc.Sv]
   rw[e3]
 have wf2:Wf (grow p h (h.new (.deferred true))) (h.new (.deferred true)) ((h.new (.deferred true)).new (.loop .ready none fn n tm ps.toList asg body h.next)):=Wf.new wf1.Xk (hlok.mono fun _ hi=>.inl hi)
 have m12:=m1.trans m2
 have wf12:=wf1.trans wf2
 generalize hf2:(f.set h.next w.heap.size 0).set (h.next+1) (w.heap.size+1) 0=f2 at m2 m12
 have eb1:f2.b h.next=w.heap.size:=by rw[<-hf2,(Loc.Oe _ _ _ (by omega)).1,Loc.Sv]
 have eb2:f2.b (h.next+1)=w.heap.size+1:=by rw[<-hf2,Loc.Sv]
 have hpd:grow p h ((h.new (.deferred true)).new (.loop .ready none fn n tm ps.toList asg body h.next)) h.next:=.inr ⟨Nat.le_refl _,by rw[Aa.Ee,Aa.Ee];omega⟩
 have hpl:grow p h ((h.new (.deferred true)).new (.loop .ready none fn n tm ps.toList asg body h.next)) (h.next+1):=.inr ⟨by omega,by rw[Aa.Ee,Aa.Ee];omega⟩
 have hargs:EV.N3 (grow p h ((h.new (.deferred true)).new (.loop .ready none fn n tm ps.toList asg body h.next))) (first++(.Rm (Nat.succ h.next)::captured)):=
  Ra (Ss hfok.1) ⟨hpl,Ss hfok.2⟩
 have hfr2:Pt (grow p h ((h.new (.deferred true)).new (.loop .ready none fn n tm ps.toList asg body h.next))) ⟨fn,n,tm,k,h.next::ds,false,none⟩:=by
  refine⟨hf.tm.mono fun _ hi=>.inl hi,fun d hd=>?_,fun l hl=>(by cases hl),fun x=>(by cases x)⟩
  rcases List.mem_cons.1 hd with rfl|hd
  ·exact hpd
  ·exact .inl (hf.dfr d hd)
 obtain⟨⟨gn,g1,g2,g3⟩,f',w',hb⟩:=Apd (cs:=cs) hC hop wf12.Xk m12.rep hargs hfr2
 obtain⟨hs,hm,Vk,hfo',hfn',hrn'⟩:=hb hpl
 refine⟨f',w',?_,m12.trans hm,wf12.trans Vk,?_,hfn',hrn'⟩
 ·rw[Adk]
  refine .head ?_ hs
  have hst:=Aio (P:=P) (b:=FB.mk fn (ds.map (Gx f)) none) (k:=k) (cs:=cs) (w:=w) (fo:=fo) (ps:=ps) (asg:=asg) (body:=body) (tmps:=Aw f n tm)
   (l:=w.heap.size+1) (mark:=[{ target:=.collected w.heap.size,args:=#[] }]) (w1:={ w with heap:=(w.heap.push (.deferred (some []))).push (.loop ⟨.ready,none,fn,Aw f n tm,ps,asg,body,w.heap.size⟩) })
   (g:=g) (args:=(A8 f first).toArray ++ #[.func (.yield (w.heap.size+1)) #[] #[]]++(A8 f captured).toArray) (by simp[Instr.enterLoop];rfl) (Apc hf.tm hfo _ _ gn g1 g2 g3)
  have e1:A8 f2 (first++(.Rm (Nat.succ h.next)::captured))=A8 f first++(.func (.yield (w.heap.size+1)) #[] #[]::A8 f captured):=by
   rw[M9,A8,<-Fb m12.Dt _ hfok.1,<-Fb m12.Dt _ hfok.2]
   simp only[Br]
   rw[show f2.b (Nat.succ h.next)=w.heap.size+1 from eb2]
  have e2:(Aw f n tm)=Aw f2 n tm:=Hx m12.Dt hf.tm
  have e3:ds.map (Gx f)=ds.map (Gx f2):=by
   apply List.map_congr_left
   intro d hd
   unfold Gx;rw[(m12.Dt d (hf.dfr d hd)).1]
  rw[e1,<-e2,List.map_cons,<-e3]
  have e4:Gx f2 h.next = { target:=.collected w.heap.size,args:=#[] }:=by unfold Gx;rw[eb1]
  rw[e4,show f2.b (Nat.succ h.next)=w.heap.size+1 from eb2]
  have e5:((A8 f first).toArray ++ #[Value.func (.yield (w.heap.size+1)) #[] #[]]++(A8 f captured).toArray)=(A8 f first++(.func (.yield (w.heap.size+1)) #[] #[]::A8 f captured)).toArray:=by simp
  rw[e5]at hst
  exact hst
 ·exact hfo'.mono fun q hq=>by rw[Uu p wf12.next Vk.next]at hq;exact hq
include hC in
theorem Asw {cs:List Frame}{h:Aa}{fn n l0:Nat}{tm:Ag}{ds:List Nat}{k:List Item}{fo:Operand}{ps:Array Tmp}{asg body:Code}{g:Nat}{first captured:List EV}{s':Fp}(hh:Nt p h)(rp:Nv f h w)(hf:Pt p ⟨fn,n,tm,k,ds,false,some l0⟩)
 (hfo:Bk tm fo=some (.func g first captured)) {st0:LoopState} {pd0:Option Code} {fn0 n0:Nat} {tm0:Ag} {ps0:List Tmp} {asg0 body0:Code} {d0:Nat} (hg0:h.get l0=some (.loop st0 pd0 fn0 n0 tm0 ps0 asg0 body0 d0))
 (hop:behind fn n tm ds (some l0) h.next k (call g (first++(.Rm h.next::captured)) (h.new (.loop .ready none fn n tm ps.toList asg body d0)))=.go s') :
 Sim P p f w cs ⟨⟨fn,n,tm,.code (.rangeFunc fo ps asg body)::k,ds,false,some l0⟩,h⟩ s':=by
 have hfok:=Dg (v:=.func g first captured) hf.tm hfo
 have hd0:p d0:=(hh.get l0 _ hg0).2.2
 have m1:Move p f h w (f.set h.next w.heap.size 0) (h.new (.loop .ready none fn n tm ps.toList asg body d0)) { w with heap:=w.heap.push (.loop ⟨.ready,none,fn,Aw f n tm,ps,asg,body,f.b d0⟩) }:=by
  refine Move.new hh rp 0 rfl ?_ rfl rfl rfl
  show Obj.loop _=Obj.loop _
  rw[<-Hx (Loc.Lq f _ _ hh.fresh) hf.tm,Array.toArray_toList,(Loc.Lq f w.heap.size 0 hh.fresh d0 hd0).1]
 have wf1:Wf p h (h.new (.loop .ready none fn n tm ps.toList asg body d0)):=Wf.new hh ⟨hf.tm.mono fun _ hi=>.inl hi,.inl hd0⟩
 generalize hf2:f.set h.next w.heap.size 0=f2 at m1
 have eb:f2.b h.next=w.heap.size:=by rw[<-hf2,Loc.Sv]
 have hpl:grow p h (h.new (.loop .ready none fn n tm ps.toList asg body d0)) h.next:=.inr ⟨Nat.le_refl _,by rw[Aa.Ee];omega⟩
 have hargs:EV.N3 (grow p h (h.new (.loop .ready none fn n tm ps.toList asg body d0))) (first++(.Rm h.next::captured)):=Ra (Ss hfok.1) ⟨hpl,Ss hfok.2⟩
 have hfr2:Pt (grow p h (h.new (.loop .ready none fn n tm ps.toList asg body d0))) ⟨fn,n,tm,k,ds,false,some l0⟩:=hf.mono fun _ hi=>.inl hi
 obtain⟨⟨gn,g1,g2,g3⟩,f',w',hb⟩:=Apd (cs:=cs) hC hop wf1.Xk m1.rep hargs hfr2
 obtain⟨hs,hm,Vk,hfo',hfn',hrn'⟩:=hb hpl
 refine⟨f',w',?_,m1.trans hm,wf1.trans Vk,?_,hfn',hrn'⟩
 ·rw[Adk]
  refine .head ?_ hs
  obtain⟨gl1,gl2⟩:=Wc (P:=P) rp hg0
  have hst:=Aio (P:=P) (b:=FB.mk fn (ds.map (Gx f)) (some (f.b l0))) (k:=k) (cs:=cs) (w:=w) (fo:=fo) (ps:=ps) (asg:=asg) (body:=body) (tmps:=Aw f n tm)
   (l:=w.heap.size) (mark:=[]) (w1:={ w with heap:=w.heap.push (.loop ⟨.ready,none,fn,Aw f n tm,ps,asg,body,f.b d0⟩) })
   (g:=g) (args:=(A8 f first).toArray ++ #[.func (.yield w.heap.size) #[] #[]]++(A8 f captured).toArray) (by simp[Instr.enterLoop,gl1]) (Apc hf.tm hfo _ _ gn g1 g2 g3)
  have e1:A8 f2 (first++(.Rm h.next::captured))=A8 f first++(.func (.yield w.heap.size) #[] #[]::A8 f captured):=by
   rw[M9,A8,<-Fb m1.Dt _ hfok.1,<-Fb m1.Dt _ hfok.2]
   simp only[Br]
   rw[eb]
  have e2:=Zo m1.Dt hf
  simp only[Aua]at e2
  rw[e1,<-e2,eb,<-Hx m1.Dt hf.tm]
  have e5:((A8 f first).toArray ++ #[Value.func (.yield w.heap.size) #[] #[]]++(A8 f captured).toArray)=(A8 f first++(.func (.yield w.heap.size) #[] #[]::A8 f captured)).toArray:=by simp
  rw[e5]at hst
  exact hst
 ·exact hfo'.mono fun q hq=>by rw[Uu p wf1.next Vk.next]at hq;exact hq
include hT hC hR wC wR in
theorem A0r {s s':Fp}(hop:Bv T call round s=.go s')(hf:Pt p s.fr)(hh:Nt p s.h)(rp:Nv f s.h w)(cs:List Frame):Sim P p f w cs s s':=by
 obtain⟨⟨fn,n,tm,todo,ds,ret,Dm⟩,h⟩:=s
 cases ret with
 | true=>
  have hrn:Dm=none:=hf.ret rfl
  subst hrn
  cases ds with
  | cons d ds=>
   simp only[Bv]at hop
   split at hop
   ·rename_i hg
    cases hop
    obtain⟨r0,hr0,rfl⟩:=rp.obj d _ hg
    have hrun:(Instr.takeDeferred (f.b d)).run P w=.ok [] { w with heap:=w.heap.setIfInBounds (f.b d) (.deferred none) }:=by
     have h1:=Ju (P:=P) hr0 (by intros;simp)
     have h2:=Lp (P:=P) (o':=.deferred none) hr0 (by intros;simp)
     simp only[if_true]at h1
     simp only[Instr.takeDeferred,Sem.run_bind,h1,Result.andThen_ok,h2,Sem.run_pure]
    have hm:Move p f h w f (h.put d (.deferred false)) { w with heap:=w.heap.setIfInBounds (f.b d) (.deferred none) }:=Move.setObj rp hg rfl
    have Vk:Wf p h (h.put d (.deferred false)):=Wf.put hh hg trivial
    refine⟨f,_,.one ?_,hm,Vk,?_,rfl,rfl⟩
    ·rw[Ade,Ade];exact Ayc hrun
    ·exact Pt.mono (p:=p) ⟨hf.tm,fun x hx=>hf.dfr x (List.mem_cons_of_mem _ hx),hf.Dm,fun _=>rfl⟩ fun _ hi=>.inl hi
   ·cases hop
  | nil=>
   simp only[Bv]at hop
   split at hop
   ·split at hop <;> cases hop
   ·cases hop
 | false=>
  have hr:=Ns (f:=f) hf.tm
  have hk:∀ {it:Item} {k:List Item},Pt p ⟨fn,n,tm,it::k,ds,false,Dm⟩->Pt p ⟨fn,n,tm,k,ds,false,Dm⟩:=fun h=>⟨h.tm,h.dfr,h.Dm,h.ret⟩
  cases todo with
  | nil=>simp only[Bv]at hop;exact Ao4 hh rp hf hop (fun _=>rfl) (fun e=>by cases e)
  | cons it k=>
   cases it with
   | code c=>
    cases c with
    | region id ops dr=>
     cases dr with
     | false=>
      simp only[Bv]at hop
      split at hop
      ·rename_i ho;cases hop;exact Aud hT hC hR hh rp (hk hf) ho
      ·cases hop
     | true=>
      simp only[Bv]at hop
      split at hop
      ·rename_i ho;cases hop;exact A1h hT hC hR wC wR hh rp (hk hf) ho
      ·cases hop
    | cond c a b=>
     simp only[Bv]at hop
     split at hop
     ·rename_i hc;cases hop;exact Sim.Ro hh rp hf (Aw7 (t:=true) (by rw[Ay hr hc];rfl))
     ·rename_i hc;cases hop;exact Sim.Ro hh rp hf (Aw7 (t:=false) (by rw[Ay hr hc];rfl))
     ·cases hop
    | exit id=>
     simp only[Bv]at hop
     split at hop
     ·rename_i he;cases hop;exact Sim.Ro hh rp hf (A31 he)
     ·obtain⟨_,_,hj⟩:=Anf hop
      rcases hj with hj|hj <;> cases hj
    | ret=>simp only[Bv]at hop;exact Ao4 hh rp hf hop (fun e=>by cases e) (fun _=>⟨k,rfl⟩)
    | rangeFunc fo ps asg body=>
     simp only[Bv]at hop
     split at hop
     ·rename_i g first captured hfo
      split at hop
      ·exact A0c hC hh rp (hk hf) hfo hop
      ·split at hop
       ·rename_i hg0;exact Asw hC hh rp (hk hf) hfo hg0 hop
       ·cases hop
     ·cases hop
    | seq a b=>simp only[Bv]at hop;cases hop;exact Sim.Ro hh rp hf A6h
    | skip=>simp only[Bv]at hop;cases hop;exact Sim.Ro hh rp hf A5g
    | block id c=>simp only[Bv]at hop;cases hop;exact Sim.Ro hh rp hf A1o
    | loop c=>simp only[Bv]at hop;cases hop;exact Sim.Ro hh rp hf A4n
    | label l=>simp only[Bv]at hop;cases hop;exact Sim.Ro hh rp hf A1k
    | scope c=>simp only[Bv]at hop;cases hop
    | goto c=>simp only[Bv]at hop;cases hop
    | refuse c=>simp only[Bv]at hop;cases hop
   | inBlock id=>simp only[Bv]at hop;cases hop;exact Sim.Ro hh rp hf Ava
   | inLoop c=>simp only[Bv]at hop;cases hop;exact Sim.Ro hh rp hf Az8
   | beginRound=>
    simp only[Bv]at hop
    split at hop
    ·rename_i l
     split at hop
     ·rename_i pd fn' n' tm' ps asg body d hg
      cases hop
      obtain⟨h1,h2⟩:=Wc (P:=P) rp hg
      obtain⟨m1,wf1⟩:=Aqj (st':=.busy) (pd':=pd) hh rp hg
      have hs:=Lp (P:=P) (o':=.loop ⟨.busy,pd,fn',Aw f n' tm',ps.toArray,asg,body,f.b d⟩) h2 (by intros;simp)
      have hrun:(Instr.beginRound (f.b l)).run P w=.ok () { w with heap:=w.heap.setIfInBounds (f.b l) (.loop ⟨.busy,pd,fn',Aw f n' tm',ps.toArray,asg,body,f.b d⟩) }:=by
       simp only[Instr.beginRound,Sem.run_bind,h1,Result.andThen_ok,hs,Sem.run_pure]
      exact Sim.run (.one (An7 (b:=FB.mk fn (ds.map (Gx f)) (some (f.b l))) rfl hrun)) m1 wf1 ((hk hf).mono fun _ hi=>.inl hi)
     ·cases hop
    ·cases hop
   | _=>simp only[Bv]at hop;cases hop
end
end Go.Ev

namespace Go.Ev
section
variable {P:Program}{T:D7}(hT:Kq P T){call round:Ac}(hC:Vi P call)(hR:Y2 P round)(wC:Pd call)(wR:Pd round)
variable {p:Nat->Prop}{f:Loc}{w:World}
include hT in
theorem Al1 {s:Fp}{v:EV}{h':Aa}(hop:Bv T call round s=.done v h')(hf:Pt p s.fr)(hh:Nt p s.h)(rp:Nv f s.h w):Fin P p f w s v h':=by
 obtain⟨⟨fn,n,tm,todo,ds,ret,Dm⟩,h⟩:=s
 cases ret with
 | true=>
  have hrn:Dm=none:=hf.ret rfl
  subst hrn
  cases ds with
  | cons d ds=>
   simp only[Bv]at hop
   split at hop <;> cases hop
  | nil=>
   simp only[Bv]at hop
   split at hop
   ·rename_i fnc hfn
    have key:∀ {vs:List EV} {v:EV},Hn T tm h fnc.results.toList=some vs->(vs = [v]\/((∀ x,vs ≠ [x])/\v=.tuple vs))->Fin P p f w ⟨⟨fn,n,tm,todo,[],true,none⟩,h⟩ v h:=by
     intro vs v h1 h2
     obtain⟨r1,r2⟩:=Asp hT hh rp hf.tm h1 h2
     exact⟨rfl,⟨rfl,rfl,rfl,fnc,(hT.fn fn fnc hfn).1,r1⟩,r2⟩
    split at hop
    ·rename_i hr;cases hop;exact key hr (.inl rfl)
    ·rename_i l hne hr;cases hop;exact key hr (.inr ⟨fun x e=>by subst e;exact hne x rfl,rfl⟩)
    ·cases hop
   ·cases hop
 | false=>
  cases todo with
  | nil=>simp only[Bv]at hop;exact Afx hh rp hop (.inl ⟨rfl,rfl⟩)
  | cons it k=>
   have hbeh:∀ {ds':List Nat} {l:Nat} {r:Option (EV × Aa)},behind fn n tm ds' Dm l k r=.done v h'->False:=by
    intro ds' l r hb
    unfold behind at hb
    split at hb
    ·cases hb
    ·split at hb
     ·split at hb <;> cases hb
     ·cases hb
   cases it with
   | code c=>
    cases c with
    | region id ops dr=>cases dr <;> (simp only[Bv]at hop;split at hop <;> cases hop)
    | cond c a b=>simp only[Bv]at hop;split at hop <;> cases hop
    | exit id=>
     simp only[Bv]at hop
     split at hop
     ·cases hop
     ·rename_i he;exact Afx hh rp hop (.inr (.inr ⟨id,k,rfl,he,rfl⟩))
    | ret=>simp only[Bv]at hop;exact Afx hh rp hop (.inr (.inl ⟨k,rfl,rfl⟩))
    | rangeFunc fo ps asg body=>
     simp only[Bv]at hop
     split at hop
     ·split at hop
      ·exact(hbeh hop).elim
      ·split at hop
       ·exact(hbeh hop).elim
       ·cases hop
     ·cases hop
    | _=>simp only[Bv]at hop;cases hop
   | beginRound=>
    simp only[Bv]at hop
    split at hop
    ·split at hop <;> cases hop
    ·cases hop
   | _=>simp only[Bv]at hop;cases hop
theorem Sim.refl {cs:List Frame}{s:Fp}(hf:Pt p s.fr)(hh:Nt p s.h)(rp:Nv f s.h w):Sim P p f w cs s s:=
 ⟨f,w,.refl _ _,Move.refl rp,Wf.refl hh,by rw[Hq _ _ _ rfl];exact hf,rfl,rfl⟩
def Axx(P:Program)(s s':Fp):Prop:=∀ p f w cs,Pt p s.fr->Nt p s.h->Nv f s.h w->Sim P p f w cs s s'
theorem Axx.trans {s s1 s2:Fp}(a:Axx P s s1)(b:Axx P s1 s2):Axx P s s2:=by
 intro p f w cs hf hh rp
 obtain⟨f1,w1,hs1,hm1,hwf1,hf1,e1,e2⟩:=a p f w cs hf hh rp
 obtain⟨f2,w2,hs2,hm2,hwf2,hf2,e3,e4⟩:=b _ f1 w1 cs hf1 hwf1.Xk hm1.rep
 exact⟨f2,w2,hs1.trans hs2,hm1.trans hm2,hwf1.trans hwf2,by rw[<-Uu p hwf1.next hwf2.next];exact hf2,e3.trans e1,e4.trans e2⟩
theorem We:∀ (l:List EV) (i:Nat) (t:Tr EV) (j:Nat),(setArgs l i t).get j=if i<=j/\j<i+l.length then l[j-i]? else t.get j
 | [],i,t,j=>by simp[setArgs];omega
 | v::r,i,t,j=>by
  simp only[setArgs]
  rw[We r (i+1) (t.put i (some v)) j,Tr.get_put]
  simp only[List.length_cons]
  by_cases h1:i=j
  ·subst h1
   rw[if_neg (by omega),if_pos rfl,if_pos (by omega)]
   simp
  ·by_cases h2:i+1<=j/\j<i+1+r.length
   ·rw[if_pos h2,if_pos (by omega)]
    rw[show j-i=(j-(i+1))+1 by omega,List.getElem?_cons_succ]
   ·rw[if_neg h2,if_neg h1,if_neg (by omega)]
theorem Auc(f:Loc){args:List EV}{n:Nat}(h:args.length<=n):Aw f n (setArgs args 0 .nil)=(A8 f args).toArray++Array.replicate (n-(A8 f args).toArray.size) undef:=by
 apply Array.ext_getElem?
 intro j
 rw[U0]
 rw[Array.getElem?_append]
 simp only[List.size_toArray,B6,List.getElem?_toArray,Vu,Array.getElem?_replicate]
 unfold tmp
 rw[We]
 by_cases hj:j<args.length
 ·rw[if_pos (by omega),if_pos (by omega),if_pos hj,Nat.sub_zero]
  rw[List.getElem?_eq_getElem hj];rfl
 ·rw[if_neg (show ¬ (0<=j/\j<0+args.length) by omega),if_neg hj]
  by_cases hn:j<n
  ·rw[if_pos hn,if_pos (by omega)];rfl
  ·rw[if_neg hn,if_neg (by omega)]
theorem A2q {args:List EV}{n:Nat}(h:args.length<=n)(ha:EV.N3 p args):Ie p n (setArgs args 0 .nil) where
 ok t v hv:=by
  rw[We]at hv
  split at hv
  ·exact(Gi p args).1 ha v (List.mem_of_getElem? hv)
  ·cases hv
 out t ht:=by
  rw[We,if_neg (by omega)];rfl
end
end Go.Ev

namespace Go.Ev
theorem Rn:∀ {a b:List EV} {r:Bool},Fu a b=some r->a.length=b.length
 | [],[],_,_=>rfl
 | x::a,y::b,r,h=>by
  simp only[Fu]at h
  split at h
  ·simp[Rn h]
  ·split at h
   ·rename_i h2;simp[Rn h2]
   ·cases h
  ·cases h
 | [],_::_,_,h=>by cases h
 | _::_,[],_,h=>by cases h
theorem Ui:∀ (k:Nat) {a b:List EV} {r:Bool},Fu a b=some r->∃ r1 r2,Fu (a.take k) (b.take k)=some r1/\Fu (a.drop k) (b.drop k)=some r2/\r=(r1 && r2)
 | 0,a,b,r,h=>⟨true,r,rfl,h,by simp⟩
 | k+1,[],[],r,h=>by cases h;exact⟨true,true,rfl,rfl,rfl⟩
 | k+1,x::a,y::b,r,h=>by
  simp only[Fu]at h
  split at h
  ·rename_i hl
   obtain⟨r1,r2,h1,h2,h3⟩:=Ui k h
   exact⟨r1,r2,by simp only[List.take_succ_cons,Fu,hl,h1],by simpa using h2,h3⟩
  ·rename_i hl
   split at h
   ·rename_i r0 h0
    cases h
    obtain⟨r1,r2,h1,h2,h3⟩:=Ui k h0
    exact⟨false,r2,by simp only[List.take_succ_cons,Fu,hl,h1],by simpa using h2,rfl⟩
   ·cases h
  ·cases h
 | k+1,[],_::_,_,h=>by cases h
 | k+1,_::_,[],_,h=>by cases h
theorem R9 {b:Nat}{s:List Nat}{x:EV}{l:List EV}(h:shaped (b::s) (x::l)=true):shaped s l=true/\((b=0/\∃ k n,x=.int k n)\/(b=1/\∃ c,x=.bool c)\/(b=2/\∃ c,x=.str c)):=by
 cases x with
 | int k n=>
  simp only[shaped]at h;rw[A5]at h
  split at h
  ·rename_i hb;exact⟨h,.inl ⟨Nat.eq_of_beq_eq_true hb,k,n,rfl⟩⟩
  ·cases h
 | bool c=>
  simp only[shaped]at h;rw[A5]at h
  split at h
  ·rename_i hb;exact⟨h,.inr (.inl ⟨Nat.eq_of_beq_eq_true hb,c,rfl⟩)⟩
  ·cases h
 | str c=>
  simp only[shaped]at h;rw[A5]at h
  split at h
  ·rename_i hb;exact⟨h,.inr (.inr ⟨Nat.eq_of_beq_eq_true hb,c,rfl⟩)⟩
  ·cases h
 | _=>cases h
theorem H4:∀ {sh:List Nat} {l:List EV},shaped sh l=true->l.length=sh.length
 | [],[],_=>rfl
 | b::s,x::l,h=>by rw[List.length_cons,List.length_cons,H4 (R9 h).1]
 | [],_::_,h=>by cases h
 | _::_,[],h=>by cases h
theorem Ul:∀ {s1 s2:List Nat} {l:List EV},shaped (s1++s2) l=true->shaped s1 (l.take s1.length)=true/\shaped s2 (l.drop s1.length)=true
 | [],s2,l,h=>⟨rfl,h⟩
 | b::s1,s2,l,h=>by
  cases l with
  | nil=>have:=H4 h;simp at this
  | cons x l=>
   obtain⟨h1,h2⟩:=R9 (s:=s1++s2) h
   obtain⟨h3,h4⟩:=Ul h1
   refine⟨?_,h4⟩
   simp only[List.length_cons,List.take_succ_cons]
   rcases h2 with ⟨rfl,k,n,rfl⟩|⟨rfl,c,rfl⟩|⟨rfl,c,rfl⟩
   ·exact h3
   ·exact h3
   ·exact h3
def Afg(fl:TypeId->Option (List Nat)):List Field->Nat->Option (List Nat)
 | [],_=>some []
 | f::r,off=>match fl f.type with
  | some s=>if f.offset=off/\f.name ≠ "_" then (match Afg fl r (off+s.length) with|some t=>some (s++t)|none=>none) else none
  | none=>none
def flat(P:Program):Nat->TypeId->Option (List Nat)
 | 0=>fun _=>none
 | d+1=>fun t=>match P.info? t with
  | some i=>match P.underlying t with
   | some (.int _)=>if i.size=1 then some [0] else none
   | some .bool=>if i.size=1 then some [1] else none
   | some .string=>if i.size=1 then some [2] else none
   | some (.struct fs)=>if P.stoodInHeld t=false then (match Afg (flat P d) fs.toList 0 with
    | some s=>if s.length=i.size then some s else none
    | none=>none) else none
   | some (.array len e)=>match flat P d e with
    | some s=>if len*s.length=i.size then some (List.replicate len s).flatten else none
    | none=>none
   | _=>none
  | none=>none
def isA(P:Program)(t:TypeId):Bool:=match P.underlying t with|some (.struct _)=>true|some (.array _ _)=>true|_=>false
noncomputable def Xl(P:Program)(f:Loc)(t:TypeId)(l:List EV):Value:=if isA P t=true then .agg (A8 f l).toArray else (match l with|v::_=>Br f v | []=>undef)
theorem Oz(n:Nat)(s:List Nat):(List.replicate n s).flatten.length=n*s.length:=by
 induction n with
 | zero=>simp
 | succ n ih=>rw[List.replicate_succ,List.flatten_cons,List.length_append,ih,Nat.add_mul];omega
section
variable {P:Program}
theorem O7 {d:Nat}{t:TypeId}{s:List Nat}(h:flat P d t=some s):(∃ i,P.info? t=some i/\i.size=s.length)/\(isA P t=false->(s = [0]/\∃ k,P.underlying t=some (.int k))\/(s = [1]/\P.underlying t=some .bool)\/(s = [2]/\P.underlying t=some .string))/\∀ w,(isAgg t).run P w=.ok (isA P t) w:=by
 cases d with
 | zero=>simp[flat]at h
 | succ d=>
  simp only[flat]at h
  split at h
  ·rename_i i hi
   split at h
   ·rename_i k hu
    split at h
    ·rename_i h1;cases h;exact⟨⟨i,hi,h1⟩,fun _=>.inl ⟨rfl,k,hu⟩,fun w=>by simp[isAgg,underlying,isA,hu]⟩
    ·cases h
   ·rename_i hu
    split at h
    ·rename_i h1;cases h;exact⟨⟨i,hi,h1⟩,fun _=>.inr (.inl ⟨rfl,hu⟩),fun w=>by simp[isAgg,underlying,isA,hu]⟩
    ·cases h
   ·rename_i hu
    split at h
    ·rename_i h1;cases h;exact⟨⟨i,hi,h1⟩,fun _=>.inr (.inr ⟨rfl,hu⟩),fun w=>by simp[isAgg,underlying,isA,hu]⟩
    ·cases h
   ·rename_i fs hu
    split at h
    ·split at h
     ·split at h
      ·rename_i h1;cases h;exact⟨⟨i,hi,h1.symm⟩,fun e=>by simp[isA,hu]at e,fun w=>by simp[isAgg,underlying,isA,hu]⟩
      ·cases h
     ·cases h
    ·cases h
   ·rename_i len e hu
    split at h
    ·split at h
     ·rename_i h1;cases h;exact⟨⟨i,hi,by rw[Oz];exact h1.symm⟩,fun e=>by simp[isA,hu]at e,fun w=>by simp[isAgg,underlying,isA,hu]⟩
     ·cases h
    ·cases h
   ·cases h
  ·cases h
theorem Lo(f:Loc)(w:World){d:Nat}{t:TypeId}{s:List Nat}(h:flat P d t=some s){xs:List EV}{off:Nat}(hl:off+s.length<=xs.length):
 (Go.part t (A8 f xs).toArray off).run P w=.ok (Xl P f t ((xs.drop off).take s.length)) w:=by
 obtain⟨⟨i,hi,hs⟩,hsc,hagg⟩:=O7 h
 have hsz:(sizeOf t).run P w=.ok s.length w:=by simp[sizeOf,typeInfo,hi,hs]
 unfold Xl
 cases ha:isA P t with
 | true=>
  simp only[Go.part,Sem.run_bind,hagg w,ha,Result.andThen_ok,if_true,hsz,Sem.run_pure]
  congr 2
  apply Array.ext'
  simp[La,List.extract_eq_take_drop]
 | false=>
  have h1:s.length=1:=by rcases hsc ha with ⟨rfl,_⟩|⟨rfl,_⟩|⟨rfl,_⟩ <;> rfl
  rw[h1]at hl ⊢
  have hg:xs[off]? = some xs[off]:=List.getElem?_eq_getElem (by omega)
  have e1:(xs.drop off).take 1 = [xs[off]]:=by
   rw[List.drop_eq_getElem_cons (by omega)];rfl
  have e2:(A8 f xs).toArray[off]? = some (Br f xs[off]):=by simp[La,hg]
  rw[e1]
  simp only[Go.part,Sem.run_bind,hagg w,ha,Result.andThen_ok,Bool.false_eq_true,if_false,e2,Sem.run_pure]
def EqF(P:Program)(d D:Nat):Prop:=∀ (t:TypeId) (s:List Nat),flat P d t=some s->∀ (f:Loc) (w:World) (a b:List EV) (r:Bool),shaped s a=true->Fu a b=some r->(Op.equalIn D t (Xl P f t a) (Xl P f t b)).run P w=.ok r w
theorem Alq(f:Loc)(w:World){d D:Nat}(IH:EqF P d D)(a b:List EV)(hab:a.length=b.length):∀ (fs:List Field) (off:Nat) (s:List Nat) (r:Bool),Afg (flat P d) fs off=some s->shaped s (a.drop off)=true->Fu (a.drop off) (b.drop off)=some r ->
 (Op.eqFields D (A8 f a).toArray (A8 f b).toArray fs).run P w=.ok r w
 | [],off,s,r,h,hs,hl=>by
  simp only[Afg]at h
  cases h
  have:=H4 hs
  rw[List.length_nil,List.length_eq_zero_iff]at this
  rw[this]at hl
  have h2:=Rn hl
  rw[List.length_nil]at h2
  rw[List.length_eq_zero_iff.1 h2.symm]at hl
  cases hl
  simp[Op.eqFields]
 | fd::fs,off,s,r,h,hs,hl=>by
  simp only[Afg]at h
  split at h
  ·rename_i s1 hs1
   split at h
   ·rename_i hof
    split at h
    ·rename_i s2 hs2
     cases h
     obtain⟨q1,q2⟩:=Ul hs
     obtain⟨r1,r2,h1,h2,h3⟩:=Ui s1.length hl
     rw[List.drop_drop]at q2
     rw[List.drop_drop,List.drop_drop]at h2
     have hlen:=H4 hs
     rw[List.length_drop,List.length_append]at hlen
     have ih:=Alq f w IH a b hab fs (off+s1.length) s2 r2 hs2 q2 h2
     by_cases hz:off+s1.length<=a.length
     ·have p1:=Lo f w hs1 (xs:=a) (off:=off) hz
      have p2:=Lo f w hs1 (xs:=b) (off:=off) (by omega)
      have p3:=IH fd.type s1 hs1 f w _ _ r1 q1 h1
      simp only[Op.eqFields,hof.2,ne_eq,not_false_eq_true,if_true,Sem.run_bind,hof.1,p1,p2,p3,Result.andThen_ok]
      subst h3
      cases r1
      ·simp
      ·simpa using ih
     ·
      have h0:s1.length=0:=by omega
      obtain⟨⟨i,hi,hsz⟩,hsc,hagg⟩:=O7 hs1
      have hA:isA P fd.type=true:=by
       cases ha:isA P fd.type with
       | true=>rfl
       | false=>rcases hsc ha with ⟨rfl,_⟩|⟨rfl,_⟩|⟨rfl,_⟩ <;> simp at h0
      have hsize:(sizeOf fd.type).run P w=.ok 0 w:=by simp[sizeOf,typeInfo,hi,hsz,h0]
      have hp:∀ xs:List EV,(Go.part fd.type (A8 f xs).toArray off).run P w=.ok (Xl P f fd.type []) w:=by
       intro xs
       simp only[Go.part,Sem.run_bind,hagg w,hA,Result.andThen_ok,if_true,hsize,Sem.run_pure,Xl,Nat.add_zero]
       congr 2
       apply Array.ext'
       simp[A8]
      rw[h0,List.take_zero,List.take_zero]at h1
      rw[h0,List.take_zero]at q1
      have p3:=IH fd.type s1 hs1 f w [] [] r1 q1 h1
      simp only[Op.eqFields,hof.2,ne_eq,not_false_eq_true,if_true,Sem.run_bind,hof.1,hp,p3,Result.andThen_ok]
      subst h3
      cases r1
      ·simp
      ·simpa using ih
    ·cases h
   ·cases h
  ·cases h
theorem Ao1(f:Loc)(w:World){d D:Nat}(IH:EqF P d D){e:TypeId}{s:List Nat}(hs:flat P d e=some s)(a b:List EV)(hab:a.length=b.length):∀ (n k:Nat) (r:Bool),(k+n)*s.length=a.length->shaped (List.replicate n s).flatten (a.drop (k*s.length))=true ->
 Fu (a.drop (k*s.length)) (b.drop (k*s.length))=some r ->
 (Op.eqItems D e (P.cellsOf e) (A8 f a).toArray (A8 f b).toArray (List.range' k n)).run P w=.ok r w
 | 0,k,r,hal,hsh,hl=>by
  rw[Nat.add_zero]at hal
  rw[List.drop_of_length_le (by omega),List.drop_of_length_le (by omega)]at hl
  cases hl
  simp[Op.eqItems]
 | n+1,k,r,hal,hsh,hl=>by
  obtain⟨⟨i,hi,hsz⟩,_⟩:=O7 hs
  have hc:P.cellsOf e=s.length:=by simp[Program.cellsOf,hi,hsz]
  rw[List.replicate_succ,List.flatten_cons]at hsh
  obtain⟨q1,q2⟩:=Ul hsh
  obtain⟨r1,r2,h1,h2,h3⟩:=Ui s.length hl
  have hks:k*s.length+s.length=(k+1)*s.length:=by rw[Nat.add_mul];omega
  rw[List.drop_drop,hks]at q2
  rw[List.drop_drop,List.drop_drop,hks]at h2
  have ih:=Ao1 f w IH hs a b hab n (k+1) r2 (by rw[<-hal];congr 1;omega) q2 h2
  have hk:k*s.length+s.length<=a.length:=by
   rw[<-hal,show k+(n+1)=(k+1)+n by omega,Nat.add_mul,Nat.add_mul];omega
  have p1:=Lo f w hs (xs:=a) (off:=k*s.length) hk
  have p2:=Lo f w hs (xs:=b) (off:=k*s.length) (by omega)
  have p3:=IH e s hs f w _ _ r1 q1 h1
  rw[List.range'_succ]
  simp only[Op.eqItems,Sem.run_bind,hc,p1,p2,p3,Result.andThen_ok]
  rw[hc]at ih
  subst h3
  cases r1
  ·simp
  ·simpa using ih
theorem Av3:∀ (d D:Nat),d<=D->EqF P d D
 | 0,_,_=>fun t n h=>by simp[flat]at h
 | d+1,0,h=>by omega
 | d+1,D+1,hd=>by
  have IH:=Av3 d D (by omega)
  intro t s h f w a b r hsh hl
  have hab:=Rn hl
  obtain⟨_,hsc,_⟩:=O7 h
  by_cases hA:isA P t=true
  ·simp only[flat]at h
   split at h
   ·rename_i i hi
    split at h
    ·rename_i k hu;simp[isA,hu]at hA
    ·rename_i hu;simp[isA,hu]at hA
    ·rename_i hu;simp[isA,hu]at hA
    ·rename_i fs hu
     split at h
     ·rename_i hst
      split at h
      ·rename_i s' hgo
       split at h
       ·cases h
        have hf:P.fieldsOf t=fs:=by simp[Program.fieldsOf,hu]
        simp only[Xl,hA,if_true]
        rw[run_equalIn_struct w D t _ _ (by rw[hf];exact hu) hst,hf]
        exact Alq f w IH a b hab fs.toList 0 s r hgo (by simpa using hsh) (by simpa using hl)
       ·cases h
      ·cases h
     ·cases h
    ·rename_i len e hu
     split at h
     ·rename_i s' hs
      split at h
      ·rename_i hc
       cases h
       obtain⟨⟨ie,hie,_⟩,_⟩:=O7 hs
       simp only[Xl,hA,if_true]
       rw[run_equalIn_array w D _ _ hu hie,List.range_eq_range']
       refine Ao1 f w IH hs a b hab len 0 r ?_ (by simpa using hsh) (by simpa using hl)
       rw[H4 hsh,Oz,Nat.zero_add]
      ·cases h
     ·cases h
    ·cases h
   ·cases h
  ·have hA':isA P t=false:=by simpa using hA
   have hlen:=H4 hsh
   have hs1:s.length=1:=by rcases hsc hA' with ⟨rfl,_⟩|⟨rfl,_⟩|⟨rfl,_⟩ <;> rfl
   rw[hs1]at hlen
   match a,b,hlen,hab with
   | [x],[y],_,_=>
    simp only[Xl,hA',Bool.false_eq_true,if_false]
    simp only[Fu]at hl
    have hle:Ach x y=some r:=by
     split at hl
     ·rename_i h1;cases hl;exact h1
     ·rename_i h1;cases hl;exact h1
     ·cases hl
    rcases hsc hA' with ⟨rfl,k2,hu⟩|⟨rfl,hu⟩|⟨rfl,hu⟩
    ·rcases (R9 hsh).2 with ⟨_,k,n,rfl⟩|⟨h0,_⟩|⟨h0,_⟩
     ·cases y with
      | int k' m=>
       simp only[Ach]at hle
       obtain⟨hk,hle2⟩:=Am hle
       have:=Acu hk
       subst this
       have hle:=Option.some.inj hle2
       simp only[Br]
       rw[run_equalIn_int w D t k k2 n m hu,<-hle,Zx]
       congr 1
      | _=>cases hle
     ·cases h0
     ·cases h0
    ·rcases (R9 hsh).2 with ⟨h0,_⟩|⟨_,c,rfl⟩|⟨h0,_⟩
     ·cases h0
     ·cases y with
      | bool c'=>
       simp only[Ach,Option.some.injEq]at hle
       simp only[Br]
       rw[Apf w D t c c' hu,<-hle]
       cases c <;> cases c' <;> rfl
      | _=>cases hle
     ·cases h0
    ·rcases (R9 hsh).2 with ⟨h0,_⟩|⟨h0,_⟩|⟨_,c,rfl⟩
     ·cases h0
     ·cases h0
     ·cases y with
      | str c'=>
       simp only[Ach,Option.some.injEq]at hle
       simp only[Br]
       rw[A01 w D t c c' hu,<-hle,Akz]
      | _=>cases hle
def Yj(P:Program)(t:TypeId):Bool:=
 match P.underlying t with
 | some (.struct fs)=>fs.toList.all fun f=>f.name != "_" && (match P.underlying f.type with|some (.int _)=>true|some .bool=>true|_=>false)
 | _=>false
theorem Aan(f:Loc)(w:World)(e:Bool)(D:Nat)(a:List EV):∀ (fs:List Field) (off:Nat) (s:List Nat) (d:Nat),(fs.all fun f=>f.name != "_" && (match P.underlying f.type with|some (.int _)=>true|some .bool=>true|_=>false))=true ->
 Afg (flat P d) fs off=some s->shaped s (a.drop off)=true ->
 (forIn fs PUnit.unit fun(fd:Field) (_:PUnit)=>(do
  if fd.name ≠ "_" then do
   Instr.checkKey e (D+1) fd.type (← Go.part fd.type (A8 f a).toArray fd.offset)
   pure (.yield PUnit.unit)
  else pure (.yield PUnit.unit):Sem (ForInStep PUnit))).run P w=.ok PUnit.unit w
 | [],off,s,d,_,h,hs=>by simp
 | fd::fs,off,s,d,hall,h,hs=>by
  simp only[List.all_cons,Bool.and_eq_true]at hall
  simp only[Afg]at h
  split at h
  ·rename_i s1 hs1
   split at h
   ·rename_i hof
    split at h
    ·rename_i s2 hs2
     cases h
     obtain⟨q1,q2⟩:=Ul hs
     rw[List.drop_drop]at q2
     have ih:=Aan f w e D a fs (off+s1.length) s2 d hall.2 hs2 q2
     have hlen:=H4 q1
     rw[List.length_take,List.length_drop]at hlen
     have hsc:s1.length=1:=by
      have hA:isA P fd.type=false:=by
       have:=hall.1.2
       unfold isA
       split at this <;> simp_all
      rcases (O7 hs1).2.1 hA with ⟨rfl,_⟩|⟨rfl,_⟩|⟨rfl,_⟩ <;> rfl
     have p1:=Lo f w hs1 (xs:=a) (off:=off) (by omega)
     have p2:∀ v,(Instr.checkKey e (D+1) fd.type v).run P w=.ok () w:=by
      intro v
      have:=hall.1.2
      rw[Instr.checkKey.eq_def]
      split at this
      ·rename_i k hu;simp[underlying,hu]
      ·rename_i hu;simp[underlying,hu]
      ·cases this
     rw[List.forIn_cons]
     simp only[hof.2,ne_eq,not_false_eq_true,if_true,Sem.run_bind,hof.1,p1,p2,Result.andThen_ok,Sem.run_pure]
     exact ih
    ·cases h
   ·cases h
  ·cases h
def Aq1(P:Program)(t:TypeId):Bool:=
 match P.underlying t with
 | some (.array _ e)=>(match P.underlying e with|some (.int _)=>true|_=>false)
 | _=>false
theorem Acd(f:Loc)(w:World)(e:Bool)(D:Nat){d:Nat}{et:TypeId}{k:IntKind}(hu:P.underlying et=some (.int k))(hs:flat P d et=some [0])(a:List EV):∀ (n i:Nat),i+n<=a.length ->
 (forIn (List.range' i n) PUnit.unit fun(j:Nat) (_:PUnit)=>(do
  Instr.checkKey e (D+1) et (← Go.part et (A8 f a).toArray (j*(← sizeOf et)))
  pure (.yield PUnit.unit):Sem (ForInStep PUnit))).run P w=.ok PUnit.unit w
 | 0,i,_=>by simp
 | n+1,i,h=>by
  have ih:=Acd f w e D hu hs a n (i+1) (by omega)
  have p1:=Lo f w hs (xs:=a) (off:=i) (by simp;omega)
  have p2:∀ v,(Instr.checkKey e (D+1) et v).run P w=.ok () w:=by
   intro v
   rw[Instr.checkKey.eq_def]
   simp[underlying,hu]
  obtain⟨⟨ii,hi,hsz⟩,_⟩:=O7 hs
  have p3:(sizeOf et).run P w=.ok 1 w:=by simp[sizeOf,typeInfo,hi,hsz]
  rw[List.range'_succ,List.forIn_cons]
  simp only[Sem.run_bind,p3,Result.andThen_ok,Nat.mul_one,p1,p2,Sem.run_pure]
  exact ih
theorem Au2 {t:TypeId}(hk:Aq1 P t=true){d:Nat}{s:List Nat}(h:flat P d t=some s)(f:Loc)(w:World)(e:Bool)(a:List EV)(hs:shaped s a=true):
 (Instr.checkKey e 10000 t (.agg (A8 f a).toArray)).run P w=.ok () w:=by
 unfold Aq1 at hk
 split at hk
 ·rename_i len et hu
  split at hk
  ·rename_i k hue
   cases d with
   | zero=>simp[flat]at h
   | succ d=>
    simp only[flat]at h
    split at h
    ·simp only[hu]at h
     split at h
     ·rename_i s' hs'
      split at h
      ·rename_i hc
       cases h
       have hA:isA P et=false:=by simp[isA,hue]
       have hs0:s' = [0]:=by
        rcases (O7 hs').2.1 hA with ⟨rfl,_⟩|⟨_,h2⟩|⟨_,h2⟩
        ·rfl
        ·rw[hue]at h2;cases h2
        ·rw[hue]at h2;cases h2
       subst hs0
       have hlen:=H4 hs
       rw[Oz]at hlen
       simp only[List.length_cons,List.length_nil,Nat.zero_add,Nat.mul_one]at hlen
       have:=Acd f w e 9998 hue hs' a len 0 (by omega)
       rw[Instr.checkKey.eq_def]
       simp only[underlying,hu,Sem.run_bind,run_program,Result.andThen_ok,Sem.run_pure]
       simp only[Std.Legacy.Range.forIn_eq_forIn_range',Std.Legacy.Range.size,Nat.sub_zero,Nat.add_one_sub_one,Nat.div_one]
       rw[this]
       rfl
      ·cases h
     ·cases h
    ·cases h
  ·cases hk
 ·cases hk
theorem Anm {t:TypeId}(hk:Yj P t=true){d:Nat}{s:List Nat}(h:flat P d t=some s)(f:Loc)(w:World)(e:Bool)(a:List EV)(hs:shaped s a=true):
 (∃ fs,P.underlying t=some (.struct fs))/\(Instr.checkKey e 10000 t (.agg (A8 f a).toArray)).run P w=.ok () w:=by
 unfold Yj at hk
 split at hk
 ·rename_i fs hu
  refine⟨⟨fs,hu⟩,?_⟩
  cases d with
  | zero=>simp[flat]at h
  | succ d=>
   simp only[flat]at h
   split at h
   ·simp only[hu]at h
    split at h
    ·split at h
     ·rename_i s' hgo
      split at h
      ·cases h
       have:=Aan f w e 9998 a fs.toList 0 s d hk hgo (by simpa using hs)
       rw[Instr.checkKey.eq_def]
       simp only[underlying,hu,Sem.run_bind,run_program,Result.andThen_ok,Sem.run_pure]
       rw[<-Array.forIn_toList]
       rw[this]
       rfl
      ·cases h
     ·cases h
    ·cases h
   ·cases h
 ·cases hk
end
end Go.Ev

namespace Go.Ev
noncomputable def El {α:Type}:List α->Nat->Tr α->Tr α
 | [],_,t=>t
 | a::r,i,t=>El r (Nat.succ i) (t.put i (some a))
theorem Acj {α:Type}:∀ (l:List α) (i:Nat) (t:Tr α) (j:Nat),(El l i t).get j=if i<=j/\j<i+l.length then l[j-i]? else t.get j
 | [],i,t,j=>by simp[El];omega
 | a::r,i,t,j=>by
  simp only[El]
  rw[Acj r (i+1) (t.put i (some a)) j,Tr.get_put]
  simp only[List.length_cons]
  by_cases h1:i=j
  ·subst h1
   rw[if_neg (by omega),if_pos rfl,if_pos (by omega)]
   simp
  ·by_cases h2:i+1<=j/\j<i+1+r.length
   ·rw[if_pos h2,if_pos (by omega)]
    rw[show j-i=(j-(i+1))+1 by omega,List.getElem?_cons_succ]
   ·rw[if_neg h2,if_neg h1,if_neg (by omega)]
theorem Amg {α:Type}(l:List α)(j:Nat):(El l 0 .nil).get j=l[j]?:=by
 rw[Acj]
 by_cases h:j<l.length
 ·rw[if_pos (by omega),Nat.sub_zero]
 ·rw[if_neg (by omega),List.getElem?_eq_none (by omega)];rfl
noncomputable def A5l:List Nat->Nat->Bool
 | [],_=>false
 | a::r,x=>Ar (Nat.beq a x) true (A5l r x)
theorem Aot:∀ {l:List Nat} {x:Nat},A5l l x=true->x ∈ l
 | [],_,h=>by cases h
 | a::r,x,h=>by
  simp only[A5l]at h
  rw[A5]at h
  split at h
  ·rename_i e;rw[Nat.eq_of_beq_eq_true e];exact List.mem_cons_self
  ·exact List.mem_cons_of_mem _ (Aot h)
noncomputable def Aw5:List (Nat × List Nat)->Nat->Option (List Nat)
 | [],_=>none
 | (a,s)::r,x=>Ar (Nat.beq a x) (some s) (Aw5 r x)
theorem Y9:∀ {l:List (Nat × List Nat)} {x:Nat} {s:List Nat},Aw5 l x=some s->(x,s) ∈ l
 | [],_,_,h=>by cases h
 | (a,s')::r,x,s,h=>by
  simp only[Aw5]at h
  rw[A5]at h
  split at h
  ·rename_i e;cases h;rw[Nat.eq_of_beq_eq_true e];exact List.mem_cons_self
  ·exact List.mem_cons_of_mem _ (Y9 h)
noncomputable def A48(ty:Tr TypeInfo)(t:Nat):Option TypeDesc:=
 match ty.get t with
 | some i=>match i.desc with
  | .named _ u=>(match ty.get u with|some j=>some j.desc|none=>none)
  | d=>some d
 | none=>none
noncomputable def A2z(ty:Tr TypeInfo)(t:Nat):Option Bool:=match A48 ty t with|some d=>some (Ajc d)|none=>none
noncomputable def A0q(ty:Tr TypeInfo)(t:Nat):Option (List EV):=
 match ty.get t with
 | some i=>match i.zero with
  | some v=>match ofV v with
   | some x=>Ar x.plain (Ar (Nat.beq i.size (len x.cells)) (Ar (Nat.ble i.bytes 1048576) (match A2z ty t with
    | some true=>(match x with | .agg l=>some l|_=>none)
    | some false=>Ar x.one (some [x]) none
    | none=>none) none) none) none
   | none=>none
  | none=>none
 | none=>none
noncomputable def Axh(fnT:Tr Func)(ty:Tr TypeInfo)(eqs:List (Nat × List Nat))(keys:List Nat):D7 where
 fn:=fnT.get
 Hs:=A48 ty
 size t:=match ty.get t with|some i=>Ar (Nat.ble i.bytes 1048576) (some i.size) none|none=>none
 zero:=A0q ty
 agg:=A2z ty
 eqs:=Aw5 eqs
 key:=A5l keys
theorem A4r {P:Program}{t:Nat}{i:TypeInfo}(h:P.types[t]? = some i):P.info? t=some i:=by
 have hl:t<P.types.size:=(Array.getElem?_eq_some_iff.1 h).1
 unfold Tables.info?
 rw[if_pos hl];exact h
theorem A2u {P:Program}{eqs:List (Nat × List Nat)}{keys:List Nat}(hm:P.follows .mixedOrders=true)
 (hnames:(P.funcs.toList.all fun f=>!(f.name == "runtime.NumGoroutine"))=true)
 (heqs:∀ x ∈ eqs,flat P 6 x.1=some x.2/\isA P x.1=true/\P.eqGuardType P.depth x.1=false) (hkeys:∀ t ∈ keys,Yj P t=true\/Aq1 P t=true) :
 Kq P (Axh (El P.funcs.toList 0 .nil) (El P.types.toList 0 .nil) eqs keys):=by
 have hty:∀ t i,(El P.types.toList 0 .nil).get t=some i->P.info? t=some i:=by
  intro t i h
  rw[Amg,Array.getElem?_toList]at h
  exact A4r h
 have hund:∀ t d,A48 (El P.types.toList 0 .nil) t=some d->P.underlying t=some d:=by
  intro t d h
  unfold A48 at h
  split at h
  ·rename_i i hi
   have h1:=hty t i hi
   split at h
   ·rename_i s u hd
    split at h
    ·rename_i j hj
     cases h
     have h2:=hty u j hj
     obtain⟨desc,str,size,bytes,hp,al,fa,z⟩:=i
     simp only at hd
     subst hd
     simp[Program.underlying,h1,h2]
    ·cases h
   ·rename_i hd
    cases h
    unfold Program.underlying
    rw[h1]
    split
    ·rename_i hx;cases hx;exact absurd rfl (hd _ _)
    ·rename_i hx;cases hx;rfl
    ·rename_i hx;cases hx
  ·cases h
 have hagg:∀ t b,A2z (El P.types.toList 0 .nil) t=some b->∃ d,P.underlying t=some d/\Ajc d=b:=by
  intro t b h
  unfold A2z at h
  split at h
  ·rename_i d hd;cases h;exact⟨d,hund t d hd,rfl⟩
  ·cases h
 refine⟨hm,fun g fn h=>?_,hund,fun t n h=>?_,fun t z h=>?_,hagg,fun t sh h=>?_,fun t h=>?_⟩
 ·have h':(El P.funcs.toList 0 .nil).get g=some fn:=h
  rw[Amg]at h'
  refine⟨by rw[<-Array.getElem?_toList];exact h',?_⟩
  have:=List.all_eq_true.1 hnames fn (List.mem_of_getElem? h')
  simpa using this
 ·simp only[Axh]at h
  split at h
  ·rename_i i hi
   obtain⟨h1,h2⟩:=Am h
   cases h2
   exact⟨i,hty t i hi,rfl,Nat.le_of_ble_eq_true h1⟩
  ·cases h
 ·have h':A0q (El P.types.toList 0 .nil) t=some z:=h
  unfold A0q at h'
  split at h'
  ·rename_i i hi
   split at h'
   ·rename_i v hv
    split at h'
    ·rename_i x hx
     obtain⟨h1,h'⟩:=Am h'
     obtain⟨h2,h'⟩:=Am h'
     obtain⟨h3,h'⟩:=Am h'
     have h2':i.size=x.cells.length:=by rw[<-O6];exact Nat.eq_of_beq_eq_true h2
     refine⟨i,v,x,hty t i hi,hv,hx,h1,?_⟩
     have hat:∀ b,A2z (El P.types.toList 0 .nil) t=some b->(Axh (El P.funcs.toList 0 .nil) (El P.types.toList 0 .nil) eqs keys).agg t=some b:=fun _ h=>h
     split at h'
     ·rename_i ha
      have ha':=hat true ha
      cases x with
      | agg l=>
       simp only[Option.some.injEq]at h'
       subst h'
       exact⟨rfl,h2',Nat.le_of_ble_eq_true h3,fun _=>rfl,fun e=>(by rw[ha']at e;cases e)⟩
      | _=>cases h'
     ·rename_i ha
      have ha':=hat false ha
      obtain⟨ho,h'⟩:=Am h'
      cases h'
      have hc:x.cells = [x]:=by
       cases x <;> first|rfl|(simp[EV.one]at ho)
      exact⟨hc.symm,by rw[h2',hc],Nat.le_of_ble_eq_true h3,fun e=>(by rw[ha']at e;cases e),fun _=>rfl⟩
     ·cases h'
    ·cases h'
   ·cases h'
  ·cases h'
 ·obtain⟨h1,h2,h3⟩:=heqs _ (Y9 h)
  refine⟨h3,fun f w a b r hl hs=>?_⟩
  have:=Av3 (P:=P) 6 10000 (by omega) t sh h1 f w a b r hs hl
  simp only[Xl,h2,if_true]at this
  exact this
 ·have hk:=hkeys t (Aot h)
  rcases hk with hk|hk
  ·constructor
   ·have hk':=hk
    unfold Yj at hk'
    split at hk'
    ·rename_i fs hu;exact⟨_,hu,rfl⟩
    ·cases hk'
   ·intro f w e a sh hsh hs
    obtain⟨h1,_,_⟩:=heqs _ (Y9 hsh)
    exact(Anm hk h1 f w e a hs).2
  ·constructor
   ·have hk':=hk
    unfold Aq1 at hk'
    split at hk'
    ·rename_i n e hu;exact⟨_,hu,rfl⟩
    ·cases hk'
   ·intro f w e a sh hsh hs
    obtain⟨h1,_,_⟩:=heqs _ (Y9 hsh)
    exact Au2 hk h1 f w e a hs
theorem A2r(f:Loc)(w:World)(n m:Nat):Nv f ⟨.nil,n,m⟩ w:=⟨fun i o h=>(by cases h),fun i j o o' h=>(by cases h)⟩
theorem A1r(n m:Nat):Nt (fun _=>False) ⟨.nil,n,m⟩:=⟨fun i h=>h.elim,fun i o h=>(by cases h)⟩
theorem Amt {P:Program}{c:Ac}(hC:Vi P c){g:Nat}{v:EV}{h':Aa}(h:c g [] ⟨.nil,0,0⟩=some (v,h')){V:Value}(hv:∀ f,Br f v=V)(w:World):
 Calls P g #[] w fun e w'=>e=.returned V/\RowKit.Below w.heap.size w w':=by
 obtain⟨_,hc⟩:=hC _ _ _ _ _ h
 intro cs
 obtain⟨fr,f',w',hs,hfr,hl,hm,Vk,hvo⟩:=hc (fun _=>False) ⟨fun _=>0,fun _=>0⟩ w (A1r 0 0) (A2r _ _ 0 0) trivial cs
 rw[hv]at hl
 exact⟨.returned V,w',fr,⟨rfl,hm.os,hm.tape,hm.output,hm.size,fun k hk=>hm.kept k hk (fun i o hi=>(by cases hi))⟩,hs,hfr,hl⟩
end Go.Ev

namespace Go.Ev
noncomputable def isTrue:Option (EV × Aa)->Bool
 | some (.bool b,_)=>b
 | _=>false
theorem Arw {r:Option (EV × Aa)}(h:isTrue r=true):∃ h',r=some (.bool true,h'):=by
 unfold isTrue at h
 split at h
 ·subst h;exact⟨_,rfl⟩
 ·cases h
noncomputable def Ag0(g:Nat)(v:EV):Ac:=fun g' args h=>Ar (Nat.beq g' g) (match args with | []=>some (v,h)|_=>none) none
theorem Alw {P:Program}{g:Nat}{v:EV}{V:Value}(hv:∀ f,Br f v=V)(ho:∀ p,v.ok p){fn:Func}(hf:P.funcs[g]? = some fn)(hb:fn.body.isSome=true)(hn:(fn.name == "runtime.NumGoroutine")=false)
 (hC:∀ w,Calls P g #[] w fun e w'=>e=.returned V/\RowKit.Below w.heap.size w w'):Vi P (Ag0 g v)/\Pd (Ag0 g v):=by
 have key:∀ g' args h v' h',Ag0 g v g' args h=some (v',h')->g'=g/\args = []/\v'=v/\h'=h:=by
  intro g' args h v' h' hh
  unfold Ag0 at hh
  obtain⟨h1,h2⟩:=Am hh
  split at h2
  ·cases h2;exact⟨Nat.eq_of_beq_eq_true h1,rfl,rfl,rfl⟩
  ·cases h2
 constructor
 ·intro g' args h v' h' hh
  obtain⟨rfl,rfl,rfl,rfl⟩:=key _ _ _ _ _ hh
  refine⟨⟨fn,hf,hb,hn⟩,fun p f w hh rp ha cs=>?_⟩
  obtain⟨e,w',fr,⟨rfl,hbel⟩,hs,hfr,hl⟩:=hC w cs
  refine⟨fr,f,w',hs,hfr,?_,⟨Loc.Zb _ _,⟨fun i o ho=>?_,rp.inj⟩,fun b hb _=>hbel.block b hb,hbel.size,hbel.tape,hbel.os,hbel.output,fun i o ho=>.inr ⟨i,o,ho,rfl⟩⟩,Wf.refl hh,ho _⟩
  ·rw[hv];exact hl
  ·obtain⟨r,h1,h2⟩:=rp.obj i o ho
   exact⟨r,by rw[hbel.block _ (rp.lt ho)];exact h1,h2⟩
 ·intro g' args h v' h' hh
  obtain⟨_,_,_,rfl⟩:=key _ _ _ _ _ hh
  exact .refl _
end Go.Ev
