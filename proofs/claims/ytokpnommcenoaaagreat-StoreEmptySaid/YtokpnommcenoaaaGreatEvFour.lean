import Derived.Test.YtokpnommcenoaaaGreatEvThree
import Derived.Laws.StructEq
import Derived.ChangeKeysEq
import Derived.KernelRfl
import Derived.Below
set_option linter.unusedVariables false
set_option linter.unusedSimpArgs false
set_option linter.unusedSectionVars false
namespace Go.Ev
open Classical
section
variable {T:Cr}{call round:Ae}(hC:H2 call)(hR:H2 round){n:Nat}{ops:List Oper}{bs:Tr Nat}{base:Nat}
theorem Sd.awf {o:Oper}{i:Nat}{s s':Zu}{v:EV}{E E':Ac}{kd:Kd}(sd:Sd T call round n ops bs base o i s s' v E E' kd):Rd s.h s'.h where
 next:=by rw[<-sd.K7,<-sd.K3];exact sd.w.next
 mw:=sd.mw.1
 same q h1 h2:=by rw[sd.Al8,if_pos (sd.mw.2 q h1 h2)]
 live q x hx:=by
  rw[sd.Al8]at hx
  split at hx
  ·exact .inl ⟨x,hx⟩
  ·rcases sd.w.live q x hx with ⟨o',h⟩|h
   ·exact .inl ⟨o',sd.sub q o' h⟩
   ·rw[sd.K7]at h;exact .inr h
 lt H q x hx:=by
  have hnext:s.h.next<=s'.h.next:=by rw[<-sd.K7,<-sd.K3];exact sd.w.next
  rw[sd.Al8]at hx
  split at hx
  ·exact Nat.lt_of_lt_of_le (H q x hx) hnext
  ·rw[<-sd.K3]
   refine sd.w.lt (fun q x hx=>?_) q x hx
   rw[sd.K7];exact H q x (sd.sub q x hx)
theorem Sd.nw {o:Oper}{i:Nat}{s s':Zu}{v:EV}{E E':Ac}{kd:Kd}(sd:Sd T call round n ops bs base o i s s' v E E' kd)(h:∀ x ∈ s.nw,x.2<s.h.next):∀ x ∈ s'.nw,x.2<s'.h.next:=by
 have hnext:s.h.next<=s'.h.next:=sd.awf.next
 intro x hx
 have:=sd.kd
 cases kd with
 | idle=>rw[this.2.2.2.1]at hx;exact Nat.lt_of_lt_of_le (h x hx) hnext
 | load q=>rw[this.2.2.2.1]at hx;exact Nat.lt_of_lt_of_le (h x hx) hnext
 | new=>
  obtain⟨a,⟨y,b⟩,c,d,_⟩:=this
  rw[d]at hx
  rcases List.mem_cons.1 hx with rfl|hx
  ·show s.h.next<_
   rw[<-sd.K3,b,Ac.B6,sd.K7];omega
  ·exact Nat.lt_of_lt_of_le (h x hx) hnext
 | Nl q=>
  obtain⟨_,_,d,_⟩:=this
  rw[d]at hx;exact Nat.lt_of_lt_of_le (h x hx) hnext
 | Lw mw=>
  obtain⟨b,_,_,_,_,_,d,_⟩:=this
  rw[d]at hx;exact Nat.lt_of_lt_of_le (h x hx) hnext
include hC hR in
theorem Adr:∀ {l:List Oper} {i:Nat} {s r:Zu},F5 T call round n ops bs base l i s=some r->(∀ x ∈ s.nw,x.2<s.h.next)->Rd s.h r.h
 | [],_,s,r,h,_=>by cases h;exact .refl _
 | o::l,i,s,r,h,hn=>by
  simp only[F5]at h
  split at h
  ·rename_i s' hs
   obtain⟨v,E,E',kd,sd⟩:=Yc hC hR hs hn
   exact sd.awf.trans (Adr h (sd.nw hn))
  ·cases h
include hC hR in
theorem Agi {tm tm':Ag}{h h':Ac}(hop:Ru T call round n ops tm h=some (tm',h')):Rd h h':=by
 unfold Ru at hop
 obtain⟨_,hop⟩:=Ah hop
 obtain⟨_,hop⟩:=Ah hop
 split at hop
 ·rename_i hs
  cases hop
  exact Adr hC hR hs (fun x hx=>by cases hx)
 ·cases hop
end
theorem Ajp {P:Program}{T:Cr}(hT:Fi P T){call round:Ae}(hC:Li P call)(hR:On P round)(wC:H2 call)(wR:H2 round)
 {ops:Array Oper} {n:Nat} {p:Nat->Prop} {f:Loc} {h:Ac} {w:World} {tm tm':Ag} {h':Ac} (ht:Ec p n tm) (hh:Gr p h) (rp:Gz f h w)
 (hop:Ru T call round n ops.toList tm h=some (tm',h')) (b:FB) (t:Nat) (k:List Item) (cs:List Frame) (dr:Nat) :
 ∃ f' w',Steps P (lone (b.at (Ap f n tm) (.inRegion ops (Region.linearise .any ops t)::k)) cs { w with drawn:=dr }) (lone (b.at (Ap f' n tm') (.inRegion ops []::k)) cs w') /\
  Move p f h w f' h' w'/\Wf p h h'/\Ec (grow p h h') n tm':=by
 have hwf:=Agi wC wR hop
 unfold Ru at hop
 obtain⟨hbk,hop⟩:=Ah hop
 obtain⟨htm,hop⟩:=Ah hop
 split at hop
 ·rename_i tm1 h1 b1 b2 b3 b4 b5 hs
  cases hop
  obtain⟨σ,V,E,E',K,e0,eN,tr⟩:=Ath (s:=⟨tm,h,0,[],[],[],[]⟩) wC wR hs (fun q x hx=>hh.lt q (hh.get q x hx).1) rfl
  have hlen:ops.toList.length=ops.size:=by simp
  rw[hlen]at eN
  have ht0:Ec p n (σ 0).tm:=by rw[e0];exact ht
  have hh0:Gr p (σ 0).h:=by rw[e0];exact hh
  have hfalse:∀ j,¬ ((Array.replicate ops.size false).getD j false=true):=by
   intro j
   simp only[Array.getD_eq_getD_getElem?,Array.getElem?_replicate]
   split <;> simp
  have hI:Inv n ops (Du ops.toList 0 .nil) σ V E E' p f w (fun j=>(Array.replicate ops.size false).getD j false=true) f { w with drawn:=dr }:=by
   refine⟨fun j hj=>absurd hj (hfalse j),fun j hj=>absurd hj (hfalse j),fun j hj=>absurd hj (hfalse j),?_⟩
   have:hS E E' (σ 0).h.get (fun j=>(Array.replicate ops.size false).getD j false=true) ops.size=(σ 0).h.get:=by
    funext q;exact Ajf _ (fun j _ hs=>absurd hs (hfalse j)) _ (Nat.zero_le _)
   rw[this]
   have hr0:Gz f (σ 0).h w:=by rw[e0];exact rp
   exact(Mj.start hr0).drew dr
  have htm0:Ap f n (Pg n ops V (σ 0).tm (fun j=>(Array.replicate ops.size false).getD j false=true) ops.size)=Ap f n tm:=by
   rw[show tm=(σ 0).tm by rw[e0]]
   exact Sa f n fun t=>Af0 _ (fun j _ hs=>absurd hs (hfalse j)) _ (Nat.zero_le _)
  obtain⟨f',w',hst,S,hS,I⟩:=Ame hT hC hR tr rfl htm hbk ht0 hh0 b k cs ops.size t (Array.replicate ops.size false) f _ (by simp) (by
   unfold unl;exact Nat.le_trans (List.length_filter_le _ _) (by simp)) hI
  rw[htm0]at hst
  have hmv:=I.mv.move (h:=(σ ops.size).h) (fun q=>(Ajz tr hS q).symm)
  have e1:(σ ops.size).h=h':=by rw[eN]
  have e2:(σ ops.size).tm=tm':=by rw[eN]
  have e3:(σ 0).h=h:=by rw[e0]
  have hgrow:∀ q,pS p σ ops.size S q/\q<nx σ ops.size->grow p h h' q:=by
   rintro q ⟨h1|⟨j,_,hj,h1,h2⟩,h3⟩
   ·exact .inl h1
   ·refine .inr ⟨?_,?_⟩
    ·have:=tr.Wz (i:=0) (m:=j) (by omega) (by omega)
     rw[<-e3];exact Nat.le_trans this h1
    ·rw[<-e1];exact h3
  rw[e2]at hst
  rw[e1,e3]at hmv
  refine⟨f',w',hst,hmv,⟨hwf.next,hwf.mw,hwf.same,hwf.live,⟨fun q hq=>?_,fun q x hx=>?_⟩⟩,?_⟩
  ·rcases hq with hq|hq
   ·exact Nat.lt_of_lt_of_le (hh.lt q hq) hwf.next
   ·exact hq.2
  ·obtain⟨a,b⟩:=I.Lj tr hh0 ops.size (Nat.le_refl _) q x (by rw[Ajz tr hS q,e1];exact hx)
   exact⟨hgrow q a,b.mono hgrow⟩
  ·have:=I.Asp tr ht0 hh0.lt ops.size (Nat.le_refl _)
   rw[T4 tr hS _ (Nat.le_refl _),e2]at this
   exact this.mono hgrow
 ·cases hop
end Go.Ev

namespace Go.Ev
def Dl(f:Loc)(d:Nat):Deferred:={ target:=.collected (f.b d),args:=#[] }
def Ae5(f:Loc)(a:Mt):FB:=⟨a.fn,a.defers.map (Dl f),a.Cd.map f.b⟩
noncomputable def E3(f:Loc)(a:Mt):Frame:=
 { fn:=a.fn,tmps:=Ap f a.n a.tmps,todo:=a.todo,defers:=a.defers.map (Dl f),mode:=if a.ret=true then .returning else .run,kind:=.normal,roundOf:=a.Cd.map f.b }
structure Io(p:Nat->Prop)(a:Mt):Prop where
 tm:Ec p a.n a.tmps
 dfr:∀ d ∈ a.defers,p d
 Cd:∀ l,a.Cd=some l->p l
 ret:a.ret=true->a.Cd=none
theorem Io.mono {p q:Nat->Prop}{a:Mt}(h:Io p a)(hpq:∀ i,p i->q i):Io q a:=⟨h.tm.mono hpq,fun d hd=>hpq d (h.dfr d hd),fun l hl=>hpq l (h.Cd l hl),h.ret⟩
theorem Zd {p:Nat->Prop}{f g:Loc}(hfg:Loc.agree p f g){a:Mt}(h:Io p a):E3 f a=E3 g a:=by
 unfold E3
 rw[D5 hfg h.tm]
 have h1:a.defers.map (Dl f)=a.defers.map (Dl g):=by
  apply List.map_congr_left
  intro d hd
  unfold Dl;rw[(hfg d (h.dfr d hd)).1]
 have h2:a.Cd.map f.b=a.Cd.map g.b:=by
  cases hr:a.Cd with
  | none=>rfl
  | some l=>simp only[Option.map_some];rw[(hfg l (h.Cd l hr)).1]
 rw[h1,h2]
theorem Oc {p:Nat->Prop}{f g:Loc}(hfg:Loc.agree p f g){a:Mt}(h:Io p a):Ae5 f a=Ae5 g a:=by
 have:=Zd hfg h
 unfold E3 at this
 unfold Ae5
 injection this with _ _ _ h4 _ _ h7
 rw[h4,h7]
section
variable {P:Program}{b:FB}{tmps:Array Value}{k:List Item}{cs:List Frame}{w:World}
theorem Aq1:step P (lone (b.at tmps (.code .skip::k)) cs w)=.next (lone (b.at tmps k) cs w):=step_lone_go (by simp[stepG,stepG.exec,FB.at])
theorem An7 {l:Nat}:step P (lone (b.at tmps (.code (.label l)::k)) cs w)=.next (lone (b.at tmps k) cs w):=step_lone_go (by simp[stepG,stepG.exec,FB.at])
theorem Afb {id:Nat}:step P (lone (b.at tmps (.inBlock id::k)) cs w)=.next (lone (b.at tmps k) cs w):=step_lone_go (by simp[stepG,stepG.exec,FB.at])
theorem Aux {x y:Code}:step P (lone (b.at tmps (.code (.seq x y)::k)) cs w)=.next (lone (b.at tmps (.code x :: .code y::k)) cs w):=step_lone_go (by simp[stepG,stepG.exec,FB.at])
theorem Agn {c:Operand}{x y:Code}{t:Bool}(h:Dg tmps c=.bool t):step P (lone (b.at tmps (.code (.cond c x y)::k)) cs w)=.next (lone (b.at tmps (.code (if t then x else y)::k)) cs w):=
 step_lone_go (by
  have:=FB.eval_at b tmps (.code (.cond c x y)::k)
  simp only[FB.at]at this
  simp[stepG,stepG.exec,FB.at,this,h])
theorem Ai3 {id:Nat}{c:Code}:step P (lone (b.at tmps (.code (.block id c)::k)) cs w)=.next (lone (b.at tmps (.code c :: .inBlock id::k)) cs w):=step_lone_go (by simp[stepG,stepG.exec,FB.at])
theorem Apj {c:Code}:step P (lone (b.at tmps (.code (.loop c)::k)) cs w)=.next (lone (b.at tmps (.code c :: .inLoop c::k)) cs w):=step_lone_go (by simp[stepG,stepG.exec,FB.at])
theorem Ahn {c:Code}:step P (lone (b.at tmps (.inLoop c::k)) cs w)=.next (lone (b.at tmps (.code c :: .inLoop c::k)) cs w):=step_lone_go (by simp[stepG,stepG.exec,FB.at])
theorem Aqz {id:Nat}{k':List Item}(h:exitTo id k=some k'):step P (lone (b.at tmps (.code (.exit id)::k)) cs w)=.next (lone (b.at tmps k') cs w):=step_lone_go (by simp[stepG,stepG.exec,FB.at,h])
theorem Auw(h:b.Cd=none):step P (lone (b.at tmps (.code .ret::k)) cs w)=.next (lone { b.at tmps (.code .ret::k) with mode:=.returning } cs w):=step_lone_go (by simp[stepG,stepG.exec,FB.at,h])
theorem Au2(h:b.Cd=none):step P (lone (b.at tmps []) cs w)=.next (lone { b.at tmps [] with mode:=.returning } cs w):=step_lone_go (by simp[stepG,stepG.exec,FB.at,h])
theorem Ahl {id:Nat}{ops:Array Oper}:step P (lone (b.at tmps (.code (.region id ops false)::k)) cs w)=.next (lone (b.at tmps (.inRegion ops (List.range ops.size)::k)) cs w):=step_lone_go (by simp[stepG,stepG.exec,FB.at])
theorem Apl(hm:P.follows .mixedOrders=true){id:Nat}{ops:Array Oper}:step P (lone (b.at tmps (.code (.region id ops true)::k)) cs w) =
 .next (lone (b.at tmps (.inRegion ops (Region.linearise .any ops (w.tape w.drawn (.order b.fn id)))::k)) cs { w with drawn:=w.drawn+1 }):=
 step_lone_go (by simp[stepG,stepG.exec,FB.at,choose,Sem.run,Question.forced,Question.cut,hm,Region.schedule])
theorem Aag {l:Nat}(hr:b.Cd=some l){v:Value}{w':World}{jump:Option Code}(he:(Instr.endRound l jump).run P w=.ok v w'){todo:List Item}
 (ht:(todo = []/\jump=none)\/(∃ k,todo=.code .ret::k/\jump=some .ret)\/(∃ id k,todo=.code (.exit id)::k/\exitTo id k=none/\jump=some (.exit id))) {caller:Frame} :
 step P (lone (b.at tmps todo) (caller::cs) w)=.next (lone (caller.finish v) cs w'):=by
 refine step_lone_go ?_
 rcases ht with ⟨rfl,rfl⟩|⟨k,rfl,rfl⟩|⟨id,k,rfl,hx,rfl⟩
 ·simp[stepG,stepG.exec,FB.at,hr,he,doReturn]
 ·simp[stepG,stepG.exec,FB.at,hr,he,doReturn]
 ·simp[stepG,stepG.exec,FB.at,hr,hx,he,doReturn]
end
section
variable {P:Program}{T:Cr}(hT:Fi P T){p:Nat->Prop}{f:Loc}{h:Ac}{w:World}
theorem Adb(hT:Fi P T)(hh:Gr p h)(rp:Gz f h w){t:TypeId}{i off n:Nat}{cs:List EV}(hs:T.size t=some n)(hc:Em h i off n=some cs){b:Bool}(ha:T.agg t=some b){v:EV}
 (hv:(b=true/\v=.agg cs)\/(b=false/\cs = [v])):(loadVar t ⟨f.b i,off,none⟩).run P w=.ok (Be f v) w/\v.ok p:=by
 obtain⟨h1,h2,h3,h4,h5⟩:=Nn (P:=P) hh rp hc
 rcases hv with ⟨rfl,rfl⟩|⟨rfl,rfl⟩
 ·refine⟨?_,h2,h3⟩
  simp only[loadVar,Sem.run_bind,Q4 hT w ha,Result.andThen_ok,if_true,Cv hT w hs,h1,Sem.run_pure,Be]
 ·refine⟨?_,h2.1⟩
  have:=h5 0 v rfl
  simp only[loadVar,Sem.run_bind,Q4 hT w ha,Result.andThen_ok,Bool.false_eq_true,if_false]
  simp only[Nat.add_zero]at this
  rw[run_load,this]
theorem Z8 {α β:Type}(P:Program)(w:World)(g:α->Sem β):∀ (l:List α) (r:List β),(l.length=r.length)->(∀ (i:Nat) a b,l[i]? = some a->r[i]? = some b->(g a).run P w=.ok b w)->(l.mapM g).run P w=.ok r w
 | [],[],_,_=>by simp
 | a::l,b::r,hl,h=>by
  have h0:=h 0 a b rfl rfl
  have ih:=Z8 P w g l r (by simpa using hl) (fun i a b h1 h2=>h (i+1) a b (by simpa using h1) (by simpa using h2))
  simp[List.mapM_cons,h0,ih]
 | [],_::_,h,_=>by simp at h
 | _::_,[],h,_=>by simp at h
def Tb(tmps:Array Value):ResultVar->Sem Value
 | .tmp t=>pure (tmps.getD t undef)
 | .cell a t=>do loadVar t (← asAddr (tmps.getD a undef))
theorem Ad5(fn:Func)(tmps:Array Value):results fn tmps=(do
 let vs ← fn.results.mapM (Tb tmps)
 pure (if h:vs.size=1 then vs[0] else .tuple vs)):=by
 unfold results
 congr 1
theorem My(hT:Fi P T)(hh:Gr p h)(rp:Gz f h w){n:Nat}{tm:Ag}(ht:Ec p n tm):∀ {l:List ResultVar} {vs:List EV},Dt T tm h l=some vs ->
 EV.Gx p vs/\l.length=(Av f vs).length/\∀ (i:Nat) a b,l[i]? = some a->(Av f vs)[i]? = some b->(Tb (Ap f n tm) a).run P w=.ok b w
 | [],vs,hr=>by cases hr;exact⟨trivial,rfl,fun i a b h=>by simp at h⟩
 | .tmp t::r,vs,hr=>by
  simp only[Dt]at hr
  split at hr
  ·rename_i l hl
   cases hr
   obtain⟨h1,h2,h3⟩:=My hT hh rp ht hl
   refine⟨⟨ht.tmp t,h1⟩,by simp[Av,h2],fun i a b ha hb=>?_⟩
   cases i with
   | zero=>
    simp only[List.getElem?_cons_zero,Option.some.injEq,Av]at ha hb
    subst ha hb
    simp only[Tb,Sem.run_pure,Js f ht]
   | succ i=>exact h3 i a b (by simpa using ha) (by simpa [Av] using hb)
  ·cases hr
 | .cell a t::r,vs,hr=>by
  simp only[Dt]at hr
  split at hr
  ·rename_i i off l n' ha hl hn
   split at hr
   ·rename_i cs hc
    obtain⟨h1,h2,h3⟩:=My hT hh rp ht hl
    have key:∀ (b:Bool) (v:EV),T.agg t=some b->((b=true/\v=.agg cs)\/(b=false/\cs = [v]))->some (v::l)=some vs->EV.Gx p vs/\(ResultVar.cell a t::r).length=(Av f vs).length/\∀ (i:Nat) a' b',(ResultVar.cell a t::r)[i]? = some a'->(Av f vs)[i]? = some b'->(Tb (Ap f n tm) a').run P w=.ok b' w:=by
     intro b v hb hv e
     cases e
     obtain⟨l1,l2⟩:=Adb hT hh rp hn hc hb hv
     refine⟨⟨l2,h1⟩,by simp[Av,h2],fun i a' b' ha' hb'=>?_⟩
     cases i with
     | zero=>
      simp only[List.getElem?_cons_zero,Option.some.injEq,Av]at ha' hb'
      subst ha' hb'
      simp only[Tb,Js f ht,ha,Be,asAddr,Sem.run_bind,Sem.run_pure,Result.andThen_ok,l1]
     | succ i=>exact h3 i a' b' (by simpa using ha') (by simpa [Av] using hb')
    split at hr
    ·rename_i hb;exact key true _ hb (.inl ⟨rfl,rfl⟩) hr
    ·rename_i hb
     split at hr
     ·exact key false _ hb (.inr ⟨rfl,rfl⟩) hr
     ·cases hr
    ·cases hr
   ·cases hr
  ·cases hr
theorem Ac8(hT:Fi P T)(hh:Gr p h)(rp:Gz f h w){n:Nat}{tm:Ag}(ht:Ec p n tm){fn:Func}{vs:List EV}(hr:Dt T tm h fn.results.toList=some vs){v:EV}
 (hv:vs = [v]\/((∀ x,vs ≠ [x])/\v=.tuple vs)):(results fn (Ap f n tm)).run P w=.ok (Be f v) w/\v.ok p:=by
 obtain⟨h1,h2,h3⟩:=My hT hh rp ht hr
 have hm:(fn.results.toList.mapM (Tb (Ap f n tm))).run P w=.ok (Av f vs) w:=Z8 P w _ _ _ h2 h3
 constructor
 ·have hm':(fn.results.mapM (Tb (Ap f n tm))).run P w=.ok (Av f vs).toArray w:=by
   have e:fn.results.mapM (Tb (Ap f n tm))=Functor.map List.toArray (fn.results.toList.mapM (Tb (Ap f n tm))):=by
    rw[<-List.mapM_toArray,Array.toArray_toList]
   rw[e,Sem.run_map,hm];rfl
  rw[Ad5,Sem.run_bind,hm',Result.andThen_ok,Sem.run_pure]
  congr 1
  rcases hv with rfl|⟨hne,rfl⟩
  ·simp[Av]
  ·rw[dif_neg]
   ·simp only[Be]
   ·intro hsz
    simp only[List.size_toArray,Bh]at hsz
    match vs,hsz with
    | [x],_=>exact hne x rfl
 ·rcases hv with rfl|⟨_,rfl⟩
  ·exact h1.1
  ·exact h1
end
end Go.Ev

namespace Go.Ev
theorem P5(f:Loc)(fn n:Nat)(tm:Ag)(todo:List Item)(ds:List Nat)(Cd:Option Nat):
 E3 f ⟨fn,n,tm,todo,ds,false,Cd⟩=(FB.mk fn (ds.map (Dl f)) (Cd.map f.b)).at (Ap f n tm) todo:=rfl
theorem Qa(f:Loc)(fn n:Nat)(tm:Ag)(todo:List Item)(ds:List Nat):
 E3 f ⟨fn,n,tm,todo,ds,true,none⟩ = { (FB.mk fn (ds.map (Dl f)) none).at (Ap f n tm) todo with mode:=.returning }:=rfl
def Sk(P:Program)(p:Nat->Prop)(f:Loc)(w:World)(cs:List Frame)(s s':C4):Prop:=
 ∃ f' w',Steps P (lone (E3 f s.fr) cs w) (lone (E3 f' s'.fr) cs w')/\Move p f s.h w f' s'.h w'/\Wf p s.h s'.h/\Io (grow p s.h s'.h) s'.fr/\s'.fr.fn=s.fr.fn/\s'.fr.Cd=s.fr.Cd
def Fin(P:Program)(p:Nat->Prop)(f:Loc)(w:World)(s:C4)(v:EV)(h':Ac):Prop:=
 match s.fr.Cd with
 | none=>h'=s.h/\(E3 f s.fr).leaving P w (.returned (Be f v))/\v.ok p
 | some _=>∀ caller cs,∃ w',Steps P (lone (E3 f s.fr) (caller::cs) w) (lone (caller.finish (Be f v)) cs w')/\Move p f s.h w f h' w'/\Wf p s.h h'/\v.ok p
section
variable {P:Program}{T:Cr}{p:Nat->Prop}{f:Loc}{h:Ac}{w:World}{cs:List Frame}
theorem Sk.stay {fr fr':Mt}(hh:Gr p h)(rp:Gz f h w)(hs:Steps P (lone (E3 f fr) cs w) (lone (E3 f fr') cs w))(ho:Io p fr')(h1:fr'.fn=fr.fn)(h2:fr'.Cd=fr.Cd):Sk P p f w cs ⟨fr,h⟩ ⟨fr',h⟩:=
 ⟨f,w,hs,Move.refl rp,Wf.refl hh,by rw[Dw _ _ _ rfl];exact ho,h1,h2⟩
theorem Mm(rp:Gz f h w){l:Nat}{st:LoopState}{pd:Option Code}{fn n:Nat}{tm:Ag}{ps:List Tmp}{asg body:Code}{d:Nat}(hg:h.get l=some (.loop st pd fn n tm ps asg body d)):
 (Instr.getLoop (f.b l)).run P w=.ok ⟨st,pd,fn,Ap f n tm,ps.toArray,asg,body,f.b d⟩ w/\w.heap[f.b l]? = some (.loop ⟨st,pd,fn,Ap f n tm,ps.toArray,asg,body,f.b d⟩):=by
 obtain⟨r,hr,rfl⟩:=rp.obj l _ hg
 have hgo:=E1 (P:=P) hr (by intros;simp)
 refine⟨?_,hr⟩
 simp only[Instr.getLoop,Sem.run_bind,hgo,Result.andThen_ok,Sem.run_pure]
theorem Aaw(hh:Gr p h)(rp:Gz f h w){l:Nat}{st st':LoopState}{pd pd':Option Code}{fn n:Nat}{tm:Ag}{ps:List Tmp}{asg body:Code}{d:Nat}(hg:h.get l=some (.loop st pd fn n tm ps asg body d)):
 Move p f h w f (h.put l (.loop st' pd' fn n tm ps asg body d)) { w with heap:=w.heap.setIfInBounds (f.b l) (.loop ⟨st',pd',fn,Ap f n tm,ps.toArray,asg,body,f.b d⟩) } /\
 Wf p h (h.put l (.loop st' pd' fn n tm ps asg body d)):=
 ⟨Move.setObj rp hg rfl,Wf.put hh hg (hh.get l _ hg).2⟩
theorem Aae(rp:Gz f h w){l:Nat}{st:LoopState}{pd:Option Code}{fn n:Nat}{tm:Ag}{ps:List Tmp}{asg body:Code}{d:Nat}(hg:h.get l=some (.loop st pd fn n tm ps asg body d))(jump:Option Code):
 (Instr.endRound (f.b l) jump).run P w=.ok (.bool jump.isNone) { w with heap:=w.heap.setIfInBounds (f.b l) (.loop ⟨if jump.isNone then .ready else .done,jump,fn,Ap f n tm,ps.toArray,asg,body,f.b d⟩) }:=by
 obtain⟨h1,h2⟩:=Mm (P:=P) rp hg
 have hs:=F0 (P:=P) (o':=.loop ⟨if jump.isNone then .ready else .done,jump,fn,Ap f n tm,ps.toArray,asg,body,f.b d⟩) h2 (by intros;simp)
 simp only[Instr.endRound,Sem.run_bind,h1,Result.andThen_ok,hs,Sem.run_pure]
theorem Yn {fn n:Nat}{tm:Ag}{todo:List Item}{ds:List Nat}{Cd:Option Nat}{jump:Option Code}{s':C4}(hop:leave fn n tm todo ds Cd h jump=.go s'):
 Cd=none/\s'=⟨⟨fn,n,tm,todo,ds,true,none⟩,h⟩/\(jump=none\/jump=some .ret):=by
 unfold leave at hop
 split at hop
 ·split at hop
  ·cases hop;exact⟨rfl,rfl,.inl rfl⟩
  ·cases hop;exact⟨rfl,rfl,.inr rfl⟩
  ·cases hop
 ·split at hop
  ·split at hop <;> cases hop
  ·cases hop
theorem So(hh:Gr p h)(rp:Gz f h w){fn n:Nat}{tm:Ag}{todo:List Item}{ds:List Nat}{Cd:Option Nat}{jump:Option Code}{v:EV}{h':Ac}(hop:leave fn n tm todo ds Cd h jump=.done v h')
 (ht:(todo = []/\jump=none)\/(∃ k,todo=.code .ret::k/\jump=some .ret)\/(∃ id k,todo=.code (.exit id)::k/\exitTo id k=none/\jump=some (.exit id))) :
 Fin P p f w ⟨⟨fn,n,tm,todo,ds,false,Cd⟩,h⟩ v h':=by
 unfold leave at hop
 split at hop
 ·split at hop <;> cases hop
 ·rename_i l
  split at hop
  ·rename_i st pd fn' n' tm' ps asg body d hg
   have key:∀ (b:Bool) (st':LoopState),b=jump.isNone->st'=(if jump.isNone then .ready else .done)->Fin P p f w ⟨⟨fn,n,tm,todo,ds,false,some l⟩,h⟩ (.bool b) (h.put l (.loop st' jump fn' n' tm' ps asg body d)):=by
    intro b st' hb hst
    intro caller cs
    obtain⟨m1,m2⟩:=Aaw (st':=st') (pd':=jump) hh rp hg
    refine⟨_,.one ?_,m1,m2,trivial⟩
    have he:=Aae (P:=P) rp hg jump
    rw[<-hst,<-hb]at he
    exact Aag (b:=FB.mk fn (ds.map (Dl f)) (some (f.b l))) rfl he ht
   split at hop
   ·cases hop;exact key true _ rfl rfl
   ·cases hop;exact key false _ rfl rfl
  ·cases hop
variable (hT:Fi P T){call round:Ae}(hC:Li P call)(hR:On P round)(wC:H2 call)(wR:H2 round)
theorem Aif {fn:Nat}{tmps:Array Value}{todo:List Item}{d:Nat}{ds:List Deferred}{w':World}(h:(Instr.takeDeferred d).run P w=.ok [] w'):
 step P (lone { fn:=fn,tmps:=tmps,todo:=todo,defers:={ target:=.collected d,args:=#[] }::ds,mode:=.returning,kind:=.normal,roundOf:=none } cs w) =
  .next (lone { fn:=fn,tmps:=tmps,todo:=todo,defers:=ds,mode:=.returning,kind:=.normal,roundOf:=none } cs w'):=
 step_lone_go (by simp[stepG,unwind,h])
theorem Zc {b:FB}{l:Nat}(hl:b.Cd=some l){tmps:Array Value}{k:List Item}{w':World}(h:(Instr.beginRound l).run P w=.ok () w'):
 step P (lone (b.at tmps (.beginRound::k)) cs w)=.next (lone (b.at tmps k) cs w'):=
 step_lone_go (by simp[stepG,stepG.exec,stepG.apply,FB.at,hl,h,Frame.finish])
theorem S1 {b:FB}{tmps:Array Value}{k:List Item}{fo:Operand}{ps:Array Tmp}{asg body:Code}{l:Nat}{mark:List Deferred}{w1:World}{g:FuncId}{args:Array Value}
 (h1:(Instr.enterLoop b.fn tmps ps asg body b.Cd).run P w=.ok (l,mark) w1)
 (h2:(do let d ← resolve (Dg tmps) { callee:=.value fo,args:=#[.const (.func (.yield l) #[] #[])],argTypes:=#[] } 0;invoke d.target d.args:Sem Next).run P w1=.ok (.enter g args) w1) :
 step P (lone (b.at tmps (.code (.rangeFunc fo ps asg body)::k)) cs w)=.next (lone (Frame.enter P g args .normal) ((FB.mk b.fn (mark++b.defers) b.Cd).at tmps (.inRangeFunc l::k)::cs) w1):=by
 refine step_lone_go ?_
 have he:=FB.eval_at (FB.mk b.fn (mark++b.defers) b.Cd) tmps (.inRangeFunc l::k)
 simp only[FB.at]at he
 simp only[stepG,stepG.exec,FB.at,Sem.runT_eq,h1,GStep.bare_after,stepG.apply,he]
 rw[h2]
 simp
theorem Acb {b:FB}{tmps:Array Value}{k:List Item}{l:Nat}{jump:Option Code}{w1:World}(h1:(Instr.endLoop l).run P w=.ok jump w1):
 step P (lone (b.at tmps (.endRangeFunc l::k)) cs w)=.next (lone (b.at tmps ((jump.map Item.code).toList++k)) cs w1):=
 step_lone_go (by simp[stepG,stepG.exec,FB.at,h1])
theorem Ab9(rp:Gz f h w){l:Nat}{st:LoopState}(hst:st ≠ .busy){pd:Option Code}{fn n:Nat}{tm:Ag}{ps:List Tmp}{asg body:Code}{d:Nat}(hg:h.get l=some (.loop st pd fn n tm ps asg body d)):
 (Instr.endLoop (f.b l)).run P w=.ok pd { w with heap:=w.heap.setIfInBounds (f.b l) (.loop ⟨.exhausted,pd,fn,Ap f n tm,ps.toArray,asg,body,f.b d⟩) }:=by
 obtain⟨h1,h2⟩:=Mm (P:=P) rp hg
 have hs:=F0 (P:=P) (o':=.loop ⟨.exhausted,pd,fn,Ap f n tm,ps.toArray,asg,body,f.b d⟩) h2 (by intros;simp)
 have hb:(st == .busy)=false:=by cases st <;> first|rfl|exact absurd rfl hst
 simp only[Instr.endLoop,Sem.run_bind,h1,Result.andThen_ok,hb,Bool.false_eq_true,if_false,Sem.run_pure,hs]
theorem Aaa(hC:Li P call){fn n:Nat}{tm:Ag}{ds:List Nat}{Cd:Option Nat}{l:Nat}{k:List Item}{g:Nat}{args:List EV}{s':C4}
 (hop:behind fn n tm ds Cd l k (call g args h)=.go s') (hh:Gr p h) (rp:Gz f h w) (ha:EV.Gx p args) (hf:Io p ⟨fn,n,tm,k,ds,false,Cd⟩) :
 (∃ gn,P.funcs[g]? = some gn/\gn.body.isSome=true/\(gn.name == "runtime.NumGoroutine")=false)/\∃ f' w',p l ->
  Steps P (lone (Frame.enter P g (Av f args).toArray .normal) ((FB.mk fn (ds.map (Dl f)) (Cd.map f.b)).at (Ap f n tm) (.inRangeFunc (f.b l)::k)::cs) w) (lone (E3 f' s'.fr) cs w') /\
  Move p f h w f' s'.h w'/\Wf p h s'.h/\Io (grow p h s'.h) s'.fr/\s'.fr.fn=fn/\s'.fr.Cd=Cd:=by
 unfold behind at hop
 split at hop
 ·cases hop
 ·rename_i v h1 hcall
  obtain⟨hfn,hc⟩:=hC _ _ _ _ _ hcall
  refine⟨hfn,?_⟩
  split at hop
  ·rename_i st pd fn' n' tm' ps asg body d hg
   have key:st ≠ .busy->∀ todo:List Item,todo=(pd.map Item.code).toList++k->(AR.go ⟨⟨fn,n,tm,todo,ds,false,Cd⟩,h1.put l (.loop .exhausted pd fn' n' tm' ps asg body d)⟩=.go s')->∃ f' w',p l ->
    Steps P (lone (Frame.enter P g (Av f args).toArray .normal) ((FB.mk fn (ds.map (Dl f)) (Cd.map f.b)).at (Ap f n tm) (.inRangeFunc (f.b l)::k)::cs) w) (lone (E3 f' s'.fr) cs w') /\
    Move p f h w f' s'.h w'/\Wf p h s'.h/\Io (grow p h s'.h) s'.fr/\s'.fr.fn=fn/\s'.fr.Cd=Cd:=by
    intro hst todo htodo e
    cases e
    obtain⟨fr,f1,w1,hs,hfr,hl,hm,hwf,hvo⟩:=hc p f w hh rp ha ((FB.mk fn (ds.map (Dl f)) (Cd.map f.b)).at (Ap f n tm) (.inRangeFunc (f.b l)::k)::cs)
    have hgrow:Io (grow p h h1) ⟨fn,n,tm,k,ds,false,Cd⟩:=hf.mono fun _ hi=>.inl hi
    obtain⟨m1,m2⟩:=Aaw (st':=.exhausted) (pd':=pd) hwf.Lj hm.rep hg
    have hnx:grow p h (h1.put l (.loop .exhausted pd fn' n' tm' ps asg body d))=grow p h h1:=by
     funext q;simp only[grow,Ac.Aco]
    refine⟨f1,_,fun hpl=>⟨hs.trans (.head (step_leave_returned hl) (.one ?_)),hm.trans m1,hwf.trans m2,?_,rfl,rfl⟩⟩
    ·have e1:((FB.mk fn (ds.map (Dl f)) (Cd.map f.b)).at (Ap f n tm) (.inRangeFunc (f.b l)::k)).finish (Be f1 v)=(FB.mk fn (ds.map (Dl f1)) (Cd.map f1.b)).at (Ap f1 n tm) (.endRangeFunc (f1.b l)::k):=by
      have:=Oc hm.agree hf
      simp only[Ae5]at this
      rw[this,hm.Ap hf.tm,(hm.agree l hpl).1]
      rfl
     rw[e1,Acb (Ab9 hm.rep hst hg),<-htodo]
     rfl
    ·rw[hnx]
     exact⟨hgrow.tm,hgrow.dfr,hgrow.Cd,fun x=>by cases x⟩
   split at hop
   ·cases hop
   ·rename_i hne;exact key hne _ (by cases pd <;> rfl) hop
  ·cases hop
end
end Go.Ev

namespace Go.Ev
section
variable {P:Program}{T:Cr}(hT:Fi P T){call round:Ae}(hC:Li P call)(hR:On P round)(wC:H2 call)(wR:H2 round)
include wC wR in
theorem Aaj {s:C4}{h':Ac}(hop:(∃ s',Bi T call round s=.go s'/\s'.h=h')\/∃ v,Bi T call round s=.done v h'):Rd s.h h':=by
 obtain⟨⟨fn,n,tm,todo,ds,ret,Cd⟩,h⟩:=s
 have hleave:∀ {todo:List Item} {jump:Option Code} {h':Ac},((∃ s',leave fn n tm todo ds Cd h jump=.go s'/\s'.h=h')\/∃ v,leave fn n tm todo ds Cd h jump=.done v h')->Rd h h':=by
  intro todo jump h' hl
  rcases hl with ⟨s',h1,h2⟩|⟨v,h1⟩
  ·obtain⟨_,e,_⟩:=Yn h1
   rw[e]at h2;subst h2;exact .refl _
  ·unfold leave at h1
   split at h1
   ·split at h1 <;> cases h1
   ·split at h1
    ·rename_i hg
     split at h1
     ·cases h1;exact .put hg _
     ·cases h1;exact .put hg _
    ·cases h1
 cases ret with
 | true=>
  cases ds with
  | cons d ds=>
   simp only[Bi]at hop
   split at hop
   ·rename_i hg
    rcases hop with ⟨s',e,rfl⟩|⟨v,e⟩
    ·cases e;exact .put hg _
    ·cases e
   ·rcases hop with ⟨s',e,_⟩|⟨v,e⟩ <;> cases e
  | nil=>
   simp only[Bi]at hop
   rcases hop with ⟨s',e,rfl⟩|⟨v,e⟩
   ·split at e
    ·split at e <;> cases e
    ·cases e
   ·split at e
    ·split at e <;> first|(cases e;done)|(cases e;exact .refl _)
    ·cases e
 | false=>
  cases todo with
  | nil=>simp only[Bi]at hop;exact hleave hop
  | cons it k=>
   have triv:∀ {s0:C4},((∃ s',AR.go s0=.go s'/\s'.h=h')\/∃ v,AR.go s0=.done v h')->s0.h=h':=by
    rintro s0 (⟨s',e,rfl⟩|⟨v,e⟩) <;> cases e
    rfl
   have nofail:((∃ s',AR.fail=.go s'/\s'.h=h')\/∃ v,AR.fail=.done v h')->Rd h h':=by
    rintro(⟨s',e,_⟩|⟨v,e⟩) <;> cases e
   have hbehind:∀ {ds':List Nat} {l g:Nat} {args:List EV} {h1:Ac},Rd h h1->((∃ s',behind fn n tm ds' Cd l k (call g args h1)=.go s'/\s'.h=h')\/∃ v,behind fn n tm ds' Cd l k (call g args h1)=.done v h')->Rd h h':=by
    intro ds' l g args h1 hw1 hb
    unfold behind at hb
    split at hb
    ·exact nofail hb
    ·rename_i v h2 hc
     split at hb
     ·rename_i hg
      split at hb
      ·exact nofail hb
      ·rw[<-triv hb]
       exact(hw1.trans (wC _ _ _ _ _ hc)).trans (.put hg _)
     ·exact nofail hb
   cases it with
   | code c=>
    cases c with
    | region id ops dr=>
     cases dr with
     | false=>
      simp only[Bi]at hop
      split at hop
      ·rename_i ho;rw[<-triv hop];exact Aew wC wR ho
      ·exact nofail hop
     | true=>
      simp only[Bi]at hop
      split at hop
      ·rename_i ho;rw[<-triv hop];exact Agi wC wR ho
      ·exact nofail hop
    | cond c a b=>
     simp only[Bi]at hop
     split at hop
     ·rw[<-triv hop];exact .refl _
     ·rw[<-triv hop];exact .refl _
     ·exact nofail hop
    | exit id=>
     simp only[Bi]at hop
     split at hop
     ·rw[<-triv hop];exact .refl _
     ·exact hleave hop
    | ret=>simp only[Bi]at hop;exact hleave hop
    | rangeFunc fo ps asg body=>
     simp only[Bi]at hop
     split at hop
     ·split at hop
      ·exact hbehind ((Rd.new _ _).trans (.new _ _)) hop
      ·split at hop
       ·exact hbehind (.new _ _) hop
       ·exact nofail hop
     ·exact nofail hop
    | seq a b=>simp only[Bi]at hop;rw[<-triv hop];exact .refl _
    | skip=>simp only[Bi]at hop;rw[<-triv hop];exact .refl _
    | block id c=>simp only[Bi]at hop;rw[<-triv hop];exact .refl _
    | loop c=>simp only[Bi]at hop;rw[<-triv hop];exact .refl _
    | label l=>simp only[Bi]at hop;rw[<-triv hop];exact .refl _
    | scope c=>simp only[Bi]at hop;exact nofail hop
    | goto c=>simp only[Bi]at hop;exact nofail hop
    | refuse c=>simp only[Bi]at hop;exact nofail hop
   | inBlock id=>simp only[Bi]at hop;rw[<-triv hop];exact .refl _
   | inLoop c=>simp only[Bi]at hop;rw[<-triv hop];exact .refl _
   | beginRound=>
    simp only[Bi]at hop
    split at hop
    ·split at hop
     ·rename_i hg;rw[<-triv hop];exact .put hg _
     ·exact nofail hop
    ·exact nofail hop
   | _=>simp only[Bi]at hop;exact nofail hop
theorem Sk.run {p:Nat->Prop}{f:Loc}{w:World}{cs:List Frame}{h h':Ac}{fn n:Nat}{tm tm':Ag}{todo todo':List Item}{ds ds':List Nat}{Cd:Option Nat}{f':Loc}{w':World}
 (hs:Steps P (lone ((FB.mk fn (ds.map (Dl f)) (Cd.map f.b)).at (Ap f n tm) todo) cs w) (lone ((FB.mk fn (ds'.map (Dl f')) (Cd.map f'.b)).at (Ap f' n tm') todo') cs w'))
 (hm:Move p f h w f' h' w') (hwf:Wf p h h') (hfo:Io (grow p h h') ⟨fn,n,tm',todo',ds',false,Cd⟩):Sk P p f w cs ⟨⟨fn,n,tm,todo,ds,false,Cd⟩,h⟩ ⟨⟨fn,n,tm',todo',ds',false,Cd⟩,h'⟩:=
 ⟨f',w',hs,hm,hwf,hfo,rfl,rfl⟩
theorem Sk.I6 {p:Nat->Prop}{f:Loc}{w:World}{cs:List Frame}{h:Ac}{fn n:Nat}{tm:Ag}{todo todo':List Item}{ds:List Nat}{Cd:Option Nat}(hh:Gr p h)(rp:Gz f h w)(hf:Io p ⟨fn,n,tm,todo,ds,false,Cd⟩)
 (hs:step P (lone ((FB.mk fn (ds.map (Dl f)) (Cd.map f.b)).at (Ap f n tm) todo) cs w)=.next (lone ((FB.mk fn (ds.map (Dl f)) (Cd.map f.b)).at (Ap f n tm) todo') cs w)) :
 Sk P p f w cs ⟨⟨fn,n,tm,todo,ds,false,Cd⟩,h⟩ ⟨⟨fn,n,tm,todo',ds,false,Cd⟩,h⟩:=
 Sk.run (.one hs) (Move.refl rp) (Wf.refl hh) (by rw[Dw _ _ _ rfl];exact⟨hf.tm,hf.dfr,hf.Cd,fun x=>by cases x⟩)
variable {p:Nat->Prop}{f:Loc}{w:World}
theorem Zz {cs:List Frame}{h:Ac}{fn n:Nat}{tm:Ag}{ds:List Nat}{Cd:Option Nat}{s':C4}(hh:Gr p h)(rp:Gz f h w){todo:List Item}{jump:Option Code}(hf:Io p ⟨fn,n,tm,todo,ds,false,Cd⟩)
 (hl:leave fn n tm todo ds Cd h jump=.go s') (h1:jump=none->todo = []) (h2:jump=some .ret->∃ k,todo=.code .ret::k):Sk P p f w cs ⟨⟨fn,n,tm,todo,ds,false,Cd⟩,h⟩ s':=by
 obtain⟨rfl,rfl,hj⟩:=Yn hl
 refine Sk.stay hh rp ?_ ⟨hf.tm,hf.dfr,hf.Cd,fun _=>rfl⟩ rfl rfl
 rw[P5,Qa]
 rcases hj with rfl|rfl
 ·rw[h1 rfl];exact .one (Au2 rfl)
 ·obtain⟨k,rfl⟩:=h2 rfl;exact .one (Auw rfl)
include hT hC hR in
theorem Aer {cs:List Frame}{h h':Ac}{fn n id:Nat}{tm tm':Ag}{ds:List Nat}{Cd:Option Nat}{k:List Item}{ops:Array Oper}(hh:Gr p h)(rp:Gz f h w)(hf:Io p ⟨fn,n,tm,k,ds,false,Cd⟩)
 (ho:Oq T call round n ops.toList ops.toList tm h=some (tm',h')):Sk P p f w cs ⟨⟨fn,n,tm,.code (.region id ops false)::k,ds,false,Cd⟩,h⟩ ⟨⟨fn,n,tm',k,ds,false,Cd⟩,h'⟩:=by
 obtain⟨f',w',hs,hm,hwf,ht'⟩:=Aa1 hT hC hR ops (i:=0) rfl hf.tm hh rp ho (FB.mk fn (ds.map (Dl f)) (Cd.map f.b)) k cs
 have e:=Oc hm.agree hf
 simp only[Ae5]at e
 refine Sk.run (f':=f') (w':=w') ?_ hm hwf ?_
 ·refine .head Ahl (.trans ?_ (.one (Vz (ops:=ops))))
  rw[<-e]
  have e2:List.range' 0 (List.drop 0 ops.toList).length=List.range ops.size:=by rw[List.range_eq_range'];simp
  have hs':Steps P _ _:=hs
  rw[e2]at hs'
  exact hs'
 ·have:=hf.mono (q:=grow p h h') fun _ hi=>.inl hi
  exact⟨ht',this.dfr,this.Cd,fun x=>by cases x⟩
include hT hC hR wC wR in
theorem Aor {cs:List Frame}{h h':Ac}{fn n id:Nat}{tm tm':Ag}{ds:List Nat}{Cd:Option Nat}{k:List Item}{ops:Array Oper}(hh:Gr p h)(rp:Gz f h w)(hf:Io p ⟨fn,n,tm,k,ds,false,Cd⟩)
 (ho:Ru T call round n ops.toList tm h=some (tm',h')):Sk P p f w cs ⟨⟨fn,n,tm,.code (.region id ops true)::k,ds,false,Cd⟩,h⟩ ⟨⟨fn,n,tm',k,ds,false,Cd⟩,h'⟩:=by
 obtain⟨f',w',hs,hm,hwf,ht'⟩:=Ajp hT hC hR wC wR hf.tm hh rp ho (FB.mk fn (ds.map (Dl f)) (Cd.map f.b)) (w.tape w.drawn (.order fn id)) k cs (w.drawn+1)
 have e:=Oc hm.agree hf
 simp only[Ae5]at e
 refine Sk.run (f':=f') (w':=w') ?_ hm hwf ?_
 ·refine .head (Apl hT.mixed) (.trans ?_ (.one (Vz (ops:=ops))))
  rw[<-e]
  exact hs
 ·have:=hf.mono (q:=grow p h h') fun _ hi=>.inl hi
  exact⟨ht',this.dfr,this.Cd,fun x=>by cases x⟩
theorem Z1 {g:Nat}{first captured:List EV}{n:Nat}{tm:Ag}{fo:Operand}(ht:Ec p n tm)(hfo:Bb tm fo=some (.func g first captured))(l:Nat)(w1:World)(gn:Func)(h1:P.funcs[g]? = some gn)(h2:gn.body.isSome=true)(h3:(gn.name == "runtime.NumGoroutine")=false):
 (do let d ← resolve (Dg (Ap f n tm)) { callee:=.value fo,args:=#[.const (.func (.yield l) #[] #[])],argTypes:=#[] } 0;invoke d.target d.args:Sem Next).run P w1 =
  .ok (.enter g ((Av f first).toArray ++ #[.func (.yield l) #[] #[]]++(Av f captured).toArray)) w1:=by
 have hr:=Gt (f:=f) ht
 have hb:¬ gn.body=none:=by cases hx:gn.body <;> simp_all
 have hn:¬ gn.name = "runtime.NumGoroutine":=by simpa using h3
 have hcst:Dg (Ap f n tm) (.const (.func (.yield l) #[] #[]))=.func (.yield l) #[] #[]:=rfl
 simp[resolve,Ar hr hfo,Be,Deferred.ofValue,invoke,callFunc,h1,hn,hb,hcst]
include hC in
theorem Aho {cs:List Frame}{h:Ac}{fn n:Nat}{tm:Ag}{ds:List Nat}{k:List Item}{fo:Operand}{ps:Array Tmp}{asg body:Code}{g:Nat}{first captured:List EV}{s':C4}(hh:Gr p h)(rp:Gz f h w)(hf:Io p ⟨fn,n,tm,k,ds,false,none⟩)
 (hfo:Bb tm fo=some (.func g first captured))
 (hop:behind fn n tm (h.next::ds) none (Nat.succ h.next) k (call g (first++(.U9 (Nat.succ h.next)::captured)) ((h.new (.deferred true)).new (.loop .ready none fn n tm ps.toList asg body h.next)))=.go s') :
 Sk P p f w cs ⟨⟨fn,n,tm,.code (.rangeFunc fo ps asg body)::k,ds,false,none⟩,h⟩ s':=by
 have hfok:=B4 (v:=.func g first captured) hf.tm hfo
 have hd1:(A9.deferred true).ok (grow p h (h.new (.deferred true))):=trivial
 have m1:Move p f h w (f.set h.next w.heap.size 0) (h.new (.deferred true)) { w with heap:=w.heap.push (.deferred (some [])) }:=Move.new hh rp 0 rfl rfl rfl rfl rfl
 have wf1:Wf p h (h.new (.deferred true)):=Wf.new hh hd1
 have ag1:Ap f n tm=Ap (f.set h.next w.heap.size 0) n tm:=D5 m1.agree hf.tm
 have hp1:grow p h (h.new (.deferred true)) h.next:=.inr ⟨Nat.le_refl _,by rw[Ac.B6];omega⟩
 have hlok:(A9.loop .ready none fn n tm ps.toList asg body h.next).ok (grow p h (h.new (.deferred true))):=⟨hf.tm.mono fun _ hi=>.inl hi,hp1⟩
 have m2:Move (grow p h (h.new (.deferred true))) (f.set h.next w.heap.size 0) (h.new (.deferred true)) { w with heap:=w.heap.push (.deferred (some [])) }
  ((f.set h.next w.heap.size 0).set (h.next+1) (w.heap.size+1) 0) ((h.new (.deferred true)).new (.loop .ready none fn n tm ps.toList asg body h.next))
  { w with heap:=(w.heap.push (.deferred (some []))).push (.loop ⟨.ready,none,fn,Ap f n tm,ps,asg,body,w.heap.size⟩) }:=by
  have hx:=Move.new (w':={ w with heap:=(w.heap.push (.deferred (some []))).push (.loop ⟨.ready,none,fn,Ap f n tm,ps,asg,body,w.heap.size⟩) }) (o:=.loop .ready none fn n tm ps.toList asg body h.next) (r:=.loop ⟨.ready,none,fn,Ap f n tm,ps,asg,body,w.heap.size⟩) wf1.Lj m1.rep 0 rfl ?_ rfl rfl rfl
  ·have e1:(h.new (.deferred true)).next=h.next+1:=rfl
   have e2:({ w with heap:=w.heap.push (.deferred (some [])) }:World).heap.size=w.heap.size+1:=by simp
   rw[e1,e2]at hx
   exact hx
  ·have ag2:Ap f n tm=Ap ((f.set h.next w.heap.size 0).set (h.new (.deferred true)).next ({ w with heap:=w.heap.push (.deferred (some [])) }:World).heap.size 0) n tm:=by
    rw[ag1]
    exact D5 (Loc.Ep _ _ _ (fun x=>absurd (wf1.Lj.lt _ x) (by omega))) (hf.tm.mono fun _ hi=>.inl hi)
   show Obj.loop _=Obj.loop _
   rw[<-ag2,Array.toArray_toList]
   have e3:((f.set h.next w.heap.size 0).set (h.new (.deferred true)).next ({ w with heap:=w.heap.push (.deferred (some [])) }:World).heap.size 0).b h.next=w.heap.size:=by
    rw[(Loc.G8 _ _ _ (by rw[Ac.B6];omega)).1,Loc.Ie]
   rw[e3]
 have wf2:Wf (grow p h (h.new (.deferred true))) (h.new (.deferred true)) ((h.new (.deferred true)).new (.loop .ready none fn n tm ps.toList asg body h.next)):=Wf.new wf1.Lj (hlok.mono fun _ hi=>.inl hi)
 have m12:=m1.trans m2
 have wf12:=wf1.trans wf2
 generalize hf2:(f.set h.next w.heap.size 0).set (h.next+1) (w.heap.size+1) 0=f2 at m2 m12
 have eb1:f2.b h.next=w.heap.size:=by rw[<-hf2,(Loc.G8 _ _ _ (by omega)).1,Loc.Ie]
 have eb2:f2.b (h.next+1)=w.heap.size+1:=by rw[<-hf2,Loc.Ie]
 have hpd:grow p h ((h.new (.deferred true)).new (.loop .ready none fn n tm ps.toList asg body h.next)) h.next:=.inr ⟨Nat.le_refl _,by rw[Ac.B6,Ac.B6];omega⟩
 have hpl:grow p h ((h.new (.deferred true)).new (.loop .ready none fn n tm ps.toList asg body h.next)) (h.next+1):=.inr ⟨by omega,by rw[Ac.B6,Ac.B6];omega⟩
 have hargs:EV.Gx (grow p h ((h.new (.deferred true)).new (.loop .ready none fn n tm ps.toList asg body h.next))) (first++(.U9 (Nat.succ h.next)::captured)):=
  Iw (Gl hfok.1) ⟨hpl,Gl hfok.2⟩
 have hfr2:Io (grow p h ((h.new (.deferred true)).new (.loop .ready none fn n tm ps.toList asg body h.next))) ⟨fn,n,tm,k,h.next::ds,false,none⟩:=by
  refine⟨hf.tm.mono fun _ hi=>.inl hi,fun d hd=>?_,fun l hl=>(by cases hl),fun x=>(by cases x)⟩
  rcases List.mem_cons.1 hd with rfl|hd
  ·exact hpd
  ·exact .inl (hf.dfr d hd)
 obtain⟨⟨gn,g1,g2,g3⟩,f',w',hb⟩:=Aaa (cs:=cs) hC hop wf12.Lj m12.rep hargs hfr2
 obtain⟨hs,hm,hwf,hfo',hfn',hrn'⟩:=hb hpl
 refine⟨f',w',?_,m12.trans hm,wf12.trans hwf,?_,hfn',hrn'⟩
 ·rw[P5]
  refine .head ?_ hs
  have hst:=S1 (P:=P) (b:=FB.mk fn (ds.map (Dl f)) none) (k:=k) (cs:=cs) (w:=w) (fo:=fo) (ps:=ps) (asg:=asg) (body:=body) (tmps:=Ap f n tm)
   (l:=w.heap.size+1) (mark:=[{ target:=.collected w.heap.size,args:=#[] }]) (w1:={ w with heap:=(w.heap.push (.deferred (some []))).push (.loop ⟨.ready,none,fn,Ap f n tm,ps,asg,body,w.heap.size⟩) })
   (g:=g) (args:=(Av f first).toArray ++ #[.func (.yield (w.heap.size+1)) #[] #[]]++(Av f captured).toArray) (by simp[Instr.enterLoop];rfl) (Z1 hf.tm hfo _ _ gn g1 g2 g3)
  have e1:Av f2 (first++(.U9 (Nat.succ h.next)::captured))=Av f first++(.func (.yield (w.heap.size+1)) #[] #[]::Av f captured):=by
   rw[Ge,Av,<-Cm m12.agree _ hfok.1,<-Cm m12.agree _ hfok.2]
   simp only[Be]
   rw[show f2.b (Nat.succ h.next)=w.heap.size+1 from eb2]
  have e2:(Ap f n tm)=Ap f2 n tm:=D5 m12.agree hf.tm
  have e3:ds.map (Dl f)=ds.map (Dl f2):=by
   apply List.map_congr_left
   intro d hd
   unfold Dl;rw[(m12.agree d (hf.dfr d hd)).1]
  rw[e1,<-e2,List.map_cons,<-e3]
  have e4:Dl f2 h.next = { target:=.collected w.heap.size,args:=#[] }:=by unfold Dl;rw[eb1]
  rw[e4,show f2.b (Nat.succ h.next)=w.heap.size+1 from eb2]
  have e5:((Av f first).toArray ++ #[Value.func (.yield (w.heap.size+1)) #[] #[]]++(Av f captured).toArray)=(Av f first++(.func (.yield (w.heap.size+1)) #[] #[]::Av f captured)).toArray:=by simp
  rw[e5]at hst
  exact hst
 ·exact hfo'.mono fun q hq=>by rw[Ky p wf12.next hwf.next]at hq;exact hq
include hC in
theorem Ada {cs:List Frame}{h:Ac}{fn n l0:Nat}{tm:Ag}{ds:List Nat}{k:List Item}{fo:Operand}{ps:Array Tmp}{asg body:Code}{g:Nat}{first captured:List EV}{s':C4}(hh:Gr p h)(rp:Gz f h w)(hf:Io p ⟨fn,n,tm,k,ds,false,some l0⟩)
 (hfo:Bb tm fo=some (.func g first captured)) {st0:LoopState} {pd0:Option Code} {fn0 n0:Nat} {tm0:Ag} {ps0:List Tmp} {asg0 body0:Code} {d0:Nat} (hg0:h.get l0=some (.loop st0 pd0 fn0 n0 tm0 ps0 asg0 body0 d0))
 (hop:behind fn n tm ds (some l0) h.next k (call g (first++(.U9 h.next::captured)) (h.new (.loop .ready none fn n tm ps.toList asg body d0)))=.go s') :
 Sk P p f w cs ⟨⟨fn,n,tm,.code (.rangeFunc fo ps asg body)::k,ds,false,some l0⟩,h⟩ s':=by
 have hfok:=B4 (v:=.func g first captured) hf.tm hfo
 have hd0:p d0:=(hh.get l0 _ hg0).2.2
 have m1:Move p f h w (f.set h.next w.heap.size 0) (h.new (.loop .ready none fn n tm ps.toList asg body d0)) { w with heap:=w.heap.push (.loop ⟨.ready,none,fn,Ap f n tm,ps,asg,body,f.b d0⟩) }:=by
  refine Move.new hh rp 0 rfl ?_ rfl rfl rfl
  show Obj.loop _=Obj.loop _
  rw[<-D5 (Loc.Ep f _ _ hh.fresh) hf.tm,Array.toArray_toList,(Loc.Ep f w.heap.size 0 hh.fresh d0 hd0).1]
 have wf1:Wf p h (h.new (.loop .ready none fn n tm ps.toList asg body d0)):=Wf.new hh ⟨hf.tm.mono fun _ hi=>.inl hi,.inl hd0⟩
 generalize hf2:f.set h.next w.heap.size 0=f2 at m1
 have eb:f2.b h.next=w.heap.size:=by rw[<-hf2,Loc.Ie]
 have hpl:grow p h (h.new (.loop .ready none fn n tm ps.toList asg body d0)) h.next:=.inr ⟨Nat.le_refl _,by rw[Ac.B6];omega⟩
 have hargs:EV.Gx (grow p h (h.new (.loop .ready none fn n tm ps.toList asg body d0))) (first++(.U9 h.next::captured)):=Iw (Gl hfok.1) ⟨hpl,Gl hfok.2⟩
 have hfr2:Io (grow p h (h.new (.loop .ready none fn n tm ps.toList asg body d0))) ⟨fn,n,tm,k,ds,false,some l0⟩:=hf.mono fun _ hi=>.inl hi
 obtain⟨⟨gn,g1,g2,g3⟩,f',w',hb⟩:=Aaa (cs:=cs) hC hop wf1.Lj m1.rep hargs hfr2
 obtain⟨hs,hm,hwf,hfo',hfn',hrn'⟩:=hb hpl
 refine⟨f',w',?_,m1.trans hm,wf1.trans hwf,?_,hfn',hrn'⟩
 ·rw[P5]
  refine .head ?_ hs
  obtain⟨gl1,gl2⟩:=Mm (P:=P) rp hg0
  have hst:=S1 (P:=P) (b:=FB.mk fn (ds.map (Dl f)) (some (f.b l0))) (k:=k) (cs:=cs) (w:=w) (fo:=fo) (ps:=ps) (asg:=asg) (body:=body) (tmps:=Ap f n tm)
   (l:=w.heap.size) (mark:=[]) (w1:={ w with heap:=w.heap.push (.loop ⟨.ready,none,fn,Ap f n tm,ps,asg,body,f.b d0⟩) })
   (g:=g) (args:=(Av f first).toArray ++ #[.func (.yield w.heap.size) #[] #[]]++(Av f captured).toArray) (by simp[Instr.enterLoop,gl1]) (Z1 hf.tm hfo _ _ gn g1 g2 g3)
  have e1:Av f2 (first++(.U9 h.next::captured))=Av f first++(.func (.yield w.heap.size) #[] #[]::Av f captured):=by
   rw[Ge,Av,<-Cm m1.agree _ hfok.1,<-Cm m1.agree _ hfok.2]
   simp only[Be]
   rw[eb]
  have e2:=Oc m1.agree hf
  simp only[Ae5]at e2
  rw[e1,<-e2,eb,<-D5 m1.agree hf.tm]
  have e5:((Av f first).toArray ++ #[Value.func (.yield w.heap.size) #[] #[]]++(Av f captured).toArray)=(Av f first++(.func (.yield w.heap.size) #[] #[]::Av f captured)).toArray:=by simp
  rw[e5]at hst
  exact hst
 ·exact hfo'.mono fun q hq=>by rw[Ky p wf1.next hwf.next]at hq;exact hq
include hT hC hR wC wR in
theorem Am1 {s s':C4}(hop:Bi T call round s=.go s')(hf:Io p s.fr)(hh:Gr p s.h)(rp:Gz f s.h w)(cs:List Frame):Sk P p f w cs s s':=by
 obtain⟨⟨fn,n,tm,todo,ds,ret,Cd⟩,h⟩:=s
 cases ret with
 | true=>
  have hrn:Cd=none:=hf.ret rfl
  subst hrn
  cases ds with
  | cons d ds=>
   simp only[Bi]at hop
   split at hop
   ·rename_i hg
    cases hop
    obtain⟨r0,hr0,rfl⟩:=rp.obj d _ hg
    have hrun:(Instr.takeDeferred (f.b d)).run P w=.ok [] { w with heap:=w.heap.setIfInBounds (f.b d) (.deferred none) }:=by
     have h1:=E1 (P:=P) hr0 (by intros;simp)
     have h2:=F0 (P:=P) (o':=.deferred none) hr0 (by intros;simp)
     simp only[if_true]at h1
     simp only[Instr.takeDeferred,Sem.run_bind,h1,Result.andThen_ok,h2,Sem.run_pure]
    have hm:Move p f h w f (h.put d (.deferred false)) { w with heap:=w.heap.setIfInBounds (f.b d) (.deferred none) }:=Move.setObj rp hg rfl
    have hwf:Wf p h (h.put d (.deferred false)):=Wf.put hh hg trivial
    refine⟨f,_,.one ?_,hm,hwf,?_,rfl,rfl⟩
    ·rw[Qa,Qa];exact Aif hrun
    ·exact Io.mono (p:=p) ⟨hf.tm,fun x hx=>hf.dfr x (List.mem_cons_of_mem _ hx),hf.Cd,fun _=>rfl⟩ fun _ hi=>.inl hi
   ·cases hop
  | nil=>
   simp only[Bi]at hop
   split at hop
   ·split at hop <;> cases hop
   ·cases hop
 | false=>
  have hr:=Gt (f:=f) hf.tm
  have hk:∀ {it:Item} {k:List Item},Io p ⟨fn,n,tm,it::k,ds,false,Cd⟩->Io p ⟨fn,n,tm,k,ds,false,Cd⟩:=fun h=>⟨h.tm,h.dfr,h.Cd,h.ret⟩
  cases todo with
  | nil=>simp only[Bi]at hop;exact Zz hh rp hf hop (fun _=>rfl) (fun e=>by cases e)
  | cons it k=>
   cases it with
   | code c=>
    cases c with
    | region id ops dr=>
     cases dr with
     | false=>
      simp only[Bi]at hop
      split at hop
      ·rename_i ho;cases hop;exact Aer hT hC hR hh rp (hk hf) ho
      ·cases hop
     | true=>
      simp only[Bi]at hop
      split at hop
      ·rename_i ho;cases hop;exact Aor hT hC hR wC wR hh rp (hk hf) ho
      ·cases hop
    | cond c a b=>
     simp only[Bi]at hop
     split at hop
     ·rename_i hc;cases hop;exact Sk.I6 hh rp hf (Agn (t:=true) (by rw[Ar hr hc];rfl))
     ·rename_i hc;cases hop;exact Sk.I6 hh rp hf (Agn (t:=false) (by rw[Ar hr hc];rfl))
     ·cases hop
    | exit id=>
     simp only[Bi]at hop
     split at hop
     ·rename_i he;cases hop;exact Sk.I6 hh rp hf (Aqz he)
     ·obtain⟨_,_,hj⟩:=Yn hop
      rcases hj with hj|hj <;> cases hj
    | ret=>simp only[Bi]at hop;exact Zz hh rp hf hop (fun e=>by cases e) (fun _=>⟨k,rfl⟩)
    | rangeFunc fo ps asg body=>
     simp only[Bi]at hop
     split at hop
     ·rename_i g first captured hfo
      split at hop
      ·exact Aho hC hh rp (hk hf) hfo hop
      ·split at hop
       ·rename_i hg0;exact Ada hC hh rp (hk hf) hfo hg0 hop
       ·cases hop
     ·cases hop
    | seq a b=>simp only[Bi]at hop;cases hop;exact Sk.I6 hh rp hf Aux
    | skip=>simp only[Bi]at hop;cases hop;exact Sk.I6 hh rp hf Aq1
    | block id c=>simp only[Bi]at hop;cases hop;exact Sk.I6 hh rp hf Ai3
    | loop c=>simp only[Bi]at hop;cases hop;exact Sk.I6 hh rp hf Apj
    | label l=>simp only[Bi]at hop;cases hop;exact Sk.I6 hh rp hf An7
    | scope c=>simp only[Bi]at hop;cases hop
    | goto c=>simp only[Bi]at hop;cases hop
    | refuse c=>simp only[Bi]at hop;cases hop
   | inBlock id=>simp only[Bi]at hop;cases hop;exact Sk.I6 hh rp hf Afb
   | inLoop c=>simp only[Bi]at hop;cases hop;exact Sk.I6 hh rp hf Ahn
   | beginRound=>
    simp only[Bi]at hop
    split at hop
    ·rename_i l
     split at hop
     ·rename_i pd fn' n' tm' ps asg body d hg
      cases hop
      obtain⟨h1,h2⟩:=Mm (P:=P) rp hg
      obtain⟨m1,wf1⟩:=Aaw (st':=.busy) (pd':=pd) hh rp hg
      have hs:=F0 (P:=P) (o':=.loop ⟨.busy,pd,fn',Ap f n' tm',ps.toArray,asg,body,f.b d⟩) h2 (by intros;simp)
      have hrun:(Instr.beginRound (f.b l)).run P w=.ok () { w with heap:=w.heap.setIfInBounds (f.b l) (.loop ⟨.busy,pd,fn',Ap f n' tm',ps.toArray,asg,body,f.b d⟩) }:=by
       simp only[Instr.beginRound,Sem.run_bind,h1,Result.andThen_ok,hs,Sem.run_pure]
      exact Sk.run (.one (Zc (b:=FB.mk fn (ds.map (Dl f)) (some (f.b l))) rfl hrun)) m1 wf1 ((hk hf).mono fun _ hi=>.inl hi)
     ·cases hop
    ·cases hop
   | _=>simp only[Bi]at hop;cases hop
end
end Go.Ev

namespace Go.Ev
section
variable {P:Program}{T:Cr}(hT:Fi P T){call round:Ae}(hC:Li P call)(hR:On P round)(wC:H2 call)(wR:H2 round)
variable {p:Nat->Prop}{f:Loc}{w:World}
include hT in
theorem W4 {s:C4}{v:EV}{h':Ac}(hop:Bi T call round s=.done v h')(hf:Io p s.fr)(hh:Gr p s.h)(rp:Gz f s.h w):Fin P p f w s v h':=by
 obtain⟨⟨fn,n,tm,todo,ds,ret,Cd⟩,h⟩:=s
 cases ret with
 | true=>
  have hrn:Cd=none:=hf.ret rfl
  subst hrn
  cases ds with
  | cons d ds=>
   simp only[Bi]at hop
   split at hop <;> cases hop
  | nil=>
   simp only[Bi]at hop
   split at hop
   ·rename_i fnc hfn
    have key:∀ {vs:List EV} {v:EV},Dt T tm h fnc.results.toList=some vs->(vs = [v]\/((∀ x,vs ≠ [x])/\v=.tuple vs))->Fin P p f w ⟨⟨fn,n,tm,todo,[],true,none⟩,h⟩ v h:=by
     intro vs v h1 h2
     obtain⟨r1,r2⟩:=Ac8 hT hh rp hf.tm h1 h2
     exact⟨rfl,⟨rfl,rfl,rfl,fnc,(hT.fn fn fnc hfn).1,r1⟩,r2⟩
    split at hop
    ·rename_i hr;cases hop;exact key hr (.inl rfl)
    ·rename_i l hne hr;cases hop;exact key hr (.inr ⟨fun x e=>by subst e;exact hne x rfl,rfl⟩)
    ·cases hop
   ·cases hop
 | false=>
  cases todo with
  | nil=>simp only[Bi]at hop;exact So hh rp hop (.inl ⟨rfl,rfl⟩)
  | cons it k=>
   have hbeh:∀ {ds':List Nat} {l:Nat} {r:Option (EV × Ac)},behind fn n tm ds' Cd l k r=.done v h'->False:=by
    intro ds' l r hb
    unfold behind at hb
    split at hb
    ·cases hb
    ·split at hb
     ·split at hb <;> cases hb
     ·cases hb
   cases it with
   | code c=>
    cases c with
    | region id ops dr=>cases dr <;> (simp only[Bi]at hop;split at hop <;> cases hop)
    | cond c a b=>simp only[Bi]at hop;split at hop <;> cases hop
    | exit id=>
     simp only[Bi]at hop
     split at hop
     ·cases hop
     ·rename_i he;exact So hh rp hop (.inr (.inr ⟨id,k,rfl,he,rfl⟩))
    | ret=>simp only[Bi]at hop;exact So hh rp hop (.inr (.inl ⟨k,rfl,rfl⟩))
    | rangeFunc fo ps asg body=>
     simp only[Bi]at hop
     split at hop
     ·split at hop
      ·exact(hbeh hop).elim
      ·split at hop
       ·exact(hbeh hop).elim
       ·cases hop
     ·cases hop
    | _=>simp only[Bi]at hop;cases hop
   | beginRound=>
    simp only[Bi]at hop
    split at hop
    ·split at hop <;> cases hop
    ·cases hop
   | _=>simp only[Bi]at hop;cases hop
theorem Sk.refl {cs:List Frame}{s:C4}(hf:Io p s.fr)(hh:Gr p s.h)(rp:Gz f s.h w):Sk P p f w cs s s:=
 ⟨f,w,.refl _ _,Move.refl rp,Wf.refl hh,by rw[Dw _ _ _ rfl];exact hf,rfl,rfl⟩
def Ah3(P:Program)(s s':C4):Prop:=∀ p f w cs,Io p s.fr->Gr p s.h->Gz f s.h w->Sk P p f w cs s s'
theorem Ah3.trans {s s1 s2:C4}(a:Ah3 P s s1)(b:Ah3 P s1 s2):Ah3 P s s2:=by
 intro p f w cs hf hh rp
 obtain⟨f1,w1,hs1,hm1,hwf1,hf1,e1,e2⟩:=a p f w cs hf hh rp
 obtain⟨f2,w2,hs2,hm2,hwf2,hf2,e3,e4⟩:=b _ f1 w1 cs hf1 hwf1.Lj hm1.rep
 exact⟨f2,w2,hs1.trans hs2,hm1.trans hm2,hwf1.trans hwf2,by rw[<-Ky p hwf1.next hwf2.next];exact hf2,e3.trans e1,e4.trans e2⟩
theorem Ml:∀ (l:List EV) (i:Nat) (t:Tr EV) (j:Nat),(setArgs l i t).get j=if i<=j/\j<i+l.length then l[j-i]? else t.get j
 | [],i,t,j=>by simp[setArgs];omega
 | v::r,i,t,j=>by
  simp only[setArgs]
  rw[Ml r (i+1) (t.put i (some v)) j,Tr.get_put]
  simp only[List.length_cons]
  by_cases h1:i=j
  ·subst h1
   rw[if_neg (by omega),if_pos rfl,if_pos (by omega)]
   simp
  ·by_cases h2:i+1<=j/\j<i+1+r.length
   ·rw[if_pos h2,if_pos (by omega)]
    rw[show j-i=(j-(i+1))+1 by omega,List.getElem?_cons_succ]
   ·rw[if_neg h2,if_neg h1,if_neg (by omega)]
theorem Aea(f:Loc){args:List EV}{n:Nat}(h:args.length<=n):Ap f n (setArgs args 0 .nil)=(Av f args).toArray++Array.replicate (n-(Av f args).toArray.size) undef:=by
 apply Array.ext_getElem?
 intro j
 rw[Lf]
 rw[Array.getElem?_append]
 simp only[List.size_toArray,Bh,List.getElem?_toArray,K0,Array.getElem?_replicate]
 unfold tmp
 rw[Ml]
 by_cases hj:j<args.length
 ·rw[if_pos (by omega),if_pos (by omega),if_pos hj,Nat.sub_zero]
  rw[List.getElem?_eq_getElem hj];rfl
 ·rw[if_neg (show ¬ (0<=j/\j<0+args.length) by omega),if_neg hj]
  by_cases hn:j<n
  ·rw[if_pos hn,if_pos (by omega)];rfl
  ·rw[if_neg hn,if_neg (by omega)]
theorem Amb {args:List EV}{n:Nat}(h:args.length<=n)(ha:EV.Gx p args):Ec p n (setArgs args 0 .nil) where
 ok t v hv:=by
  rw[Ml]at hv
  split at hv
  ·exact(C6 p args).1 ha v (List.mem_of_getElem? hv)
  ·cases hv
 out t ht:=by
  rw[Ml,if_neg (by omega)];rfl
end
end Go.Ev

namespace Go.Ev
theorem I7:∀ {a b:List EV} {r:Bool},Ef a b=some r->a.length=b.length
 | [],[],_,_=>rfl
 | x::a,y::b,r,h=>by
  simp only[Ef]at h
  split at h
  ·simp[I7 h]
  ·split at h
   ·rename_i h2;simp[I7 h2]
   ·cases h
  ·cases h
 | [],_::_,_,h=>by cases h
 | _::_,[],_,h=>by cases h
theorem Ko:∀ (k:Nat) {a b:List EV} {r:Bool},Ef a b=some r->∃ r1 r2,Ef (a.take k) (b.take k)=some r1/\Ef (a.drop k) (b.drop k)=some r2/\r=(r1 && r2)
 | 0,a,b,r,h=>⟨true,r,rfl,h,by simp⟩
 | k+1,[],[],r,h=>by cases h;exact⟨true,true,rfl,rfl,rfl⟩
 | k+1,x::a,y::b,r,h=>by
  simp only[Ef]at h
  split at h
  ·rename_i hl
   obtain⟨r1,r2,h1,h2,h3⟩:=Ko k h
   exact⟨r1,r2,by simp only[List.take_succ_cons,Ef,hl,h1],by simpa using h2,h3⟩
  ·rename_i hl
   split at h
   ·rename_i r0 h0
    cases h
    obtain⟨r1,r2,h1,h2,h3⟩:=Ko k h0
    exact⟨false,r2,by simp only[List.take_succ_cons,Ef,hl,h1],by simpa using h2,rfl⟩
   ·cases h
  ·cases h
 | k+1,[],_::_,_,h=>by cases h
 | k+1,_::_,[],_,h=>by cases h
theorem Jy {b:Nat}{s:List Nat}{x:EV}{l:List EV}(h:shaped (b::s) (x::l)=true):shaped s l=true/\((b=0/\∃ k n,x=.int k n)\/(b=1/\∃ c,x=.bool c)\/(b=2/\∃ c,x=.str c)):=by
 cases x with
 | int k n=>
  simp only[shaped]at h;rw[Ax]at h
  split at h
  ·rename_i hb;exact⟨h,.inl ⟨Nat.eq_of_beq_eq_true hb,k,n,rfl⟩⟩
  ·cases h
 | bool c=>
  simp only[shaped]at h;rw[Ax]at h
  split at h
  ·rename_i hb;exact⟨h,.inr (.inl ⟨Nat.eq_of_beq_eq_true hb,c,rfl⟩)⟩
  ·cases h
 | str c=>
  simp only[shaped]at h;rw[Ax]at h
  split at h
  ·rename_i hb;exact⟨h,.inr (.inr ⟨Nat.eq_of_beq_eq_true hb,c,rfl⟩)⟩
  ·cases h
 | _=>cases h
theorem D7:∀ {sh:List Nat} {l:List EV},shaped sh l=true->l.length=sh.length
 | [],[],_=>rfl
 | b::s,x::l,h=>by rw[List.length_cons,List.length_cons,D7 (Jy h).1]
 | [],_::_,h=>by cases h
 | _::_,[],h=>by cases h
theorem Ku:∀ {s1 s2:List Nat} {l:List EV},shaped (s1++s2) l=true->shaped s1 (l.take s1.length)=true/\shaped s2 (l.drop s1.length)=true
 | [],s2,l,h=>⟨rfl,h⟩
 | b::s1,s2,l,h=>by
  cases l with
  | nil=>have:=D7 h;simp at this
  | cons x l=>
   obtain⟨h1,h2⟩:=Jy (s:=s1++s2) h
   obtain⟨h3,h4⟩:=Ku h1
   refine⟨?_,h4⟩
   simp only[List.length_cons,List.take_succ_cons]
   rcases h2 with ⟨rfl,k,n,rfl⟩|⟨rfl,c,rfl⟩|⟨rfl,c,rfl⟩
   ·exact h3
   ·exact h3
   ·exact h3
def Sf(fl:TypeId->Option (List Nat)):List Field->Nat->Option (List Nat)
 | [],_=>some []
 | f::r,off=>match fl f.type with
  | some s=>if f.offset=off/\f.name ≠ "_" then (match Sf fl r (off+s.length) with|some t=>some (s++t)|none=>none) else none
  | none=>none
def flat(P:Program):Nat->TypeId->Option (List Nat)
 | 0=>fun _=>none
 | d+1=>fun t=>match P.info? t with
  | some i=>match P.underlying t with
   | some (.int _)=>if i.size=1 then some [0] else none
   | some .bool=>if i.size=1 then some [1] else none
   | some .string=>if i.size=1 then some [2] else none
   | some (.struct fs)=>if P.stoodInHeld t=false then (match Sf (flat P d) fs.toList 0 with
    | some s=>if s.length=i.size then some s else none
    | none=>none) else none
   | some (.array len e)=>match flat P d e with
    | some s=>if len*s.length=i.size then some (List.replicate len s).flatten else none
    | none=>none
   | _=>none
  | none=>none
def Wo(P:Program)(t:TypeId):Bool:=match P.underlying t with|some (.struct _)=>true|some (.array _ _)=>true|_=>false
noncomputable def M6(P:Program)(f:Loc)(t:TypeId)(l:List EV):Value:=if Wo P t=true then .agg (Av f l).toArray else (match l with|v::_=>Be f v | []=>undef)
theorem Hr(n:Nat)(s:List Nat):(List.replicate n s).flatten.length=n*s.length:=by
 induction n with
 | zero=>simp
 | succ n ih=>rw[List.replicate_succ,List.flatten_cons,List.length_append,ih,Nat.add_mul];omega
section
variable {P:Program}
theorem Hs {d:Nat}{t:TypeId}{s:List Nat}(h:flat P d t=some s):(∃ i,P.info? t=some i/\i.size=s.length)/\(Wo P t=false->(s = [0]/\∃ k,P.underlying t=some (.int k))\/(s = [1]/\P.underlying t=some .bool)\/(s = [2]/\P.underlying t=some .string))/\∀ w,(isAgg t).run P w=.ok (Wo P t) w:=by
 cases d with
 | zero=>simp[flat]at h
 | succ d=>
  simp only[flat]at h
  split at h
  ·rename_i i hi
   split at h
   ·rename_i k hu
    split at h
    ·rename_i h1;cases h;exact⟨⟨i,hi,h1⟩,fun _=>.inl ⟨rfl,k,hu⟩,fun w=>by simp[isAgg,underlying,Wo,hu]⟩
    ·cases h
   ·rename_i hu
    split at h
    ·rename_i h1;cases h;exact⟨⟨i,hi,h1⟩,fun _=>.inr (.inl ⟨rfl,hu⟩),fun w=>by simp[isAgg,underlying,Wo,hu]⟩
    ·cases h
   ·rename_i hu
    split at h
    ·rename_i h1;cases h;exact⟨⟨i,hi,h1⟩,fun _=>.inr (.inr ⟨rfl,hu⟩),fun w=>by simp[isAgg,underlying,Wo,hu]⟩
    ·cases h
   ·rename_i fs hu
    split at h
    ·split at h
     ·split at h
      ·rename_i h1;cases h;exact⟨⟨i,hi,h1.symm⟩,fun e=>by simp[Wo,hu]at e,fun w=>by simp[isAgg,underlying,Wo,hu]⟩
      ·cases h
     ·cases h
    ·cases h
   ·rename_i len e hu
    split at h
    ·split at h
     ·rename_i h1;cases h;exact⟨⟨i,hi,by rw[Hr];exact h1.symm⟩,fun e=>by simp[Wo,hu]at e,fun w=>by simp[isAgg,underlying,Wo,hu]⟩
     ·cases h
    ·cases h
   ·cases h
  ·cases h
theorem F2(f:Loc)(w:World){d:Nat}{t:TypeId}{s:List Nat}(h:flat P d t=some s){xs:List EV}{off:Nat}(hl:off+s.length<=xs.length):
 (Go.part t (Av f xs).toArray off).run P w=.ok (M6 P f t ((xs.drop off).take s.length)) w:=by
 obtain⟨⟨i,hi,hs⟩,hsc,hagg⟩:=Hs h
 have hsz:(sizeOf t).run P w=.ok s.length w:=by simp[sizeOf,typeInfo,hi,hs]
 unfold M6
 cases ha:Wo P t with
 | true=>
  simp only[Go.part,Sem.run_bind,hagg w,ha,Result.andThen_ok,if_true,hsz,Sem.run_pure]
  congr 2
  apply Array.ext'
  simp[E8,List.extract_eq_take_drop]
 | false=>
  have h1:s.length=1:=by rcases hsc ha with ⟨rfl,_⟩|⟨rfl,_⟩|⟨rfl,_⟩ <;> rfl
  rw[h1]at hl ⊢
  have hg:xs[off]? = some xs[off]:=List.getElem?_eq_getElem (by omega)
  have e1:(xs.drop off).take 1 = [xs[off]]:=by
   rw[List.drop_eq_getElem_cons (by omega)];rfl
  have e2:(Av f xs).toArray[off]? = some (Be f xs[off]):=by simp[E8,hg]
  rw[e1]
  simp only[Go.part,Sem.run_bind,hagg w,ha,Result.andThen_ok,Bool.false_eq_true,if_false,e2,Sem.run_pure]
def EqF(P:Program)(d D:Nat):Prop:=∀ (t:TypeId) (s:List Nat),flat P d t=some s->∀ (f:Loc) (w:World) (a b:List EV) (r:Bool),shaped s a=true->Ef a b=some r->(Op.equalIn D t (M6 P f t a) (M6 P f t b)).run P w=.ok r w
theorem X6(f:Loc)(w:World){d D:Nat}(IH:EqF P d D)(a b:List EV)(hab:a.length=b.length):∀ (fs:List Field) (off:Nat) (s:List Nat) (r:Bool),Sf (flat P d) fs off=some s->shaped s (a.drop off)=true->Ef (a.drop off) (b.drop off)=some r ->
 (Op.eqFields D (Av f a).toArray (Av f b).toArray fs).run P w=.ok r w
 | [],off,s,r,h,hs,hl=>by
  simp only[Sf]at h
  cases h
  have:=D7 hs
  rw[List.length_nil,List.length_eq_zero_iff]at this
  rw[this]at hl
  have h2:=I7 hl
  rw[List.length_nil]at h2
  rw[List.length_eq_zero_iff.1 h2.symm]at hl
  cases hl
  simp[Op.eqFields]
 | fd::fs,off,s,r,h,hs,hl=>by
  simp only[Sf]at h
  split at h
  ·rename_i s1 hs1
   split at h
   ·rename_i hof
    split at h
    ·rename_i s2 hs2
     cases h
     obtain⟨q1,q2⟩:=Ku hs
     obtain⟨r1,r2,h1,h2,h3⟩:=Ko s1.length hl
     rw[List.drop_drop]at q2
     rw[List.drop_drop,List.drop_drop]at h2
     have hlen:=D7 hs
     rw[List.length_drop,List.length_append]at hlen
     have ih:=X6 f w IH a b hab fs (off+s1.length) s2 r2 hs2 q2 h2
     by_cases hz:off+s1.length<=a.length
     ·have p1:=F2 f w hs1 (xs:=a) (off:=off) hz
      have p2:=F2 f w hs1 (xs:=b) (off:=off) (by omega)
      have p3:=IH fd.type s1 hs1 f w _ _ r1 q1 h1
      simp only[Op.eqFields,hof.2,ne_eq,not_false_eq_true,if_true,Sem.run_bind,hof.1,p1,p2,p3,Result.andThen_ok]
      subst h3
      cases r1
      ·simp
      ·simpa using ih
     ·
      have h0:s1.length=0:=by omega
      obtain⟨⟨i,hi,hsz⟩,hsc,hagg⟩:=Hs hs1
      have hA:Wo P fd.type=true:=by
       cases ha:Wo P fd.type with
       | true=>rfl
       | false=>rcases hsc ha with ⟨rfl,_⟩|⟨rfl,_⟩|⟨rfl,_⟩ <;> simp at h0
      have hsize:(sizeOf fd.type).run P w=.ok 0 w:=by simp[sizeOf,typeInfo,hi,hsz,h0]
      have hp:∀ xs:List EV,(Go.part fd.type (Av f xs).toArray off).run P w=.ok (M6 P f fd.type []) w:=by
       intro xs
       simp only[Go.part,Sem.run_bind,hagg w,hA,Result.andThen_ok,if_true,hsize,Sem.run_pure,M6,Nat.add_zero]
       congr 2
       apply Array.ext'
       simp[Av]
      rw[h0,List.take_zero,List.take_zero]at h1
      rw[h0,List.take_zero]at q1
      have p3:=IH fd.type s1 hs1 f w [] [] r1 q1 h1
      simp only[Op.eqFields,hof.2,ne_eq,not_false_eq_true,if_true,Sem.run_bind,hof.1,hp,p3,Result.andThen_ok]
      subst h3
      cases r1
      ·simp
      ·simpa using ih
    ·cases h
   ·cases h
  ·cases h
theorem Aac(f:Loc)(w:World){d D:Nat}(IH:EqF P d D){e:TypeId}{s:List Nat}(hs:flat P d e=some s)(a b:List EV)(hab:a.length=b.length):∀ (n k:Nat) (r:Bool),(k+n)*s.length=a.length->shaped (List.replicate n s).flatten (a.drop (k*s.length))=true ->
 Ef (a.drop (k*s.length)) (b.drop (k*s.length))=some r ->
 (Op.eqItems D e (P.cellsOf e) (Av f a).toArray (Av f b).toArray (List.range' k n)).run P w=.ok r w
 | 0,k,r,hal,hsh,hl=>by
  rw[Nat.add_zero]at hal
  rw[List.drop_of_length_le (by omega),List.drop_of_length_le (by omega)]at hl
  cases hl
  simp[Op.eqItems]
 | n+1,k,r,hal,hsh,hl=>by
  obtain⟨⟨i,hi,hsz⟩,_⟩:=Hs hs
  have hc:P.cellsOf e=s.length:=by simp[Program.cellsOf,hi,hsz]
  rw[List.replicate_succ,List.flatten_cons]at hsh
  obtain⟨q1,q2⟩:=Ku hsh
  obtain⟨r1,r2,h1,h2,h3⟩:=Ko s.length hl
  have hks:k*s.length+s.length=(k+1)*s.length:=by rw[Nat.add_mul];omega
  rw[List.drop_drop,hks]at q2
  rw[List.drop_drop,List.drop_drop,hks]at h2
  have ih:=Aac f w IH hs a b hab n (k+1) r2 (by rw[<-hal];congr 1;omega) q2 h2
  have hk:k*s.length+s.length<=a.length:=by
   rw[<-hal,show k+(n+1)=(k+1)+n by omega,Nat.add_mul,Nat.add_mul];omega
  have p1:=F2 f w hs (xs:=a) (off:=k*s.length) hk
  have p2:=F2 f w hs (xs:=b) (off:=k*s.length) (by omega)
  have p3:=IH e s hs f w _ _ r1 q1 h1
  rw[List.range'_succ]
  simp only[Op.eqItems,Sem.run_bind,hc,p1,p2,p3,Result.andThen_ok]
  rw[hc]at ih
  subst h3
  cases r1
  ·simp
  ·simpa using ih
theorem Agg:∀ (d D:Nat),d<=D->EqF P d D
 | 0,_,_=>fun t n h=>by simp[flat]at h
 | d+1,0,h=>by omega
 | d+1,D+1,hd=>by
  have IH:=Agg d D (by omega)
  intro t s h f w a b r hsh hl
  have hab:=I7 hl
  obtain⟨_,hsc,_⟩:=Hs h
  by_cases hA:Wo P t=true
  ·simp only[flat]at h
   split at h
   ·rename_i i hi
    split at h
    ·rename_i k hu;simp[Wo,hu]at hA
    ·rename_i hu;simp[Wo,hu]at hA
    ·rename_i hu;simp[Wo,hu]at hA
    ·rename_i fs hu
     split at h
     ·rename_i hst
      split at h
      ·rename_i s' hgo
       split at h
       ·cases h
        have hf:P.fieldsOf t=fs:=by simp[Program.fieldsOf,hu]
        simp only[M6,hA,if_true]
        rw[run_equalIn_struct w D t _ _ (by rw[hf];exact hu) hst,hf]
        exact X6 f w IH a b hab fs.toList 0 s r hgo (by simpa using hsh) (by simpa using hl)
       ·cases h
      ·cases h
     ·cases h
    ·rename_i len e hu
     split at h
     ·rename_i s' hs
      split at h
      ·rename_i hc
       cases h
       obtain⟨⟨ie,hie,_⟩,_⟩:=Hs hs
       simp only[M6,hA,if_true]
       rw[run_equalIn_array w D _ _ hu hie,List.range_eq_range']
       refine Aac f w IH hs a b hab len 0 r ?_ (by simpa using hsh) (by simpa using hl)
       rw[D7 hsh,Hr,Nat.zero_add]
      ·cases h
     ·cases h
    ·cases h
   ·cases h
  ·have hA':Wo P t=false:=by simpa using hA
   have hlen:=D7 hsh
   have hs1:s.length=1:=by rcases hsc hA' with ⟨rfl,_⟩|⟨rfl,_⟩|⟨rfl,_⟩ <;> rfl
   rw[hs1]at hlen
   match a,b,hlen,hab with
   | [x],[y],_,_=>
    simp only[M6,hA',Bool.false_eq_true,if_false]
    simp only[Ef]at hl
    have hle:Uh x y=some r:=by
     split at hl
     ·rename_i h1;cases hl;exact h1
     ·rename_i h1;cases hl;exact h1
     ·cases hl
    rcases hsc hA' with ⟨rfl,k2,hu⟩|⟨rfl,hu⟩|⟨rfl,hu⟩
    ·rcases (Jy hsh).2 with ⟨_,k,n,rfl⟩|⟨h0,_⟩|⟨h0,_⟩
     ·cases y with
      | int k' m=>
       simp only[Uh]at hle
       obtain⟨hk,hle2⟩:=Ah hle
       have:=Ph hk
       subst this
       have hle:=Option.some.inj hle2
       simp only[Be]
       rw[run_equalIn_int w D t k k2 n m hu,<-hle,Qm]
       congr 1
      | _=>cases hle
     ·cases h0
     ·cases h0
    ·rcases (Jy hsh).2 with ⟨h0,_⟩|⟨_,c,rfl⟩|⟨h0,_⟩
     ·cases h0
     ·cases y with
      | bool c'=>
       simp only[Uh,Option.some.injEq]at hle
       simp only[Be]
       rw[Zo w D t c c' hu,<-hle]
       cases c <;> cases c' <;> rfl
      | _=>cases hle
     ·cases h0
    ·rcases (Jy hsh).2 with ⟨h0,_⟩|⟨h0,_⟩|⟨_,c,rfl⟩
     ·cases h0
     ·cases h0
     ·cases y with
      | str c'=>
       simp only[Uh,Option.some.injEq]at hle
       simp only[Be]
       rw[Aoq w D t c c' hu,<-hle,Wq]
      | _=>cases hle
def M9(P:Program)(t:TypeId):Bool:=
 match P.underlying t with
 | some (.struct fs)=>fs.toList.all fun f=>f.name != "_" && (match P.underlying f.type with|some (.int _)=>true|some .bool=>true|_=>false)
 | _=>false
theorem Oz(f:Loc)(w:World)(e:Bool)(D:Nat)(a:List EV):∀ (fs:List Field) (off:Nat) (s:List Nat) (d:Nat),(fs.all fun f=>f.name != "_" && (match P.underlying f.type with|some (.int _)=>true|some .bool=>true|_=>false))=true ->
 Sf (flat P d) fs off=some s->shaped s (a.drop off)=true ->
 (forIn fs PUnit.unit fun(fd:Field) (_:PUnit)=>(do
  if fd.name ≠ "_" then do
   Instr.checkKey e (D+1) fd.type (← Go.part fd.type (Av f a).toArray fd.offset)
   pure (.yield PUnit.unit)
  else pure (.yield PUnit.unit):Sem (ForInStep PUnit))).run P w=.ok PUnit.unit w
 | [],off,s,d,_,h,hs=>by simp
 | fd::fs,off,s,d,hall,h,hs=>by
  simp only[List.all_cons,Bool.and_eq_true]at hall
  simp only[Sf]at h
  split at h
  ·rename_i s1 hs1
   split at h
   ·rename_i hof
    split at h
    ·rename_i s2 hs2
     cases h
     obtain⟨q1,q2⟩:=Ku hs
     rw[List.drop_drop]at q2
     have ih:=Oz f w e D a fs (off+s1.length) s2 d hall.2 hs2 q2
     have hlen:=D7 q1
     rw[List.length_take,List.length_drop]at hlen
     have hsc:s1.length=1:=by
      have hA:Wo P fd.type=false:=by
       have:=hall.1.2
       unfold Wo
       split at this <;> simp_all
      rcases (Hs hs1).2.1 hA with ⟨rfl,_⟩|⟨rfl,_⟩|⟨rfl,_⟩ <;> rfl
     have p1:=F2 f w hs1 (xs:=a) (off:=off) (by omega)
     have p2:∀ v,(Instr.checkKey e (D+1) fd.type v).run P w=.ok () w:=by
      intro v
      have:=hall.1.2
      rw[Instr.checkKey.eq_def]
      split at this
      ·rename_i k hu;simp[underlying,hu]
      ·rename_i hu;simp[underlying,hu]
      ·cases this
     rw[List.forIn_cons]
     simp only[hof.2,ne_eq,not_false_eq_true,if_true,Sem.run_bind,hof.1,p1,p2,Result.andThen_ok,Sem.run_pure]
     exact ih
    ·cases h
   ·cases h
  ·cases h
def Yh(P:Program)(t:TypeId):Bool:=
 match P.underlying t with
 | some (.array _ e)=>(match P.underlying e with|some (.int _)=>true|_=>false)
 | _=>false
theorem Pr(f:Loc)(w:World)(e:Bool)(D:Nat){d:Nat}{et:TypeId}{k:IntKind}(hu:P.underlying et=some (.int k))(hs:flat P d et=some [0])(a:List EV):∀ (n i:Nat),i+n<=a.length ->
 (forIn (List.range' i n) PUnit.unit fun(j:Nat) (_:PUnit)=>(do
  Instr.checkKey e (D+1) et (← Go.part et (Av f a).toArray (j*(← sizeOf et)))
  pure (.yield PUnit.unit):Sem (ForInStep PUnit))).run P w=.ok PUnit.unit w
 | 0,i,_=>by simp
 | n+1,i,h=>by
  have ih:=Pr f w e D hu hs a n (i+1) (by omega)
  have p1:=F2 f w hs (xs:=a) (off:=i) (by simp;omega)
  have p2:∀ v,(Instr.checkKey e (D+1) et v).run P w=.ok () w:=by
   intro v
   rw[Instr.checkKey.eq_def]
   simp[underlying,hu]
  obtain⟨⟨ii,hi,hsz⟩,_⟩:=Hs hs
  have p3:(sizeOf et).run P w=.ok 1 w:=by simp[sizeOf,typeInfo,hi,hsz]
  rw[List.range'_succ,List.forIn_cons]
  simp only[Sem.run_bind,p3,Result.andThen_ok,Nat.mul_one,p1,p2,Sem.run_pure]
  exact ih
theorem Ad6 {t:TypeId}(hk:Yh P t=true){d:Nat}{s:List Nat}(h:flat P d t=some s)(f:Loc)(w:World)(e:Bool)(a:List EV)(hs:shaped s a=true):
 (Instr.checkKey e 10000 t (.agg (Av f a).toArray)).run P w=.ok () w:=by
 unfold Yh at hk
 split at hk
 ·rename_i len et hu
  split at hk
  ·rename_i k hue
   cases d with
   | zero=>simp[flat]at h
   | succ d=>
    simp only[flat]at h
    split at h
    ·simp only[hu]at h
     split at h
     ·rename_i s' hs'
      split at h
      ·rename_i hc
       cases h
       have hA:Wo P et=false:=by simp[Wo,hue]
       have hs0:s' = [0]:=by
        rcases (Hs hs').2.1 hA with ⟨rfl,_⟩|⟨_,h2⟩|⟨_,h2⟩
        ·rfl
        ·rw[hue]at h2;cases h2
        ·rw[hue]at h2;cases h2
       subst hs0
       have hlen:=D7 hs
       rw[Hr]at hlen
       simp only[List.length_cons,List.length_nil,Nat.zero_add,Nat.mul_one]at hlen
       have:=Pr f w e 9998 hue hs' a len 0 (by omega)
       rw[Instr.checkKey.eq_def]
       simp only[underlying,hu,Sem.run_bind,run_program,Result.andThen_ok,Sem.run_pure]
       simp only[Std.Legacy.Range.forIn_eq_forIn_range',Std.Legacy.Range.size,Nat.sub_zero,Nat.add_one_sub_one,Nat.div_one]
       rw[this]
       rfl
      ·cases h
     ·cases h
    ·cases h
  ·cases hk
 ·cases hk
theorem Y1 {t:TypeId}(hk:M9 P t=true){d:Nat}{s:List Nat}(h:flat P d t=some s)(f:Loc)(w:World)(e:Bool)(a:List EV)(hs:shaped s a=true):
 (∃ fs,P.underlying t=some (.struct fs))/\(Instr.checkKey e 10000 t (.agg (Av f a).toArray)).run P w=.ok () w:=by
 unfold M9 at hk
 split at hk
 ·rename_i fs hu
  refine⟨⟨fs,hu⟩,?_⟩
  cases d with
  | zero=>simp[flat]at h
  | succ d=>
   simp only[flat]at h
   split at h
   ·simp only[hu]at h
    split at h
    ·split at h
     ·rename_i s' hgo
      split at h
      ·cases h
       have:=Oz f w e 9998 a fs.toList 0 s d hk hgo (by simpa using hs)
       rw[Instr.checkKey.eq_def]
       simp only[underlying,hu,Sem.run_bind,run_program,Result.andThen_ok,Sem.run_pure]
       rw[<-Array.forIn_toList]
       rw[this]
       rfl
      ·cases h
     ·cases h
    ·cases h
   ·cases h
 ·cases hk
end
end Go.Ev

namespace Go.Ev
noncomputable def Ck {α:Type}:List α->Nat->Tr α->Tr α
 | [],_,t=>t
 | a::r,i,t=>Ck r (Nat.succ i) (t.put i (some a))
theorem Qz {α:Type}:∀ (l:List α) (i:Nat) (t:Tr α) (j:Nat),(Ck l i t).get j=if i<=j/\j<i+l.length then l[j-i]? else t.get j
 | [],i,t,j=>by simp[Ck];omega
 | a::r,i,t,j=>by
  simp only[Ck]
  rw[Qz r (i+1) (t.put i (some a)) j,Tr.get_put]
  simp only[List.length_cons]
  by_cases h1:i=j
  ·subst h1
   rw[if_neg (by omega),if_pos rfl,if_pos (by omega)]
   simp
  ·by_cases h2:i+1<=j/\j<i+1+r.length
   ·rw[if_pos h2,if_pos (by omega)]
    rw[show j-i=(j-(i+1))+1 by omega,List.getElem?_cons_succ]
   ·rw[if_neg h2,if_neg h1,if_neg (by omega)]
theorem X2 {α:Type}(l:List α)(j:Nat):(Ck l 0 .nil).get j=l[j]?:=by
 rw[Qz]
 by_cases h:j<l.length
 ·rw[if_pos (by omega),Nat.sub_zero]
 ·rw[if_neg (by omega),List.getElem?_eq_none (by omega)];rfl
noncomputable def Ap4:List Nat->Nat->Bool
 | [],_=>false
 | a::r,x=>Al (Nat.beq a x) true (Ap4 r x)
theorem Zr:∀ {l:List Nat} {x:Nat},Ap4 l x=true->x ∈ l
 | [],_,h=>by cases h
 | a::r,x,h=>by
  simp only[Ap4]at h
  rw[Ax]at h
  split at h
  ·rename_i e;rw[Nat.eq_of_beq_eq_true e];exact List.mem_cons_self
  ·exact List.mem_cons_of_mem _ (Zr h)
noncomputable def Afv:List (Nat × List Nat)->Nat->Option (List Nat)
 | [],_=>none
 | (a,s)::r,x=>Al (Nat.beq a x) (some s) (Afv r x)
theorem N3:∀ {l:List (Nat × List Nat)} {x:Nat} {s:List Nat},Afv l x=some s->(x,s) ∈ l
 | [],_,_,h=>by cases h
 | (a,s')::r,x,s,h=>by
  simp only[Afv]at h
  rw[Ax]at h
  split at h
  ·rename_i e;cases h;rw[Nat.eq_of_beq_eq_true e];exact List.mem_cons_self
  ·exact List.mem_cons_of_mem _ (N3 h)
noncomputable def Arm(ty:Tr TypeInfo)(t:Nat):Option TypeDesc:=
 match ty.get t with
 | some i=>match i.desc with
  | .named _ u=>(match ty.get u with|some j=>some j.desc|none=>none)
  | d=>some d
 | none=>none
noncomputable def Ai6(ty:Tr TypeInfo)(t:Nat):Option Bool:=match Arm ty t with|some d=>some (Uu d)|none=>none
noncomputable def Alv(ty:Tr TypeInfo)(t:Nat):Option (List EV):=
 match ty.get t with
 | some i=>match i.zero with
  | some v=>match ofV v with
   | some x=>Al x.plain (Al (Nat.beq i.size (len x.cells)) (Al (Nat.ble i.bytes 1048576) (match Ai6 ty t with
    | some true=>(match x with | .agg l=>some l|_=>none)
    | some false=>Al x.one (some [x]) none
    | none=>none) none) none) none
   | none=>none
  | none=>none
 | none=>none
noncomputable def Ago(fnT:Tr Func)(ty:Tr TypeInfo)(eqs:List (Nat × List Nat))(keys:List Nat):Cr where
 fn:=fnT.get
 D2:=Arm ty
 size t:=match ty.get t with|some i=>Al (Nat.ble i.bytes 1048576) (some i.size) none|none=>none
 zero:=Alv ty
 agg:=Ai6 ty
 eqs:=Afv eqs
 key:=Ap4 keys
theorem Ap2 {P:Program}{t:Nat}{i:TypeInfo}(h:P.types[t]? = some i):P.info? t=some i:=by
 have hl:t<P.types.size:=(Array.getElem?_eq_some_iff.1 h).1
 unfold Tables.info?
 rw[if_pos hl];exact h
theorem Aom {P:Program}{eqs:List (Nat × List Nat)}{keys:List Nat}(hm:P.follows .mixedOrders=true)
 (hnames:(P.funcs.toList.all fun f=>!(f.name == "runtime.NumGoroutine"))=true)
 (heqs:∀ x ∈ eqs,flat P 6 x.1=some x.2/\Wo P x.1=true/\P.eqGuardType P.depth x.1=false) (hkeys:∀ t ∈ keys,M9 P t=true\/Yh P t=true) :
 Fi P (Ago (Ck P.funcs.toList 0 .nil) (Ck P.types.toList 0 .nil) eqs keys):=by
 have hty:∀ t i,(Ck P.types.toList 0 .nil).get t=some i->P.info? t=some i:=by
  intro t i h
  rw[X2,Array.getElem?_toList]at h
  exact Ap2 h
 have hund:∀ t d,Arm (Ck P.types.toList 0 .nil) t=some d->P.underlying t=some d:=by
  intro t d h
  unfold Arm at h
  split at h
  ·rename_i i hi
   have h1:=hty t i hi
   split at h
   ·rename_i s u hd
    split at h
    ·rename_i j hj
     cases h
     have h2:=hty u j hj
     obtain⟨desc,str,size,bytes,hp,al,fa,z⟩:=i
     simp only at hd
     subst hd
     simp[Program.underlying,h1,h2]
    ·cases h
   ·rename_i hd
    cases h
    unfold Program.underlying
    rw[h1]
    split
    ·rename_i hx;cases hx;exact absurd rfl (hd _ _)
    ·rename_i hx;cases hx;rfl
    ·rename_i hx;cases hx
  ·cases h
 have hagg:∀ t b,Ai6 (Ck P.types.toList 0 .nil) t=some b->∃ d,P.underlying t=some d/\Uu d=b:=by
  intro t b h
  unfold Ai6 at h
  split at h
  ·rename_i d hd;cases h;exact⟨d,hund t d hd,rfl⟩
  ·cases h
 refine⟨hm,fun g fn h=>?_,hund,fun t n h=>?_,fun t z h=>?_,hagg,fun t sh h=>?_,fun t h=>?_⟩
 ·have h':(Ck P.funcs.toList 0 .nil).get g=some fn:=h
  rw[X2]at h'
  refine⟨by rw[<-Array.getElem?_toList];exact h',?_⟩
  have:=List.all_eq_true.1 hnames fn (List.mem_of_getElem? h')
  simpa using this
 ·simp only[Ago]at h
  split at h
  ·rename_i i hi
   obtain⟨h1,h2⟩:=Ah h
   cases h2
   exact⟨i,hty t i hi,rfl,Nat.le_of_ble_eq_true h1⟩
  ·cases h
 ·have h':Alv (Ck P.types.toList 0 .nil) t=some z:=h
  unfold Alv at h'
  split at h'
  ·rename_i i hi
   split at h'
   ·rename_i v hv
    split at h'
    ·rename_i x hx
     obtain⟨h1,h'⟩:=Ah h'
     obtain⟨h2,h'⟩:=Ah h'
     obtain⟨h3,h'⟩:=Ah h'
     have h2':i.size=x.cells.length:=by rw[<-J9];exact Nat.eq_of_beq_eq_true h2
     refine⟨i,v,x,hty t i hi,hv,hx,h1,?_⟩
     have hat:∀ b,Ai6 (Ck P.types.toList 0 .nil) t=some b->(Ago (Ck P.funcs.toList 0 .nil) (Ck P.types.toList 0 .nil) eqs keys).agg t=some b:=fun _ h=>h
     split at h'
     ·rename_i ha
      have ha':=hat true ha
      cases x with
      | agg l=>
       simp only[Option.some.injEq]at h'
       subst h'
       exact⟨rfl,h2',Nat.le_of_ble_eq_true h3,fun _=>rfl,fun e=>(by rw[ha']at e;cases e)⟩
      | _=>cases h'
     ·rename_i ha
      have ha':=hat false ha
      obtain⟨ho,h'⟩:=Ah h'
      cases h'
      have hc:x.cells = [x]:=by
       cases x <;> first|rfl|(simp[EV.one]at ho)
      exact⟨hc.symm,by rw[h2',hc],Nat.le_of_ble_eq_true h3,fun e=>(by rw[ha']at e;cases e),fun _=>rfl⟩
     ·cases h'
    ·cases h'
   ·cases h'
  ·cases h'
 ·obtain⟨h1,h2,h3⟩:=heqs _ (N3 h)
  refine⟨h3,fun f w a b r hl hs=>?_⟩
  have:=Agg (P:=P) 6 10000 (by omega) t sh h1 f w a b r hs hl
  simp only[M6,h2,if_true]at this
  exact this
 ·have hk:=hkeys t (Zr h)
  rcases hk with hk|hk
  ·constructor
   ·have hk':=hk
    unfold M9 at hk'
    split at hk'
    ·rename_i fs hu;exact⟨_,hu,rfl⟩
    ·cases hk'
   ·intro f w e a sh hsh hs
    obtain⟨h1,_,_⟩:=heqs _ (N3 hsh)
    exact(Y1 hk h1 f w e a hs).2
  ·constructor
   ·have hk':=hk
    unfold Yh at hk'
    split at hk'
    ·rename_i n e hu;exact⟨_,hu,rfl⟩
    ·cases hk'
   ·intro f w e a sh hsh hs
    obtain⟨h1,_,_⟩:=heqs _ (N3 hsh)
    exact Ad6 hk h1 f w e a hs
theorem Ao0(f:Loc)(w:World)(n m:Nat):Gz f ⟨.nil,n,m⟩ w:=⟨fun i o h=>(by cases h),fun i j o o' h=>(by cases h)⟩
theorem Alj(n m:Nat):Gr (fun _=>False) ⟨.nil,n,m⟩:=⟨fun i h=>h.elim,fun i o h=>(by cases h)⟩
theorem Xt {P:Program}{c:Ae}(hC:Li P c){g:Nat}{v:EV}{h':Ac}(h:c g [] ⟨.nil,0,0⟩=some (v,h')){V:Value}(hv:∀ f,Be f v=V)(w:World):
 Calls P g #[] w fun e w'=>e=.returned V/\RowKit.Below w.heap.size w w':=by
 obtain⟨_,hc⟩:=hC _ _ _ _ _ h
 intro cs
 obtain⟨fr,f',w',hs,hfr,hl,hm,hwf,hvo⟩:=hc (fun _=>False) ⟨fun _=>0,fun _=>0⟩ w (Alj 0 0) (Ao0 _ _ 0 0) trivial cs
 rw[hv]at hl
 exact⟨.returned V,w',fr,⟨rfl,hm.os,hm.tape,hm.output,hm.size,fun k hk=>hm.kept k hk (fun i o hi=>(by cases hi))⟩,hs,hfr,hl⟩
end Go.Ev

namespace Go.Ev
noncomputable def isTrue:Option (EV × Ac)->Bool
 | some (.bool b,_)=>b
 | _=>false
theorem Acw {r:Option (EV × Ac)}(h:isTrue r=true):∃ h',r=some (.bool true,h'):=by
 unfold isTrue at h
 split at h
 ·subst h;exact⟨_,rfl⟩
 ·cases h
noncomputable def Ud(g:Nat)(v:EV):Ae:=fun g' args h=>Al (Nat.beq g' g) (match args with | []=>some (v,h)|_=>none) none
theorem Xu {P:Program}{g:Nat}{v:EV}{V:Value}(hv:∀ f,Be f v=V)(ho:∀ p,v.ok p){fn:Func}(hf:P.funcs[g]? = some fn)(hb:fn.body.isSome=true)(hn:(fn.name == "runtime.NumGoroutine")=false)
 (hC:∀ w,Calls P g #[] w fun e w'=>e=.returned V/\RowKit.Below w.heap.size w w'):Li P (Ud g v)/\H2 (Ud g v):=by
 have key:∀ g' args h v' h',Ud g v g' args h=some (v',h')->g'=g/\args = []/\v'=v/\h'=h:=by
  intro g' args h v' h' hh
  unfold Ud at hh
  obtain⟨h1,h2⟩:=Ah hh
  split at h2
  ·cases h2;exact⟨Nat.eq_of_beq_eq_true h1,rfl,rfl,rfl⟩
  ·cases h2
 constructor
 ·intro g' args h v' h' hh
  obtain⟨rfl,rfl,rfl,rfl⟩:=key _ _ _ _ _ hh
  refine⟨⟨fn,hf,hb,hn⟩,fun p f w hh rp ha cs=>?_⟩
  obtain⟨e,w',fr,⟨rfl,hbel⟩,hs,hfr,hl⟩:=hC w cs
  refine⟨fr,f,w',hs,hfr,?_,⟨Loc.Om _ _,⟨fun i o ho=>?_,rp.inj⟩,fun b hb _=>hbel.block b hb,hbel.size,hbel.tape,hbel.os,hbel.output,fun i o ho=>.inr ⟨i,o,ho,rfl⟩⟩,Wf.refl hh,ho _⟩
  ·rw[hv];exact hl
  ·obtain⟨r,h1,h2⟩:=rp.obj i o ho
   exact⟨r,by rw[hbel.block _ (rp.lt ho)];exact h1,h2⟩
 ·intro g' args h v' h' hh
  obtain⟨_,_,_,rfl⟩:=key _ _ _ _ _ hh
  exact .refl _
end Go.Ev
