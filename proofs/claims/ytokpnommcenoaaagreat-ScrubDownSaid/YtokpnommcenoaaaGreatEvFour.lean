import Derived.Test.YtokpnommcenoaaaGreatEvThree
import Derived.Laws.StructEq
import Derived.ChangeKeysEq
import Derived.KernelRfl
import Derived.Below
set_option linter.all false
namespace Go.Ev
variable {o:Oper}{d g i n fn id off:Nat}{s':He}{v:EV}{kd:Kd}{tm tm':Bb}{h h':Ab}{P:Program}{T:Hh}{round:Ai}{p:Nat->Prop}{f:Loc}{a:Ajp}{t:TypeId}{w':World}{pd pd0 jump:Option Code}{k todo todo':List Item}{caller:Frame}{cs:List Frame}{b:FB}{α:Type}{ps:List Tmp}{asg body:Code}{ds:List Nat}{Dt:Option Nat}{tmps:Array Value}{fo:Operand}{args first captured:List EV}{eqs:List (Nat × List Nat)}{V:Value}
section
open Classical
section
variable{call:Ai}(hC:Wo call)(hR:Wo round){ops:List Oper}{bs:Tr Nat}{base:Nat}
theorem Sd.awf{s s':DSt}{E E':Ab}(sd:Sd T call round n ops bs base o i s s' v E E' kd):AWf s.h s'.h where
 next:=by rw[<-sd.Agb,<-sd.Agr];exact sd.w.next
 mw:=sd.mw.1
 same q m h2:=by rw[sd.Bop,aQ (sd.mw.2 q m h2)]
 live q x e:=by
  rw[sd.Bop]at e;split at e
  ·exact .inl ⟨x,e⟩
  ·rcases sd.w.live q x e with⟨o',h⟩|h
   ·exact .inl ⟨o',sd.sub q o' h⟩
   ·rw[sd.Agb]at h;exact .inr h
 lt H q x e:=by
  have j:s.h.next<=s'.h.next:=by rw[<-sd.Agb,<-sd.Agr];exact sd.w.next
  rw[sd.Bop]at e;split at e
  ·exact aN (H q x e) j
  ·rw[<-sd.Agr]
   refine sd.w.lt (fun q x e=>?_) q x e;rw[sd.Agb];exact H q x (sd.sub q x e)
theorem Sd.nw{s s':DSt}{E E':Ab}(sd:Sd T call round n ops bs base o i s s' v E E' kd)(h:∀x∈s.nw,x.2<s.h.next):∀x∈s'.nw,x.2<s'.h.next:=by
 have e:s.h.next<=s'.h.next:=sd.awf.next
 intro x j;have:=sd.kd;cases kd with
 | idle=>rw[this.2.2.2.1]at j;exact aN (h x j) e
 | load q=>rw[this.2.2.2.1]at j;exact aN (h x j) e
 | new=>
  obtain⟨a,⟨y,b⟩,c,d,_⟩:=this;rw[d]at j;rcases bW.1 j with rfl|j
  ·show s.h.next<_
   rw[<-sd.Agr,b,Ab.Di,sd.Agb];omega
  ·exact aN (h x j) e
 | sto q=>
  obtain⟨_,_,d,_⟩:=this;rw[d]at j;exact aN (h x j) e
 | big mw=>
  obtain⟨b,_,_,_,_,_,d,_⟩:=this;rw[d]at j;exact aN (h x j) e
include hC hR in
theorem A8x:∀{l:List Oper} {i:Nat} {s r:DSt},Ta T call round n ops bs base l i s=some r->(∀x∈s.nw,x.2<s.h.next)->AWf s.h r.h
 | [],_,s,r,h,_=>by cases h;exact .refl _
 | o::l,i,s,r,h,e=>by
  simp only[Ta]at h;split at h
  ·rename_i s' hs
   obtain⟨v,E,E',kd,sd⟩:=A1k hC hR hs e;exact sd.awf.trans (A8x h (sd.nw e))
  ·cases h
include hC hR in
theorem Bfw(e:Asc T call round n ops tm h=some (tm',h')):AWf h h':=by
 unfold Asc at e;obtain⟨_,e⟩:=Aq e;obtain⟨_,e⟩:=Aq e;split at e
 ·rename_i hs
  cases e;exact A8x hC hR hs (fun x j=>by cases j)
 ·cases e
end
theorem Bkh(hT:Pe P T){call:Ai}(hC:Age P call)(hR:Amw P round)(wC:Wo call)(wR:Wo round)
 {ops:Array Oper} {w:World} (Y:Lh p n tm) (L:Tk p h) (Z:Tz f h w)
 (u:Asc T call round n ops.toList tm h=some (tm',h')) (b:FB) (t:Nat) (k:List Item) (cs:List Frame) (dr:Nat) :
 ∃f' w',Steps P (lone (b.at (Bh f n tm) (.inRegion ops (Region.linearise .any ops t)::k)) cs { w with drawn:=dr }) (lone (b.at (Bh f' n tm') (.inRegion ops []::k)) cs w') /\
  Move p f h w f' h' w'/\Wf p h h'/\Lh (grow p h h') n tm':=by
 have hwf:=Bfw wC wR u;unfold Asc at u;obtain⟨O,u⟩:=Aq u;obtain⟨Q,u⟩:=Aq u;split at u
 ·rename_i aa M b1 b2 b3 b4 b5 hs
  cases u;obtain⟨A,V,E,E',K,e0,U,B⟩:=Bth (s:=⟨tm,h,0,[],[],[],[]⟩) wC wR hs (fun q x W=>L.lt q (L.get q x W).1) rfl;have hlen:ops.toList.length=ops.size:=by simp
  rw[hlen]at U;have F:Lh p n (A 0).tm:=by rw[e0];exact Y
  have C:Tk p (A 0).h:=by rw[e0];exact L
  have e:∀j,¬((Array.replicate ops.size false).getD j false=true):=by
   intro j;simp only[eG,Array.getElem?_replicate];split<;>simp
  have hI:Inv n ops (Ov ops.toList 0 .nil) A V E E' p f w (fun j=>(Array.replicate ops.size false).getD j false=true) f { w with drawn:=dr }:=by
   refine⟨fun j hj=>absurd hj (e j),fun j hj=>absurd hj (e j),fun j hj=>absurd hj (e j),?_⟩;have:hS E E' (A 0).h.get (fun j=>(Array.replicate ops.size false).getD j false=true) ops.size=(A 0).h.get:=by
    funext q;exact Blm _ (fun j _ hs=>absurd hs (e j)) _ (cU _)
   rw[this];have X:Tz f (A 0).h w:=by rw[e0];exact Z
   exact(Ahe.start X).drew dr
  have G:Bh f n (tmS n ops V (A 0).tm (fun j=>(Array.replicate ops.size false).getD j false=true) ops.size)=Bh f n tm:=by
   rw[show tm=(A 0).tm by rw[e0]];exact Atd f n fun t=>Bf7 _ (fun j _ hs=>absurd hs (e j)) _ (cU _)
  obtain⟨f',w',D,S,hS,I⟩:=Blf hT hC hR B rfl Q O F C b k cs ops.size t (Array.replicate ops.size false) f _ (by simp) (by
   unfold unl;exact bQ (eJ _ _) (by simp)) hI
  rw[G]at D;have H:=I.mv.move (h:=(A ops.size).h) (fun q=>(Bnw B hS q).symm);have e1:(A ops.size).h=h':=by rw[U]
  have e2:(A ops.size).tm=tm':=by rw[U]
  have e3:(A 0).h=h:=by rw[e0]
  have y:∀q,pS p A ops.size S q/\q<nx A ops.size->grow p h h' q:=by
   rintro q ⟨M|⟨j,_,hj,M,h2⟩,h3⟩
   ·exact .inl M
   ·refine .inr ⟨?_,?_⟩
    ·have:=B.A1g (i:=0) (m:=j) (by omega) (by omega)
     rw[<-e3];exact bQ this M
    ·rw[<-e1];exact h3
  rw[e2]at D;rw[e1,e3]at H;refine⟨f',w',D,H,⟨hwf.next,hwf.mw,hwf.same,hwf.live,⟨fun q J=>?_,fun q x W=>?_⟩⟩,?_⟩
  ·rcases J with J|J
   ·exact aN (L.lt q J) hwf.next
   ·exact J.2
  ·obtain⟨a,b⟩:=I.hok B C ops.size (aD _) q x (by rw[Bnw B hS q,e1];exact W)
   exact⟨y q a,b.mono y⟩
  ·have:=I.Bp8 B F C.lt ops.size (aD _)
   rw[Aww B hS _ (aD _),e2]at this;exact this.mono y
 ·cases u
end
section
def Ja(f:Loc)(d:Nat):Deferred:={ target:=.collected (f.b d),args:=#[] }
def Beo(f:Loc)(a:Ajp):FB:=⟨a.fn,a.defers.map (Ja f),a.Dt.map f.b⟩
noncomputable def Oy(f:Loc)(a:Ajp):Frame:=
 { fn:=a.fn,tmps:=Bh f a.n a.tmps,todo:=a.todo,defers:=a.defers.map (Ja f),mode:=if a.ret=true then .returning else .run,kind:=.normal,roundOf:=a.Dt.map f.b }
structure Yo(p:Nat->Prop)(a:Ajp):Prop where
 tm:Lh p a.n a.tmps
 dfr:∀d∈a.defers,p d
 Dt:∀l,a.Dt=some l->p l
 ret:a.ret=true->a.Dt=none
theorem Yo.mono {q:Nat->Prop}(h:Yo p a)(e:∀i,p i->q i):Yo q a:=⟨h.tm.mono e,fun d hd=>e d (h.dfr d hd),fun l j=>e l (h.Dt l j),h.ret⟩
theorem A3m{g:Loc}(e:Loc.agree p f g)(h:Yo p a):Oy f a=Oy g a:=by
 unfold Oy;rw[K4 e h.tm];have j:a.defers.map (Ja f)=a.defers.map (Ja g):=by
  apply cZ;intro d hd;unfold Ja;rw[(e d (h.dfr d hd)).1]
 have h2:a.Dt.map f.b=a.Dt.map g.b:=by
  cases m:a.Dt with
  | none=>rfl
  | some l=>simp only[dV];rw[(e l (h.Dt l m)).1]
 rw[j,h2]
theorem Al8{g:Loc}(e:Loc.agree p f g)(h:Yo p a):Beo f a=Beo g a:=by
 have:=A3m e h;unfold Oy at this;unfold Beo;injection this with _ _ _ h4 _ _ j;rw[h4,j]
section
variable{w:World}
theorem Bqs:step P (lone (b.at tmps (.code .skip::k)) cs w)=.next (lone (b.at tmps k) cs w):=cJ (by simp[stepG,stepG.exec,FB.at])
theorem Bna {l:Nat}:step P (lone (b.at tmps (.code (.label l)::k)) cs w)=.next (lone (b.at tmps k) cs w):=cJ (by simp[stepG,stepG.exec,FB.at])
theorem Bc9:step P (lone (b.at tmps (.inBlock id::k)) cs w)=.next (lone (b.at tmps k) cs w):=cJ (by simp[stepG,stepG.exec,FB.at])
theorem Bsp {x y:Code}:step P (lone (b.at tmps (.code (.seq x y)::k)) cs w)=.next (lone (b.at tmps (.code x :: .code y::k)) cs w):=cJ (by simp[stepG,stepG.exec,FB.at])
theorem Be6 {c:Operand}{x y:Code}{t:Bool}(h:Im tmps c=.bool t):step P (lone (b.at tmps (.code (.cond c x y)::k)) cs w)=.next (lone (b.at tmps (.code (if t then x else y)::k)) cs w):=
 cJ (by
  have:=FB.eval_at b tmps (.code (.cond c x y)::k);simp only[FB.at]at this;simp[stepG,stepG.exec,FB.at,this,h])
theorem Bm0{c:Code}:step P (lone (b.at tmps (.code (.block id c)::k)) cs w)=.next (lone (b.at tmps (.code c :: .inBlock id::k)) cs w):=cJ (by simp[stepG,stepG.exec,FB.at])
theorem Bo5 {c:Code}:step P (lone (b.at tmps (.code (.loop c)::k)) cs w)=.next (lone (b.at tmps (.code c :: .inLoop c::k)) cs w):=cJ (by simp[stepG,stepG.exec,FB.at])
theorem Bg3 {c:Code}:step P (lone (b.at tmps (.inLoop c::k)) cs w)=.next (lone (b.at tmps (.code c :: .inLoop c::k)) cs w):=cJ (by simp[stepG,stepG.exec,FB.at])
theorem Bpn{e:List Item}(h:exitTo id k=some e):step P (lone (b.at tmps (.code (.exit id)::k)) cs w)=.next (lone (b.at tmps e) cs w):=cJ (by simp[stepG,stepG.exec,FB.at,h])
theorem Bsx(h:b.Dt=none):step P (lone (b.at tmps (.code .ret::k)) cs w)=.next (lone { b.at tmps (.code .ret::k)with mode:=.returning } cs w):=cJ (by simp[stepG,stepG.exec,FB.at,h])
theorem Bs8(h:b.Dt=none):step P (lone (b.at tmps []) cs w)=.next (lone { b.at tmps []with mode:=.returning } cs w):=cJ (by simp[stepG,stepG.exec,FB.at,h])
theorem Bgq{ops:Array Oper}:step P (lone (b.at tmps (.code (.region id ops false)::k)) cs w)=.next (lone (b.at tmps (.inRegion ops (List.range ops.size)::k)) cs w):=cJ (by simp[stepG,stepG.exec,FB.at])
theorem Boy(hm:P.follows .mixedOrders=true){ops:Array Oper}:step P (lone (b.at tmps (.code (.region id ops true)::k)) cs w) =
 .next (lone (b.at tmps (.inRegion ops (Region.linearise .any ops (w.tape w.drawn (.order b.fn id)))::k)) cs { w with drawn:=w.drawn+1 }):=
 cJ (by simp[stepG,stepG.exec,FB.at,choose,Sem.run,Question.forced,Question.cut,hm,Region.schedule])
theorem A61 {l:Nat}(e:b.Dt=some l){v:Value}(he:(Instr.endRound l jump).run P w=.ok v w')
 (j:(todo = []/\jump=none)\/(∃k,todo=.code .ret::k/\jump=some .ret)\/(∃id k,todo=.code (.exit id)::k/\exitTo id k=none/\jump=some (.exit id))) :
 step P (lone (b.at tmps todo) (caller::cs) w)=.next (lone (caller.finish v) cs w'):=by
 refine cJ ?_;rcases j with⟨rfl,rfl⟩|⟨k,rfl,rfl⟩|⟨id,k,rfl,m,rfl⟩
 ·simp[stepG,stepG.exec,FB.at,e,he,doReturn]
 ·simp[stepG,stepG.exec,FB.at,e,he,doReturn]
 ·simp[stepG,stepG.exec,FB.at,e,m,he,doReturn]
end
section
variable(hT:Pe P T){w:World}
theorem A95(hT:Pe P T)(j:Tk p h)(m:Tz f h w){cs:List EV}(hs:T.size t=some n)(q:Iw h i off n=some cs){b:Bool}(e:T.agg t=some b)
 (u:(b=true/\v=.agg cs)\/(b=false/\cs = [v])):(loadVar t ⟨f.b i,off,none⟩).run P w=.ok (Cp f v) w/\v.ok p:=by
 obtain⟨x,h2,y,h4,A⟩:=Amk (P:=P) j m q;rcases u with⟨rfl,rfl⟩|⟨rfl,rfl⟩
 ·refine⟨?_,h2,y⟩
  simp only[loadVar,Sem.run_bind,Arm hT w e,aI,bI,Gg hT w hs,x,aS,Cp]
 ·refine⟨?_,h2.1⟩
  have:=A 0 v rfl;simp only[loadVar,Sem.run_bind,Arm hT w e,aI,aW,aY];simp only[cz]at this;rw[run_load,this]
theorem A4j {β:Type}(P:Program)(w:World)(g:α->Sem β):∀(l:List α) (r:List β),(l.length=r.length)->(∀(i:Nat) a b,l[i]? = some a->r[i]? = some b->(g a).run P w=.ok b w)->(l.mapM g).run P w=.ok r w
 | [],[],_,_=>by simp
 | a::l,b::r,e,h=>by
  have h0:=h 0 a b rfl rfl;have j:=A4j P w g l r (by simpa using e) (fun i a b m h2=>h (i+1) a b (by simpa using m) (by simpa using h2));simp[List.mapM_cons,h0,j]
 | [],_::_,h,_=>by simp at h
 | _::_,[],h,_=>by simp at h
def Auy(tmps:Array Value):ResultVar->Sem Value
 | .tmp t=>pure (tmps.getD t undef)
 | .cell a t=>do loadVar t (←asAddr (tmps.getD a undef))
theorem Bcs(fn:Func)(tmps:Array Value):results fn tmps=(do
 let vs ←fn.results.mapM (Auy tmps)
 pure (if h:vs.size=1 then vs[0]else .tuple vs)):=by
 unfold results;congr 1
theorem Ajm(hT:Pe P T)(B:Tk p h)(C:Tz f h w)(u:Lh p n tm):∀{l:List ResultVar} {vs:List EV},Mo T tm h l=some vs ->
 EV.Tn p vs/\l.length=(Bp f vs).length/\∀(i:Nat) a b,l[i]? = some a->(Bp f vs)[i]? = some b->(Auy (Bh f n tm) a).run P w=.ok b w
 | [],vs,j=>by cases j;exact⟨trivial,rfl,fun i a b h=>by simp at h⟩
 | .tmp t::r,vs,j=>by
  simp only[Mo]at j;split at j
  ·rename_i l D
   cases j;obtain⟨E,h2,F⟩:=Ajm hT B C u D;refine⟨⟨u.tmp t,E⟩,by simp[Bp,h2],fun i a b x hb=>?_⟩;cases i with
   | zero=>
    simp only[bN,cP,Bp]at x hb;subst x hb;simp only[Auy,aS,Ace f u]
   | succ i=>exact F i a b (by simpa using x) (by simpa [Bp]using hb)
  ·cases j
 | .cell a t::r,vs,j=>by
  simp only[Mo]at j;split at j
  ·rename_i i off l L x D G
   split at j
   ·rename_i cs H
    obtain⟨E,h2,F⟩:=Ajm hT B C u D;have key:∀(b:Bool) (v:EV),T.agg t=some b->((b=true/\v=.agg cs)\/(b=false/\cs = [v]))->some (v::l)=some vs->EV.Tn p vs/\(ResultVar.cell a t::r).length=(Bp f vs).length/\∀(i:Nat) y A,(ResultVar.cell a t::r)[i]? = some y->(Bp f vs)[i]? = some A->(Auy (Bh f n tm) y).run P w=.ok A w:=by
     intro b v hb J e;cases e;obtain⟨l1,K⟩:=A95 hT B C G H hb J;refine⟨⟨K,E⟩,by simp[Bp,h2],fun i y A m q=>?_⟩;cases i with
     | zero=>
      simp only[bN,cP,Bp]at m q;subst m q;simp only[Auy,Ace f u,x,Cp,asAddr,Sem.run_bind,aS,aI,l1]
     | succ i=>exact F i y A (by simpa using m) (by simpa [Bp]using q)
    split at j
    ·rename_i hb;exact key true _ hb (.inl ⟨rfl,rfl⟩) j
    ·rename_i hb
     split at j
     ·exact key false _ hb (.inr ⟨rfl,rfl⟩) j
     ·cases j
    ·cases j
   ·cases j
  ·cases j
theorem A9q(hT:Pe P T)(A:Tk p h)(B:Tz f h w)(C:Lh p n tm){fn:Func}{vs:List EV}(D:Mo T tm h fn.results.toList=some vs)
 (u:vs = [v]\/((∀x,vs≠[x])/\v=.tuple vs)):(results fn (Bh f n tm)).run P w=.ok (Cp f v) w/\v.ok p:=by
 obtain⟨y,h2,E⟩:=Ajm hT A B C D;have hm:(fn.results.toList.mapM (Auy (Bh f n tm))).run P w=.ok (Bp f vs) w:=A4j P w _ _ _ h2 E;constructor
 ·have m:(fn.results.mapM (Auy (Bh f n tm))).run P w=.ok (Bp f vs).toArray w:=by
   have e:fn.results.mapM (Auy (Bh f n tm))=Functor.map List.toArray (fn.results.toList.mapM (Auy (Bh f n tm))):=by
    rw[<-List.mapM_toArray,eC]
   rw[e,Sem.run_map,hm];rfl
  rw[Bcs,Sem.run_bind,m,aI,aS];congr 1;rcases u with rfl|⟨q,rfl⟩
  ·simp[Bp]
  ·rw[dif_neg]
   ·simp only[Cp]
   ·intro j
    simp only[cW,Cs]at j
    match vs,j with
    | [x],_=>exact q x rfl
 ·rcases u with rfl|⟨_,rfl⟩
  ·exact y.1
  ·exact y
end
end
section
theorem Apu(f:Loc)(fn n:Nat)(tm:Bb)(todo:List Item)(ds:List Nat)(Dt:Option Nat):
 Oy f ⟨fn,n,tm,todo,ds,false,Dt⟩=(FB.mk fn (ds.map (Ja f)) (Dt.map f.b)).at (Bh f n tm) todo:=rfl
theorem Ap1(f:Loc)(fn n:Nat)(tm:Bb)(todo:List Item)(ds:List Nat):
 Oy f ⟨fn,n,tm,todo,ds,true,none⟩ = { (FB.mk fn (ds.map (Ja f)) none).at (Bh f n tm) todo with mode:=.returning }:=rfl
def Sim(P:Program)(p:Nat->Prop)(f:Loc)(w:World)(cs:List Frame)(s s':He):Prop:=
 ∃f' w',Steps P (lone (Oy f s.fr) cs w) (lone (Oy f' s'.fr) cs w')/\Move p f s.h w f' s'.h w'/\Wf p s.h s'.h/\Yo (grow p s.h s'.h) s'.fr/\s'.fr.fn=s.fr.fn/\s'.fr.Dt=s.fr.Dt
def Fin(P:Program)(p:Nat->Prop)(f:Loc)(w:World)(s:He)(v:EV)(h':Ab):Prop:=
 match s.fr.Dt with
 | none=>h'=s.h/\(Oy f s.fr).leaving P w (.returned (Cp f v))/\v.ok p
 | some _=>∀caller cs,∃w',Steps P (lone (Oy f s.fr) (caller::cs) w) (lone (caller.finish (Cp f v)) cs w')/\Move p f s.h w f h' w'/\Wf p s.h h'/\v.ok p
section
variable{w:World}
theorem Sim.stay {fr e:Ajp}(j:Tk p h)(m:Tz f h w)(hs:Steps P (lone (Oy f fr) cs w) (lone (Oy f e) cs w))(q:Yo p e)(u:e.fn=fr.fn)(h2:e.Dt=fr.Dt):Sim P p f w cs ⟨fr,h⟩ ⟨e,h⟩:=
 ⟨f,w,hs,Move.refl m,Wf.refl j,by rw[Ju _ _ _ rfl];exact q,u,h2⟩
theorem Ai5(m:Tz f h w){l:Nat}{st:LoopState}(q:h.get l=some (.loop st pd fn n tm ps asg body d)):
 (Instr.getLoop (f.b l)).run P w=.ok ⟨st,pd,fn,Bh f n tm,ps.toArray,asg,body,f.b d⟩ w/\w.heap[f.b l]? = some (.loop ⟨st,pd,fn,Bh f n tm,ps.toArray,asg,body,f.b d⟩):=by
 obtain⟨r,j,rfl⟩:=m.obj l _ q;have e:=Od (P:=P) j (by intros;simp);refine⟨?_,j⟩;simp only[Instr.getLoop,Sem.run_bind,e,aI,aS]
theorem A8k(j:Tk p h)(m:Tz f h w){l:Nat}{st st':LoopState}{pd':Option Code}(e:h.get l=some (.loop st pd fn n tm ps asg body d)):
 Move p f h w f (h.put l (.loop st' pd' fn n tm ps asg body d)) { w with heap:=w.heap.setIfInBounds (f.b l) (.loop ⟨st',pd',fn,Bh f n tm,ps.toArray,asg,body,f.b d⟩) } /\
 Wf p h (h.put l (.loop st' pd' fn n tm ps asg body d)):=
 ⟨Move.setObj m e rfl,Wf.put j e (j.get l _ e).2⟩
theorem A6h(e:Tz f h w){l:Nat}{st:LoopState}(j:h.get l=some (.loop st pd fn n tm ps asg body d))(jump:Option Code):
 (Instr.endRound (f.b l) jump).run P w=.ok (.bool jump.isNone) { w with heap:=w.heap.setIfInBounds (f.b l) (.loop ⟨if jump.isNone then .ready else .done,jump,fn,Bh f n tm,ps.toArray,asg,body,f.b d⟩) }:=by
 obtain⟨m,h2⟩:=Ai5 (P:=P) e j;have hs:=Qp (P:=P) (o':=.loop ⟨if jump.isNone then .ready else .done,jump,fn,Bh f n tm,ps.toArray,asg,body,f.b d⟩) h2 (by intros;simp);simp only[Instr.endRound,Sem.run_bind,m,aI,hs,aS]
theorem A0p(e:leave fn n tm todo ds Dt h jump=.go s'):
 Dt=none/\s'=⟨⟨fn,n,tm,todo,ds,true,none⟩,h⟩/\(jump=none\/jump=some .ret):=by
 unfold leave at e;split at e
 ·split at e
  ·cases e;exact⟨rfl,rfl,.inl rfl⟩
  ·cases e;exact⟨rfl,rfl,.inr rfl⟩
  ·cases e
 ·split at e
  ·split at e<;>cases e
  ·cases e
theorem Ata(x:Tk p h)(q:Tz f h w)(e:leave fn n tm todo ds Dt h jump=.done v h')
 (y:(todo = []/\jump=none)\/(∃k,todo=.code .ret::k/\jump=some .ret)\/(∃id k,todo=.code (.exit id)::k/\exitTo id k=none/\jump=some (.exit id))) :
 Fin P p f w ⟨⟨fn,n,tm,todo,ds,false,Dt⟩,h⟩ v h':=by
 unfold leave at e;split at e
 ·split at e<;>cases e
 ·rename_i l
  split at e
  ·rename_i st pd j A tm' ps asg body d u
   have key:∀(b:Bool) (st':LoopState),b=jump.isNone->st'=(if jump.isNone then .ready else .done)->Fin P p f w ⟨⟨fn,n,tm,todo,ds,false,some l⟩,h⟩ (.bool b) (h.put l (.loop st' jump j A tm' ps asg body d)):=by
    intro b st' hb m;intro caller cs;obtain⟨B,C⟩:=A8k (st':=st') (pd':=jump) x q u;refine⟨_,.one ?_,B,C,trivial⟩;have he:=A6h (P:=P) q u jump;rw[<-m,<-hb]at he;exact A61 (b:=FB.mk fn (ds.map (Ja f)) (some (f.b l))) rfl he y
   split at e
   ·cases e;exact key true _ rfl rfl
   ·cases e;exact key false _ rfl rfl
  ·cases e
variable (hT:Pe P T){call:Ai}(hC:Age P call)(hR:Amw P round)(wC:Wo call)(wR:Wo round)
theorem Bi2{ds:List Deferred}(h:(Instr.takeDeferred d).run P w=.ok [] w'):
 step P (lone { fn:=fn,tmps:=tmps,todo:=todo,defers:={ target:=.collected d,args:=#[] }::ds,mode:=.returning,kind:=.normal,roundOf:=none } cs w) =
  .next (lone { fn:=fn,tmps:=tmps,todo:=todo,defers:=ds,mode:=.returning,kind:=.normal,roundOf:=none } cs w'):=
 cJ (by simp[stepG,unwind,h])
theorem A28{l:Nat}(e:b.Dt=some l)(h:(Instr.beginRound l).run P w=.ok () w'):
 step P (lone (b.at tmps (.beginRound::k)) cs w)=.next (lone (b.at tmps k) cs w'):=
 cJ (by simp[stepG,stepG.exec,stepG.apply,FB.at,e,h,Frame.finish])
theorem Awy{ps:Array Tmp}{l:Nat}{mark:List Deferred}{w1:World}{g:FuncId}{args:Array Value}
 (e:(Instr.enterLoop b.fn tmps ps asg body b.Dt).run P w=.ok (l,mark) w1)
 (h2:(do let d ←resolve (Im tmps) { callee:=.value fo,args:=#[.const (.func (.yield l) #[] #[])],argTypes:=#[] } 0;invoke d.target d.args:Sem Next).run P w1=.ok (.enter g args) w1) :
 step P (lone (b.at tmps (.code (.rangeFunc fo ps asg body)::k)) cs w)=.next (lone (Frame.enter P g args .normal) ((FB.mk b.fn (mark++b.defers) b.Dt).at tmps (.inRangeFunc l::k)::cs) w1):=by
 refine cJ ?_;have he:=FB.eval_at (FB.mk b.fn (mark++b.defers) b.Dt) tmps (.inRangeFunc l::k);simp only[FB.at]at he;simp only[stepG,stepG.exec,FB.at,Sem.runT_eq,e,GStep.bare_after,stepG.apply,he];rw[h2];simp
theorem Bax{l:Nat}{w1:World}(e:(Instr.endLoop l).run P w=.ok jump w1):
 step P (lone (b.at tmps (.endRangeFunc l::k)) cs w)=.next (lone (b.at tmps ((jump.map Item.code).toList++k)) cs w1):=
 cJ (by simp[stepG,stepG.exec,FB.at,e])
theorem Bbj(j:Tz f h w){l:Nat}{st:LoopState}(e:st≠.busy)(m:h.get l=some (.loop st pd fn n tm ps asg body d)):
 (Instr.endLoop (f.b l)).run P w=.ok pd { w with heap:=w.heap.setIfInBounds (f.b l) (.loop ⟨.exhausted,pd,fn,Bh f n tm,ps.toArray,asg,body,f.b d⟩) }:=by
 obtain⟨q,h2⟩:=Ai5 (P:=P) j m;have hs:=Qp (P:=P) (o':=.loop ⟨.exhausted,pd,fn,Bh f n tm,ps.toArray,asg,body,f.b d⟩) h2 (by intros;simp);have hb:(st == .busy)=false:=by cases st<;>first|rfl|exact absurd rfl e
 simp only[Instr.endLoop,Sem.run_bind,q,aI,hb,aW,aY,aS,hs]
theorem A5m(hC:Age P call){l:Nat}
 (j:behind fn n tm ds Dt l k (call g args h)=.go s') (M:Tk p h) (O:Tz f h w) (Q:EV.Tn p args) (C:Yo p ⟨fn,n,tm,k,ds,false,Dt⟩) :
 (∃D,P.funcs[g]? = some D/\D.body.isSome=true/\(D.name == "runtime.NumGoroutine")=false)/\∃f' w',p l ->
  Steps P (lone (Frame.enter P g (Bp f args).toArray .normal) ((FB.mk fn (ds.map (Ja f)) (Dt.map f.b)).at (Bh f n tm) (.inRangeFunc (f.b l)::k)::cs) w) (lone (Oy f' s'.fr) cs w') /\
  Move p f h w f' s'.h w'/\Wf p h s'.h/\Yo (grow p h s'.h) s'.fr/\s'.fr.fn=fn/\s'.fr.Dt=Dt:=by
 unfold behind at j;split at j
 ·cases j
 ·rename_i v B u
  obtain⟨E,S⟩:=hC _ _ _ _ _ u;refine⟨E,?_⟩;split at j
  ·rename_i st pd A K tm' ps asg body d L
   have key:st≠.busy->∀todo:List Item,todo=(pd.map Item.code).toList++k->(AR.go ⟨⟨fn,n,tm,todo,ds,false,Dt⟩,B.put l (.loop .exhausted pd A K tm' ps asg body d)⟩=.go s')->∃f' w',p l ->
    Steps P (lone (Frame.enter P g (Bp f args).toArray .normal) ((FB.mk fn (ds.map (Ja f)) (Dt.map f.b)).at (Bh f n tm) (.inRangeFunc (f.b l)::k)::cs) w) (lone (Oy f' s'.fr) cs w') /\
    Move p f h w f' s'.h w'/\Wf p h s'.h/\Yo (grow p h s'.h) s'.fr/\s'.fr.fn=fn/\s'.fr.Dt=Dt:=by
    intro F todo y e;cases e;obtain⟨fr,f1,w1,hs,U,W,hm,hwf,X⟩:=S p f w M O Q ((FB.mk fn (ds.map (Ja f)) (Dt.map f.b)).at (Bh f n tm) (.inRangeFunc (f.b l)::k)::cs);have m:Yo (grow p h B) ⟨fn,n,tm,k,ds,false,Dt⟩:=C.mono fun _ Y=>.inl Y
    obtain⟨Z,m2⟩:=A8k (st':=.exhausted) (pd':=pd) hwf.hok hm.rep L;have G:grow p h (B.put l (.loop .exhausted pd A K tm' ps asg body d))=grow p h B:=by
     funext q;simp only[grow,Ab.Qg]
    refine⟨f1,_,fun H=>⟨hs.trans (.head (step_leave_returned W) (.one ?_)),hm.trans Z,hwf.trans m2,?_,rfl,rfl⟩⟩
    ·have e1:((FB.mk fn (ds.map (Ja f)) (Dt.map f.b)).at (Bh f n tm) (.inRangeFunc (f.b l)::k)).finish (Cp f1 v)=(FB.mk fn (ds.map (Ja f1)) (Dt.map f1.b)).at (Bh f1 n tm) (.endRangeFunc (f1.b l)::k):=by
      have:=Al8 hm.agree C;simp only[Beo]at this;rw[this,hm.Bh C.tm,(hm.agree l H).1];rfl
     rw[e1,Bax (Bbj hm.rep F L),<-y];rfl
    ·rw[G]
     exact⟨m.tm,m.dfr,m.Dt,fun x=>by cases x⟩
   split at j
   ·cases j
   ·rename_i J;exact key J _ (by cases pd<;>rfl) j
  ·cases j
end
end
section
section
variable(hT:Pe P T){call:Ai}(hC:Age P call)(hR:Amw P round)(wC:Wo call)(wR:Wo round)
include wC wR in
theorem A6n {s:He}(j:(∃s',Cq T call round s=.go s'/\s'.h=h')\/∃v,Cq T call round s=.done v h'):AWf s.h h':=by
 obtain⟨⟨fn,n,tm,todo,ds,ret,Dt⟩,h⟩:=s;have u:∀{todo:List Item} {jump:Option Code} {h':Ab},((∃s',leave fn n tm todo ds Dt h jump=.go s'/\s'.h=h')\/∃v,leave fn n tm todo ds Dt h jump=.done v h')->AWf h h':=by
  intro todo jump h' E;rcases E with⟨s',y,h2⟩|⟨v,y⟩
  ·obtain⟨_,e,_⟩:=A0p y
   rw[e]at h2;subst h2;exact .refl _
  ·unfold leave at y
   split at y
   ·split at y<;>cases y
   ·split at y
    ·rename_i A
     split at y
     ·cases y;exact .put A _
     ·cases y;exact .put A _
    ·cases y
 cases ret with
 | true=>
  cases ds with
  | cons d ds=>
   simp only[Cq]at j;split at j
   ·rename_i A
    rcases j with⟨s',e,rfl⟩|⟨v,e⟩
    ·cases e;exact .put A _
    ·cases e
   ·rcases j with⟨s',e,_⟩|⟨v,e⟩<;>cases e
  | nil=>
   simp only[Cq]at j;rcases j with⟨s',e,rfl⟩|⟨v,e⟩
   ·split at e
    ·split at e<;>cases e
    ·cases e
   ·split at e
    ·split at e<;>first|(cases e;done)|(cases e;exact .refl _)
    ·cases e
 | false=>
  cases todo with
  | nil=>simp only[Cq]at j;exact u j
  | cons it k=>
   have q:∀{s0:He},((∃s',AR.go s0=.go s'/\s'.h=h')\/∃v,AR.go s0=.done v h')->s0.h=h':=by
    rintro s0 (⟨s',e,rfl⟩|⟨v,e⟩)<;>cases e;rfl
   have m:((∃s',AR.fail=.go s'/\s'.h=h')\/∃v,AR.fail=.done v h')->AWf h h':=by
    rintro(⟨s',e,_⟩|⟨v,e⟩)<;>cases e
   have x:∀{B:List Nat} {l g:Nat} {args:List EV} {y:Ab},AWf h y->((∃s',behind fn n tm B Dt l k (call g args y)=.go s'/\s'.h=h')\/∃v,behind fn n tm B Dt l k (call g args y)=.done v h')->AWf h h':=by
    intro B l g args y C hb;unfold behind at hb;split at hb
    ·exact m hb
    ·rename_i v h2 F
     split at hb
     ·rename_i A
      split at hb
      ·exact m hb
      ·rw[<-q hb]
       exact(C.trans (wC _ _ _ _ _ F)).trans (.put A _)
     ·exact m hb
   cases it with
   | code c=>
    cases c with
    | region id ops dr=>
     cases dr with
     | false=>
      simp only[Cq]at j;split at j
      ·rename_i D;rw[<-q j];exact Bdc wC wR D
      ·exact m j
     | true=>
      simp only[Cq]at j;split at j
      ·rename_i D;rw[<-q j];exact Bfw wC wR D
      ·exact m j
    | cond c a b=>
     simp only[Cq]at j;split at j
     ·rw[<-q j];exact .refl _
     ·rw[<-q j];exact .refl _
     ·exact m j
    | exit id=>
     simp only[Cq]at j;split at j
     ·rw[<-q j];exact .refl _
     ·exact u j
    | ret=>simp only[Cq]at j;exact u j
    | rangeFunc fo ps asg body=>
     simp only[Cq]at j;split at j
     ·split at j
      ·exact x ((AWf.new _ _).trans (.new _ _)) j
      ·split at j
       ·exact x (.new _ _) j
       ·exact m j
     ·exact m j
    | seq a b=>simp only[Cq]at j;rw[<-q j];exact .refl _
    | skip=>simp only[Cq]at j;rw[<-q j];exact .refl _
    | block id c=>simp only[Cq]at j;rw[<-q j];exact .refl _
    | loop c=>simp only[Cq]at j;rw[<-q j];exact .refl _
    | label l=>simp only[Cq]at j;rw[<-q j];exact .refl _
    | scope c=>simp only[Cq]at j;exact m j
    | goto c=>simp only[Cq]at j;exact m j
    | refuse c=>simp only[Cq]at j;exact m j
   | inBlock id=>simp only[Cq]at j;rw[<-q j];exact .refl _
   | inLoop c=>simp only[Cq]at j;rw[<-q j];exact .refl _
   | beginRound=>
    simp only[Cq]at j;split at j
    ·split at j
     ·rename_i A;rw[<-q j];exact .put A _
     ·exact m j
    ·exact m j
   | _=>simp only[Cq]at j;exact m j
theorem Sim.run{w:World}{e:List Nat}{f':Loc}
 (hs:Steps P (lone ((FB.mk fn (ds.map (Ja f)) (Dt.map f.b)).at (Bh f n tm) todo) cs w) (lone ((FB.mk fn (e.map (Ja f')) (Dt.map f'.b)).at (Bh f' n tm') todo') cs w'))
 (hm:Move p f h w f' h' w') (hwf:Wf p h h') (j:Yo (grow p h h') ⟨fn,n,tm',todo',e,false,Dt⟩):Sim P p f w cs ⟨⟨fn,n,tm,todo,ds,false,Dt⟩,h⟩ ⟨⟨fn,n,tm',todo',e,false,Dt⟩,h'⟩:=
 ⟨f',w',hs,hm,hwf,j,rfl,rfl⟩
theorem Sim.Aau{w:World}(j:Tk p h)(m:Tz f h w)(e:Yo p ⟨fn,n,tm,todo,ds,false,Dt⟩)
 (hs:step P (lone ((FB.mk fn (ds.map (Ja f)) (Dt.map f.b)).at (Bh f n tm) todo) cs w)=.next (lone ((FB.mk fn (ds.map (Ja f)) (Dt.map f.b)).at (Bh f n tm) todo') cs w)) :
 Sim P p f w cs ⟨⟨fn,n,tm,todo,ds,false,Dt⟩,h⟩ ⟨⟨fn,n,tm,todo',ds,false,Dt⟩,h⟩:=
 Sim.run (.one hs) (Move.refl m) (Wf.refl j) (by rw[Ju _ _ _ rfl];exact⟨e.tm,e.dfr,e.Dt,fun x=>by cases x⟩)
variable{w:World}
theorem A4h(j:Tk p h)(m:Tz f h w)(e:Yo p ⟨fn,n,tm,todo,ds,false,Dt⟩)
 (q:leave fn n tm todo ds Dt h jump=.go s') (u:jump=none->todo = []) (h2:jump=some .ret->∃k,todo=.code .ret::k):Sim P p f w cs ⟨⟨fn,n,tm,todo,ds,false,Dt⟩,h⟩ s':=by
 obtain⟨rfl,rfl,hj⟩:=A0p q;refine Sim.stay j m ?_ ⟨e.tm,e.dfr,e.Dt,fun _=>rfl⟩ rfl rfl;rw[Apu,Ap1];rcases hj with rfl|rfl
 ·rw[u rfl];exact .one (Bs8 rfl)
 ·obtain⟨k,rfl⟩:=h2 rfl;exact .one (Bsx rfl)
include hT hC hR in
theorem Bdm{ops:Array Oper}(y:Tk p h)(A:Tz f h w)(m:Yo p ⟨fn,n,tm,k,ds,false,Dt⟩)
 (B:Ar9 T call round n ops.toList ops.toList tm h=some (tm',h')):Sim P p f w cs ⟨⟨fn,n,tm,.code (.region id ops false)::k,ds,false,Dt⟩,h⟩ ⟨⟨fn,n,tm',k,ds,false,Dt⟩,h'⟩:=by
 obtain⟨f',w',hs,hm,hwf,u⟩:=A72 hT hC hR ops (i:=0) rfl m.tm y A B (FB.mk fn (ds.map (Ja f)) (Dt.map f.b)) k cs;have e:=Al8 hm.agree m;simp only[Beo]at e;refine Sim.run (f':=f') (w':=w') ?_ hm hwf ?_
 ·refine .head Bgq (.trans ?_ (.one (Aza (ops:=ops))))
  rw[<-e];have e2:List.range' 0 (List.drop 0 ops.toList).length=List.range ops.size:=by rw[List.range_eq_range'];simp
  have j:Steps P _ _:=hs;rw[e2]at j;exact j
 ·have:=m.mono (q:=grow p h h') fun _ C=>.inl C
  exact⟨u,this.dfr,this.Dt,fun x=>by cases x⟩
include hT hC hR wC wR in
theorem Blx{ops:Array Oper}(u:Tk p h)(y:Tz f h w)(j:Yo p ⟨fn,n,tm,k,ds,false,Dt⟩)
 (A:Asc T call round n ops.toList tm h=some (tm',h')):Sim P p f w cs ⟨⟨fn,n,tm,.code (.region id ops true)::k,ds,false,Dt⟩,h⟩ ⟨⟨fn,n,tm',k,ds,false,Dt⟩,h'⟩:=by
 obtain⟨f',w',hs,hm,hwf,m⟩:=Bkh hT hC hR wC wR j.tm u y A (FB.mk fn (ds.map (Ja f)) (Dt.map f.b)) (w.tape w.drawn (.order fn id)) k cs (w.drawn+1);have e:=Al8 hm.agree j;simp only[Beo]at e;refine Sim.run (f':=f') (w':=w') ?_ hm hwf ?_
 ·refine .head (Boy hT.mixed) (.trans ?_ (.one (Aza (ops:=ops))))
  rw[<-e];exact hs
 ·have:=j.mono (q:=grow p h h') fun _ B=>.inl B
  exact⟨m,this.dfr,this.Dt,fun x=>by cases x⟩
theorem A5d(q:Lh p n tm)(m:Cj tm fo=some (.func g first captured))(l:Nat)(w1:World)(e:Func)(u:P.funcs[g]? = some e)(h2:e.body.isSome=true)(x:(e.name == "runtime.NumGoroutine")=false):
 (do let d ←resolve (Im (Bh f n tm)) { callee:=.value fo,args:=#[.const (.func (.yield l) #[] #[])],argTypes:=#[] } 0;invoke d.target d.args:Sem Next).run P w1 =
  .ok (.enter g ((Bp f first).toArray ++ #[.func (.yield l) #[] #[]]++(Bp f captured).toArray)) w1:=by
 have y:=Tv (f:=f) q;have hb:¬e.body=none:=by cases B:e.body<;>simp_all
 have A:¬e.name = "runtime.NumGoroutine":=by simpa using x
 have j:Im (Bh f n tm) (.const (.func (.yield l) #[] #[]))=.func (.yield l) #[] #[]:=rfl;simp[resolve,Bl y m,Cp,Deferred.ofValue,invoke,callFunc,u,A,hb,j]
include hC in
theorem Biu{ps:Array Tmp}(hh:Tk p h)(rp:Tz f h w)(u:Yo p ⟨fn,n,tm,k,ds,false,none⟩)
 (C:Cj tm fo=some (.func g first captured))
 (O:behind fn n tm (h.next::ds) none (Nat.succ h.next) k (call g (first++(.U1 (Nat.succ h.next)::captured)) ((h.new (.deferred true)).new (.loop .ready none fn n tm ps.toList asg body h.next)))=.go s') :
 Sim P p f w cs ⟨⟨fn,n,tm,.code (.rangeFunc fo ps asg body)::k,ds,false,none⟩,h⟩ s':=by
 have j:=Ez (v:=.func g first captured) u.tm C;have Q:(By.deferred true).ok (grow p h (h.new (.deferred true))):=trivial;have S:Move p f h w (f.set h.next w.heap.size 0) (h.new (.deferred true)) { w with heap:=w.heap.push (.deferred (some [])) }:=Move.new hh rp 0 rfl rfl rfl rfl rfl;have y:Wf p h (h.new (.deferred true)):=Wf.new hh Q;have U:Bh f n tm=Bh (f.set h.next w.heap.size 0) n tm:=K4 S.agree u.tm;have W:grow p h (h.new (.deferred true)) h.next:=.inr ⟨aD _,by rw[Ab.Di];omega⟩
 have D:(By.loop .ready none fn n tm ps.toList asg body h.next).ok (grow p h (h.new (.deferred true))):=⟨u.tm.mono fun _ A=>.inl A,W⟩;have m2:Move (grow p h (h.new (.deferred true))) (f.set h.next w.heap.size 0) (h.new (.deferred true)) { w with heap:=w.heap.push (.deferred (some [])) }
  ((f.set h.next w.heap.size 0).set (h.next+1) (w.heap.size+1) 0) ((h.new (.deferred true)).new (.loop .ready none fn n tm ps.toList asg body h.next))
  { w with heap:=(w.heap.push (.deferred (some []))).push (.loop ⟨.ready,none,fn,Bh f n tm,ps,asg,body,w.heap.size⟩) }:=by
  have hx:=Move.new (w':={ w with heap:=(w.heap.push (.deferred (some []))).push (.loop ⟨.ready,none,fn,Bh f n tm,ps,asg,body,w.heap.size⟩) }) (o:=.loop .ready none fn n tm ps.toList asg body h.next) (r:=.loop ⟨.ready,none,fn,Bh f n tm,ps,asg,body,w.heap.size⟩) y.hok S.rep 0 rfl ?_ rfl rfl rfl
  ·have e1:(h.new (.deferred true)).next=h.next+1:=rfl
   have e2:({ w with heap:=w.heap.push (.deferred (some [])) }:World).heap.size=w.heap.size+1:=by simp
   rw[e1,e2]at hx;exact hx
  ·have X:Bh f n tm=Bh ((f.set h.next w.heap.size 0).set (h.new (.deferred true)).next ({ w with heap:=w.heap.push (.deferred (some [])) }:World).heap.size 0) n tm:=by
    rw[U];exact K4 (Loc.Mr _ _ _ (fun x=>absurd (y.hok.lt _ x) (by omega))) (u.tm.mono fun _ A=>.inl A)
   show Obj.loop _=Obj.loop _;rw[<-X,eC];have e3:((f.set h.next w.heap.size 0).set (h.new (.deferred true)).next ({ w with heap:=w.heap.push (.deferred (some [])) }:World).heap.size 0).b h.next=w.heap.size:=by
    rw[(Loc.Uu _ _ _ (by rw[Ab.Di];omega)).1,Loc.Xr]
   rw[e3]
 have Y:Wf (grow p h (h.new (.deferred true))) (h.new (.deferred true)) ((h.new (.deferred true)).new (.loop .ready none fn n tm ps.toList asg body h.next)):=Wf.new y.hok (D.mono fun _ A=>.inl A);have e:=S.trans m2;have m:=y.trans Y;generalize E:(f.set h.next w.heap.size 0).set (h.next+1) (w.heap.size+1) 0=f2 at m2 e;have Z:f2.b h.next=w.heap.size:=by rw[<-E,(Loc.Uu _ _ _ (by omega)).1,Loc.Xr]
 have F:f2.b (h.next+1)=w.heap.size+1:=by rw[<-E,Loc.Xr]
 have aa:grow p h ((h.new (.deferred true)).new (.loop .ready none fn n tm ps.toList asg body h.next)) h.next:=.inr ⟨aD _,by rw[Ab.Di,Ab.Di];omega⟩
 have G:grow p h ((h.new (.deferred true)).new (.loop .ready none fn n tm ps.toList asg body h.next)) (h.next+1):=.inr ⟨by omega,by rw[Ab.Di,Ab.Di];omega⟩;have B:EV.Tn (grow p h ((h.new (.deferred true)).new (.loop .ready none fn n tm ps.toList asg body h.next))) (first++(.U1 (Nat.succ h.next)::captured)):=
  Aas (S7 j.1) ⟨G,S7 j.2⟩
 have H:Yo (grow p h ((h.new (.deferred true)).new (.loop .ready none fn n tm ps.toList asg body h.next))) ⟨fn,n,tm,k,h.next::ds,false,none⟩:=by
  refine⟨u.tm.mono fun _ A=>.inl A,fun d hd=>?_,fun l hl=>(by cases hl),fun x=>(by cases x)⟩;rcases bW.1 hd with rfl|hd
  ·exact aa
  ·exact .inl (u.dfr d hd)
 obtain⟨⟨gn,g1,g2,g3⟩,f',w',hb⟩:=A5m (cs:=cs) hC O m.hok e.rep B H;obtain⟨hs,hm,hwf,J,K,L⟩:=hb G;refine⟨f',w',?_,e.trans hm,m.trans hwf,?_,K,L⟩
 ·rw[Apu]
  refine .head ?_ hs;have M:=Awy (P:=P) (b:=FB.mk fn (ds.map (Ja f)) none) (k:=k) (cs:=cs) (w:=w) (fo:=fo) (ps:=ps) (asg:=asg) (body:=body) (tmps:=Bh f n tm)
   (l:=w.heap.size+1) (mark:=[{ target:=.collected w.heap.size,args:=#[] }]) (w1:={ w with heap:=(w.heap.push (.deferred (some []))).push (.loop ⟨.ready,none,fn,Bh f n tm,ps,asg,body,w.heap.size⟩) })
   (g:=g) (args:=(Bp f first).toArray ++ #[.func (.yield (w.heap.size+1)) #[] #[]]++(Bp f captured).toArray) (by simp[Instr.enterLoop];rfl) (A5d u.tm C _ _ gn g1 g2 g3)
  have e1:Bp f2 (first++(.U1 (Nat.succ h.next)::captured))=Bp f first++(.func (.yield (w.heap.size+1)) #[] #[]::Bp f captured):=by
   rw[Sy,Bp,<-Fv e.agree _ j.1,<-Fv e.agree _ j.2];simp only[Cp];rw[show f2.b (Nat.succ h.next)=w.heap.size+1 from F]
  have e2:(Bh f n tm)=Bh f2 n tm:=K4 e.agree u.tm;have e3:ds.map (Ja f)=ds.map (Ja f2):=by
   apply cZ;intro d hd;unfold Ja;rw[(e.agree d (u.dfr d hd)).1]
  rw[e1,<-e2,cR,<-e3];have e4:Ja f2 h.next = { target:=.collected w.heap.size,args:=#[] }:=by unfold Ja;rw[Z]
  rw[e4,show f2.b (Nat.succ h.next)=w.heap.size+1 from F];have e5:((Bp f first).toArray ++ #[Value.func (.yield (w.heap.size+1)) #[] #[]]++(Bp f captured).toArray)=(Bp f first++(.func (.yield (w.heap.size+1)) #[] #[]::Bp f captured)).toArray:=by simp
  rw[e5]at M;exact M
 ·exact J.mono fun q hq=>by rw[Afb p m.next hwf.next]at hq;exact hq
include hC in
theorem A9w{l0:Nat}{ps:Array Tmp}(A:Tk p h)(Z:Tz f h w)(j:Yo p ⟨fn,n,tm,k,ds,false,some l0⟩)
 (B:Cj tm fo=some (.func g first captured)) {M:LoopState} {O n0:Nat} {Q:Bb} {S:List Tmp} {C m:Code} {d0:Nat} (D:h.get l0=some (.loop M pd0 O n0 Q S C m d0))
 (U:behind fn n tm ds (some l0) h.next k (call g (first++(.U1 h.next::captured)) (h.new (.loop .ready none fn n tm ps.toList asg body d0)))=.go s') :
 Sim P p f w cs ⟨⟨fn,n,tm,.code (.rangeFunc fo ps asg body)::k,ds,false,some l0⟩,h⟩ s':=by
 have e:=Ez (v:=.func g first captured) j.tm B;have E:p d0:=(A.get l0 _ D).2.2;have u:Move p f h w (f.set h.next w.heap.size 0) (h.new (.loop .ready none fn n tm ps.toList asg body d0)) { w with heap:=w.heap.push (.loop ⟨.ready,none,fn,Bh f n tm,ps,asg,body,f.b d0⟩) }:=by
  refine Move.new A Z 0 rfl ?_ rfl rfl rfl;show Obj.loop _=Obj.loop _;rw[<-K4 (Loc.Mr f _ _ A.fresh) j.tm,eC,(Loc.Mr f w.heap.size 0 A.fresh d0 E).1]
 have x:Wf p h (h.new (.loop .ready none fn n tm ps.toList asg body d0)):=Wf.new A ⟨j.tm.mono fun _ W=>.inl W,.inl E⟩;generalize X:f.set h.next w.heap.size 0=f2 at u
 have eb:f2.b h.next=w.heap.size:=by rw[<-X,Loc.Xr]
 have F:grow p h (h.new (.loop .ready none fn n tm ps.toList asg body d0)) h.next:=.inr ⟨aD _,by rw[Ab.Di];omega⟩
 have y:EV.Tn (grow p h (h.new (.loop .ready none fn n tm ps.toList asg body d0))) (first++(.U1 h.next::captured)):=Aas (S7 e.1) ⟨F,S7 e.2⟩;have G:Yo (grow p h (h.new (.loop .ready none fn n tm ps.toList asg body d0))) ⟨fn,n,tm,k,ds,false,some l0⟩:=j.mono fun _ W=>.inl W
 obtain⟨⟨gn,g1,g2,g3⟩,f',w',hb⟩:=A5m (cs:=cs) hC U x.hok u.rep y G;obtain⟨hs,hm,hwf,H,J,K⟩:=hb F;refine⟨f',w',?_,u.trans hm,x.trans hwf,?_,J,K⟩
 ·rw[Apu]
  refine .head ?_ hs;obtain⟨Y,ah⟩:=Ai5 (P:=P) Z D;have L:=Awy (P:=P) (b:=FB.mk fn (ds.map (Ja f)) (some (f.b l0))) (k:=k) (cs:=cs) (w:=w) (fo:=fo) (ps:=ps) (asg:=asg) (body:=body) (tmps:=Bh f n tm)
   (l:=w.heap.size) (mark:=[]) (w1:={ w with heap:=w.heap.push (.loop ⟨.ready,none,fn,Bh f n tm,ps,asg,body,f.b d0⟩) })
   (g:=g) (args:=(Bp f first).toArray ++ #[.func (.yield w.heap.size) #[] #[]]++(Bp f captured).toArray) (by simp[Instr.enterLoop,Y]) (A5d j.tm B _ _ gn g1 g2 g3)
  have e1:Bp f2 (first++(.U1 h.next::captured))=Bp f first++(.func (.yield w.heap.size) #[] #[]::Bp f captured):=by
   rw[Sy,Bp,<-Fv u.agree _ e.1,<-Fv u.agree _ e.2];simp only[Cp];rw[eb]
  have e2:=Al8 u.agree j;simp only[Beo]at e2;rw[e1,<-e2,eb,<-K4 u.agree j.tm];have e5:((Bp f first).toArray ++ #[Value.func (.yield w.heap.size) #[] #[]]++(Bp f captured).toArray)=(Bp f first++(.func (.yield w.heap.size) #[] #[]::Bp f captured)).toArray:=by simp
  rw[e5]at L;exact L
 ·exact H.mono fun q hq=>by rw[Afb p x.next hwf.next]at hq;exact hq
include hT hC hR wC wR in
theorem Bl2 {s:He}(j:Cq T call round s=.go s')(m:Yo p s.fr)(u:Tk p s.h)(q:Tz f s.h w)(cs:List Frame):Sim P p f w cs s s':=by
 obtain⟨⟨fn,n,tm,todo,ds,ret,Dt⟩,h⟩:=s;cases ret with
 | true=>
  have G:Dt=none:=m.ret rfl;subst G;cases ds with
  | cons d ds=>
   simp only[Cq]at j;split at j
   ·rename_i A
    cases j;obtain⟨r0,B,rfl⟩:=q.obj d _ A;have y:(Instr.takeDeferred (f.b d)).run P w=.ok [] { w with heap:=w.heap.setIfInBounds (f.b d) (.deferred none) }:=by
     have F:=Od (P:=P) B (by intros;simp);have h2:=Qp (P:=P) (o':=.deferred none) B (by intros;simp);simp only[bI]at F;simp only[Instr.takeDeferred,Sem.run_bind,F,aI,h2,aS]
    have hm:Move p f h w f (h.put d (.deferred false)) { w with heap:=w.heap.setIfInBounds (f.b d) (.deferred none) }:=Move.setObj q A rfl;have hwf:Wf p h (h.put d (.deferred false)):=Wf.put u A trivial;refine⟨f,_,.one ?_,hm,hwf,?_,rfl,rfl⟩
    ·rw[Ap1,Ap1];exact Bi2 y
    ·exact Yo.mono (p:=p) ⟨m.tm,fun x S=>m.dfr x (aT _ S),m.Dt,fun _=>rfl⟩ fun _ H=>.inl H
   ·cases j
  | nil=>
   simp only[Cq]at j;split at j
   ·split at j<;>cases j
   ·cases j
 | false=>
  have O:=Tv (f:=f) m.tm;have C:∀{it:Item} {k:List Item},Yo p ⟨fn,n,tm,it::k,ds,false,Dt⟩->Yo p ⟨fn,n,tm,k,ds,false,Dt⟩:=fun h=>⟨h.tm,h.dfr,h.Dt,h.ret⟩
  cases todo with
  | nil=>simp only[Cq]at j;exact A4h u q m j (fun _=>rfl) (fun e=>by cases e)
  | cons it k=>
   cases it with
   | code c=>
    cases c with
    | region id ops dr=>
     cases dr with
     | false=>
      simp only[Cq]at j;split at j
      ·rename_i J;cases j;exact Bdm hT hC hR u q (C m) J
      ·cases j
     | true=>
      simp only[Cq]at j;split at j
      ·rename_i J;cases j;exact Blx hT hC hR wC wR u q (C m) J
      ·cases j
    | cond c a b=>
     simp only[Cq]at j;split at j
     ·rename_i K;cases j;exact Sim.Aau u q m (Be6 (t:=true) (by rw[Bl O K];rfl))
     ·rename_i K;cases j;exact Sim.Aau u q m (Be6 (t:=false) (by rw[Bl O K];rfl))
     ·cases j
    | exit id=>
     simp only[Cq]at j;split at j
     ·rename_i he;cases j;exact Sim.Aau u q m (Bpn he)
     ·obtain⟨_,_,hj⟩:=A0p j
      rcases hj with hj|hj<;>cases hj
    | ret=>simp only[Cq]at j;exact A4h u q m j (fun e=>by cases e) (fun _=>⟨k,rfl⟩)
    | rangeFunc fo ps asg body=>
     simp only[Cq]at j;split at j
     ·rename_i g first captured D
      split at j
      ·exact Biu hC u q (C m) D j
      ·split at j
       ·rename_i L;exact A9w hC u q (C m) D L j
       ·cases j
     ·cases j
    | seq a b=>simp only[Cq]at j;cases j;exact Sim.Aau u q m Bsp
    | skip=>simp only[Cq]at j;cases j;exact Sim.Aau u q m Bqs
    | block id c=>simp only[Cq]at j;cases j;exact Sim.Aau u q m Bm0
    | loop c=>simp only[Cq]at j;cases j;exact Sim.Aau u q m Bo5
    | label l=>simp only[Cq]at j;cases j;exact Sim.Aau u q m Bna
    | scope c=>simp only[Cq]at j;cases j
    | goto c=>simp only[Cq]at j;cases j
    | refuse c=>simp only[Cq]at j;cases j
   | inBlock id=>simp only[Cq]at j;cases j;exact Sim.Aau u q m Bc9
   | inLoop c=>simp only[Cq]at j;cases j;exact Sim.Aau u q m Bg3
   | beginRound=>
    simp only[Cq]at j;split at j
    ·rename_i l
     split at j
     ·rename_i pd E Q tm' ps asg body d A
      cases j;obtain⟨F,h2⟩:=Ai5 (P:=P) q A;obtain⟨U,M⟩:=A8k (st':=.busy) (pd':=pd) u q A;have hs:=Qp (P:=P) (o':=.loop ⟨.busy,pd,E,Bh f Q tm',ps.toArray,asg,body,f.b d⟩) h2 (by intros;simp);have y:(Instr.beginRound (f.b l)).run P w=.ok () { w with heap:=w.heap.setIfInBounds (f.b l) (.loop ⟨.busy,pd,E,Bh f Q tm',ps.toArray,asg,body,f.b d⟩) }:=by
       simp only[Instr.beginRound,Sem.run_bind,F,aI,hs,aS]
      exact Sim.run (.one (A28 (b:=FB.mk fn (ds.map (Ja f)) (some (f.b l))) rfl y)) U M ((C m).mono fun _ H=>.inl H)
     ·cases j
    ·cases j
   | _=>simp only[Cq]at j;cases j
end
end
section
section
variable(hT:Pe P T){call:Ai}(hC:Age P call)(hR:Amw P round)(wC:Wo call)(wR:Wo round)
variable{w:World}
include hT in
theorem A2v {s:He}(j:Cq T call round s=.done v h')(F:Yo p s.fr)(y:Tk p s.h)(A:Tz f s.h w):Fin P p f w s v h':=by
 obtain⟨⟨fn,n,tm,todo,ds,ret,Dt⟩,h⟩:=s;cases ret with
 | true=>
  have B:Dt=none:=F.ret rfl;subst B;cases ds with
  | cons d ds=>
   simp only[Cq]at j;split at j<;>cases j
  | nil=>
   simp only[Cq]at j;split at j
   ·rename_i q C
    have key:∀{vs:List EV} {v:EV},Mo T tm h q.results.toList=some vs->(vs = [v]\/((∀x,vs≠[x])/\v=.tuple vs))->Fin P p f w ⟨⟨fn,n,tm,todo,[],true,none⟩,h⟩ v h:=by
     intro vs v G h2;obtain⟨H,J⟩:=A9q hT y A F.tm G h2;exact⟨rfl,⟨rfl,rfl,rfl,q,(hT.fn fn q C).1,H⟩,J⟩
    split at j
    ·rename_i D;cases j;exact key D (.inl rfl)
    ·rename_i l E D;cases j;exact key D (.inr ⟨fun x e=>by subst e;exact E x rfl,rfl⟩)
    ·cases j
   ·cases j
 | false=>
  cases todo with
  | nil=>simp only[Cq]at j;exact Ata y A j (.inl ⟨rfl,rfl⟩)
  | cons it k=>
   have m:∀{u:List Nat} {l:Nat} {r:Option (EV × Ab)},behind fn n tm u Dt l k r=.done v h'->False:=by
    intro u l r hb;unfold behind at hb;split at hb
    ·cases hb
    ·split at hb
     ·split at hb<;>cases hb
     ·cases hb
   cases it with
   | code c=>
    cases c with
    | region id ops dr=>cases dr<;>(simp only[Cq]at j;split at j<;>cases j)
    | cond c a b=>simp only[Cq]at j;split at j<;>cases j
    | exit id=>
     simp only[Cq]at j;split at j
     ·cases j
     ·rename_i he;exact Ata y A j (.inr (.inr ⟨id,k,rfl,he,rfl⟩))
    | ret=>simp only[Cq]at j;exact Ata y A j (.inr (.inl ⟨k,rfl,rfl⟩))
    | rangeFunc fo ps asg body=>
     simp only[Cq]at j;split at j
     ·split at j
      ·exact(m j).elim
      ·split at j
       ·exact(m j).elim
       ·cases j
     ·cases j
    | _=>simp only[Cq]at j;cases j
   | beginRound=>
    simp only[Cq]at j;split at j
    ·split at j<;>cases j
    ·cases j
   | _=>simp only[Cq]at j;cases j
theorem Sim.refl{s:He}(e:Yo p s.fr)(j:Tk p s.h)(m:Tz f s.h w):Sim P p f w cs s s:=
 ⟨f,w,.refl _ _,Move.refl m,Wf.refl j,by rw[Ju _ _ _ rfl];exact e,rfl,rfl⟩
def Bjc(P:Program)(s s':He):Prop:=∀p f w cs,Yo p s.fr->Tk p s.h->Tz f s.h w->Sim P p f w cs s s'
theorem Bjc.trans {s s1 s2:He}(a:Bjc P s s1)(b:Bjc P s1 s2):Bjc P s s2:=by
 intro p f w cs B C D;obtain⟨f1,w1,q,m,e,u,e1,e2⟩:=a p f w cs B C D;obtain⟨f2,w2,x,y,j,A,e3,e4⟩:=b _ f1 w1 cs u e.hok m.rep;exact⟨f2,w2,q.trans x,m.trans y,e.trans j,by rw[<-Afb p e.next j.next];exact A,e3.trans e1,e4.trans e2⟩
theorem Ahn:∀(l:List EV) (i:Nat) (t:Tr EV) (j:Nat),(setArgs l i t).get j=if i<=j/\j<i+l.length then l[j-i]? else t.get j
 | [],i,t,j=>by simp[setArgs];omega
 | v::r,i,t,j=>by
  simp only[setArgs];rw[Ahn r (i+1) (t.put i (some v)) j,Tr.get_put];simp only[bK];by_cases e:i=j
  ·subst e
   rw[aM (by omega),aQ rfl,aQ (by omega)];simp
  ·by_cases h2:i+1<=j/\j<i+1+r.length
   ·rw[aQ h2,aQ (by omega)]
    rw[show j-i=(j-(i+1))+1 by omega,cC]
   ·rw[aM h2,aM e,aM (by omega)]
theorem Bd0(f:Loc)(h:args.length<=n):Bh f n (setArgs args 0 .nil)=(Bp f args).toArray++Array.replicate (n-(Bp f args).toArray.size) undef:=by
 apply eZ;intro j;rw[Afn];rw[Array.getElem?_append];simp only[cW,Cs,bU,Agx,Array.getElem?_replicate];unfold tmp;rw[Ahn];by_cases hj:j<args.length
 ·rw[aQ (by omega),aQ (by omega),aQ hj,Nat.sub_zero]
  rw[aH hj];rfl
 ·rw[aM (show ¬(0<=j/\j<0+args.length) by omega),aM hj]
  by_cases e:j<n
  ·rw[aQ e,aQ (by omega)];rfl
  ·rw[aM e,aM (by omega)]
theorem Bon(h:args.length<=n)(j:EV.Tn p args):Lh p n (setArgs args 0 .nil) where
 ok t v e:=by
  rw[Ahn]at e;split at e
  ·exact(Ho p args).1 j v (dO e)
  ·cases e
 out t m:=by
  rw[Ahn,aM (by omega)];rfl
end
end
section
theorem Aax:∀{a b:List EV} {r:Bool},Ey a b=some r->a.length=b.length
 | [],[],_,_=>rfl
 | x::a,y::b,r,h=>by
  simp only[Ey]at h;split at h
  ·simp[Aax h]
  ·split at h
   ·rename_i h2;simp[Aax h2]
   ·cases h
  ·cases h
 | [],_::_,_,h=>by cases h
 | _::_,[],_,h=>by cases h
theorem Ae0:∀(k:Nat) {a b:List EV} {r:Bool},Ey a b=some r->∃j e,Ey (a.take k) (b.take k)=some j/\Ey (a.drop k) (b.drop k)=some e/\r=(j&&e)
 | 0,a,b,r,h=>⟨true,r,rfl,h,by simp⟩
 | k+1,[],[],r,h=>by cases h;exact⟨true,true,rfl,rfl,rfl⟩
 | k+1,x::a,y::b,r,h=>by
  simp only[Ey]at h;split at h
  ·rename_i m
   obtain⟨j,e,q,h2,u⟩:=Ae0 k h;exact⟨j,e,by simp only[fN,Ey,m,q],by simpa using h2,u⟩
  ·rename_i m
   split at h
   ·rename_i r0 h0
    cases h;obtain⟨j,e,q,h2,u⟩:=Ae0 k h0;exact⟨false,e,by simp only[fN,Ey,m,q],by simpa using h2,rfl⟩
   ·cases h
  ·cases h
 | k+1,[],_::_,_,h=>by cases h
 | k+1,_::_,[],_,h=>by cases h
theorem Ab0 {b:Nat}{s:List Nat}{x:EV}{l:List EV}(h:shaped (b::s) (x::l)=true):shaped s l=true/\((b=0/\∃k n,x=.int k n)\/(b=1/\∃c,x=.bool c)\/(b=2/\∃c,x=.str c)):=by
 cases x with
 | int k n=>
  simp only[shaped]at h;rw[Bn]at h;split at h
  ·rename_i hb;exact⟨h,.inl ⟨aL hb,k,n,rfl⟩⟩
  ·cases h
 | bool c=>
  simp only[shaped]at h;rw[Bn]at h;split at h
  ·rename_i hb;exact⟨h,.inr (.inl ⟨aL hb,c,rfl⟩)⟩
  ·cases h
 | str c=>
  simp only[shaped]at h;rw[Bn]at h;split at h
  ·rename_i hb;exact⟨h,.inr (.inr ⟨aL hb,c,rfl⟩)⟩
  ·cases h
 | _=>cases h
theorem Lf:∀{sh:List Nat} {l:List EV},shaped sh l=true->l.length=sh.length
 | [],[],_=>rfl
 | b::s,x::l,h=>by rw[bK,bK,Lf (Ab0 h).1]
 | [],_::_,h=>by cases h
 | _::_,[],h=>by cases h
theorem Aet:∀{s1 s2:List Nat} {l:List EV},shaped (s1++s2) l=true->shaped s1 (l.take s1.length)=true/\shaped s2 (l.drop s1.length)=true
 | [],s2,l,h=>⟨rfl,h⟩
 | b::s1,s2,l,h=>by
  cases l with
  | nil=>have:=Lf h;simp at this
  | cons x l=>
   obtain⟨j,h2⟩:=Ab0 (s:=s1++s2) h;obtain⟨e,h4⟩:=Aet j;refine⟨?_,h4⟩;simp only[bK,fN];rcases h2 with⟨rfl,k,n,rfl⟩|⟨rfl,c,rfl⟩|⟨rfl,c,rfl⟩
   ·exact e
   ·exact e
   ·exact e
def Atk(fl:TypeId->Option (List Nat)):List Field->Nat->Option (List Nat)
 | [],_=>some []
 | f::r,off=>match fl f.type with
  | some s=>if f.offset=off/\f.name≠"_" then(match Atk fl r (off+s.length)with|some t=>some (s++t)|none=>none)else none
  | none=>none
def flat(P:Program):Nat->TypeId->Option (List Nat)
 | 0=>fun _=>none
 | d+1=>fun t=>match P.info? t with
  | some i=>match P.underlying t with
   | some (.int _)=>if i.size=1 then some [0]else none
   | some .bool=>if i.size=1 then some [1]else none
   | some .string=>if i.size=1 then some [2]else none
   | some (.struct j)=>if P.stoodInHeld t=false then(match Atk (flat P d) j.toList 0 with
    | some s=>if s.length=i.size then some s else none
    | none=>none)else none
   | some (.array len e)=>match flat P d e with
    | some s=>if len*s.length=i.size then some (List.replicate len s).flatten else none
    | none=>none
   | _=>none
  | none=>none
def isA(P:Program)(t:TypeId):Bool:=match P.underlying t with|some (.struct _)=>true|some (.array _ _)=>true|_=>false
noncomputable def Ajq(P:Program)(f:Loc)(t:TypeId)(l:List EV):Value:=if isA P t=true then .agg (Bp f l).toArray else(match l with|v::_=>Cp f v | []=>undef)
theorem Vv(n:Nat)(s:List Nat):(List.replicate n s).flatten.length=n*s.length:=by
 induction n with
 | zero=>simp
 | succ n e=>rw[eF,br,aG,e,fO];omega
theorem Ws{s:List Nat}(h:flat P d t=some s):(∃i,P.info? t=some i/\i.size=s.length)/\(isA P t=false->(s = [0]/\∃k,P.underlying t=some (.int k))\/(s = [1]/\P.underlying t=some .bool)\/(s = [2]/\P.underlying t=some .string))/\∀w,(isAgg t).run P w=.ok (isA P t) w:=by
 cases d with
 | zero=>simp[flat]at h
 | succ d=>
  simp only[flat]at h;split at h
  ·rename_i i m
   split at h
   ·rename_i k hu
    split at h
    ·rename_i j;cases h;exact⟨⟨i,m,j⟩,fun _=>.inl ⟨rfl,k,hu⟩,fun w=>by simp[isAgg,underlying,isA,hu]⟩
    ·cases h
   ·rename_i hu
    split at h
    ·rename_i j;cases h;exact⟨⟨i,m,j⟩,fun _=>.inr (.inl ⟨rfl,hu⟩),fun w=>by simp[isAgg,underlying,isA,hu]⟩
    ·cases h
   ·rename_i hu
    split at h
    ·rename_i j;cases h;exact⟨⟨i,m,j⟩,fun _=>.inr (.inr ⟨rfl,hu⟩),fun w=>by simp[isAgg,underlying,isA,hu]⟩
    ·cases h
   ·rename_i q hu
    split at h
    ·split at h
     ·split at h
      ·rename_i j;cases h;exact⟨⟨i,m,j.symm⟩,fun e=>by simp[isA,hu]at e,fun w=>by simp[isAgg,underlying,isA,hu]⟩
      ·cases h
     ·cases h
    ·cases h
   ·rename_i len e hu
    split at h
    ·split at h
     ·rename_i j;cases h;exact⟨⟨i,m,by rw[Vv];exact j.symm⟩,fun e=>by simp[isA,hu]at e,fun w=>by simp[isAgg,underlying,isA,hu]⟩
     ·cases h
    ·cases h
   ·cases h
  ·cases h
theorem Qn(f:Loc)(w:World){s:List Nat}(h:flat P d t=some s){xs:List EV}(u:off+s.length<=xs.length):
 (Go.part t (Bp f xs).toArray off).run P w=.ok (Ajq P f t ((xs.drop off).take s.length)) w:=by
 obtain⟨⟨i,x,hs⟩,j,e⟩:=Ws h;have m:(sizeOf t).run P w=.ok s.length w:=by simp[sizeOf,typeInfo,x,hs]
 unfold Ajq;cases q:isA P t with
 | true=>
  simp only[Go.part,Sem.run_bind,e w,q,aI,bI,m,aS];congr 2;apply dR;simp[O6,List.extract_eq_take_drop]
 | false=>
  have y:s.length=1:=by rcases j q with⟨rfl,_⟩|⟨rfl,_⟩|⟨rfl,_⟩<;>rfl
  rw[y]at u⊢;have A:xs[off]? = some xs[off]:=aH (by omega);have e1:(xs.drop off).take 1 = [xs[off]]:=by
   rw[dI (by omega)];rfl
  have e2:(Bp f xs).toArray[off]? = some (Cp f xs[off]):=by simp[O6,A]
  rw[e1];simp only[Go.part,Sem.run_bind,e w,q,aI,aW,aY,e2,aS]
def EqF(P:Program)(d D:Nat):Prop:=∀(t:TypeId) (s:List Nat),flat P d t=some s->∀(f:Loc) (w:World) (a b:List EV) (r:Bool),shaped s a=true->Ey a b=some r->(Op.equalIn D t (Ajq P f t a) (Ajq P f t b)).run P w=.ok r w
theorem A2o(f:Loc)(w:World){D:Nat}(A:EqF P d D)(a b:List EV)(B:a.length=b.length):∀(x:List Field) (off:Nat) (s:List Nat) (r:Bool),Atk (flat P d) x off=some s->shaped s (a.drop off)=true->Ey (a.drop off) (b.drop off)=some r ->
 (Op.eqFields D (Bp f a).toArray (Bp f b).toArray x).run P w=.ok r w
 | [],off,s,r,h,hs,q=>by
  simp only[Atk]at h;cases h;have:=Lf hs;rw[fC,bX]at this;rw[this]at q;have h2:=Aax q;rw[fC]at h2;rw[bX.1 h2.symm]at q;cases q;simp[Op.eqFields]
 | fd::x,off,s,r,h,hs,q=>by
  simp only[Atk]at h;split at h
  ·rename_i s1 e
   split at h
   ·rename_i j
    split at h
    ·rename_i s2 C
     cases h;obtain⟨E,K⟩:=Aet hs;obtain⟨y,O,F,h2,L⟩:=Ae0 s1.length q;rw[cD]at K;rw[cD,cD]at h2;have hlen:=Lf hs;rw[aU,aG]at hlen;have M:=A2o f w A a b B x (off+s1.length) s2 O C K h2;by_cases Q:off+s1.length<=a.length
     ·have p1:=Qn f w e (xs:=a) (off:=off) Q
      have S:=Qn f w e (xs:=b) (off:=off) (by omega);have G:=A fd.type s1 e f w _ _ y E F;simp only[Op.eqFields,j.2,ne_eq,aF,bI,Sem.run_bind,j.1,p1,S,G,aI];subst L;cases y
      ·simp
      ·simpa using M
     ·
      have h0:s1.length=0:=by omega
      obtain⟨⟨i,U,H⟩,J,u⟩:=Ws e;have W:isA P fd.type=true:=by
       cases X:isA P fd.type with
       | true=>rfl
       | false=>rcases J X with⟨rfl,_⟩|⟨rfl,_⟩|⟨rfl,_⟩<;>simp at h0
      have m:(sizeOf fd.type).run P w=.ok 0 w:=by simp[sizeOf,typeInfo,U,H,h0]
      have Y:∀xs:List EV,(Go.part fd.type (Bp f xs).toArray off).run P w=.ok (Ajq P f fd.type []) w:=by
       intro xs;simp only[Go.part,Sem.run_bind,u w,W,aI,bI,m,aS,Ajq,cz];congr 2;apply dR;simp[Bp]
      rw[h0,List.take_zero,List.take_zero]at F;rw[h0,List.take_zero]at E;have G:=A fd.type s1 e f w [] [] y E F;simp only[Op.eqFields,j.2,ne_eq,aF,bI,Sem.run_bind,j.1,Y,G,aI];subst L;cases y
      ·simp
      ·simpa using M
    ·cases h
   ·cases h
  ·cases h
theorem A4n(f:Loc)(w:World){D:Nat}(A:EqF P d D){e:TypeId}{s:List Nat}(hs:flat P d e=some s)(a b:List EV)(x:a.length=b.length):∀(n k:Nat) (r:Bool),(k+n)*s.length=a.length->shaped (List.replicate n s).flatten (a.drop (k*s.length))=true ->
 Ey (a.drop (k*s.length)) (b.drop (k*s.length))=some r ->
 (Op.eqItems D e (P.cellsOf e) (Bp f a).toArray (Bp f b).toArray (List.range' k n)).run P w=.ok r w
 | 0,k,r,j,m,u=>by
  rw[cz]at j;rw[ct (by omega),ct (by omega)]at u;cases u;simp[Op.eqItems]
 | n+1,k,r,j,m,u=>by
  obtain⟨⟨i,G,y⟩,_⟩:=Ws hs;have B:P.cellsOf e=s.length:=by simp[Program.cellsOf,G,y]
  rw[eF,br]at m;obtain⟨H,C⟩:=Aet m;obtain⟨E,J,K,h2,L⟩:=Ae0 s.length u;have q:k*s.length+s.length=(k+1)*s.length:=by rw[fO];omega
  rw[cD,q]at C;rw[cD,cD,q]at h2;have F:=A4n f w A hs a b x n (k+1) J (by rw[<-j];congr 1;omega) C h2;have M:k*s.length+s.length<=a.length:=by
   rw[<-j,show k+(n+1)=(k+1)+n by omega,fO,fO];omega
  have p1:=Qn f w hs (xs:=a) (off:=k*s.length) M;have O:=Qn f w hs (xs:=b) (off:=k*s.length) (by omega);have Q:=A e s hs f w _ _ E H K;rw[List.range'_succ];simp only[Op.eqItems,Sem.run_bind,B,p1,O,Q,aI];rw[B]at F;subst L;cases E
  ·simp
  ·simpa using F
theorem Bga:∀(d D:Nat),d<=D->EqF P d D
 | 0,_,_=>fun t n h=>by simp[flat]at h
 | d+1,0,h=>by omega
 | d+1,D+1,hd=>by
  have M:=Bga d D (by omega);intro t s h f w a b r j q;have u:=Aax q;obtain⟨_,C,_⟩:=Ws h;by_cases B:isA P t=true
  ·simp only[flat]at h
   split at h
   ·rename_i i W
    split at h
    ·rename_i k hu;simp[isA,hu]at B
    ·rename_i hu;simp[isA,hu]at B
    ·rename_i hu;simp[isA,hu]at B
    ·rename_i O hu
     split at h
     ·rename_i G
      split at h
      ·rename_i s' H
       split at h
       ·cases h
        have Q:P.fieldsOf t=O:=by simp[Program.fieldsOf,hu]
        simp only[Ajq,B,bI];rw[run_equalIn_struct w D t _ _ (by rw[Q];exact hu) G,Q];exact A2o f w M a b u O.toList 0 s r H (by simpa using j) (by simpa using q)
       ·cases h
      ·cases h
     ·cases h
    ·rename_i len e hu
     split at h
     ·rename_i s' hs
      split at h
      ·rename_i X
       cases h;obtain⟨⟨Y,J,_⟩,_⟩:=Ws hs;simp only[Ajq,B,bI];rw[run_equalIn_array w D _ _ hu J,List.range_eq_range'];refine A4n f w M hs a b u len 0 r ?_ (by simpa using j) (by simpa using q);rw[Lf j,Vv,bF]
      ·cases h
     ·cases h
    ·cases h
   ·cases h
  ·have A:isA P t=false:=by simpa using B
   have hlen:=Lf j;have K:s.length=1:=by rcases C A with⟨rfl,_⟩|⟨rfl,_⟩|⟨rfl,_⟩<;>rfl
   rw[K]at hlen
   match a,b,hlen,u with
   | [x],[y],_,_=>
    simp only[Ajq,A,aW,aY];simp only[Ey]at q;have hle:Agv x y=some r:=by
     split at q
     ·rename_i L;cases q;exact L
     ·rename_i L;cases q;exact L
     ·cases q
    rcases C A with⟨rfl,S,hu⟩|⟨rfl,hu⟩|⟨rfl,hu⟩
    ·rcases(Ab0 j).2 with⟨_,k,n,rfl⟩|⟨h0,_⟩|⟨h0,_⟩
     ·cases y with
      | int Z m=>
       simp only[Agv]at hle;obtain⟨U,E⟩:=Aq hle;have:=Aqb U;subst this;have hle:=fU E;simp only[Cp];rw[run_equalIn_int w D t k S n m hu,<-hle,Ajz];congr 1
      | _=>cases hle
     ·cases h0
     ·cases h0
    ·rcases(Ab0 j).2 with⟨h0,_⟩|⟨_,c,rfl⟩|⟨h0,_⟩
     ·cases h0
     ·cases y with
      | bool F=>
       simp only[Agv,cP]at hle;simp only[Cp];rw[A43 w D t c F hu,<-hle];cases c<;>cases F<;>rfl
      | _=>cases hle
     ·cases h0
    ·rcases(Ab0 j).2 with⟨h0,_⟩|⟨h0,_⟩|⟨_,c,rfl⟩
     ·cases h0
     ·cases h0
     ·cases y with
      | str F=>
       simp only[Agv,cP]at hle;simp only[Cp];rw[Bk3 w D t c F hu,<-hle,Az7]
      | _=>cases hle
def Akm(P:Program)(t:TypeId):Bool:=
 match P.underlying t with
 | some (.struct e)=>e.toList.all fun f=>f.name != "_"&&(match P.underlying f.type with|some (.int _)=>true|some .bool=>true|_=>false)
 | _=>false
theorem Anm(f:Loc)(w:World)(e:Bool)(D:Nat)(a:List EV):∀(m:List Field) (off:Nat) (s:List Nat) (d:Nat),(m.all fun f=>f.name != "_"&&(match P.underlying f.type with|some (.int _)=>true|some .bool=>true|_=>false))=true ->
 Atk (flat P d) m off=some s->shaped s (a.drop off)=true ->
 (forIn m PUnit.unit fun(fd:Field) (_:PUnit)=>(do
  if fd.name≠"_" then do
   Instr.checkKey e (D+1) fd.type (←Go.part fd.type (Bp f a).toArray fd.offset)
   pure (.yield PUnit.unit)
  else pure (.yield PUnit.unit):Sem (ForInStep PUnit))).run P w=.ok PUnit.unit w
 | [],off,s,d,_,h,hs=>by simp
 | fd::m,off,s,d,j,h,hs=>by
  simp only[List.all_cons,bL]at j;simp only[Atk]at h;split at h
  ·rename_i s1 q
   split at h
   ·rename_i u
    split at h
    ·rename_i s2 x
     cases h;obtain⟨A,y⟩:=Aet hs;rw[cD]at y;have B:=Anm f w e D a m (off+s1.length) s2 d j.2 x y;have hlen:=Lf A;rw[bH,aU]at hlen;have C:s1.length=1:=by
      have E:isA P fd.type=false:=by
       have:=j.1.2;unfold isA;split at this<;>simp_all
      rcases(Ws q).2.1 E with⟨rfl,_⟩|⟨rfl,_⟩|⟨rfl,_⟩<;>rfl
     have p1:=Qn f w q (xs:=a) (off:=off) (by omega);have F:∀v,(Instr.checkKey e (D+1) fd.type v).run P w=.ok () w:=by
      intro v;have:=j.1.2;rw[Instr.checkKey.eq_def];split at this
      ·rename_i k hu;simp[underlying,hu]
      ·rename_i hu;simp[underlying,hu]
      ·cases this
     rw[List.forIn_cons];simp only[u.2,ne_eq,aF,bI,Sem.run_bind,u.1,p1,F,aI,aS];exact B
    ·cases h
   ·cases h
  ·cases h
def A2g(P:Program)(t:TypeId):Bool:=
 match P.underlying t with
 | some (.array _ e)=>(match P.underlying e with|some (.int _)=>true|_=>false)
 | _=>false
theorem Ap7(f:Loc)(w:World)(e:Bool)(D:Nat){m:TypeId}{k:IntKind}(hu:P.underlying m=some (.int k))(hs:flat P d m=some [0])(a:List EV):∀(n i:Nat),i+n<=a.length ->
 (forIn (List.range' i n) PUnit.unit fun(j:Nat) (_:PUnit)=>(do
  Instr.checkKey e (D+1) m (←Go.part m (Bp f a).toArray (j*(←sizeOf m)))
  pure (.yield PUnit.unit):Sem (ForInStep PUnit))).run P w=.ok PUnit.unit w
 | 0,i,_=>by simp
 | n+1,i,h=>by
  have u:=Ap7 f w e D hu hs a n (i+1) (by omega);have p1:=Qn f w hs (xs:=a) (off:=i) (by simp;omega);have x:∀v,(Instr.checkKey e (D+1) m v).run P w=.ok () w:=by
   intro v;rw[Instr.checkKey.eq_def];simp[underlying,hu]
  obtain⟨⟨ii,y,q⟩,_⟩:=Ws hs;have A:(sizeOf m).run P w=.ok 1 w:=by simp[sizeOf,typeInfo,y,q]
  rw[List.range'_succ,List.forIn_cons];simp only[Sem.run_bind,A,aI,bk,p1,x,aS];exact u
theorem Bcj(m:A2g P t=true){s:List Nat}(h:flat P d t=some s)(f:Loc)(w:World)(e:Bool)(a:List EV)(hs:shaped s a=true):
 (Instr.checkKey e 10000 t (.agg (Bp f a).toArray)).run P w=.ok () w:=by
 unfold A2g at m;split at m
 ·rename_i len x hu
  split at m
  ·rename_i k j
   cases d with
   | zero=>simp[flat]at h
   | succ d=>
    simp only[flat]at h;split at h
    ·simp only[hu]at h
     split at h
     ·rename_i s' q
      split at h
      ·rename_i A
       cases h;have y:isA P x=false:=by simp[isA,j]
       have u:s' = [0]:=by
        rcases(Ws q).2.1 y with⟨rfl,_⟩|⟨_,h2⟩|⟨_,h2⟩
        ·rfl
        ·rw[j]at h2;cases h2
        ·rw[j]at h2;cases h2
       subst u;have hlen:=Lf hs;rw[Vv]at hlen;simp only[bK,fC,bF,bk]at hlen;have:=Ap7 f w e 9998 j q a len 0 (by omega);rw[Instr.checkKey.eq_def];simp only[underlying,hu,Sem.run_bind,fP,aI,aS];simp only[Std.Legacy.Range.forIn_eq_forIn_range',Std.Legacy.Range.size,Nat.sub_zero,Nat.add_one_sub_one,Nat.div_one];rw[this];rfl
      ·cases h
     ·cases h
    ·cases h
  ·cases m
 ·cases m
theorem A3l(j:Akm P t=true){s:List Nat}(h:flat P d t=some s)(f:Loc)(w:World)(e:Bool)(a:List EV)(hs:shaped s a=true):
 (∃m,P.underlying t=some (.struct m))/\(Instr.checkKey e 10000 t (.agg (Bp f a).toArray)).run P w=.ok () w:=by
 unfold Akm at j;split at j
 ·rename_i m hu
  refine⟨⟨m,hu⟩,?_⟩;cases d with
  | zero=>simp[flat]at h
  | succ d=>
   simp only[flat]at h;split at h
   ·simp only[hu]at h
    split at h
    ·split at h
     ·rename_i s' q
      split at h
      ·cases h
       have:=Anm f w e 9998 a m.toList 0 s d j q (by simpa using hs);rw[Instr.checkKey.eq_def];simp only[underlying,hu,Sem.run_bind,fP,aI,aS];rw[<-Array.forIn_toList];rw[this];rfl
      ·cases h
     ·cases h
    ·cases h
   ·cases h
 ·cases j
end
noncomputable def Fo {α:Type}:List α->Nat->Tr α->Tr α
 | [],_,t=>t
 | a::r,i,t=>Fo r (Nat.succ i) (t.put i (some a))
theorem Aom:∀(l:List α) (i:Nat) (t:Tr α) (j:Nat),(Fo l i t).get j=if i<=j/\j<i+l.length then l[j-i]? else t.get j
 | [],i,t,j=>by simp[Fo];omega
 | a::r,i,t,j=>by
  simp only[Fo];rw[Aom r (i+1) (t.put i (some a)) j,Tr.get_put];simp only[bK];by_cases e:i=j
  ·subst e
   rw[aM (by omega),aQ rfl,aQ (by omega)];simp
  ·by_cases h2:i+1<=j/\j<i+1+r.length
   ·rw[aQ h2,aQ (by omega)]
    rw[show j-i=(j-(i+1))+1 by omega,cC]
   ·rw[aM h2,aM e,aM (by omega)]
theorem A1p(l:List α)(j:Nat):(Fo l 0 .nil).get j=l[j]?:=by
 rw[Aom];by_cases h:j<l.length
 ·rw[aQ (by omega),Nat.sub_zero]
 ·rw[aM (by omega),cF (by omega)];rfl
noncomputable def Bqy:List Nat->Nat->Bool
 | [],_=>false
 | a::r,x=>Ax (Nat.beq a x) true (Bqy r x)
theorem A4q:∀{l:List Nat} {x:Nat},Bqy l x=true->x∈l
 | [],_,h=>by cases h
 | a::r,x,h=>by
  simp only[Bqy]at h;rw[Bn]at h;split at h
  ·rename_i e;rw[aL e];exact aV
  ·exact aT _ (A4q h)
noncomputable def Bgb:List (Nat × List Nat)->Nat->Option (List Nat)
 | [],_=>none
 | (a,s)::r,x=>Ax (Nat.beq a x) (some s) (Bgb r x)
theorem Al9:∀{l:List (Nat × List Nat)} {x:Nat} {s:List Nat},Bgb l x=some s->(x,s)∈l
 | [],_,_,h=>by cases h
 | (a,s')::r,x,s,h=>by
  simp only[Bgb]at h;rw[Bn]at h;split at h
  ·rename_i e;cases h;rw[aL e];exact aV
  ·exact aT _ (Al9 h)
noncomputable def Bre(ty:Tr TypeInfo)(t:Nat):Option TypeDesc:=
 match ty.get t with
 | some i=>match i.desc with
  | .named _ u=>(match ty.get u with|some j=>some j.desc|none=>none)
  | d=>some d
 | none=>none
noncomputable def Bmt(ty:Tr TypeInfo)(t:Nat):Option Bool:=match Bre ty t with|some d=>some (Ax1 d)|none=>none
noncomputable def Bk4(ty:Tr TypeInfo)(t:Nat):Option (List EV):=
 match ty.get t with
 | some i=>match i.zero with
  | some v=>match ofV v with
   | some x=>Ax x.plain (Ax (Nat.beq i.size (len x.cells)) (Ax (Nat.ble i.bytes 1048576) (match Bmt ty t with
    | some true=>(match x with | .agg l=>some l|_=>none)
    | some false=>Ax x.one (some [x]) none
    | none=>none) none) none) none
   | none=>none
  | none=>none
 | none=>none
noncomputable def Bfk(e:Tr Func)(ty:Tr TypeInfo)(eqs:List (Nat × List Nat))(keys:List Nat):Hh where
 fn:=e.get
 T8:=Bre ty
 size t:=match ty.get t with|some i=>Ax (Nat.ble i.bytes 1048576) (some i.size) none|none=>none
 zero:=Bk4 ty
 agg:=Bmt ty
 eqs:=Bgb eqs
 key:=Bqy keys
theorem Bqp{t:Nat}{i:TypeInfo}(h:P.types[t]? = some i):P.info? t=some i:=by
 have e:t<P.types.size:=(cM.1 h).1;unfold Tables.info?;rw[aQ e];exact h
theorem Bnt{keys:List Nat}(hm:P.follows .mixedOrders=true)
 (A:(P.funcs.toList.all fun f=>!(f.name == "runtime.NumGoroutine"))=true)
 (y:∀x∈eqs,flat P 6 x.1=some x.2/\isA P x.1=true/\P.eqGuardType P.depth x.1=false) (D:∀t∈keys,Akm P t=true\/A2g P t=true) :
 Pe P (Bfk (Fo P.funcs.toList 0 .nil) (Fo P.types.toList 0 .nil) eqs keys):=by
 have B:∀t i,(Fo P.types.toList 0 .nil).get t=some i->P.info? t=some i:=by
  intro t i h;rw[A1p,cK]at h;exact Bqp h
 have C:∀t d,Bre (Fo P.types.toList 0 .nil) t=some d->P.underlying t=some d:=by
  intro t d h;unfold Bre at h;split at h
  ·rename_i i J
   have q:=B t i J;split at h
   ·rename_i s u hd
    split at h
    ·rename_i j hj
     cases h;have h2:=B u j hj;obtain⟨desc,str,size,bytes,Y,Z,fa,z⟩:=i;simp only at hd;subst hd;simp[Program.underlying,q,h2]
    ·cases h
   ·rename_i hd
    cases h;unfold Program.underlying;rw[q];split
    ·rename_i E;cases E;exact absurd rfl (hd _ _)
    ·rename_i E;cases E;rfl
    ·rename_i E;cases E
  ·cases h
 have K:∀t b,Bmt (Fo P.types.toList 0 .nil) t=some b->∃d,P.underlying t=some d/\Ax1 d=b:=by
  intro t b h;unfold Bmt at h;split at h
  ·rename_i d hd;cases h;exact⟨d,C t d hd,rfl⟩
  ·cases h
 refine⟨hm,fun g fn h=>?_,C,fun t n h=>?_,fun t z h=>?_,K,fun t sh h=>?_,fun t h=>?_⟩
 ·have h':(Fo P.funcs.toList 0 .nil).get g=some fn:=h
  rw[A1p]at h';refine⟨by rw[<-cK];exact h',?_⟩;have:=dP.1 A fn (dO h');simpa using this
 ·simp only[Bfk]at h
  split at h
  ·rename_i i J
   obtain⟨q,h2⟩:=Aq h;cases h2;exact⟨i,B t i J,rfl,bB q⟩
  ·cases h
 ·have h':Bk4 (Fo P.types.toList 0 .nil) t=some z:=h
  unfold Bk4 at h';split at h'
  ·rename_i i J
   split at h'
   ·rename_i v U
    split at h'
    ·rename_i x E
     obtain⟨q,h'⟩:=Aq h';obtain⟨h2,h'⟩:=Aq h';obtain⟨O,h'⟩:=Aq h';have L:i.size=x.cells.length:=by rw[<-X8];exact aL h2
     refine⟨i,v,x,B t i J,U,E,q,?_⟩;have M:∀b,Bmt (Fo P.types.toList 0 .nil) t=some b->(Bfk (Fo P.funcs.toList 0 .nil) (Fo P.types.toList 0 .nil) eqs keys).agg t=some b:=fun _ h=>h
     split at h'
     ·rename_i Q
      have F:=M true Q;cases x with
      | agg l=>
       simp only[cP]at h';subst h';exact⟨rfl,L,bB O,fun _=>rfl,fun e=>(by rw[F]at e;cases e)⟩
      | _=>cases h'
     ·rename_i Q
      have F:=M false Q;obtain⟨W,h'⟩:=Aq h';cases h';have S:x.cells = [x]:=by
       cases x<;>first|rfl|(simp[EV.one]at W)
      exact⟨S.symm,by rw[L,S],bB O,fun e=>(by rw[F]at e;cases e),fun _=>rfl⟩
     ·cases h'
    ·cases h'
   ·cases h'
  ·cases h'
 ·obtain⟨q,h2,O⟩:=y _ (Al9 h)
  refine⟨O,fun f w a b r X hs=>?_⟩;have:=Bga (P:=P) 6 10000 (by omega) t sh q f w a b r hs X;simp only[Ajq,h2,bI]at this;exact this
 ·have G:=D t (A4q h)
  rcases G with G|G
  ·constructor
   ·have m:=G
    unfold Akm at m;split at m
    ·rename_i fs hu;exact⟨_,hu,rfl⟩
    ·cases m
   ·intro f w e a sh H hs
    obtain⟨q,_,_⟩:=y _ (Al9 H);exact(A3l G q f w e a hs).2
  ·constructor
   ·have m:=G
    unfold A2g at m;split at m
    ·rename_i n e hu;exact⟨_,hu,rfl⟩
    ·cases m
   ·intro f w e a sh H hs
    obtain⟨q,_,_⟩:=y _ (Al9 H);exact Bcj G q f w e a hs
theorem Bm6(f:Loc)(w:World)(n m:Nat):Tz f ⟨.nil,n,m⟩ w:=⟨fun i o h=>(by cases h),fun i j o o' h=>(by cases h)⟩
theorem Bmc(n m:Nat):Tk (fun _=>False) ⟨.nil,n,m⟩:=⟨fun i h=>h.elim,fun i o h=>(by cases h)⟩
theorem A2s{c:Ai}(hC:Age P c)(h:c g [] ⟨.nil,0,0⟩=some (v,h'))(q:∀f,Cp f v=V)(w:World):
 Calls P g #[] w fun e w'=>e=.returned V/\RowKit.Below w.heap.size w w':=by
 obtain⟨_,u⟩:=hC _ _ _ _ _ h;intro cs;obtain⟨fr,f',w',hs,j,m,hm,hwf,x⟩:=u (fun _=>False) ⟨fun _=>0,fun _=>0⟩ w (Bmc 0 0) (Bm6 _ _ 0 0) trivial cs;rw[q]at m;exact⟨.returned V,w',fr,⟨rfl,hm.os,hm.tape,hm.output,hm.size,fun k y=>hm.kept k y (fun i o A=>(by cases A))⟩,hs,j,m⟩
noncomputable def isTrue:Option (EV × Ab)->Bool
 | some (.bool b,_)=>b
 | _=>false
theorem Baj {r:Option (EV × Ab)}(h:isTrue r=true):∃h',r=some (.bool true,h'):=by
 unfold isTrue at h;split at h
 ·subst h;exact⟨_,rfl⟩
 ·cases h
noncomputable def Avc(g:Nat)(v:EV):Ai:=fun e args h=>Ax (Nat.beq e g) (match args with | []=>some (v,h)|_=>none) none
theorem A2m(C:∀f,Cp f v=V)(q:∀p,v.ok p){fn:Func}(D:P.funcs[g]? = some fn)(hb:fn.body.isSome=true)(E:(fn.name == "runtime.NumGoroutine")=false)
 (hC:∀w,Calls P g #[] w fun e w'=>e=.returned V/\RowKit.Below w.heap.size w w'):Age P (Avc g v)/\Wo (Avc g v):=by
 have key:∀u args h x h',Avc g v u args h=some (x,h')->u=g/\args = []/\x=v/\h'=h:=by
  intro u args h x h' m;unfold Avc at m;obtain⟨y,h2⟩:=Aq m;split at h2
  ·cases h2;exact⟨aL y,rfl,rfl,rfl⟩
  ·cases h2
 constructor
 ·intro u args h x h' m
  obtain⟨rfl,rfl,rfl,rfl⟩:=key _ _ _ _ _ m;refine⟨⟨fn,D,hb,E⟩,fun p f w m A G cs=>?_⟩;obtain⟨e,w',fr,⟨rfl,j⟩,hs,B,F⟩:=hC w cs;refine⟨fr,f,w',hs,B,?_,⟨Loc.Amq _ _,⟨fun i o q=>?_,A.inj⟩,fun b hb _=>j.block b hb,j.size,j.tape,j.os,j.output,fun i o q=>.inr ⟨i,o,q,rfl⟩⟩,Wf.refl m,q _⟩
  ·rw[C];exact F
  ·obtain⟨r,y,h2⟩:=A.obj i o q
   exact⟨r,by rw[j.block _ (A.lt q)];exact y,h2⟩
 ·intro u args h x h' m
  obtain⟨_,_,_,rfl⟩:=key _ _ _ _ _ m;exact .refl _
end Go.Ev
