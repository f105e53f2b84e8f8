import Derived.Test.YtadnemjjlacolaaGreatEvThree
import Derived.Laws.StructEq
import Derived.ChangeKeysEq
import Derived.KernelRfl
import Derived.Below
set_option linter.all false
namespace Go.Ev
variable {o:Oper}{d g i n fn id off:Nat}{s':Jg}{v:EV}{kd:Kd}{tm tm':Ax}{h h':Ab}{P:Program}{T:Kh}{round:Ah}{p:Nat->Prop}{f:Loc}{a:Aob}{t:TypeId}{pd pd0 jump:Option Code}{caller:Frame}{cs:List Frame}{b:FB}{α:Type}{ps:List Tmp}{asg body:Code}{ds:List Nat}{Dx:Option Nat}{tmps:Array Value}{k todo':List Item}{fo:Operand}{args first captured:List EV}{eqs:List (Nat × List Nat)}{V:Value}
section
open Classical
section
variable{call:Ah}(hC:Aa2 call)(hR:Aa2 round){ops:List Oper}{bs:Tr Nat}{base:Nat}
theorem Sd.awf{s s':DSt}{E E':Ab}(sd:Sd T call round n ops bs base o i s s' v E E' kd):AWf s.h s'.h where
 next:=by rw[<-sd.Ajy,<-sd.Ak7];exact sd.w.next
 mw:=sd.mw.1
 same q m h2:=by rw[sd.Bqk,aG (sd.mw.2 q m h2)]
 live q x e:=by
  rw[sd.Bqk]at e;split at e
  ·exact .inl ⟨x,e⟩
  ·rcases sd.w.live q x e with⟨o',h⟩|h
   ·exact .inl ⟨o',sd.sub q o' h⟩
   ·rw[sd.Ajy]at h;exact .inr h
 lt H q x e:=by
  have j:s.h.next<=s'.h.next:=by rw[<-sd.Ajy,<-sd.Ak7];exact sd.w.next
  rw[sd.Bqk]at e;split at e
  ·exact aK (H q x e) j
  ·rw[<-sd.Ak7]
   refine sd.w.lt (fun q x e=>?_) q x e;rw[sd.Ajy];exact H q x (sd.sub q x e)
theorem Sd.nw{s s':DSt}{E E':Ab}(sd:Sd T call round n ops bs base o i s s' v E E' kd)(h:∀x∈s.nw,x.2<s.h.next):∀x∈s'.nw,x.2<s'.h.next:=by
 have e:s.h.next<=s'.h.next:=sd.awf.next
 intro x j;have:=sd.kd;cases kd with
 | idle=>rw[this.2.2.2.1]at j;exact aK (h x j) e
 | load q=>rw[this.2.2.2.1]at j;exact aK (h x j) e
 | new=>
  obtain⟨a,⟨y,b⟩,c,d,_⟩:=this;rw[d]at j;rcases bU.1 j with rfl|j
  ·show s.h.next<_
   rw[<-sd.Ak7,b,Ab.D8,sd.Ajy];omega
  ·exact aK (h x j) e
 | sto q=>
  obtain⟨_,_,d,_⟩:=this;rw[d]at j;exact aK (h x j) e
 | big mw=>
  obtain⟨b,_,_,_,_,_,d,_⟩:=this;rw[d]at j;exact aK (h x j) e
include hC hR in
theorem Ber:∀{l:List Oper} {i:Nat} {s r:DSt},Xh T call round n ops bs base l i s=some r->(∀x∈s.nw,x.2<s.h.next)->AWf s.h r.h
 | [],_,s,r,h,_=>by cases h;exact .refl _
 | o::l,i,s,r,h,e=>by
  simp only[Xh]at h;split at h
  ·rename_i s' hs
   obtain⟨v,E,E',kd,sd⟩:=A5j hC hR hs e;exact sd.awf.trans (Ber h (sd.nw e))
  ·cases h
include hC hR in
theorem Bjr(e:Awn T call round n ops tm h=some (tm',h')):AWf h h':=by
 unfold Awn at e;obtain⟨_,e⟩:=Aq e;obtain⟨_,e⟩:=Aq e;split at e
 ·rename_i hs
  cases e;exact Ber hC hR hs (fun x j=>by cases j)
 ·cases e
end
theorem Bng(hT:Uf P T){call:Ah}(hC:Ak3 P call)(hR:Aqx P round)(wC:Aa2 call)(wR:Aa2 round)
 {ops:Array Oper} {w:World} (Y:N2 p n tm) (L:Y9 p h) (Z:Y5 f h w)
 (u:Awn T call round n ops.toList tm h=some (tm',h')) (b:FB) (t:Nat) (k:List Item) (cs:List Frame) (dr:Nat) :
 ∃f' w',Steps P (lone (b.at (Bi f n tm) (.inRegion ops (Region.linearise .any ops t)::k)) cs { w with drawn:=dr }) (lone (b.at (Bi f' n tm') (.inRegion ops []::k)) cs w') /\
  Move p f h w f' h' w'/\Wf p h h'/\N2 (grow p h h') n tm':=by
 have hwf:=Bjr wC wR u;unfold Awn at u;obtain⟨O,u⟩:=Aq u;obtain⟨Q,u⟩:=Aq u;split at u
 ·rename_i aa M b1 b2 b3 b4 b5 hs
  cases u;obtain⟨A,V,E,E',K,e0,U,B⟩:=Bt2 (s:=⟨tm,h,0,[],[],[],[]⟩) wC wR hs (fun q x W=>L.lt q (L.get q x W).1) rfl;have hlen:ops.toList.length=ops.size:=by simp
  rw[hlen]at U;have F:N2 p n (A 0).tm:=by rw[e0];exact Y
  have C:Y9 p (A 0).h:=by rw[e0];exact L
  have e:∀j,¬((Array.replicate ops.size false).getD j false=true):=by
   intro j;simp only[eJ,Array.getElem?_replicate];split<;>simp
  have hI:Inv n ops (Qw ops.toList 0 .nil) A V E E' p f w (fun j=>(Array.replicate ops.size false).getD j false=true) f { w with drawn:=dr }:=by
   refine⟨fun j hj=>absurd hj (e j),fun j hj=>absurd hj (e j),fun j hj=>absurd hj (e j),?_⟩;have:hS E E' (A 0).h.get (fun j=>(Array.replicate ops.size false).getD j false=true) ops.size=(A 0).h.get:=by
    funext q;exact Bn8 _ (fun j _ hs=>absurd hs (e j)) _ (cQ _)
   rw[this];have X:Y5 f (A 0).h w:=by rw[e0];exact Z
   exact(Aln.start X).drew dr
  have G:Bi f n (tmS n ops V (A 0).tm (fun j=>(Array.replicate ops.size false).getD j false=true) ops.size)=Bi f n tm:=by
   rw[show tm=(A 0).tm by rw[e0]];exact Axb f n fun t=>Bir _ (fun j _ hs=>absurd hs (e j)) _ (cQ _)
  obtain⟨f',w',D,S,hS,I⟩:=Bos hT hC hR B rfl Q O F C b k cs ops.size t (Array.replicate ops.size false) f _ (by simp) (by
   unfold unl;exact bN (eU _ _) (by simp)) hI
  rw[G]at D;have H:=I.mv.move (h:=(A ops.size).h) (fun q=>(Bp1 B hS q).symm);have e1:(A ops.size).h=h':=by rw[U]
  have e2:(A ops.size).tm=tm':=by rw[U]
  have e3:(A 0).h=h:=by rw[e0]
  have y:∀q,pS p A ops.size S q/\q<nx A ops.size->grow p h h' q:=by
   rintro q ⟨M|⟨j,_,hj,M,h2⟩,h3⟩
   ·exact .inl M
   ·refine .inr ⟨?_,?_⟩
    ·have:=B.A4l (i:=0) (m:=j) (by omega) (by omega)
     rw[<-e3];exact bN this M
    ·rw[<-e1];exact h3
  rw[e2]at D;rw[e1,e3]at H;refine⟨f',w',D,H,⟨hwf.next,hwf.mw,hwf.same,hwf.live,⟨fun q J=>?_,fun q x W=>?_⟩⟩,?_⟩
  ·rcases J with J|J
   ·exact aK (L.lt q J) hwf.next
   ·exact J.2
  ·obtain⟨a,b⟩:=I.hok B C ops.size (aE _) q x (by rw[Bp1 B hS q,e1];exact W)
   exact⟨y q a,b.mono y⟩
  ·have:=I.Bq1 B F C.lt ops.size (aE _)
   rw[Azl B hS _ (aE _),e2]at this;exact this.mono y
 ·cases u
end
section
def K1(f:Loc)(d:Nat):Deferred:={ target:=.collected (f.b d),args:=#[] }
def Be6(f:Loc)(a:Aob):FB:=⟨a.fn,a.defers.map (K1 f),a.Dx.map f.b⟩
noncomputable def Q2(f:Loc)(a:Aob):Frame:=
 { fn:=a.fn,tmps:=Bi f a.n a.tmps,todo:=a.todo,defers:=a.defers.map (K1 f),mode:=if a.ret=true then .returning else .run,kind:=.normal,roundOf:=a.Dx.map f.b }
structure Abx(p:Nat->Prop)(a:Aob):Prop where
 tm:N2 p a.n a.tmps
 dfr:∀d∈a.defers,p d
 Dx:∀l,a.Dx=some l->p l
 ret:a.ret=true->a.Dx=none
theorem Abx.mono {q:Nat->Prop}(h:Abx p a)(e:∀i,p i->q i):Abx q a:=⟨h.tm.mono e,fun d hd=>e d (h.dfr d hd),fun l j=>e l (h.Dx l j),h.ret⟩
theorem A6y{g:Loc}(e:Loc.Gf p f g)(h:Abx p a):Q2 f a=Q2 g a:=by
 unfold Q2;rw[Nt e h.tm];have j:a.defers.map (K1 f)=a.defers.map (K1 g):=by
  apply cj;intro d hd;unfold K1;rw[(e d (h.dfr d hd)).1]
 have h2:a.Dx.map f.b=a.Dx.map g.b:=by
  cases m:a.Dx with
  | none=>rfl
  | some l=>simp only[eA];rw[(e l (h.Dx l m)).1]
 rw[j,h2]
theorem Ap5{g:Loc}(e:Loc.Gf p f g)(h:Abx p a):Be6 f a=Be6 g a:=by
 have:=A6y e h;unfold Q2 at this;unfold Be6;injection this with _ _ _ h4 _ _ j;rw[h4,j]
section
variable{w:World}
theorem Br0:step P (lone (b.at tmps (.code .skip::k)) cs w)=.next (lone (b.at tmps k) cs w):=cF (by simp[stepG,stepG.exec,FB.at])
theorem Bpd {l:Nat}:step P (lone (b.at tmps (.code (.label l)::k)) cs w)=.next (lone (b.at tmps k) cs w):=cF (by simp[stepG,stepG.exec,FB.at])
theorem Bf8:step P (lone (b.at tmps (.inBlock id::k)) cs w)=.next (lone (b.at tmps k) cs w):=cF (by simp[stepG,stepG.exec,FB.at])
theorem Buj {x y:Code}:step P (lone (b.at tmps (.code (.seq x y)::k)) cs w)=.next (lone (b.at tmps (.code x :: .code y::k)) cs w):=cF (by simp[stepG,stepG.exec,FB.at])
theorem Bh3 {c:Operand}{x y:Code}{t:Bool}(h:Ks tmps c=.bool t):step P (lone (b.at tmps (.code (.cond c x y)::k)) cs w)=.next (lone (b.at tmps (.code (if t then x else y)::k)) cs w):=
 cF (by
  have:=FB.eval_at b tmps (.code (.cond c x y)::k);simp only[FB.at]at this;simp[stepG,stepG.exec,FB.at,this,h])
theorem Bpr{c:Code}:step P (lone (b.at tmps (.code (.block id c)::k)) cs w)=.next (lone (b.at tmps (.code c :: .inBlock id::k)) cs w):=cF (by simp[stepG,stepG.exec,FB.at])
theorem Br4 {c:Code}:step P (lone (b.at tmps (.code (.loop c)::k)) cs w)=.next (lone (b.at tmps (.code c :: .inLoop c::k)) cs w):=cF (by simp[stepG,stepG.exec,FB.at])
theorem Bk9 {c:Code}:step P (lone (b.at tmps (.inLoop c::k)) cs w)=.next (lone (b.at tmps (.code c :: .inLoop c::k)) cs w):=cF (by simp[stepG,stepG.exec,FB.at])
theorem Bsc{e:List Item}(h:exitTo id k=some e):step P (lone (b.at tmps (.code (.exit id)::k)) cs w)=.next (lone (b.at tmps e) cs w):=cF (by simp[stepG,stepG.exec,FB.at,h])
theorem Bu6(h:b.Dx=none):step P (lone (b.at tmps (.code .ret::k)) cs w)=.next (lone { b.at tmps (.code .ret::k)with mode:=.returning } cs w):=cF (by simp[stepG,stepG.exec,FB.at,h])
theorem Bu0(h:b.Dx=none):step P (lone (b.at tmps []) cs w)=.next (lone { b.at tmps []with mode:=.returning } cs w):=cF (by simp[stepG,stepG.exec,FB.at,h])
theorem Bmj{ops:Array Oper}:step P (lone (b.at tmps (.code (.region id ops false)::k)) cs w)=.next (lone (b.at tmps (.inRegion ops (List.range ops.size)::k)) cs w):=cF (by simp[stepG,stepG.exec,FB.at])
theorem Bsh(hm:P.follows .mixedOrders=true){ops:Array Oper}:step P (lone (b.at tmps (.code (.region id ops true)::k)) cs w) =
 .next (lone (b.at tmps (.inRegion ops (Region.linearise .any ops (w.tape w.drawn (.order b.fn id)))::k)) cs { w with drawn:=w.drawn+1 }):=
 cF (by simp[stepG,stepG.exec,FB.at,choose,Sem.run,Question.forced,Question.cut,hm,Region.schedule])
theorem Ba8 {l:Nat}(e:b.Dx=some l){v:Value}{w':World}(he:(Instr.endRound l jump).run P w=.ok v w'){todo:List Item}
 (j:(todo = []/\jump=none)\/(∃k,todo=.code .ret::k/\jump=some .ret)\/(∃id k,todo=.code (.exit id)::k/\exitTo id k=none/\jump=some (.exit id))) :
 step P (lone (b.at tmps todo) (caller::cs) w)=.next (lone (caller.finish v) cs w'):=by
 refine cF ?_;rcases j with⟨rfl,rfl⟩|⟨k,rfl,rfl⟩|⟨id,k,rfl,m,rfl⟩
 ·simp[stepG,stepG.exec,FB.at,e,he,doReturn]
 ·simp[stepG,stepG.exec,FB.at,e,he,doReturn]
 ·simp[stepG,stepG.exec,FB.at,e,m,he,doReturn]
end
section
variable(hT:Uf P T){w:World}
theorem Bc2(hT:Uf P T)(j:Y9 p h)(m:Y5 f h w){cs:List EV}(hs:T.size t=some n)(q:K0 h i off n=some cs){b:Bool}(e:T.agg t=some b)
 (u:(b=true/\v=.agg cs)\/(b=false/\cs = [v])):(loadVar t ⟨f.b i,off,none⟩).run P w=.ok (Cr f v) w/\v.ok p:=by
 obtain⟨x,h2,y,h4,A⟩:=Apw (P:=P) j m q;rcases u with⟨rfl,rfl⟩|⟨rfl,rfl⟩
 ·refine⟨?_,h2,y⟩
  simp only[loadVar,Sem.run_bind,Au9 hT w e,aI,bM,H4 hT w hs,x,aV,Cr]
 ·refine⟨?_,h2.1⟩
  have:=A 0 v rfl;simp only[loadVar,Sem.run_bind,Au9 hT w e,aI,ak,bD];simp only[dL]at this;rw[run_load,this]
theorem A63 {β:Type}(P:Program)(w:World)(g:α->Sem β):∀(l:List α) (r:List β),(l.length=r.length)->(∀(i:Nat) a b,l[i]? = some a->r[i]? = some b->(g a).run P w=.ok b w)->(l.mapM g).run P w=.ok r w
 | [],[],_,_=>by simp
 | a::l,b::r,e,h=>by
  have h0:=h 0 a b rfl rfl;have j:=A63 P w g l r (by simpa using e) (fun i a b m h2=>h (i+1) a b (by simpa using m) (by simpa using h2));simp[List.mapM_cons,h0,j]
 | [],_::_,h,_=>by simp at h
 | _::_,[],h,_=>by simp at h
def Ayu(tmps:Array Value):ResultVar->Sem Value
 | .tmp t=>pure (tmps.getD t undef)
 | .cell a t=>do loadVar t (←asAddr (tmps.getD a undef))
theorem Bfj(fn:Func)(tmps:Array Value):results fn tmps=(do
 let vs ←fn.results.mapM (Ayu tmps)
 pure (if h:vs.size=1 then vs[0]else .tuple vs)):=by
 unfold results;congr 1
theorem Anu(hT:Uf P T)(B:Y9 p h)(C:Y5 f h w)(u:N2 p n tm):∀{l:List ResultVar} {vs:List EV},O9 T tm h l=some vs ->
 EV.Wz p vs/\l.length=(Bx f vs).length/\∀(i:Nat) a b,l[i]? = some a->(Bx f vs)[i]? = some b->(Ayu (Bi f n tm) a).run P w=.ok b w
 | [],vs,j=>by cases j;exact⟨trivial,rfl,fun i a b h=>by simp at h⟩
 | .tmp t::r,vs,j=>by
  simp only[O9]at j;split at j
  ·rename_i l D
   cases j;obtain⟨E,h2,F⟩:=Anu hT B C u D;refine⟨⟨u.tmp t,E⟩,by simp[Bx,h2],fun i a b x hb=>?_⟩;cases i with
   | zero=>
    simp only[bL,cU,Bx]at x hb;subst x hb;simp only[Ayu,aV,Afw f u]
   | succ i=>exact F i a b (by simpa using x) (by simpa [Bx]using hb)
  ·cases j
 | .cell a t::r,vs,j=>by
  simp only[O9]at j;split at j
  ·rename_i i off l L x D G
   split at j
   ·rename_i cs H
    obtain⟨E,h2,F⟩:=Anu hT B C u D;have key:∀(b:Bool) (v:EV),T.agg t=some b->((b=true/\v=.agg cs)\/(b=false/\cs = [v]))->some (v::l)=some vs->EV.Wz p vs/\(ResultVar.cell a t::r).length=(Bx f vs).length/\∀(i:Nat) y A,(ResultVar.cell a t::r)[i]? = some y->(Bx f vs)[i]? = some A->(Ayu (Bi f n tm) y).run P w=.ok A w:=by
     intro b v hb J e;cases e;obtain⟨l1,K⟩:=Bc2 hT B C G H hb J;refine⟨⟨K,E⟩,by simp[Bx,h2],fun i y A m q=>?_⟩;cases i with
     | zero=>
      simp only[bL,cU,Bx]at m q;subst m q;simp only[Ayu,Afw f u,x,Cr,asAddr,Sem.run_bind,aV,aI,l1]
     | succ i=>exact F i y A (by simpa using m) (by simpa [Bx]using q)
    split at j
    ·rename_i hb;exact key true _ hb (.inl ⟨rfl,rfl⟩) j
    ·rename_i hb
     split at j
     ·exact key false _ hb (.inr ⟨rfl,rfl⟩) j
     ·cases j
    ·cases j
   ·cases j
  ·cases j
theorem Bb5(hT:Uf P T)(A:Y9 p h)(B:Y5 f h w)(C:N2 p n tm){fn:Func}{vs:List EV}(D:O9 T tm h fn.results.toList=some vs)
 (u:vs = [v]\/((∀x,vs≠[x])/\v=.tuple vs)):(results fn (Bi f n tm)).run P w=.ok (Cr f v) w/\v.ok p:=by
 obtain⟨y,h2,E⟩:=Anu hT A B C D;have hm:(fn.results.toList.mapM (Ayu (Bi f n tm))).run P w=.ok (Bx f vs) w:=A63 P w _ _ _ h2 E;constructor
 ·have m:(fn.results.mapM (Ayu (Bi f n tm))).run P w=.ok (Bx f vs).toArray w:=by
   have e:fn.results.mapM (Ayu (Bi f n tm))=Functor.map List.toArray (fn.results.toList.mapM (Ayu (Bi f n tm))):=by
    rw[<-List.mapM_toArray,eH]
   rw[e,Sem.run_map,hm];rfl
  rw[Bfj,Sem.run_bind,m,aI,aV];congr 1;rcases u with rfl|⟨q,rfl⟩
  ·simp[Bx]
  ·rw[dif_neg]
   ·simp only[Cr]
   ·intro j
    simp only[dc,Dh]at j
    match vs,j with
    | [x],_=>exact q x rfl
 ·rcases u with rfl|⟨_,rfl⟩
  ·exact y.1
  ·exact y
end
end
section
theorem Auf(f:Loc)(fn n:Nat)(tm:Ax)(todo:List Item)(ds:List Nat)(Dx:Option Nat):
 Q2 f ⟨fn,n,tm,todo,ds,false,Dx⟩=(FB.mk fn (ds.map (K1 f)) (Dx.map f.b)).at (Bi f n tm) todo:=rfl
theorem At0(f:Loc)(fn n:Nat)(tm:Ax)(todo:List Item)(ds:List Nat):
 Q2 f ⟨fn,n,tm,todo,ds,true,none⟩ = { (FB.mk fn (ds.map (K1 f)) none).at (Bi f n tm) todo with mode:=.returning }:=rfl
def Sim(P:Program)(p:Nat->Prop)(f:Loc)(w:World)(cs:List Frame)(s s':Jg):Prop:=
 ∃f' w',Steps P (lone (Q2 f s.fr) cs w) (lone (Q2 f' s'.fr) cs w')/\Move p f s.h w f' s'.h w'/\Wf p s.h s'.h/\Abx (grow p s.h s'.h) s'.fr/\s'.fr.fn=s.fr.fn/\s'.fr.Dx=s.fr.Dx
def Fin(P:Program)(p:Nat->Prop)(f:Loc)(w:World)(s:Jg)(v:EV)(h':Ab):Prop:=
 match s.fr.Dx with
 | none=>h'=s.h/\(Q2 f s.fr).leaving P w (.returned (Cr f v))/\v.ok p
 | some _=>∀caller cs,∃w',Steps P (lone (Q2 f s.fr) (caller::cs) w) (lone (caller.finish (Cr f v)) cs w')/\Move p f s.h w f h' w'/\Wf p s.h h'/\v.ok p
section
variable{w:World}
theorem Sim.stay {fr e:Aob}(j:Y9 p h)(m:Y5 f h w)(hs:Steps P (lone (Q2 f fr) cs w) (lone (Q2 f e) cs w))(q:Abx p e)(u:e.fn=fr.fn)(h2:e.Dx=fr.Dx):Sim P p f w cs ⟨fr,h⟩ ⟨e,h⟩:=
 ⟨f,w,hs,Move.refl m,Wf.refl j,by rw[L9 _ _ _ rfl];exact q,u,h2⟩
theorem Amy(m:Y5 f h w){l:Nat}{st:LoopState}(q:h.get l=some (.loop st pd fn n tm ps asg body d)):
 (Instr.getLoop (f.b l)).run P w=.ok ⟨st,pd,fn,Bi f n tm,ps.toArray,asg,body,f.b d⟩ w/\w.heap[f.b l]? = some (.loop ⟨st,pd,fn,Bi f n tm,ps.toArray,asg,body,f.b d⟩):=by
 obtain⟨r,j,rfl⟩:=m.obj l _ q;have e:=Qf (P:=P) j (by intros;simp);refine⟨?_,j⟩;simp only[Instr.getLoop,Sem.run_bind,e,aI,aV]
theorem Ba2(j:Y9 p h)(m:Y5 f h w){l:Nat}{st st':LoopState}{pd':Option Code}(e:h.get l=some (.loop st pd fn n tm ps asg body d)):
 Move p f h w f (h.put l (.loop st' pd' fn n tm ps asg body d)) { w with heap:=w.heap.setIfInBounds (f.b l) (.loop ⟨st',pd',fn,Bi f n tm,ps.toArray,asg,body,f.b d⟩) } /\
 Wf p h (h.put l (.loop st' pd' fn n tm ps asg body d)):=
 ⟨Move.setObj m e rfl,Wf.put j e (j.get l _ e).2⟩
theorem Bac(e:Y5 f h w){l:Nat}{st:LoopState}(j:h.get l=some (.loop st pd fn n tm ps asg body d))(jump:Option Code):
 (Instr.endRound (f.b l) jump).run P w=.ok (.bool jump.isNone) { w with heap:=w.heap.setIfInBounds (f.b l) (.loop ⟨if jump.isNone then .ready else .done,jump,fn,Bi f n tm,ps.toArray,asg,body,f.b d⟩) }:=by
 obtain⟨m,h2⟩:=Amy (P:=P) e j;have hs:=U7 (P:=P) (o':=.loop ⟨if jump.isNone then .ready else .done,jump,fn,Bi f n tm,ps.toArray,asg,body,f.b d⟩) h2 (by intros;simp);simp only[Instr.endRound,Sem.run_bind,m,aI,hs,aV]
theorem A5w{todo:List Item}(e:leave fn n tm todo ds Dx h jump=.go s'):
 Dx=none/\s'=⟨⟨fn,n,tm,todo,ds,true,none⟩,h⟩/\(jump=none\/jump=some .ret):=by
 unfold leave at e;split at e
 ·split at e
  ·cases e;exact⟨rfl,rfl,.inl rfl⟩
  ·cases e;exact⟨rfl,rfl,.inr rfl⟩
  ·cases e
 ·split at e
  ·split at e<;>cases e
  ·cases e
theorem Ax2(x:Y9 p h)(q:Y5 f h w){todo:List Item}(e:leave fn n tm todo ds Dx h jump=.done v h')
 (y:(todo = []/\jump=none)\/(∃k,todo=.code .ret::k/\jump=some .ret)\/(∃id k,todo=.code (.exit id)::k/\exitTo id k=none/\jump=some (.exit id))) :
 Fin P p f w ⟨⟨fn,n,tm,todo,ds,false,Dx⟩,h⟩ v h':=by
 unfold leave at e;split at e
 ·split at e<;>cases e
 ·rename_i l
  split at e
  ·rename_i st pd j A tm' ps asg body d u
   have key:∀(b:Bool) (st':LoopState),b=jump.isNone->st'=(if jump.isNone then .ready else .done)->Fin P p f w ⟨⟨fn,n,tm,todo,ds,false,some l⟩,h⟩ (.bool b) (h.put l (.loop st' jump j A tm' ps asg body d)):=by
    intro b st' hb m;intro caller cs;obtain⟨m1,m2⟩:=Ba2 (st':=st') (pd':=jump) x q u;refine⟨_,.one ?_,m1,m2,trivial⟩;have he:=Bac (P:=P) q u jump;rw[<-m,<-hb]at he;exact Ba8 (b:=FB.mk fn (ds.map (K1 f)) (some (f.b l))) rfl he y
   split at e
   ·cases e;exact key true _ rfl rfl
   ·cases e;exact key false _ rfl rfl
  ·cases e
variable (hT:Uf P T){call:Ah}(hC:Ak3 P call)(hR:Aqx P round)(wC:Aa2 call)(wR:Aa2 round)
theorem Bmo{todo:List Item}{ds:List Deferred}{w':World}(h:(Instr.takeDeferred d).run P w=.ok [] w'):
 step P (lone { fn:=fn,tmps:=tmps,todo:=todo,defers:={ target:=.collected d,args:=#[] }::ds,mode:=.returning,kind:=.normal,roundOf:=none } cs w) =
  .next (lone { fn:=fn,tmps:=tmps,todo:=todo,defers:=ds,mode:=.returning,kind:=.normal,roundOf:=none } cs w'):=
 cF (by simp[stepG,unwind,h])
theorem A6a{l:Nat}(e:b.Dx=some l){w':World}(h:(Instr.beginRound l).run P w=.ok () w'):
 step P (lone (b.at tmps (.beginRound::k)) cs w)=.next (lone (b.at tmps k) cs w'):=
 cF (by simp[stepG,stepG.exec,stepG.apply,FB.at,e,h,Frame.finish])
theorem A0e{ps:Array Tmp}{l:Nat}{mark:List Deferred}{w1:World}{g:FuncId}{args:Array Value}
 (e:(Instr.enterLoop b.fn tmps ps asg body b.Dx).run P w=.ok (l,mark) w1)
 (h2:(do let d ←resolve (Ks tmps) { callee:=.value fo,args:=#[.const (.func (.yield l) #[] #[])],argTypes:=#[] } 0;invoke d.target d.args:Sem Next).run P w1=.ok (.enter g args) w1) :
 step P (lone (b.at tmps (.code (.rangeFunc fo ps asg body)::k)) cs w)=.next (lone (Frame.enter P g args .normal) ((FB.mk b.fn (mark++b.defers) b.Dx).at tmps (.inRangeFunc l::k)::cs) w1):=by
 refine cF ?_;have he:=FB.eval_at (FB.mk b.fn (mark++b.defers) b.Dx) tmps (.inRangeFunc l::k);simp only[FB.at]at he;simp only[stepG,stepG.exec,FB.at,Sem.runT_eq,e,GStep.bare_after,stepG.apply,he];rw[h2];simp
theorem Bcv{l:Nat}{w1:World}(e:(Instr.endLoop l).run P w=.ok jump w1):
 step P (lone (b.at tmps (.endRangeFunc l::k)) cs w)=.next (lone (b.at tmps ((jump.map Item.code).toList++k)) cs w1):=
 cF (by simp[stepG,stepG.exec,FB.at,e])
theorem Bev(j:Y5 f h w){l:Nat}{st:LoopState}(e:st≠.busy)(m:h.get l=some (.loop st pd fn n tm ps asg body d)):
 (Instr.endLoop (f.b l)).run P w=.ok pd { w with heap:=w.heap.setIfInBounds (f.b l) (.loop ⟨.exhausted,pd,fn,Bi f n tm,ps.toArray,asg,body,f.b d⟩) }:=by
 obtain⟨q,h2⟩:=Amy (P:=P) j m;have hs:=U7 (P:=P) (o':=.loop ⟨.exhausted,pd,fn,Bi f n tm,ps.toArray,asg,body,f.b d⟩) h2 (by intros;simp);have hb:(st == .busy)=false:=by cases st<;>first|rfl|exact absurd rfl e
 simp only[Instr.endLoop,Sem.run_bind,q,aI,hb,ak,bD,aV,hs]
theorem A8a(hC:Ak3 P call){l:Nat}
 (j:behind fn n tm ds Dx l k (call g args h)=.go s') (M:Y9 p h) (O:Y5 f h w) (Q:EV.Wz p args) (C:Abx p ⟨fn,n,tm,k,ds,false,Dx⟩) :
 (∃D,P.funcs[g]? = some D/\D.body.isSome=true/\(D.name == "runtime.NumGoroutine")=false)/\∃f' w',p l ->
  Steps P (lone (Frame.enter P g (Bx f args).toArray .normal) ((FB.mk fn (ds.map (K1 f)) (Dx.map f.b)).at (Bi f n tm) (.inRangeFunc (f.b l)::k)::cs) w) (lone (Q2 f' s'.fr) cs w') /\
  Move p f h w f' s'.h w'/\Wf p h s'.h/\Abx (grow p h s'.h) s'.fr/\s'.fr.fn=fn/\s'.fr.Dx=Dx:=by
 unfold behind at j;split at j
 ·cases j
 ·rename_i v B u
  obtain⟨E,S⟩:=hC _ _ _ _ _ u;refine⟨E,?_⟩;split at j
  ·rename_i st pd A K tm' ps asg body d L
   have key:st≠.busy->∀todo:List Item,todo=(pd.map Item.code).toList++k->(AR.go ⟨⟨fn,n,tm,todo,ds,false,Dx⟩,B.put l (.loop .exhausted pd A K tm' ps asg body d)⟩=.go s')->∃f' w',p l ->
    Steps P (lone (Frame.enter P g (Bx f args).toArray .normal) ((FB.mk fn (ds.map (K1 f)) (Dx.map f.b)).at (Bi f n tm) (.inRangeFunc (f.b l)::k)::cs) w) (lone (Q2 f' s'.fr) cs w') /\
    Move p f h w f' s'.h w'/\Wf p h s'.h/\Abx (grow p h s'.h) s'.fr/\s'.fr.fn=fn/\s'.fr.Dx=Dx:=by
    intro F todo y e;cases e;obtain⟨fr,f1,w1,hs,U,W,hm,hwf,X⟩:=S p f w M O Q ((FB.mk fn (ds.map (K1 f)) (Dx.map f.b)).at (Bi f n tm) (.inRangeFunc (f.b l)::k)::cs);have m:Abx (grow p h B) ⟨fn,n,tm,k,ds,false,Dx⟩:=C.mono fun _ Y=>.inl Y
    obtain⟨m1,m2⟩:=Ba2 (st':=.exhausted) (pd':=pd) hwf.hok hm.rep L;have G:grow p h (B.put l (.loop .exhausted pd A K tm' ps asg body d))=grow p h B:=by
     funext q;simp only[grow,Ab.Si]
    refine⟨f1,_,fun H=>⟨hs.trans (.head (step_leave_returned W) (.one ?_)),hm.trans m1,hwf.trans m2,?_,rfl,rfl⟩⟩
    ·have e1:((FB.mk fn (ds.map (K1 f)) (Dx.map f.b)).at (Bi f n tm) (.inRangeFunc (f.b l)::k)).finish (Cr f1 v)=(FB.mk fn (ds.map (K1 f1)) (Dx.map f1.b)).at (Bi f1 n tm) (.endRangeFunc (f1.b l)::k):=by
      have:=Ap5 hm.Gf C;simp only[Be6]at this;rw[this,hm.Bi C.tm,(hm.Gf l H).1];rfl
     rw[e1,Bcv (Bev hm.rep F L),<-y];rfl
    ·rw[G]
     exact⟨m.tm,m.dfr,m.Dx,fun x=>by cases x⟩
   split at j
   ·cases j
   ·rename_i J;exact key J _ (by cases pd<;>rfl) j
  ·cases j
end
end
section
section
variable(hT:Uf P T){call:Ah}(hC:Ak3 P call)(hR:Aqx P round)(wC:Aa2 call)(wR:Aa2 round)
include wC wR in
theorem A8v {s:Jg}(j:(∃s',Cw T call round s=.go s'/\s'.h=h')\/∃v,Cw T call round s=.done v h'):AWf s.h h':=by
 obtain⟨⟨fn,n,tm,todo,ds,ret,Dx⟩,h⟩:=s;have u:∀{todo:List Item} {jump:Option Code} {h':Ab},((∃s',leave fn n tm todo ds Dx h jump=.go s'/\s'.h=h')\/∃v,leave fn n tm todo ds Dx h jump=.done v h')->AWf h h':=by
  intro todo jump h' E;rcases E with⟨s',y,h2⟩|⟨v,y⟩
  ·obtain⟨_,e,_⟩:=A5w y
   rw[e]at h2;subst h2;exact .refl _
  ·unfold leave at y
   split at y
   ·split at y<;>cases y
   ·split at y
    ·rename_i A
     split at y
     ·cases y;exact .put A _
     ·cases y;exact .put A _
    ·cases y
 cases ret with
 | true=>
  cases ds with
  | cons d ds=>
   simp only[Cw]at j;split at j
   ·rename_i A
    rcases j with⟨s',e,rfl⟩|⟨v,e⟩
    ·cases e;exact .put A _
    ·cases e
   ·rcases j with⟨s',e,_⟩|⟨v,e⟩<;>cases e
  | nil=>
   simp only[Cw]at j;rcases j with⟨s',e,rfl⟩|⟨v,e⟩
   ·split at e
    ·split at e<;>cases e
    ·cases e
   ·split at e
    ·split at e<;>first|(cases e;done)|(cases e;exact .refl _)
    ·cases e
 | false=>
  cases todo with
  | nil=>simp only[Cw]at j;exact u j
  | cons it k=>
   have q:∀{s0:Jg},((∃s',AR.go s0=.go s'/\s'.h=h')\/∃v,AR.go s0=.done v h')->s0.h=h':=by
    rintro s0 (⟨s',e,rfl⟩|⟨v,e⟩)<;>cases e;rfl
   have m:((∃s',AR.fail=.go s'/\s'.h=h')\/∃v,AR.fail=.done v h')->AWf h h':=by
    rintro(⟨s',e,_⟩|⟨v,e⟩)<;>cases e
   have x:∀{B:List Nat} {l g:Nat} {args:List EV} {y:Ab},AWf h y->((∃s',behind fn n tm B Dx l k (call g args y)=.go s'/\s'.h=h')\/∃v,behind fn n tm B Dx l k (call g args y)=.done v h')->AWf h h':=by
    intro B l g args y C hb;unfold behind at hb;split at hb
    ·exact m hb
    ·rename_i v h2 F
     split at hb
     ·rename_i A
      split at hb
      ·exact m hb
      ·rw[<-q hb]
       exact(C.trans (wC _ _ _ _ _ F)).trans (.put A _)
     ·exact m hb
   cases it with
   | code c=>
    cases c with
    | region id ops dr=>
     cases dr with
     | false=>
      simp only[Cw]at j;split at j
      ·rename_i D;rw[<-q j];exact Bhb wC wR D
      ·exact m j
     | true=>
      simp only[Cw]at j;split at j
      ·rename_i D;rw[<-q j];exact Bjr wC wR D
      ·exact m j
    | cond c a b=>
     simp only[Cw]at j;split at j
     ·rw[<-q j];exact .refl _
     ·rw[<-q j];exact .refl _
     ·exact m j
    | exit id=>
     simp only[Cw]at j;split at j
     ·rw[<-q j];exact .refl _
     ·exact u j
    | ret=>simp only[Cw]at j;exact u j
    | rangeFunc fo ps asg body=>
     simp only[Cw]at j;split at j
     ·split at j
      ·exact x ((AWf.new _ _).trans (.new _ _)) j
      ·split at j
       ·exact x (.new _ _) j
       ·exact m j
     ·exact m j
    | seq a b=>simp only[Cw]at j;rw[<-q j];exact .refl _
    | skip=>simp only[Cw]at j;rw[<-q j];exact .refl _
    | block id c=>simp only[Cw]at j;rw[<-q j];exact .refl _
    | loop c=>simp only[Cw]at j;rw[<-q j];exact .refl _
    | label l=>simp only[Cw]at j;rw[<-q j];exact .refl _
    | scope c=>simp only[Cw]at j;exact m j
    | goto c=>simp only[Cw]at j;exact m j
    | refuse c=>simp only[Cw]at j;exact m j
   | inBlock id=>simp only[Cw]at j;rw[<-q j];exact .refl _
   | inLoop c=>simp only[Cw]at j;rw[<-q j];exact .refl _
   | beginRound=>
    simp only[Cw]at j;split at j
    ·split at j
     ·rename_i A;rw[<-q j];exact .put A _
     ·exact m j
    ·exact m j
   | _=>simp only[Cw]at j;exact m j
theorem Sim.run{w:World}{todo:List Item}{e:List Nat}{f':Loc}{w':World}
 (hs:Steps P (lone ((FB.mk fn (ds.map (K1 f)) (Dx.map f.b)).at (Bi f n tm) todo) cs w) (lone ((FB.mk fn (e.map (K1 f')) (Dx.map f'.b)).at (Bi f' n tm') todo') cs w'))
 (hm:Move p f h w f' h' w') (hwf:Wf p h h') (j:Abx (grow p h h') ⟨fn,n,tm',todo',e,false,Dx⟩):Sim P p f w cs ⟨⟨fn,n,tm,todo,ds,false,Dx⟩,h⟩ ⟨⟨fn,n,tm',todo',e,false,Dx⟩,h'⟩:=
 ⟨f',w',hs,hm,hwf,j,rfl,rfl⟩
theorem Sim.Ae5{w:World}{todo:List Item}(j:Y9 p h)(m:Y5 f h w)(e:Abx p ⟨fn,n,tm,todo,ds,false,Dx⟩)
 (hs:step P (lone ((FB.mk fn (ds.map (K1 f)) (Dx.map f.b)).at (Bi f n tm) todo) cs w)=.next (lone ((FB.mk fn (ds.map (K1 f)) (Dx.map f.b)).at (Bi f n tm) todo') cs w)) :
 Sim P p f w cs ⟨⟨fn,n,tm,todo,ds,false,Dx⟩,h⟩ ⟨⟨fn,n,tm,todo',ds,false,Dx⟩,h⟩:=
 Sim.run (.one hs) (Move.refl m) (Wf.refl j) (by rw[L9 _ _ _ rfl];exact⟨e.tm,e.dfr,e.Dx,fun x=>by cases x⟩)
variable{w:World}
theorem A7d(j:Y9 p h)(m:Y5 f h w){todo:List Item}(e:Abx p ⟨fn,n,tm,todo,ds,false,Dx⟩)
 (q:leave fn n tm todo ds Dx h jump=.go s') (u:jump=none->todo = []) (h2:jump=some .ret->∃k,todo=.code .ret::k):Sim P p f w cs ⟨⟨fn,n,tm,todo,ds,false,Dx⟩,h⟩ s':=by
 obtain⟨rfl,rfl,hj⟩:=A5w q;refine Sim.stay j m ?_ ⟨e.tm,e.dfr,e.Dx,fun _=>rfl⟩ rfl rfl;rw[Auf,At0];rcases hj with rfl|rfl
 ·rw[u rfl];exact .one (Bu0 rfl)
 ·obtain⟨k,rfl⟩:=h2 rfl;exact .one (Bu6 rfl)
include hT hC hR in
theorem Bhx{ops:Array Oper}(y:Y9 p h)(A:Y5 f h w)(m:Abx p ⟨fn,n,tm,k,ds,false,Dx⟩)
 (B:Avx T call round n ops.toList ops.toList tm h=some (tm',h')):Sim P p f w cs ⟨⟨fn,n,tm,.code (.region id ops false)::k,ds,false,Dx⟩,h⟩ ⟨⟨fn,n,tm',k,ds,false,Dx⟩,h'⟩:=by
 obtain⟨f',w',hs,hm,hwf,u⟩:=A9y hT hC hR ops (i:=0) rfl m.tm y A B (FB.mk fn (ds.map (K1 f)) (Dx.map f.b)) k cs;have e:=Ap5 hm.Gf m;simp only[Be6]at e;refine Sim.run (f':=f') (w':=w') ?_ hm hwf ?_
 ·refine .head Bmj (.trans ?_ (.one (A1h (ops:=ops))))
  rw[<-e];have e2:List.range' 0 (List.drop 0 ops.toList).length=List.range ops.size:=by rw[List.range_eq_range'];simp
  have j:Steps P _ _:=hs;rw[e2]at j;exact j
 ·have:=m.mono (q:=grow p h h') fun _ C=>.inl C
  exact⟨u,this.dfr,this.Dx,fun x=>by cases x⟩
include hT hC hR wC wR in
theorem Bqh{ops:Array Oper}(u:Y9 p h)(y:Y5 f h w)(j:Abx p ⟨fn,n,tm,k,ds,false,Dx⟩)
 (A:Awn T call round n ops.toList tm h=some (tm',h')):Sim P p f w cs ⟨⟨fn,n,tm,.code (.region id ops true)::k,ds,false,Dx⟩,h⟩ ⟨⟨fn,n,tm',k,ds,false,Dx⟩,h'⟩:=by
 obtain⟨f',w',hs,hm,hwf,m⟩:=Bng hT hC hR wC wR j.tm u y A (FB.mk fn (ds.map (K1 f)) (Dx.map f.b)) (w.tape w.drawn (.order fn id)) k cs (w.drawn+1);have e:=Ap5 hm.Gf j;simp only[Be6]at e;refine Sim.run (f':=f') (w':=w') ?_ hm hwf ?_
 ·refine .head (Bsh hT.mixed) (.trans ?_ (.one (A1h (ops:=ops))))
  rw[<-e];exact hs
 ·have:=j.mono (q:=grow p h h') fun _ B=>.inl B
  exact⟨m,this.dfr,this.Dx,fun x=>by cases x⟩
theorem A74(q:N2 p n tm)(m:Cm tm fo=some (.func g first captured))(l:Nat)(w1:World)(e:Func)(u:P.funcs[g]? = some e)(h2:e.body.isSome=true)(x:(e.name == "runtime.NumGoroutine")=false):
 (do let d ←resolve (Ks (Bi f n tm)) { callee:=.value fo,args:=#[.const (.func (.yield l) #[] #[])],argTypes:=#[] } 0;invoke d.target d.args:Sem Next).run P w1 =
  .ok (.enter g ((Bx f first).toArray ++ #[.func (.yield l) #[] #[]]++(Bx f captured).toArray)) w1:=by
 have y:=Yn (f:=f) q;have hb:¬e.body=none:=by cases B:e.body<;>simp_all
 have A:¬e.name = "runtime.NumGoroutine":=by simpa using x
 have j:Ks (Bi f n tm) (.const (.func (.yield l) #[] #[]))=.func (.yield l) #[] #[]:=rfl;simp[resolve,Bl y m,Cr,Deferred.ofValue,invoke,callFunc,u,A,hb,j]
include hC in
theorem Bkc{ps:Array Tmp}(hh:Y9 p h)(rp:Y5 f h w)(u:Abx p ⟨fn,n,tm,k,ds,false,none⟩)
 (C:Cm tm fo=some (.func g first captured))
 (O:behind fn n tm (h.next::ds) none (Nat.succ h.next) k (call g (first++(.yld (Nat.succ h.next)::captured)) ((h.new (.deferred true)).new (.loop .ready none fn n tm ps.toList asg body h.next)))=.go s') :
 Sim P p f w cs ⟨⟨fn,n,tm,.code (.rangeFunc fo ps asg body)::k,ds,false,none⟩,h⟩ s':=by
 have j:=Fu (v:=.func g first captured) u.tm C;have Q:(Ec.deferred true).ok (grow p h (h.new (.deferred true))):=trivial;have m1:Move p f h w (f.set h.next w.heap.size 0) (h.new (.deferred true)) { w with heap:=w.heap.push (.deferred (some [])) }:=Move.new hh rp 0 rfl rfl rfl rfl rfl;have y:Wf p h (h.new (.deferred true)):=Wf.new hh Q;have S:Bi f n tm=Bi (f.set h.next w.heap.size 0) n tm:=Nt m1.Gf u.tm;have U:grow p h (h.new (.deferred true)) h.next:=.inr ⟨aE _,by rw[Ab.D8];omega⟩
 have D:(Ec.loop .ready none fn n tm ps.toList asg body h.next).ok (grow p h (h.new (.deferred true))):=⟨u.tm.mono fun _ A=>.inl A,U⟩;have m2:Move (grow p h (h.new (.deferred true))) (f.set h.next w.heap.size 0) (h.new (.deferred true)) { w with heap:=w.heap.push (.deferred (some [])) }
  ((f.set h.next w.heap.size 0).set (h.next+1) (w.heap.size+1) 0) ((h.new (.deferred true)).new (.loop .ready none fn n tm ps.toList asg body h.next))
  { w with heap:=(w.heap.push (.deferred (some []))).push (.loop ⟨.ready,none,fn,Bi f n tm,ps,asg,body,w.heap.size⟩) }:=by
  have hx:=Move.new (w':={ w with heap:=(w.heap.push (.deferred (some []))).push (.loop ⟨.ready,none,fn,Bi f n tm,ps,asg,body,w.heap.size⟩) }) (o:=.loop .ready none fn n tm ps.toList asg body h.next) (r:=.loop ⟨.ready,none,fn,Bi f n tm,ps,asg,body,w.heap.size⟩) y.hok m1.rep 0 rfl ?_ rfl rfl rfl
  ·have e1:(h.new (.deferred true)).next=h.next+1:=rfl
   have e2:({ w with heap:=w.heap.push (.deferred (some [])) }:World).heap.size=w.heap.size+1:=by simp
   rw[e1,e2]at hx;exact hx
  ·have W:Bi f n tm=Bi ((f.set h.next w.heap.size 0).set (h.new (.deferred true)).next ({ w with heap:=w.heap.push (.deferred (some [])) }:World).heap.size 0) n tm:=by
    rw[S];exact Nt (Loc.U4 _ _ _ (fun x=>absurd (y.hok.lt _ x) (by omega))) (u.tm.mono fun _ A=>.inl A)
   show Obj.loop _=Obj.loop _;rw[<-W,eH];have e3:((f.set h.next w.heap.size 0).set (h.new (.deferred true)).next ({ w with heap:=w.heap.push (.deferred (some [])) }:World).heap.size 0).b h.next=w.heap.size:=by
    rw[(Loc.Zf _ _ _ (by rw[Ab.D8];omega)).1,Loc.Agf]
   rw[e3]
 have X:Wf (grow p h (h.new (.deferred true))) (h.new (.deferred true)) ((h.new (.deferred true)).new (.loop .ready none fn n tm ps.toList asg body h.next)):=Wf.new y.hok (D.mono fun _ A=>.inl A);have e:=m1.trans m2;have m:=y.trans X;generalize E:(f.set h.next w.heap.size 0).set (h.next+1) (w.heap.size+1) 0=f2 at m2 e;have Y:f2.b h.next=w.heap.size:=by rw[<-E,(Loc.Zf _ _ _ (by omega)).1,Loc.Agf]
 have F:f2.b (h.next+1)=w.heap.size+1:=by rw[<-E,Loc.Agf]
 have Z:grow p h ((h.new (.deferred true)).new (.loop .ready none fn n tm ps.toList asg body h.next)) h.next:=.inr ⟨aE _,by rw[Ab.D8,Ab.D8];omega⟩
 have G:grow p h ((h.new (.deferred true)).new (.loop .ready none fn n tm ps.toList asg body h.next)) (h.next+1):=.inr ⟨by omega,by rw[Ab.D8,Ab.D8];omega⟩;have B:EV.Wz (grow p h ((h.new (.deferred true)).new (.loop .ready none fn n tm ps.toList asg body h.next))) (first++(.yld (Nat.succ h.next)::captured)):=
  Aep (Afy j.1) ⟨G,Afy j.2⟩
 have H:Abx (grow p h ((h.new (.deferred true)).new (.loop .ready none fn n tm ps.toList asg body h.next))) ⟨fn,n,tm,k,h.next::ds,false,none⟩:=by
  refine⟨u.tm.mono fun _ A=>.inl A,fun d hd=>?_,fun l hl=>(by cases hl),fun x=>(by cases x)⟩;rcases bU.1 hd with rfl|hd
  ·exact Z
  ·exact .inl (u.dfr d hd)
 obtain⟨⟨gn,g1,g2,g3⟩,f',w',hb⟩:=A8a (cs:=cs) hC O m.hok e.rep B H;obtain⟨hs,hm,hwf,J,K,L⟩:=hb G;refine⟨f',w',?_,e.trans hm,m.trans hwf,?_,K,L⟩
 ·rw[Auf]
  refine .head ?_ hs;have M:=A0e (P:=P) (b:=FB.mk fn (ds.map (K1 f)) none) (k:=k) (cs:=cs) (w:=w) (fo:=fo) (ps:=ps) (asg:=asg) (body:=body) (tmps:=Bi f n tm)
   (l:=w.heap.size+1) (mark:=[{ target:=.collected w.heap.size,args:=#[] }]) (w1:={ w with heap:=(w.heap.push (.deferred (some []))).push (.loop ⟨.ready,none,fn,Bi f n tm,ps,asg,body,w.heap.size⟩) })
   (g:=g) (args:=(Bx f first).toArray ++ #[.func (.yield (w.heap.size+1)) #[] #[]]++(Bx f captured).toArray) (by simp[Instr.enterLoop];rfl) (A74 u.tm C _ _ gn g1 g2 g3)
  have e1:Bx f2 (first++(.yld (Nat.succ h.next)::captured))=Bx f first++(.func (.yield (w.heap.size+1)) #[] #[]::Bx f captured):=by
   rw[X1,Bx,<-Ir e.Gf _ j.1,<-Ir e.Gf _ j.2];simp only[Cr];rw[show f2.b (Nat.succ h.next)=w.heap.size+1 from F]
  have e2:(Bi f n tm)=Bi f2 n tm:=Nt e.Gf u.tm;have e3:ds.map (K1 f)=ds.map (K1 f2):=by
   apply cj;intro d hd;unfold K1;rw[(e.Gf d (u.dfr d hd)).1]
  rw[e1,<-e2,dQ,<-e3];have e4:K1 f2 h.next = { target:=.collected w.heap.size,args:=#[] }:=by unfold K1;rw[Y]
  rw[e4,show f2.b (Nat.succ h.next)=w.heap.size+1 from F];have e5:((Bx f first).toArray ++ #[Value.func (.yield (w.heap.size+1)) #[] #[]]++(Bx f captured).toArray)=(Bx f first++(.func (.yield (w.heap.size+1)) #[] #[]::Bx f captured)).toArray:=by simp
  rw[e5]at M;exact M
 ·exact J.mono fun q hq=>by rw[Aja p m.next hwf.next]at hq;exact hq
include hC in
theorem Bbl{l0:Nat}{ps:Array Tmp}(y:Y9 p h)(Y:Y5 f h w)(j:Abx p ⟨fn,n,tm,k,ds,false,some l0⟩)
 (A:Cm tm fo=some (.func g first captured)) {L:LoopState} {M n0:Nat} {O:Ax} {Q:List Tmp} {B m:Code} {d0:Nat} (C:h.get l0=some (.loop L pd0 M n0 O Q B m d0))
 (S:behind fn n tm ds (some l0) h.next k (call g (first++(.yld h.next::captured)) (h.new (.loop .ready none fn n tm ps.toList asg body d0)))=.go s') :
 Sim P p f w cs ⟨⟨fn,n,tm,.code (.rangeFunc fo ps asg body)::k,ds,false,some l0⟩,h⟩ s':=by
 have e:=Fu (v:=.func g first captured) j.tm A;have D:p d0:=(y.get l0 _ C).2.2;have m1:Move p f h w (f.set h.next w.heap.size 0) (h.new (.loop .ready none fn n tm ps.toList asg body d0)) { w with heap:=w.heap.push (.loop ⟨.ready,none,fn,Bi f n tm,ps,asg,body,f.b d0⟩) }:=by
  refine Move.new y Y 0 rfl ?_ rfl rfl rfl;show Obj.loop _=Obj.loop _;rw[<-Nt (Loc.U4 f _ _ y.fresh) j.tm,eH,(Loc.U4 f w.heap.size 0 y.fresh d0 D).1]
 have u:Wf p h (h.new (.loop .ready none fn n tm ps.toList asg body d0)):=Wf.new y ⟨j.tm.mono fun _ U=>.inl U,.inl D⟩;generalize W:f.set h.next w.heap.size 0=f2 at m1
 have Z:f2.b h.next=w.heap.size:=by rw[<-W,Loc.Agf]
 have E:grow p h (h.new (.loop .ready none fn n tm ps.toList asg body d0)) h.next:=.inr ⟨aE _,by rw[Ab.D8];omega⟩
 have x:EV.Wz (grow p h (h.new (.loop .ready none fn n tm ps.toList asg body d0))) (first++(.yld h.next::captured)):=Aep (Afy e.1) ⟨E,Afy e.2⟩;have F:Abx (grow p h (h.new (.loop .ready none fn n tm ps.toList asg body d0))) ⟨fn,n,tm,k,ds,false,some l0⟩:=j.mono fun _ U=>.inl U
 obtain⟨⟨gn,g1,g2,g3⟩,f',w',hb⟩:=A8a (cs:=cs) hC S u.hok m1.rep x F;obtain⟨hs,hm,hwf,G,H,J⟩:=hb E;refine⟨f',w',?_,m1.trans hm,u.trans hwf,?_,H,J⟩
 ·rw[Auf]
  refine .head ?_ hs;obtain⟨X,ag⟩:=Amy (P:=P) Y C;have K:=A0e (P:=P) (b:=FB.mk fn (ds.map (K1 f)) (some (f.b l0))) (k:=k) (cs:=cs) (w:=w) (fo:=fo) (ps:=ps) (asg:=asg) (body:=body) (tmps:=Bi f n tm)
   (l:=w.heap.size) (mark:=[]) (w1:={ w with heap:=w.heap.push (.loop ⟨.ready,none,fn,Bi f n tm,ps,asg,body,f.b d0⟩) })
   (g:=g) (args:=(Bx f first).toArray ++ #[.func (.yield w.heap.size) #[] #[]]++(Bx f captured).toArray) (by simp[Instr.enterLoop,X]) (A74 j.tm A _ _ gn g1 g2 g3)
  have e1:Bx f2 (first++(.yld h.next::captured))=Bx f first++(.func (.yield w.heap.size) #[] #[]::Bx f captured):=by
   rw[X1,Bx,<-Ir m1.Gf _ e.1,<-Ir m1.Gf _ e.2];simp only[Cr];rw[Z]
  have e2:=Ap5 m1.Gf j;simp only[Be6]at e2;rw[e1,<-e2,Z,<-Nt m1.Gf j.tm];have e5:((Bx f first).toArray ++ #[Value.func (.yield w.heap.size) #[] #[]]++(Bx f captured).toArray)=(Bx f first++(.func (.yield w.heap.size) #[] #[]::Bx f captured)).toArray:=by simp
  rw[e5]at K;exact K
 ·exact G.mono fun q hq=>by rw[Aja p u.next hwf.next]at hq;exact hq
include hT hC hR wC wR in
theorem Boi {s:Jg}(j:Cw T call round s=.go s')(m:Abx p s.fr)(u:Y9 p s.h)(q:Y5 f s.h w)(cs:List Frame):Sim P p f w cs s s':=by
 obtain⟨⟨fn,n,tm,todo,ds,ret,Dx⟩,h⟩:=s;cases ret with
 | true=>
  have G:Dx=none:=m.ret rfl;subst G;cases ds with
  | cons d ds=>
   simp only[Cw]at j;split at j
   ·rename_i A
    cases j;obtain⟨r0,B,rfl⟩:=q.obj d _ A;have y:(Instr.takeDeferred (f.b d)).run P w=.ok [] { w with heap:=w.heap.setIfInBounds (f.b d) (.deferred none) }:=by
     have F:=Qf (P:=P) B (by intros;simp);have h2:=U7 (P:=P) (o':=.deferred none) B (by intros;simp);simp only[bM]at F;simp only[Instr.takeDeferred,Sem.run_bind,F,aI,h2,aV]
    have hm:Move p f h w f (h.put d (.deferred false)) { w with heap:=w.heap.setIfInBounds (f.b d) (.deferred none) }:=Move.setObj q A rfl;have hwf:Wf p h (h.put d (.deferred false)):=Wf.put u A trivial;refine⟨f,_,.one ?_,hm,hwf,?_,rfl,rfl⟩
    ·rw[At0,At0];exact Bmo y
    ·exact Abx.mono (p:=p) ⟨m.tm,fun x S=>m.dfr x (aT _ S),m.Dx,fun _=>rfl⟩ fun _ H=>.inl H
   ·cases j
  | nil=>
   simp only[Cw]at j;split at j
   ·split at j<;>cases j
   ·cases j
 | false=>
  have O:=Yn (f:=f) m.tm;have C:∀{it:Item} {k:List Item},Abx p ⟨fn,n,tm,it::k,ds,false,Dx⟩->Abx p ⟨fn,n,tm,k,ds,false,Dx⟩:=fun h=>⟨h.tm,h.dfr,h.Dx,h.ret⟩
  cases todo with
  | nil=>simp only[Cw]at j;exact A7d u q m j (fun _=>rfl) (fun e=>by cases e)
  | cons it k=>
   cases it with
   | code c=>
    cases c with
    | region id ops dr=>
     cases dr with
     | false=>
      simp only[Cw]at j;split at j
      ·rename_i J;cases j;exact Bhx hT hC hR u q (C m) J
      ·cases j
     | true=>
      simp only[Cw]at j;split at j
      ·rename_i J;cases j;exact Bqh hT hC hR wC wR u q (C m) J
      ·cases j
    | cond c a b=>
     simp only[Cw]at j;split at j
     ·rename_i K;cases j;exact Sim.Ae5 u q m (Bh3 (t:=true) (by rw[Bl O K];rfl))
     ·rename_i K;cases j;exact Sim.Ae5 u q m (Bh3 (t:=false) (by rw[Bl O K];rfl))
     ·cases j
    | exit id=>
     simp only[Cw]at j;split at j
     ·rename_i he;cases j;exact Sim.Ae5 u q m (Bsc he)
     ·obtain⟨_,_,hj⟩:=A5w j
      rcases hj with hj|hj<;>cases hj
    | ret=>simp only[Cw]at j;exact A7d u q m j (fun e=>by cases e) (fun _=>⟨k,rfl⟩)
    | rangeFunc fo ps asg body=>
     simp only[Cw]at j;split at j
     ·rename_i g first captured D
      split at j
      ·exact Bkc hC u q (C m) D j
      ·split at j
       ·rename_i L;exact Bbl hC u q (C m) D L j
       ·cases j
     ·cases j
    | seq a b=>simp only[Cw]at j;cases j;exact Sim.Ae5 u q m Buj
    | skip=>simp only[Cw]at j;cases j;exact Sim.Ae5 u q m Br0
    | block id c=>simp only[Cw]at j;cases j;exact Sim.Ae5 u q m Bpr
    | loop c=>simp only[Cw]at j;cases j;exact Sim.Ae5 u q m Br4
    | label l=>simp only[Cw]at j;cases j;exact Sim.Ae5 u q m Bpd
    | scope c=>simp only[Cw]at j;cases j
    | goto c=>simp only[Cw]at j;cases j
    | refuse c=>simp only[Cw]at j;cases j
   | inBlock id=>simp only[Cw]at j;cases j;exact Sim.Ae5 u q m Bf8
   | inLoop c=>simp only[Cw]at j;cases j;exact Sim.Ae5 u q m Bk9
   | beginRound=>
    simp only[Cw]at j;split at j
    ·rename_i l
     split at j
     ·rename_i pd E Q tm' ps asg body d A
      cases j;obtain⟨F,h2⟩:=Amy (P:=P) q A;obtain⟨m1,M⟩:=Ba2 (st':=.busy) (pd':=pd) u q A;have hs:=U7 (P:=P) (o':=.loop ⟨.busy,pd,E,Bi f Q tm',ps.toArray,asg,body,f.b d⟩) h2 (by intros;simp);have y:(Instr.beginRound (f.b l)).run P w=.ok () { w with heap:=w.heap.setIfInBounds (f.b l) (.loop ⟨.busy,pd,E,Bi f Q tm',ps.toArray,asg,body,f.b d⟩) }:=by
       simp only[Instr.beginRound,Sem.run_bind,F,aI,hs,aV]
      exact Sim.run (.one (A6a (b:=FB.mk fn (ds.map (K1 f)) (some (f.b l))) rfl y)) m1 M ((C m).mono fun _ H=>.inl H)
     ·cases j
    ·cases j
   | _=>simp only[Cw]at j;cases j
end
end
section
section
variable(hT:Uf P T){call:Ah}(hC:Ak3 P call)(hR:Aqx P round)(wC:Aa2 call)(wR:Aa2 round)
variable{w:World}
include hT in
theorem A51 {s:Jg}(j:Cw T call round s=.done v h')(F:Abx p s.fr)(y:Y9 p s.h)(A:Y5 f s.h w):Fin P p f w s v h':=by
 obtain⟨⟨fn,n,tm,todo,ds,ret,Dx⟩,h⟩:=s;cases ret with
 | true=>
  have B:Dx=none:=F.ret rfl;subst B;cases ds with
  | cons d ds=>
   simp only[Cw]at j;split at j<;>cases j
  | nil=>
   simp only[Cw]at j;split at j
   ·rename_i q C
    have key:∀{vs:List EV} {v:EV},O9 T tm h q.results.toList=some vs->(vs = [v]\/((∀x,vs≠[x])/\v=.tuple vs))->Fin P p f w ⟨⟨fn,n,tm,todo,[],true,none⟩,h⟩ v h:=by
     intro vs v G h2;obtain⟨H,J⟩:=Bb5 hT y A F.tm G h2;exact⟨rfl,⟨rfl,rfl,rfl,q,(hT.fn fn q C).1,H⟩,J⟩
    split at j
    ·rename_i D;cases j;exact key D (.inl rfl)
    ·rename_i l E D;cases j;exact key D (.inr ⟨fun x e=>by subst e;exact E x rfl,rfl⟩)
    ·cases j
   ·cases j
 | false=>
  cases todo with
  | nil=>simp only[Cw]at j;exact Ax2 y A j (.inl ⟨rfl,rfl⟩)
  | cons it k=>
   have m:∀{u:List Nat} {l:Nat} {r:Option (EV × Ab)},behind fn n tm u Dx l k r=.done v h'->False:=by
    intro u l r hb;unfold behind at hb;split at hb
    ·cases hb
    ·split at hb
     ·split at hb<;>cases hb
     ·cases hb
   cases it with
   | code c=>
    cases c with
    | region id ops dr=>cases dr<;>(simp only[Cw]at j;split at j<;>cases j)
    | cond c a b=>simp only[Cw]at j;split at j<;>cases j
    | exit id=>
     simp only[Cw]at j;split at j
     ·cases j
     ·rename_i he;exact Ax2 y A j (.inr (.inr ⟨id,k,rfl,he,rfl⟩))
    | ret=>simp only[Cw]at j;exact Ax2 y A j (.inr (.inl ⟨k,rfl,rfl⟩))
    | rangeFunc fo ps asg body=>
     simp only[Cw]at j;split at j
     ·split at j
      ·exact(m j).elim
      ·split at j
       ·exact(m j).elim
       ·cases j
     ·cases j
    | _=>simp only[Cw]at j;cases j
   | beginRound=>
    simp only[Cw]at j;split at j
    ·split at j<;>cases j
    ·cases j
   | _=>simp only[Cw]at j;cases j
theorem Sim.refl{s:Jg}(e:Abx p s.fr)(j:Y9 p s.h)(m:Y5 f s.h w):Sim P p f w cs s s:=
 ⟨f,w,.refl _ _,Move.refl m,Wf.refl j,by rw[L9 _ _ _ rfl];exact e,rfl,rfl⟩
def Bk2(P:Program)(s s':Jg):Prop:=∀p f w cs,Abx p s.fr->Y9 p s.h->Y5 f s.h w->Sim P p f w cs s s'
theorem Bk2.trans {s s1 s2:Jg}(a:Bk2 P s s1)(b:Bk2 P s1 s2):Bk2 P s s2:=by
 intro p f w cs B C D;obtain⟨f1,w1,q,m,e,u,e1,e2⟩:=a p f w cs B C D;obtain⟨f2,w2,x,y,j,A,e3,e4⟩:=b _ f1 w1 cs u e.hok m.rep;exact⟨f2,w2,q.trans x,m.trans y,e.trans j,by rw[<-Aja p e.next j.next];exact A,e3.trans e1,e4.trans e2⟩
theorem Anc:∀(l:List EV) (i:Nat) (t:Tr EV) (j:Nat),(setArgs l i t).get j=if i<=j/\j<i+l.length then l[j-i]? else t.get j
 | [],i,t,j=>by simp[setArgs];omega
 | v::r,i,t,j=>by
  simp only[setArgs];rw[Anc r (i+1) (t.put i (some v)) j,Tr.get_put];simp only[bH];by_cases e:i=j
  ·subst e
   rw[aF (by omega),aG rfl,aG (by omega)];simp
  ·by_cases h2:i+1<=j/\j<i+1+r.length
   ·rw[aG h2,aG (by omega)]
    rw[show j-i=(j-(i+1))+1 by omega,bm]
   ·rw[aF h2,aF e,aF (by omega)]
theorem Be8(f:Loc)(h:args.length<=n):Bi f n (setArgs args 0 .nil)=(Bx f args).toArray++Array.replicate (n-(Bx f args).toArray.size) undef:=by
 apply gE;intro j;rw[Akc];rw[Array.getElem?_append];simp only[dc,Dh,cI,Aki,Array.getElem?_replicate];unfold tmp;rw[Anc];by_cases hj:j<args.length
 ·rw[aG (by omega),aG (by omega),aG hj,Nat.sub_zero]
  rw[aC hj];rfl
 ·rw[aF (show ¬(0<=j/\j<0+args.length) by omega),aF hj]
  by_cases e:j<n
  ·rw[aG e,aG (by omega)];rfl
  ·rw[aF e,aF (by omega)]
theorem Bqa(h:args.length<=n)(j:EV.Wz p args):N2 p n (setArgs args 0 .nil) where
 ok t v e:=by
  rw[Anc]at e;split at e
  ·exact(Km p args).1 j v (bY e)
  ·cases e
 out t m:=by
  rw[Anc,aF (by omega)];rfl
end
end
section
theorem Ae7:∀{a b:List EV} {r:Bool},F1 a b=some r->a.length=b.length
 | [],[],_,_=>rfl
 | x::a,y::b,r,h=>by
  simp only[F1]at h;split at h
  ·simp[Ae7 h]
  ·split at h
   ·rename_i h2;simp[Ae7 h2]
   ·cases h
  ·cases h
 | [],_::_,_,h=>by cases h
 | _::_,[],_,h=>by cases h
theorem Aiw:∀(k:Nat) {a b:List EV} {r:Bool},F1 a b=some r->∃j e,F1 (a.take k) (b.take k)=some j/\F1 (a.drop k) (b.drop k)=some e/\r=(j&&e)
 | 0,a,b,r,h=>⟨true,r,rfl,h,by simp⟩
 | k+1,[],[],r,h=>by cases h;exact⟨true,true,rfl,rfl,rfl⟩
 | k+1,x::a,y::b,r,h=>by
  simp only[F1]at h;split at h
  ·rename_i m
   obtain⟨j,e,q,h2,u⟩:=Aiw k h;exact⟨j,e,by simp only[fW,F1,m,q],by simpa using h2,u⟩
  ·rename_i m
   split at h
   ·rename_i r0 h0
    cases h;obtain⟨j,e,q,h2,u⟩:=Aiw k h0;exact⟨false,e,by simp only[fW,F1,m,q],by simpa using h2,rfl⟩
   ·cases h
  ·cases h
 | k+1,[],_::_,_,h=>by cases h
 | k+1,_::_,[],_,h=>by cases h
theorem Agl {b:Nat}{s:List Nat}{x:EV}{l:List EV}(h:shaped (b::s) (x::l)=true):shaped s l=true/\((b=0/\∃k n,x=.int k n)\/(b=1/\∃c,x=.bool c)\/(b=2/\∃c,x=.str c)):=by
 cases x with
 | int k n=>
  simp only[shaped]at h;rw[Bt]at h;split at h
  ·rename_i hb;exact⟨h,.inl ⟨aJ hb,k,n,rfl⟩⟩
  ·cases h
 | bool c=>
  simp only[shaped]at h;rw[Bt]at h;split at h
  ·rename_i hb;exact⟨h,.inr (.inl ⟨aJ hb,c,rfl⟩)⟩
  ·cases h
 | str c=>
  simp only[shaped]at h;rw[Bt]at h;split at h
  ·rename_i hb;exact⟨h,.inr (.inr ⟨aJ hb,c,rfl⟩)⟩
  ·cases h
 | _=>cases h
theorem N0:∀{sh:List Nat} {l:List EV},shaped sh l=true->l.length=sh.length
 | [],[],_=>rfl
 | b::s,x::l,h=>by rw[bH,bH,N0 (Agl h).1]
 | [],_::_,h=>by cases h
 | _::_,[],h=>by cases h
theorem Ai2:∀{s1 s2:List Nat} {l:List EV},shaped (s1++s2) l=true->shaped s1 (l.take s1.length)=true/\shaped s2 (l.drop s1.length)=true
 | [],s2,l,h=>⟨rfl,h⟩
 | b::s1,s2,l,h=>by
  cases l with
  | nil=>have:=N0 h;simp at this
  | cons x l=>
   obtain⟨j,h2⟩:=Agl (s:=s1++s2) h;obtain⟨e,h4⟩:=Ai2 j;refine⟨?_,h4⟩;simp only[bH,fW];rcases h2 with⟨rfl,k,n,rfl⟩|⟨rfl,c,rfl⟩|⟨rfl,c,rfl⟩
   ·exact e
   ·exact e
   ·exact e
def Ax6(fl:TypeId->Option (List Nat)):List Field->Nat->Option (List Nat)
 | [],_=>some []
 | f::r,off=>match fl f.type with
  | some s=>if f.offset=off/\f.name≠"_" then(match Ax6 fl r (off+s.length)with|some t=>some (s++t)|none=>none)else none
  | none=>none
def flat(P:Program):Nat->TypeId->Option (List Nat)
 | 0=>fun _=>none
 | d+1=>fun t=>match P.info? t with
  | some i=>match P.underlying t with
   | some (.int _)=>if i.size=1 then some [0]else none
   | some .bool=>if i.size=1 then some [1]else none
   | some .string=>if i.size=1 then some [2]else none
   | some (.struct j)=>if P.stoodInHeld t=false then(match Ax6 (flat P d) j.toList 0 with
    | some s=>if s.length=i.size then some s else none
    | none=>none)else none
   | some (.array len e)=>match flat P d e with
    | some s=>if len*s.length=i.size then some (List.replicate len s).flatten else none
    | none=>none
   | _=>none
  | none=>none
def isA(P:Program)(t:TypeId):Bool:=match P.underlying t with|some (.struct _)=>true|some (.array _ _)=>true|_=>false
noncomputable def Anr(P:Program)(f:Loc)(t:TypeId)(l:List EV):Value:=if isA P t=true then .agg (Bx f l).toArray else(match l with|v::_=>Cr f v | []=>undef)
theorem Aaw(n:Nat)(s:List Nat):(List.replicate n s).flatten.length=n*s.length:=by
 induction n with
 | zero=>simp
 | succ n e=>rw[eI,cC,aH,e,fZ];omega
theorem Abe{s:List Nat}(h:flat P d t=some s):(∃i,P.info? t=some i/\i.size=s.length)/\(isA P t=false->(s = [0]/\∃k,P.underlying t=some (.int k))\/(s = [1]/\P.underlying t=some .bool)\/(s = [2]/\P.underlying t=some .string))/\∀w,(isAgg t).run P w=.ok (isA P t) w:=by
 cases d with
 | zero=>simp[flat]at h
 | succ d=>
  simp only[flat]at h;split at h
  ·rename_i i m
   split at h
   ·rename_i k hu
    split at h
    ·rename_i j;cases h;exact⟨⟨i,m,j⟩,fun _=>.inl ⟨rfl,k,hu⟩,fun w=>by simp[isAgg,underlying,isA,hu]⟩
    ·cases h
   ·rename_i hu
    split at h
    ·rename_i j;cases h;exact⟨⟨i,m,j⟩,fun _=>.inr (.inl ⟨rfl,hu⟩),fun w=>by simp[isAgg,underlying,isA,hu]⟩
    ·cases h
   ·rename_i hu
    split at h
    ·rename_i j;cases h;exact⟨⟨i,m,j⟩,fun _=>.inr (.inr ⟨rfl,hu⟩),fun w=>by simp[isAgg,underlying,isA,hu]⟩
    ·cases h
   ·rename_i q hu
    split at h
    ·split at h
     ·split at h
      ·rename_i j;cases h;exact⟨⟨i,m,j.symm⟩,fun e=>by simp[isA,hu]at e,fun w=>by simp[isAgg,underlying,isA,hu]⟩
      ·cases h
     ·cases h
    ·cases h
   ·rename_i len e hu
    split at h
    ·split at h
     ·rename_i j;cases h;exact⟨⟨i,m,by rw[Aaw];exact j.symm⟩,fun e=>by simp[isA,hu]at e,fun w=>by simp[isAgg,underlying,isA,hu]⟩
     ·cases h
    ·cases h
   ·cases h
  ·cases h
theorem U6(f:Loc)(w:World){s:List Nat}(h:flat P d t=some s){xs:List EV}(u:off+s.length<=xs.length):
 (Go.part t (Bx f xs).toArray off).run P w=.ok (Anr P f t ((xs.drop off).take s.length)) w:=by
 obtain⟨⟨i,x,hs⟩,j,e⟩:=Abe h;have m:(sizeOf t).run P w=.ok s.length w:=by simp[sizeOf,typeInfo,x,hs]
 unfold Anr;cases q:isA P t with
 | true=>
  simp only[Go.part,Sem.run_bind,e w,q,aI,bM,m,aV];congr 2;apply eQ;simp[Um,List.extract_eq_take_drop]
 | false=>
  have y:s.length=1:=by rcases j q with⟨rfl,_⟩|⟨rfl,_⟩|⟨rfl,_⟩<;>rfl
  rw[y]at u⊢;have A:xs[off]? = some xs[off]:=aC (by omega);have e1:(xs.drop off).take 1 = [xs[off]]:=by
   rw[dE (by omega)];rfl
  have e2:(Bx f xs).toArray[off]? = some (Cr f xs[off]):=by simp[Um,A]
  rw[e1];simp only[Go.part,Sem.run_bind,e w,q,aI,ak,bD,e2,aV]
def EqF(P:Program)(d D:Nat):Prop:=∀(t:TypeId) (s:List Nat),flat P d t=some s->∀(f:Loc) (w:World) (a b:List EV) (r:Bool),shaped s a=true->F1 a b=some r->(Op.equalIn D t (Anr P f t a) (Anr P f t b)).run P w=.ok r w
theorem A5b(f:Loc)(w:World){D:Nat}(A:EqF P d D)(a b:List EV)(B:a.length=b.length):∀(x:List Field) (off:Nat) (s:List Nat) (r:Bool),Ax6 (flat P d) x off=some s->shaped s (a.drop off)=true->F1 (a.drop off) (b.drop off)=some r ->
 (Op.eqFields D (Bx f a).toArray (Bx f b).toArray x).run P w=.ok r w
 | [],off,s,r,h,hs,q=>by
  simp only[Ax6]at h;cases h;have:=N0 hs;rw[fM,cR]at this;rw[this]at q;have h2:=Ae7 q;rw[fM]at h2;rw[cR.1 h2.symm]at q;cases q;simp[Op.eqFields]
 | fd::x,off,s,r,h,hs,q=>by
  simp only[Ax6]at h;split at h
  ·rename_i s1 e
   split at h
   ·rename_i j
    split at h
    ·rename_i s2 C
     cases h;obtain⟨E,K⟩:=Ai2 hs;obtain⟨y,O,F,h2,L⟩:=Aiw s1.length q;rw[dh]at K;rw[dh,dh]at h2;have hlen:=N0 hs;rw[bW,aH]at hlen;have M:=A5b f w A a b B x (off+s1.length) s2 O C K h2;by_cases Q:off+s1.length<=a.length
     ·have p1:=U6 f w e (xs:=a) (off:=off) Q
      have p2:=U6 f w e (xs:=b) (off:=off) (by omega);have G:=A fd.type s1 e f w _ _ y E F;simp only[Op.eqFields,j.2,ne_eq,aN,bM,Sem.run_bind,j.1,p1,p2,G,aI];subst L;cases y
      ·simp
      ·simpa using M
     ·
      have h0:s1.length=0:=by omega
      obtain⟨⟨i,S,H⟩,J,u⟩:=Abe e;have U:isA P fd.type=true:=by
       cases W:isA P fd.type with
       | true=>rfl
       | false=>rcases J W with⟨rfl,_⟩|⟨rfl,_⟩|⟨rfl,_⟩<;>simp at h0
      have m:(sizeOf fd.type).run P w=.ok 0 w:=by simp[sizeOf,typeInfo,S,H,h0]
      have hp:∀xs:List EV,(Go.part fd.type (Bx f xs).toArray off).run P w=.ok (Anr P f fd.type []) w:=by
       intro xs;simp only[Go.part,Sem.run_bind,u w,U,aI,bM,m,aV,Anr,dL];congr 2;apply eQ;simp[Bx]
      rw[h0,List.take_zero,List.take_zero]at F;rw[h0,List.take_zero]at E;have G:=A fd.type s1 e f w [] [] y E F;simp only[Op.eqFields,j.2,ne_eq,aN,bM,Sem.run_bind,j.1,hp,G,aI];subst L;cases y
      ·simp
      ·simpa using M
    ·cases h
   ·cases h
  ·cases h
theorem A7t(f:Loc)(w:World){D:Nat}(A:EqF P d D){e:TypeId}{s:List Nat}(hs:flat P d e=some s)(a b:List EV)(x:a.length=b.length):∀(n k:Nat) (r:Bool),(k+n)*s.length=a.length->shaped (List.replicate n s).flatten (a.drop (k*s.length))=true ->
 F1 (a.drop (k*s.length)) (b.drop (k*s.length))=some r ->
 (Op.eqItems D e (P.cellsOf e) (Bx f a).toArray (Bx f b).toArray (List.range' k n)).run P w=.ok r w
 | 0,k,r,j,m,u=>by
  rw[dL]at j;rw[dX (by omega),dX (by omega)]at u;cases u;simp[Op.eqItems]
 | n+1,k,r,j,m,u=>by
  obtain⟨⟨i,G,y⟩,_⟩:=Abe hs;have B:P.cellsOf e=s.length:=by simp[Program.cellsOf,G,y]
  rw[eI,cC]at m;obtain⟨H,C⟩:=Ai2 m;obtain⟨E,J,K,h2,L⟩:=Aiw s.length u;have q:k*s.length+s.length=(k+1)*s.length:=by rw[fZ];omega
  rw[dh,q]at C;rw[dh,dh,q]at h2;have F:=A7t f w A hs a b x n (k+1) J (by rw[<-j];congr 1;omega) C h2;have M:k*s.length+s.length<=a.length:=by
   rw[<-j,show k+(n+1)=(k+1)+n by omega,fZ,fZ];omega
  have p1:=U6 f w hs (xs:=a) (off:=k*s.length) M;have p2:=U6 f w hs (xs:=b) (off:=k*s.length) (by omega);have O:=A e s hs f w _ _ E H K;rw[fT];simp only[Op.eqItems,Sem.run_bind,B,p1,p2,O,aI];rw[B]at F;subst L;cases E
  ·simp
  ·simpa using F
theorem Big:∀(d D:Nat),d<=D->EqF P d D
 | 0,_,_=>fun t n h=>by simp[flat]at h
 | d+1,0,h=>by omega
 | d+1,D+1,hd=>by
  have M:=Big d D (by omega);intro t s h f w a b r j q;have u:=Ae7 q;obtain⟨_,C,_⟩:=Abe h;by_cases B:isA P t=true
  ·simp only[flat]at h
   split at h
   ·rename_i i W
    split at h
    ·rename_i k hu;simp[isA,hu]at B
    ·rename_i hu;simp[isA,hu]at B
    ·rename_i hu;simp[isA,hu]at B
    ·rename_i O hu
     split at h
     ·rename_i G
      split at h
      ·rename_i s' H
       split at h
       ·cases h
        have Q:P.fieldsOf t=O:=by simp[Program.fieldsOf,hu]
        simp only[Anr,B,bM];rw[run_equalIn_struct w D t _ _ (by rw[Q];exact hu) G,Q];exact A5b f w M a b u O.toList 0 s r H (by simpa using j) (by simpa using q)
       ·cases h
      ·cases h
     ·cases h
    ·rename_i len e hu
     split at h
     ·rename_i s' hs
      split at h
      ·rename_i X
       cases h;obtain⟨⟨Y,J,_⟩,_⟩:=Abe hs;simp only[Anr,B,bM];rw[run_equalIn_array w D _ _ hu J,List.range_eq_range'];refine A7t f w M hs a b u len 0 r ?_ (by simpa using j) (by simpa using q);rw[N0 j,Aaw,bJ]
      ·cases h
     ·cases h
    ·cases h
   ·cases h
  ·have A:isA P t=false:=by simpa using B
   have hlen:=N0 j;have K:s.length=1:=by rcases C A with⟨rfl,_⟩|⟨rfl,_⟩|⟨rfl,_⟩<;>rfl
   rw[K]at hlen
   match a,b,hlen,u with
   | [x],[y],_,_=>
    simp only[Anr,A,ak,bD];simp only[F1]at q;have hle:Ao6 x y=some r:=by
     split at q
     ·rename_i L;cases q;exact L
     ·rename_i L;cases q;exact L
     ·cases q
    rcases C A with⟨rfl,S,hu⟩|⟨rfl,hu⟩|⟨rfl,hu⟩
    ·rcases(Agl j).2 with⟨_,k,n,rfl⟩|⟨h0,_⟩|⟨h0,_⟩
     ·cases y with
      | int Z m=>
       simp only[Ao6]at hle;obtain⟨U,E⟩:=Aq hle;have:=Aur U;subst this;have hle:=gF E;simp only[Cr];rw[run_equalIn_int w D t k S n m hu,<-hle,An6];congr 1
      | _=>cases hle
     ·cases h0
     ·cases h0
    ·rcases(Agl j).2 with⟨h0,_⟩|⟨_,c,rfl⟩|⟨h0,_⟩
     ·cases h0
     ·cases y with
      | bool F=>
       simp only[Ao6,cU]at hle;simp only[Cr];rw[A7i w D t c F hu,<-hle];cases c<;>cases F<;>rfl
      | _=>cases hle
     ·cases h0
    ·rcases(Agl j).2 with⟨h0,_⟩|⟨h0,_⟩|⟨_,c,rfl⟩
     ·cases h0
     ·cases h0
     ·cases y with
      | str F=>
       simp only[Ao6,cU]at hle;simp only[Cr];rw[Bqq w D t c F hu,<-hle,A3c]
      | _=>cases hle
def Api(P:Program)(t:TypeId):Bool:=
 match P.underlying t with
 | some (.struct e)=>e.toList.all fun f=>f.name != "_"&&(match P.underlying f.type with|some (.int _)=>true|some .bool=>true|_=>false)
 | _=>false
theorem Aq9(f:Loc)(w:World)(e:Bool)(D:Nat)(a:List EV):∀(m:List Field) (off:Nat) (s:List Nat) (d:Nat),(m.all fun f=>f.name != "_"&&(match P.underlying f.type with|some (.int _)=>true|some .bool=>true|_=>false))=true ->
 Ax6 (flat P d) m off=some s->shaped s (a.drop off)=true ->
 (forIn m PUnit.unit fun(fd:Field) (_:PUnit)=>(do
  if fd.name≠"_" then do
   Instr.checkKey e (D+1) fd.type (←Go.part fd.type (Bx f a).toArray fd.offset)
   pure (.yield PUnit.unit)
  else pure (.yield PUnit.unit):Sem (ForInStep PUnit))).run P w=.ok PUnit.unit w
 | [],off,s,d,_,h,hs=>by simp
 | fd::m,off,s,d,j,h,hs=>by
  simp only[List.all_cons,aR]at j;simp only[Ax6]at h;split at h
  ·rename_i s1 q
   split at h
   ·rename_i u
    split at h
    ·rename_i s2 x
     cases h;obtain⟨A,y⟩:=Ai2 hs;rw[dh]at y;have B:=Aq9 f w e D a m (off+s1.length) s2 d j.2 x y;have hlen:=N0 A;rw[cD,bW]at hlen;have C:s1.length=1:=by
      have E:isA P fd.type=false:=by
       have:=j.1.2;unfold isA;split at this<;>simp_all
      rcases(Abe q).2.1 E with⟨rfl,_⟩|⟨rfl,_⟩|⟨rfl,_⟩<;>rfl
     have p1:=U6 f w q (xs:=a) (off:=off) (by omega);have p2:∀v,(Instr.checkKey e (D+1) fd.type v).run P w=.ok () w:=by
      intro v;have:=j.1.2;rw[Instr.checkKey.eq_def];split at this
      ·rename_i k hu;simp[underlying,hu]
      ·rename_i hu;simp[underlying,hu]
      ·cases this
     rw[List.forIn_cons];simp only[u.2,ne_eq,aN,bM,Sem.run_bind,u.1,p1,p2,aI,aV];exact B
    ·cases h
   ·cases h
  ·cases h
def A4t(P:Program)(t:TypeId):Bool:=
 match P.underlying t with
 | some (.array _ e)=>(match P.underlying e with|some (.int _)=>true|_=>false)
 | _=>false
theorem Aud(f:Loc)(w:World)(e:Bool)(D:Nat){m:TypeId}{k:IntKind}(hu:P.underlying m=some (.int k))(hs:flat P d m=some [0])(a:List EV):∀(n i:Nat),i+n<=a.length ->
 (forIn (List.range' i n) PUnit.unit fun(j:Nat) (_:PUnit)=>(do
  Instr.checkKey e (D+1) m (←Go.part m (Bx f a).toArray (j*(←sizeOf m)))
  pure (.yield PUnit.unit):Sem (ForInStep PUnit))).run P w=.ok PUnit.unit w
 | 0,i,_=>by simp
 | n+1,i,h=>by
  have u:=Aud f w e D hu hs a n (i+1) (by omega);have p1:=U6 f w hs (xs:=a) (off:=i) (by simp;omega);have p2:∀v,(Instr.checkKey e (D+1) m v).run P w=.ok () w:=by
   intro v;rw[Instr.checkKey.eq_def];simp[underlying,hu]
  obtain⟨⟨ii,x,q⟩,_⟩:=Abe hs;have y:(sizeOf m).run P w=.ok 1 w:=by simp[sizeOf,typeInfo,x,q]
  rw[fT,List.forIn_cons];simp only[Sem.run_bind,y,aI,bZ,p1,p2,aV];exact u
theorem Bgb(m:A4t P t=true){s:List Nat}(h:flat P d t=some s)(f:Loc)(w:World)(e:Bool)(a:List EV)(hs:shaped s a=true):
 (Instr.checkKey e 10000 t (.agg (Bx f a).toArray)).run P w=.ok () w:=by
 unfold A4t at m;split at m
 ·rename_i len x hu
  split at m
  ·rename_i k j
   cases d with
   | zero=>simp[flat]at h
   | succ d=>
    simp only[flat]at h;split at h
    ·simp only[hu]at h
     split at h
     ·rename_i s' q
      split at h
      ·rename_i A
       cases h;have y:isA P x=false:=by simp[isA,j]
       have u:s' = [0]:=by
        rcases(Abe q).2.1 y with⟨rfl,_⟩|⟨_,h2⟩|⟨_,h2⟩
        ·rfl
        ·rw[j]at h2;cases h2
        ·rw[j]at h2;cases h2
       subst u;have hlen:=N0 hs;rw[Aaw]at hlen;simp only[bH,fM,bJ,bZ]at hlen;have:=Aud f w e 9998 j q a len 0 (by omega);rw[Instr.checkKey.eq_def];simp only[underlying,hu,Sem.run_bind,fm,aI,aV];simp only[Std.Legacy.Range.forIn_eq_forIn_range',Std.Legacy.Range.size,Nat.sub_zero,Nat.add_one_sub_one,Nat.div_one];rw[this];rfl
      ·cases h
     ·cases h
    ·cases h
  ·cases m
 ·cases m
theorem A6t(j:Api P t=true){s:List Nat}(h:flat P d t=some s)(f:Loc)(w:World)(e:Bool)(a:List EV)(hs:shaped s a=true):
 (∃m,P.underlying t=some (.struct m))/\(Instr.checkKey e 10000 t (.agg (Bx f a).toArray)).run P w=.ok () w:=by
 unfold Api at j;split at j
 ·rename_i m hu
  refine⟨⟨m,hu⟩,?_⟩;cases d with
  | zero=>simp[flat]at h
  | succ d=>
   simp only[flat]at h;split at h
   ·simp only[hu]at h
    split at h
    ·split at h
     ·rename_i s' q
      split at h
      ·cases h
       have:=Aq9 f w e 9998 a m.toList 0 s d j q (by simpa using hs);rw[Instr.checkKey.eq_def];simp only[underlying,hu,Sem.run_bind,fm,aI,aV];rw[<-Array.forIn_toList];rw[this];rfl
      ·cases h
     ·cases h
    ·cases h
   ·cases h
 ·cases j
end
noncomputable def G3 {α:Type}:List α->Nat->Tr α->Tr α
 | [],_,t=>t
 | a::r,i,t=>G3 r (Nat.succ i) (t.put i (some a))
theorem Atv:∀(l:List α) (i:Nat) (t:Tr α) (j:Nat),(G3 l i t).get j=if i<=j/\j<i+l.length then l[j-i]? else t.get j
 | [],i,t,j=>by simp[G3];omega
 | a::r,i,t,j=>by
  simp only[G3];rw[Atv r (i+1) (t.put i (some a)) j,Tr.get_put];simp only[bH];by_cases e:i=j
  ·subst e
   rw[aF (by omega),aG rfl,aG (by omega)];simp
  ·by_cases h2:i+1<=j/\j<i+1+r.length
   ·rw[aG h2,aG (by omega)]
    rw[show j-i=(j-(i+1))+1 by omega,bm]
   ·rw[aF h2,aF e,aF (by omega)]
theorem A5c(l:List α)(j:Nat):(G3 l 0 .nil).get j=l[j]?:=by
 rw[Atv];by_cases h:j<l.length
 ·rw[aG (by omega),Nat.sub_zero]
 ·rw[aF (by omega),cA (by omega)];rfl
noncomputable def Bsk:List Nat->Nat->Bool
 | [],_=>false
 | a::r,x=>Bf (Nat.beq a x) true (Bsk r x)
theorem A8b:∀{l:List Nat} {x:Nat},Bsk l x=true->x∈l
 | [],_,h=>by cases h
 | a::r,x,h=>by
  simp only[Bsk]at h;rw[Bt]at h;split at h
  ·rename_i e;rw[aJ e];exact aX
  ·exact aT _ (A8b h)
noncomputable def Bie:List (Nat × List Nat)->Nat->Option (List Nat)
 | [],_=>none
 | (a,s)::r,x=>Bf (Nat.beq a x) (some s) (Bie r x)
theorem Apr:∀{l:List (Nat × List Nat)} {x:Nat} {s:List Nat},Bie l x=some s->(x,s)∈l
 | [],_,_,h=>by cases h
 | (a,s')::r,x,s,h=>by
  simp only[Bie]at h;rw[Bt]at h;split at h
  ·rename_i e;cases h;rw[aJ e];exact aX
  ·exact aT _ (Apr h)
noncomputable def Bsz(ty:Tr TypeInfo)(t:Nat):Option TypeDesc:=
 match ty.get t with
 | some i=>match i.desc with
  | .named _ u=>(match ty.get u with|some j=>some j.desc|none=>none)
  | d=>some d
 | none=>none
noncomputable def Bqm(ty:Tr TypeInfo)(t:Nat):Option Bool:=match Bsz ty t with|some d=>some (A0s d)|none=>none
noncomputable def Bnx(ty:Tr TypeInfo)(t:Nat):Option (List EV):=
 match ty.get t with
 | some i=>match i.zero with
  | some v=>match ofV v with
   | some x=>Bf x.plain (Bf (Nat.beq i.size (len x.cells)) (Bf (Nat.ble i.bytes 1048576) (match Bqm ty t with
    | some true=>(match x with | .agg l=>some l|_=>none)
    | some false=>Bf x.one (some [x]) none
    | none=>none) none) none) none
   | none=>none
  | none=>none
 | none=>none
noncomputable def Bip(e:Tr Func)(ty:Tr TypeInfo)(eqs:List (Nat × List Nat))(keys:List Nat):Kh where
 fn:=e.get
 Za:=Bsz ty
 size t:=match ty.get t with|some i=>Bf (Nat.ble i.bytes 1048576) (some i.size) none|none=>none
 zero:=Bnx ty
 agg:=Bqm ty
 eqs:=Bie eqs
 key:=Bsk keys
theorem Bq0{t:Nat}{i:TypeInfo}(h:P.types[t]? = some i):P.info? t=some i:=by
 have e:t<P.types.size:=(cP.1 h).1;unfold Tables.info?;rw[aG e];exact h
theorem Bmz{keys:List Nat}(hm:P.follows .mixedOrders=true)
 (A:(P.funcs.toList.all fun f=>!(f.name == "runtime.NumGoroutine"))=true)
 (y:∀x∈eqs,flat P 6 x.1=some x.2/\isA P x.1=true/\P.eqGuardType P.depth x.1=false) (D:∀t∈keys,Api P t=true\/A4t P t=true) :
 Uf P (Bip (G3 P.funcs.toList 0 .nil) (G3 P.types.toList 0 .nil) eqs keys):=by
 have B:∀t i,(G3 P.types.toList 0 .nil).get t=some i->P.info? t=some i:=by
  intro t i h;rw[A5c,cJ]at h;exact Bq0 h
 have C:∀t d,Bsz (G3 P.types.toList 0 .nil) t=some d->P.underlying t=some d:=by
  intro t d h;unfold Bsz at h;split at h
  ·rename_i i J
   have q:=B t i J;split at h
   ·rename_i s u hd
    split at h
    ·rename_i j hj
     cases h;have h2:=B u j hj;obtain⟨desc,str,size,bytes,hp,Y,Z,z⟩:=i;simp only at hd;subst hd;simp[Program.underlying,q,h2]
    ·cases h
   ·rename_i hd
    cases h;unfold Program.underlying;rw[q];split
    ·rename_i E;cases E;exact absurd rfl (hd _ _)
    ·rename_i E;cases E;rfl
    ·rename_i E;cases E
  ·cases h
 have K:∀t b,Bqm (G3 P.types.toList 0 .nil) t=some b->∃d,P.underlying t=some d/\A0s d=b:=by
  intro t b h;unfold Bqm at h;split at h
  ·rename_i d hd;cases h;exact⟨d,C t d hd,rfl⟩
  ·cases h
 refine⟨hm,fun g fn h=>?_,C,fun t n h=>?_,fun t z h=>?_,K,fun t sh h=>?_,fun t h=>?_⟩
 ·have h':(G3 P.funcs.toList 0 .nil).get g=some fn:=h
  rw[A5c]at h';refine⟨by rw[<-cJ];exact h',?_⟩;have:=dM.1 A fn (bY h');simpa using this
 ·simp only[Bip]at h
  split at h
  ·rename_i i J
   obtain⟨q,h2⟩:=Aq h;cases h2;exact⟨i,B t i J,rfl,bI q⟩
  ·cases h
 ·have h':Bnx (G3 P.types.toList 0 .nil) t=some z:=h
  unfold Bnx at h';split at h'
  ·rename_i i J
   split at h'
   ·rename_i v U
    split at h'
    ·rename_i x E
     obtain⟨q,h'⟩:=Aq h';obtain⟨h2,h'⟩:=Aq h';obtain⟨O,h'⟩:=Aq h';have L:i.size=x.cells.length:=by rw[<-Zr];exact aJ h2
     refine⟨i,v,x,B t i J,U,E,q,?_⟩;have M:∀b,Bqm (G3 P.types.toList 0 .nil) t=some b->(Bip (G3 P.funcs.toList 0 .nil) (G3 P.types.toList 0 .nil) eqs keys).agg t=some b:=fun _ h=>h
     split at h'
     ·rename_i Q
      have F:=M true Q;cases x with
      | agg l=>
       simp only[cU]at h';subst h';exact⟨rfl,L,bI O,fun _=>rfl,fun e=>(by rw[F]at e;cases e)⟩
      | _=>cases h'
     ·rename_i Q
      have F:=M false Q;obtain⟨W,h'⟩:=Aq h';cases h';have S:x.cells = [x]:=by
       cases x<;>first|rfl|(simp[EV.one]at W)
      exact⟨S.symm,by rw[L,S],bI O,fun e=>(by rw[F]at e;cases e),fun _=>rfl⟩
     ·cases h'
    ·cases h'
   ·cases h'
  ·cases h'
 ·obtain⟨q,h2,O⟩:=y _ (Apr h)
  refine⟨O,fun f w a b r X hs=>?_⟩;have:=Big (P:=P) 6 10000 (by omega) t sh q f w a b r hs X;simp only[Anr,h2,bM]at this;exact this
 ·have G:=D t (A8b h)
  rcases G with G|G
  ·constructor
   ·have m:=G
    unfold Api at m;split at m
    ·rename_i fs hu;exact⟨_,hu,rfl⟩
    ·cases m
   ·intro f w e a sh H hs
    obtain⟨q,_,_⟩:=y _ (Apr H);exact(A6t G q f w e a hs).2
  ·constructor
   ·have m:=G
    unfold A4t at m;split at m
    ·rename_i n e hu;exact⟨_,hu,rfl⟩
    ·cases m
   ·intro f w e a sh H hs
    obtain⟨q,_,_⟩:=y _ (Apr H);exact Bgb G q f w e a hs
theorem Bqb(f:Loc)(w:World)(n m:Nat):Y5 f ⟨.nil,n,m⟩ w:=⟨fun i o h=>(by cases h),fun i j o o' h=>(by cases h)⟩
theorem Boj(n m:Nat):Y9 (fun _=>False) ⟨.nil,n,m⟩:=⟨fun i h=>h.elim,fun i o h=>(by cases h)⟩
theorem A5x{c:Ah}(hC:Ak3 P c)(h:c g [] ⟨.nil,0,0⟩=some (v,h'))(q:∀f,Cr f v=V)(w:World):
 Calls P g #[] w fun e w'=>e=.returned V/\RowKit.Below w.heap.size w w':=by
 obtain⟨_,u⟩:=hC _ _ _ _ _ h;intro cs;obtain⟨fr,f',w',hs,j,m,hm,hwf,x⟩:=u (fun _=>False) ⟨fun _=>0,fun _=>0⟩ w (Boj 0 0) (Bqb _ _ 0 0) trivial cs;rw[q]at m;exact⟨.returned V,w',fr,⟨rfl,hm.os,hm.tape,hm.output,hm.size,fun k y=>hm.kept k y (fun i o A=>(by cases A))⟩,hs,j,m⟩
noncomputable def isTrue:Option (EV × Ab)->Bool
 | some (.bool b,_)=>b
 | _=>false
theorem Bdj {r:Option (EV × Ab)}(h:isTrue r=true):∃h',r=some (.bool true,h'):=by
 unfold isTrue at h;split at h
 ·subst h;exact⟨_,rfl⟩
 ·cases h
noncomputable def Ayt(g:Nat)(v:EV):Ah:=fun e args h=>Bf (Nat.beq e g) (match args with | []=>some (v,h)|_=>none) none
theorem A3v(C:∀f,Cr f v=V)(q:∀p,v.ok p){fn:Func}(D:P.funcs[g]? = some fn)(hb:fn.body.isSome=true)(E:(fn.name == "runtime.NumGoroutine")=false)
 (hC:∀w,Calls P g #[] w fun e w'=>e=.returned V/\RowKit.Below w.heap.size w w'):Ak3 P (Ayt g v)/\Aa2 (Ayt g v):=by
 have key:∀u args h x h',Ayt g v u args h=some (x,h')->u=g/\args = []/\x=v/\h'=h:=by
  intro u args h x h' m;unfold Ayt at m;obtain⟨y,h2⟩:=Aq m;split at h2
  ·cases h2;exact⟨aJ y,rfl,rfl,rfl⟩
  ·cases h2
 constructor
 ·intro u args h x h' m
  obtain⟨rfl,rfl,rfl,rfl⟩:=key _ _ _ _ _ m;refine⟨⟨fn,D,hb,E⟩,fun p f w m A G cs=>?_⟩;obtain⟨e,w',fr,⟨rfl,j⟩,hs,B,F⟩:=hC w cs;refine⟨fr,f,w',hs,B,?_,⟨Loc.Aqh _ _,⟨fun i o q=>?_,A.inj⟩,fun b hb _=>j.block b hb,j.size,j.tape,j.os,j.output,fun i o q=>.inr ⟨i,o,q,rfl⟩⟩,Wf.refl m,q _⟩
  ·rw[C];exact F
  ·obtain⟨r,y,h2⟩:=A.obj i o q
   exact⟨r,by rw[j.block _ (A.lt q)];exact y,h2⟩
 ·intro u args h x h' m
  obtain⟨_,_,_,rfl⟩:=key _ _ _ _ _ m;exact .refl _
end Go.Ev
