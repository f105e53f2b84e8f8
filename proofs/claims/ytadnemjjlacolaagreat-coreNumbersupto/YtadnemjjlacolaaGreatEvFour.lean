import Derived.Test.YtadnemjjlacolaaGreatEvThree
import Derived.Laws.StructEq
import Derived.ChangeKeysEq
import Derived.KernelRfl
import Derived.Below
set_option linter.all false
namespace Go.Ev
variable {o:Oper}{d g i n fn id off:Nat}{s':Hi}{v:EV}{kd:Kd}{tm tm':Az}{h h':Aa}{P:Program}{T:H7}{round:Ai}{p:Nat->Prop}{f:Loc}{a:Ah5}{t:TypeId}{w':World}{pd pd0 jump:Option Code}{k todo todo':List Item}{caller:Frame}{cs:List Frame}{b:FB}{α:Type}{ps:List Tmp}{asg body:Code}{ds:List Nat}{Dc:Option Nat}{tmps:Array Value}{fo:Operand}{args first captured:List EV}{eqs:List (Nat × List Nat)}{V:Value}
section
open Classical
section
variable{call:Ai}(hC:U7 call)(hR:U7 round){ops:List Oper}{bs:Tr Nat}{base:Nat}
theorem Sd.awf{s s':DSt}{E E':Aa}(sd:Sd T call round n ops bs base o i s s' v E E' kd):AWf s.h s'.h where
 next:=by rw[<-sd.Ae2,<-sd.Adx];exact sd.w.next
 mw:=sd.mw.1
 same q m h2:=by rw[sd.Bjs,aH (sd.mw.2 q m h2)]
 live q x e:=by
  rw[sd.Bjs]at e;split at e
  ·exact .inl ⟨x,e⟩
  ·rcases sd.w.live q x e with⟨o',h⟩|h
   ·exact .inl ⟨o',sd.sub q o' h⟩
   ·rw[sd.Ae2]at h;exact .inr h
 lt H q x e:=by
  have j:s.h.next<=s'.h.next:=by rw[<-sd.Ae2,<-sd.Adx];exact sd.w.next
  rw[sd.Bjs]at e;split at e
  ·exact aK (H q x e) j
  ·rw[<-sd.Adx]
   refine sd.w.lt (fun q x e=>?_) q x e;rw[sd.Ae2];exact H q x (sd.sub q x e)
theorem Sd.nw{s s':DSt}{E E':Aa}(sd:Sd T call round n ops bs base o i s s' v E E' kd)(h:∀x∈s.nw,x.2<s.h.next):∀x∈s'.nw,x.2<s'.h.next:=by
 have e:s.h.next<=s'.h.next:=sd.awf.next
 intro x j;have:=sd.kd;cases kd with
 | idle=>rw[this.2.2.2.1]at j;exact aK (h x j) e
 | load q=>rw[this.2.2.2.1]at j;exact aK (h x j) e
 | new=>
  obtain⟨a,⟨y,b⟩,c,d,_⟩:=this;rw[d]at j;rcases bS.1 j with rfl|j
  ·show s.h.next<_
   rw[<-sd.Adx,b,Aa.Dl,sd.Ae2];omega
  ·exact aK (h x j) e
 | sto q=>
  obtain⟨_,_,d,_⟩:=this;rw[d]at j;exact aK (h x j) e
 | big mw=>
  obtain⟨b,_,_,_,_,_,d,_⟩:=this;rw[d]at j;exact aK (h x j) e
include hC hR in
theorem A6e:∀{l:List Oper} {i:Nat} {s r:DSt},Rn T call round n ops bs base l i s=some r->(∀x∈s.nw,x.2<s.h.next)->AWf s.h r.h
 | [],_,s,r,h,_=>by cases h;exact .refl _
 | o::l,i,s,r,h,e=>by
  simp only[Rn]at h;split at h
  ·rename_i s' hs
   obtain⟨v,E,E',kd,sd⟩:=Ayk hC hR hs e;exact sd.awf.trans (A6e h (sd.nw e))
  ·cases h
include hC hR in
theorem Bbk(e:Ap6 T call round n ops tm h=some (tm',h')):AWf h h':=by
 unfold Ap6 at e;obtain⟨_,e⟩:=An e;obtain⟨_,e⟩:=An e;split at e
 ·rename_i hs
  cases e;exact A6e hC hR hs (fun x j=>by cases j)
 ·cases e
end
theorem Bkc(hT:P6 P T){call:Ai}(hC:Aeh P call)(hR:Ajt P round)(wC:U7 call)(wR:U7 round)
 {ops:Array Oper} {w:World} (Y:Lb p n tm) (L:S9 p h) (Z:S8 f h w)
 (u:Ap6 T call round n ops.toList tm h=some (tm',h')) (b:FB) (t:Nat) (k:List Item) (cs:List Frame) (dr:Nat) :
 ∃f' w',Steps P (lone (b.at (Be f n tm) (.inRegion ops (Region.linearise .any ops t)::k)) cs { w with drawn:=dr }) (lone (b.at (Be f' n tm') (.inRegion ops []::k)) cs w') /\
  Move p f h w f' h' w'/\Wf p h h'/\Lb (grow p h h') n tm':=by
 have hwf:=Bbk wC wR u;unfold Ap6 at u;obtain⟨O,u⟩:=An u;obtain⟨Q,u⟩:=An u;split at u
 ·rename_i aa M b1 b2 b3 b4 b5 hs
  cases u;obtain⟨A,V,E,E',K,e0,U,B⟩:=Bnz (s:=⟨tm,h,0,[],[],[],[]⟩) wC wR hs (fun q x W=>L.lt q (L.get q x W).1) rfl;have hlen:ops.toList.length=ops.size:=by simp
  rw[hlen]at U;have F:Lb p n (A 0).tm:=by rw[e0];exact Y
  have C:S9 p (A 0).h:=by rw[e0];exact L
  have e:∀j,¬((Array.replicate ops.size false).getD j false=true):=by
   intro j;simp only[eC,Array.getElem?_replicate];split<;>simp
  have hI:Inv n ops (Nz ops.toList 0 .nil) A V E E' p f w (fun j=>(Array.replicate ops.size false).getD j false=true) f { w with drawn:=dr }:=by
   refine⟨fun j hj=>absurd hj (e j),fun j hj=>absurd hj (e j),fun j hj=>absurd hj (e j),?_⟩;have:hS E E' (A 0).h.get (fun j=>(Array.replicate ops.size false).getD j false=true) ops.size=(A 0).h.get:=by
    funext q;exact Bjc _ (fun j _ hs=>absurd hs (e j)) _ (cQ _)
   rw[this];have X:S8 f (A 0).h w:=by rw[e0];exact Z
   exact(Ahj.start X).drew dr
  have G:Be f n (tmS n ops V (A 0).tm (fun j=>(Array.replicate ops.size false).getD j false=true) ops.size)=Be f n tm:=by
   rw[show tm=(A 0).tm by rw[e0]];exact Ara f n fun t=>Bbu _ (fun j _ hs=>absurd hs (e j)) _ (cQ _)
  obtain⟨f',w',D,S,hS,I⟩:=Bii hT hC hR B rfl Q O F C b k cs ops.size t (Array.replicate ops.size false) f _ (by simp) (by
   unfold unl;exact bN (eP _ _) (by simp)) hI
  rw[G]at D;have H:=I.mv.move (h:=(A ops.size).h) (fun q=>(Bif B hS q).symm);have e1:(A ops.size).h=h':=by rw[U]
  have e2:(A ops.size).tm=tm':=by rw[U]
  have e3:(A 0).h=h:=by rw[e0]
  have y:∀q,pS p A ops.size S q/\q<nx A ops.size->grow p h h' q:=by
   rintro q ⟨M|⟨j,_,hj,M,h2⟩,h3⟩
   ·exact .inl M
   ·refine .inr ⟨?_,?_⟩
    ·have:=B.Ayg (i:=0) (m:=j) (by omega) (by omega)
     rw[<-e3];exact bN this M
    ·rw[<-e1];exact h3
  rw[e2]at D;rw[e1,e3]at H;refine⟨f',w',D,H,⟨hwf.next,hwf.mw,hwf.same,hwf.live,⟨fun q J=>?_,fun q x W=>?_⟩⟩,?_⟩
  ·rcases J with J|J
   ·exact aK (L.lt q J) hwf.next
   ·exact J.2
  ·obtain⟨a,b⟩:=I.hok B C ops.size (aE _) q x (by rw[Bif B hS q,e1];exact W)
   exact⟨y q a,b.mono y⟩
  ·have:=I.Bl7 B F C.lt ops.size (aE _)
   rw[Att B hS _ (aE _),e2]at this;exact this.mono y
 ·cases u
end
section
def Io(f:Loc)(d:Nat):Deferred:={ target:=.collected (f.b d),args:=#[] }
def A8u(f:Loc)(a:Ah5):FB:=⟨a.fn,a.defers.map (Io f),a.Dc.map f.b⟩
noncomputable def N1(f:Loc)(a:Ah5):Frame:=
 { fn:=a.fn,tmps:=Be f a.n a.tmps,todo:=a.todo,defers:=a.defers.map (Io f),mode:=if a.ret=true then .returning else .run,kind:=.normal,roundOf:=a.Dc.map f.b }
structure V9(p:Nat->Prop)(a:Ah5):Prop where
 tm:Lb p a.n a.tmps
 dfr:∀d∈a.defers,p d
 Dc:∀l,a.Dc=some l->p l
 ret:a.ret=true->a.Dc=none
theorem V9.mono {q:Nat->Prop}(h:V9 p a)(e:∀i,p i->q i):V9 q a:=⟨h.tm.mono e,fun d hd=>e d (h.dfr d hd),fun l j=>e l (h.Dc l j),h.ret⟩
theorem Azq{g:Loc}(e:Loc.E9 p f g)(h:V9 p a):N1 f a=N1 g a:=by
 unfold N1;rw[Ku e h.tm];have j:a.defers.map (Io f)=a.defers.map (Io g):=by
  apply cW;intro d hd;unfold Io;rw[(e d (h.dfr d hd)).1]
 have h2:a.Dc.map f.b=a.Dc.map g.b:=by
  cases m:a.Dc with
  | none=>rfl
  | some l=>simp only[dc];rw[(e l (h.Dc l m)).1]
 rw[j,h2]
theorem Akt{g:Loc}(e:Loc.E9 p f g)(h:V9 p a):A8u f a=A8u g a:=by
 have:=Azq e h;unfold N1 at this;unfold A8u;injection this with _ _ _ h4 _ _ j;rw[h4,j]
section
variable{w:World}
theorem Bma:step P (lone (b.at tmps (.code .skip::k)) cs w)=.next (lone (b.at tmps k) cs w):=cC (by simp[stepG,stepG.exec,FB.at])
theorem Bia {l:Nat}:step P (lone (b.at tmps (.code (.label l)::k)) cs w)=.next (lone (b.at tmps k) cs w):=cC (by simp[stepG,stepG.exec,FB.at])
theorem A98:step P (lone (b.at tmps (.inBlock id::k)) cs w)=.next (lone (b.at tmps k) cs w):=cC (by simp[stepG,stepG.exec,FB.at])
theorem Bom {x y:Code}:step P (lone (b.at tmps (.code (.seq x y)::k)) cs w)=.next (lone (b.at tmps (.code x :: .code y::k)) cs w):=cC (by simp[stepG,stepG.exec,FB.at])
theorem Bbs {c:Operand}{x y:Code}{t:Bool}(h:Ik tmps c=.bool t):step P (lone (b.at tmps (.code (.cond c x y)::k)) cs w)=.next (lone (b.at tmps (.code (if t then x else y)::k)) cs w):=
 cC (by
  have:=FB.eval_at b tmps (.code (.cond c x y)::k);simp only[FB.at]at this;simp[stepG,stepG.exec,FB.at,this,h])
theorem Bj6{c:Code}:step P (lone (b.at tmps (.code (.block id c)::k)) cs w)=.next (lone (b.at tmps (.code c :: .inBlock id::k)) cs w):=cC (by simp[stepG,stepG.exec,FB.at])
theorem Bk3 {c:Code}:step P (lone (b.at tmps (.code (.loop c)::k)) cs w)=.next (lone (b.at tmps (.code c :: .inLoop c::k)) cs w):=cC (by simp[stepG,stepG.exec,FB.at])
theorem Bdc {c:Code}:step P (lone (b.at tmps (.inLoop c::k)) cs w)=.next (lone (b.at tmps (.code c :: .inLoop c::k)) cs w):=cC (by simp[stepG,stepG.exec,FB.at])
theorem Blt{e:List Item}(h:exitTo id k=some e):step P (lone (b.at tmps (.code (.exit id)::k)) cs w)=.next (lone (b.at tmps e) cs w):=cC (by simp[stepG,stepG.exec,FB.at,h])
theorem Bn7(h:b.Dc=none):step P (lone (b.at tmps (.code .ret::k)) cs w)=.next (lone { b.at tmps (.code .ret::k)with mode:=.returning } cs w):=cC (by simp[stepG,stepG.exec,FB.at,h])
theorem Bnq(h:b.Dc=none):step P (lone (b.at tmps []) cs w)=.next (lone { b.at tmps []with mode:=.returning } cs w):=cC (by simp[stepG,stepG.exec,FB.at,h])
theorem Be5{ops:Array Oper}:step P (lone (b.at tmps (.code (.region id ops false)::k)) cs w)=.next (lone (b.at tmps (.inRegion ops (List.range ops.size)::k)) cs w):=cC (by simp[stepG,stepG.exec,FB.at])
theorem Bmi(hm:P.follows .mixedOrders=true){ops:Array Oper}:step P (lone (b.at tmps (.code (.region id ops true)::k)) cs w) =
 .next (lone (b.at tmps (.inRegion ops (Region.linearise .any ops (w.tape w.drawn (.order b.fn id)))::k)) cs { w with drawn:=w.drawn+1 }):=
 cC (by simp[stepG,stepG.exec,FB.at,choose,Sem.run,Question.forced,Question.cut,hm,Region.schedule])
theorem A17 {l:Nat}(e:b.Dc=some l){v:Value}(he:(Instr.endRound l jump).run P w=.ok v w')
 (j:(todo = []/\jump=none)\/(∃k,todo=.code .ret::k/\jump=some .ret)\/(∃id k,todo=.code (.exit id)::k/\exitTo id k=none/\jump=some (.exit id))) :
 step P (lone (b.at tmps todo) (caller::cs) w)=.next (lone (caller.finish v) cs w'):=by
 refine cC ?_;rcases j with⟨rfl,rfl⟩|⟨k,rfl,rfl⟩|⟨id,k,rfl,m,rfl⟩
 ·simp[stepG,stepG.exec,FB.at,e,he,doReturn]
 ·simp[stepG,stepG.exec,FB.at,e,he,doReturn]
 ·simp[stepG,stepG.exec,FB.at,e,m,he,doReturn]
end
section
variable(hT:P6 P T){w:World}
theorem A6k(hT:P6 P T)(j:S9 p h)(m:S8 f h w){cs:List EV}(hs:T.size t=some n)(q:Ir h i off n=some cs){b:Bool}(e:T.agg t=some b)
 (u:(b=true/\v=.agg cs)\/(b=false/\cs = [v])):(loadVar t ⟨f.b i,off,none⟩).run P w=.ok (Cn f v) w/\v.ok p:=by
 obtain⟨x,h2,y,h4,A⟩:=Ako (P:=P) j m q;rcases u with⟨rfl,rfl⟩|⟨rfl,rfl⟩
 ·refine⟨?_,h2,y⟩
  simp only[loadVar,Sem.run_bind,Ao2 hT w e,aI,bI,Gq hT w hs,x,aT,Cn]
 ·refine⟨?_,h2.1⟩
  have:=A 0 v rfl;simp only[loadVar,Sem.run_bind,Ao2 hT w e,aI,aX,ak];simp only[dO]at this;rw[run_load,this]
theorem A1k {β:Type}(P:Program)(w:World)(g:α->Sem β):∀(l:List α) (r:List β),(l.length=r.length)->(∀(i:Nat) a b,l[i]? = some a->r[i]? = some b->(g a).run P w=.ok b w)->(l.mapM g).run P w=.ok r w
 | [],[],_,_=>by simp
 | a::l,b::r,e,h=>by
  have h0:=h 0 a b rfl rfl;have j:=A1k P w g l r (by simpa using e) (fun i a b m h2=>h (i+1) a b (by simpa using m) (by simpa using h2));simp[List.mapM_cons,h0,j]
 | [],_::_,h,_=>by simp at h
 | _::_,[],h,_=>by simp at h
def Asa(tmps:Array Value):ResultVar->Sem Value
 | .tmp t=>pure (tmps.getD t undef)
 | .cell a t=>do loadVar t (←asAddr (tmps.getD a undef))
theorem A8w(fn:Func)(tmps:Array Value):results fn tmps=(do
 let vs ←fn.results.mapM (Asa tmps)
 pure (if h:vs.size=1 then vs[0]else .tuple vs)):=by
 unfold results;congr 1
theorem Ah0(hT:P6 P T)(B:S9 p h)(C:S8 f h w)(u:Lb p n tm):∀{l:List ResultVar} {vs:List EV},Mb T tm h l=some vs ->
 EV.Tf p vs/\l.length=(Br f vs).length/\∀(i:Nat) a b,l[i]? = some a->(Br f vs)[i]? = some b->(Asa (Be f n tm) a).run P w=.ok b w
 | [],vs,j=>by cases j;exact⟨trivial,rfl,fun i a b h=>by simp at h⟩
 | .tmp t::r,vs,j=>by
  simp only[Mb]at j;split at j
  ·rename_i l D
   cases j;obtain⟨E,h2,F⟩:=Ah0 hT B C u D;refine⟨⟨u.tmp t,E⟩,by simp[Br,h2],fun i a b x hb=>?_⟩;cases i with
   | zero=>
    simp only[bH,cN,Br]at x hb;subst x hb;simp only[Asa,aT,Z6 f u]
   | succ i=>exact F i a b (by simpa using x) (by simpa [Br]using hb)
  ·cases j
 | .cell a t::r,vs,j=>by
  simp only[Mb]at j;split at j
  ·rename_i i off l L x D G
   split at j
   ·rename_i cs H
    obtain⟨E,h2,F⟩:=Ah0 hT B C u D;have key:∀(b:Bool) (v:EV),T.agg t=some b->((b=true/\v=.agg cs)\/(b=false/\cs = [v]))->some (v::l)=some vs->EV.Tf p vs/\(ResultVar.cell a t::r).length=(Br f vs).length/\∀(i:Nat) y A,(ResultVar.cell a t::r)[i]? = some y->(Br f vs)[i]? = some A->(Asa (Be f n tm) y).run P w=.ok A w:=by
     intro b v hb J e;cases e;obtain⟨l1,K⟩:=A6k hT B C G H hb J;refine⟨⟨K,E⟩,by simp[Br,h2],fun i y A m q=>?_⟩;cases i with
     | zero=>
      simp only[bH,cN,Br]at m q;subst m q;simp only[Asa,Z6 f u,x,Cn,asAddr,Sem.run_bind,aT,aI,l1]
     | succ i=>exact F i y A (by simpa using m) (by simpa [Br]using q)
    split at j
    ·rename_i hb;exact key true _ hb (.inl ⟨rfl,rfl⟩) j
    ·rename_i hb
     split at j
     ·exact key false _ hb (.inr ⟨rfl,rfl⟩) j
     ·cases j
    ·cases j
   ·cases j
  ·cases j
theorem A56(hT:P6 P T)(A:S9 p h)(B:S8 f h w)(C:Lb p n tm){fn:Func}{vs:List EV}(D:Mb T tm h fn.results.toList=some vs)
 (u:vs = [v]\/((∀x,vs≠[x])/\v=.tuple vs)):(results fn (Be f n tm)).run P w=.ok (Cn f v) w/\v.ok p:=by
 obtain⟨y,h2,E⟩:=Ah0 hT A B C D;have hm:(fn.results.toList.mapM (Asa (Be f n tm))).run P w=.ok (Br f vs) w:=A1k P w _ _ _ h2 E;constructor
 ·have m:(fn.results.mapM (Asa (Be f n tm))).run P w=.ok (Br f vs).toArray w:=by
   have e:fn.results.mapM (Asa (Be f n tm))=Functor.map List.toArray (fn.results.toList.mapM (Asa (Be f n tm))):=by
    rw[<-List.mapM_toArray,eA]
   rw[e,Sem.run_map,hm];rfl
  rw[A8w,Sem.run_bind,m,aI,aT];congr 1;rcases u with rfl|⟨q,rfl⟩
  ·simp[Br]
  ·rw[dif_neg]
   ·simp only[Cn]
   ·intro j
    simp only[dY,C0]at j
    match vs,j with
    | [x],_=>exact q x rfl
 ·rcases u with rfl|⟨_,rfl⟩
  ·exact y.1
  ·exact y
end
end
section
theorem Aog(f:Loc)(fn n:Nat)(tm:Az)(todo:List Item)(ds:List Nat)(Dc:Option Nat):
 N1 f ⟨fn,n,tm,todo,ds,false,Dc⟩=(FB.mk fn (ds.map (Io f)) (Dc.map f.b)).at (Be f n tm) todo:=rfl
theorem Aoa(f:Loc)(fn n:Nat)(tm:Az)(todo:List Item)(ds:List Nat):
 N1 f ⟨fn,n,tm,todo,ds,true,none⟩ = { (FB.mk fn (ds.map (Io f)) none).at (Be f n tm) todo with mode:=.returning }:=rfl
def Sim(P:Program)(p:Nat->Prop)(f:Loc)(w:World)(cs:List Frame)(s s':Hi):Prop:=
 ∃f' w',Steps P (lone (N1 f s.fr) cs w) (lone (N1 f' s'.fr) cs w')/\Move p f s.h w f' s'.h w'/\Wf p s.h s'.h/\V9 (grow p s.h s'.h) s'.fr/\s'.fr.fn=s.fr.fn/\s'.fr.Dc=s.fr.Dc
def Fin(P:Program)(p:Nat->Prop)(f:Loc)(w:World)(s:Hi)(v:EV)(h':Aa):Prop:=
 match s.fr.Dc with
 | none=>h'=s.h/\(N1 f s.fr).leaving P w (.returned (Cn f v))/\v.ok p
 | some _=>∀caller cs,∃w',Steps P (lone (N1 f s.fr) (caller::cs) w) (lone (caller.finish (Cn f v)) cs w')/\Move p f s.h w f h' w'/\Wf p s.h h'/\v.ok p
section
variable{w:World}
theorem Sim.stay {fr e:Ah5}(j:S9 p h)(m:S8 f h w)(hs:Steps P (lone (N1 f fr) cs w) (lone (N1 f e) cs w))(q:V9 p e)(u:e.fn=fr.fn)(h2:e.Dc=fr.Dc):Sim P p f w cs ⟨fr,h⟩ ⟨e,h⟩:=
 ⟨f,w,hs,Move.refl m,Wf.refl j,by rw[J7 _ _ _ rfl];exact q,u,h2⟩
theorem Af6(m:S8 f h w){l:Nat}{st:LoopState}(q:h.get l=some (.loop st pd fn n tm ps asg body d)):
 (Instr.getLoop (f.b l)).run P w=.ok ⟨st,pd,fn,Be f n tm,ps.toArray,asg,body,f.b d⟩ w/\w.heap[f.b l]? = some (.loop ⟨st,pd,fn,Be f n tm,ps.toArray,asg,body,f.b d⟩):=by
 obtain⟨r,j,rfl⟩:=m.obj l _ q;have e:=Nn (P:=P) j (by intros;simp);refine⟨?_,j⟩;simp only[Instr.getLoop,Sem.run_bind,e,aI,aT]
theorem A3g(j:S9 p h)(m:S8 f h w){l:Nat}{st st':LoopState}{pd':Option Code}(e:h.get l=some (.loop st pd fn n tm ps asg body d)):
 Move p f h w f (h.put l (.loop st' pd' fn n tm ps asg body d)) { w with heap:=w.heap.setIfInBounds (f.b l) (.loop ⟨st',pd',fn,Be f n tm,ps.toArray,asg,body,f.b d⟩) } /\
 Wf p h (h.put l (.loop st' pd' fn n tm ps asg body d)):=
 ⟨Move.setObj m e rfl,Wf.put j e (j.get l _ e).2⟩
theorem A3c(e:S8 f h w){l:Nat}{st:LoopState}(j:h.get l=some (.loop st pd fn n tm ps asg body d))(jump:Option Code):
 (Instr.endRound (f.b l) jump).run P w=.ok (.bool jump.isNone) { w with heap:=w.heap.setIfInBounds (f.b l) (.loop ⟨if jump.isNone then .ready else .done,jump,fn,Be f n tm,ps.toArray,asg,body,f.b d⟩) }:=by
 obtain⟨m,h2⟩:=Af6 (P:=P) e j;have hs:=Qc (P:=P) (o':=.loop ⟨if jump.isNone then .ready else .done,jump,fn,Be f n tm,ps.toArray,asg,body,f.b d⟩) h2 (by intros;simp);simp only[Instr.endRound,Sem.run_bind,m,aI,hs,aT]
theorem Aym(e:leave fn n tm todo ds Dc h jump=.go s'):
 Dc=none/\s'=⟨⟨fn,n,tm,todo,ds,true,none⟩,h⟩/\(jump=none\/jump=some .ret):=by
 unfold leave at e;split at e
 ·split at e
  ·cases e;exact⟨rfl,rfl,.inl rfl⟩
  ·cases e;exact⟨rfl,rfl,.inr rfl⟩
  ·cases e
 ·split at e
  ·split at e<;>cases e
  ·cases e
theorem Arm(x:S9 p h)(q:S8 f h w)(e:leave fn n tm todo ds Dc h jump=.done v h')
 (y:(todo = []/\jump=none)\/(∃k,todo=.code .ret::k/\jump=some .ret)\/(∃id k,todo=.code (.exit id)::k/\exitTo id k=none/\jump=some (.exit id))) :
 Fin P p f w ⟨⟨fn,n,tm,todo,ds,false,Dc⟩,h⟩ v h':=by
 unfold leave at e;split at e
 ·split at e<;>cases e
 ·rename_i l
  split at e
  ·rename_i st pd j A tm' ps asg body d u
   have key:∀(b:Bool) (st':LoopState),b=jump.isNone->st'=(if jump.isNone then .ready else .done)->Fin P p f w ⟨⟨fn,n,tm,todo,ds,false,some l⟩,h⟩ (.bool b) (h.put l (.loop st' jump j A tm' ps asg body d)):=by
    intro b st' hb m;intro caller cs;obtain⟨m1,m2⟩:=A3g (st':=st') (pd':=jump) x q u;refine⟨_,.one ?_,m1,m2,trivial⟩;have he:=A3c (P:=P) q u jump;rw[<-m,<-hb]at he;exact A17 (b:=FB.mk fn (ds.map (Io f)) (some (f.b l))) rfl he y
   split at e
   ·cases e;exact key true _ rfl rfl
   ·cases e;exact key false _ rfl rfl
  ·cases e
variable (hT:P6 P T){call:Ai}(hC:Aeh P call)(hR:Ajt P round)(wC:U7 call)(wR:U7 round)
theorem Bet{ds:List Deferred}(h:(Instr.takeDeferred d).run P w=.ok [] w'):
 step P (lone { fn:=fn,tmps:=tmps,todo:=todo,defers:={ target:=.collected d,args:=#[] }::ds,mode:=.returning,kind:=.normal,roundOf:=none } cs w) =
  .next (lone { fn:=fn,tmps:=tmps,todo:=todo,defers:=ds,mode:=.returning,kind:=.normal,roundOf:=none } cs w'):=
 cC (by simp[stepG,unwind,h])
theorem Az1{l:Nat}(e:b.Dc=some l)(h:(Instr.beginRound l).run P w=.ok () w'):
 step P (lone (b.at tmps (.beginRound::k)) cs w)=.next (lone (b.at tmps k) cs w'):=
 cC (by simp[stepG,stepG.exec,stepG.apply,FB.at,e,h,Frame.finish])
theorem Ar8{ps:Array Tmp}{l:Nat}{mark:List Deferred}{w1:World}{g:FuncId}{args:Array Value}
 (e:(Instr.enterLoop b.fn tmps ps asg body b.Dc).run P w=.ok (l,mark) w1)
 (h2:(do let d ←resolve (Ik tmps) { callee:=.value fo,args:=#[.const (.func (.yield l) #[] #[])],argTypes:=#[] } 0;invoke d.target d.args:Sem Next).run P w1=.ok (.enter g args) w1) :
 step P (lone (b.at tmps (.code (.rangeFunc fo ps asg body)::k)) cs w)=.next (lone (Frame.enter P g args .normal) ((FB.mk b.fn (mark++b.defers) b.Dc).at tmps (.inRangeFunc l::k)::cs) w1):=by
 refine cC ?_;have he:=FB.eval_at (FB.mk b.fn (mark++b.defers) b.Dc) tmps (.inRangeFunc l::k);simp only[FB.at]at he;simp only[stepG,stepG.exec,FB.at,Sem.runT_eq,e,GStep.bare_after,stepG.apply,he];rw[h2];simp
theorem A7t{l:Nat}{w1:World}(e:(Instr.endLoop l).run P w=.ok jump w1):
 step P (lone (b.at tmps (.endRangeFunc l::k)) cs w)=.next (lone (b.at tmps ((jump.map Item.code).toList++k)) cs w1):=
 cC (by simp[stepG,stepG.exec,FB.at,e])
theorem A5g(j:S8 f h w){l:Nat}{st:LoopState}(e:st≠.busy)(m:h.get l=some (.loop st pd fn n tm ps asg body d)):
 (Instr.endLoop (f.b l)).run P w=.ok pd { w with heap:=w.heap.setIfInBounds (f.b l) (.loop ⟨.exhausted,pd,fn,Be f n tm,ps.toArray,asg,body,f.b d⟩) }:=by
 obtain⟨q,h2⟩:=Af6 (P:=P) j m;have hs:=Qc (P:=P) (o':=.loop ⟨.exhausted,pd,fn,Be f n tm,ps.toArray,asg,body,f.b d⟩) h2 (by intros;simp);have hb:(st == .busy)=false:=by cases st<;>first|rfl|exact absurd rfl e
 simp only[Instr.endLoop,Sem.run_bind,q,aI,hb,aX,ak,aT,hs]
theorem A0x(hC:Aeh P call){l:Nat}
 (j:behind fn n tm ds Dc l k (call g args h)=.go s') (M:S9 p h) (O:S8 f h w) (Q:EV.Tf p args) (C:V9 p ⟨fn,n,tm,k,ds,false,Dc⟩) :
 (∃D,P.funcs[g]? = some D/\D.body.isSome=true/\(D.name == "runtime.NumGoroutine")=false)/\∃f' w',p l ->
  Steps P (lone (Frame.enter P g (Br f args).toArray .normal) ((FB.mk fn (ds.map (Io f)) (Dc.map f.b)).at (Be f n tm) (.inRangeFunc (f.b l)::k)::cs) w) (lone (N1 f' s'.fr) cs w') /\
  Move p f h w f' s'.h w'/\Wf p h s'.h/\V9 (grow p h s'.h) s'.fr/\s'.fr.fn=fn/\s'.fr.Dc=Dc:=by
 unfold behind at j;split at j
 ·cases j
 ·rename_i v B u
  obtain⟨E,S⟩:=hC _ _ _ _ _ u;refine⟨E,?_⟩;split at j
  ·rename_i st pd A K tm' ps asg body d L
   have key:st≠.busy->∀todo:List Item,todo=(pd.map Item.code).toList++k->(AR.go ⟨⟨fn,n,tm,todo,ds,false,Dc⟩,B.put l (.loop .exhausted pd A K tm' ps asg body d)⟩=.go s')->∃f' w',p l ->
    Steps P (lone (Frame.enter P g (Br f args).toArray .normal) ((FB.mk fn (ds.map (Io f)) (Dc.map f.b)).at (Be f n tm) (.inRangeFunc (f.b l)::k)::cs) w) (lone (N1 f' s'.fr) cs w') /\
    Move p f h w f' s'.h w'/\Wf p h s'.h/\V9 (grow p h s'.h) s'.fr/\s'.fr.fn=fn/\s'.fr.Dc=Dc:=by
    intro F todo y e;cases e;obtain⟨fr,f1,w1,hs,U,W,hm,hwf,X⟩:=S p f w M O Q ((FB.mk fn (ds.map (Io f)) (Dc.map f.b)).at (Be f n tm) (.inRangeFunc (f.b l)::k)::cs);have m:V9 (grow p h B) ⟨fn,n,tm,k,ds,false,Dc⟩:=C.mono fun _ Y=>.inl Y
    obtain⟨m1,m2⟩:=A3g (st':=.exhausted) (pd':=pd) hwf.hok hm.rep L;have G:grow p h (B.put l (.loop .exhausted pd A K tm' ps asg body d))=grow p h B:=by
     funext q;simp only[grow,Aa.Pr]
    refine⟨f1,_,fun H=>⟨hs.trans (.head (step_leave_returned W) (.one ?_)),hm.trans m1,hwf.trans m2,?_,rfl,rfl⟩⟩
    ·have e1:((FB.mk fn (ds.map (Io f)) (Dc.map f.b)).at (Be f n tm) (.inRangeFunc (f.b l)::k)).finish (Cn f1 v)=(FB.mk fn (ds.map (Io f1)) (Dc.map f1.b)).at (Be f1 n tm) (.endRangeFunc (f1.b l)::k):=by
      have:=Akt hm.E9 C;simp only[A8u]at this;rw[this,hm.Be C.tm,(hm.E9 l H).1];rfl
     rw[e1,A7t (A5g hm.rep F L),<-y];rfl
    ·rw[G]
     exact⟨m.tm,m.dfr,m.Dc,fun x=>by cases x⟩
   split at j
   ·cases j
   ·rename_i J;exact key J _ (by cases pd<;>rfl) j
  ·cases j
end
end
section
section
variable(hT:P6 P T){call:Ai}(hC:Aeh P call)(hR:Ajt P round)(wC:U7 call)(wR:U7 round)
include wC wR in
theorem A3j {s:Hi}(j:(∃s',Cl T call round s=.go s'/\s'.h=h')\/∃v,Cl T call round s=.done v h'):AWf s.h h':=by
 obtain⟨⟨fn,n,tm,todo,ds,ret,Dc⟩,h⟩:=s;have u:∀{todo:List Item} {jump:Option Code} {h':Aa},((∃s',leave fn n tm todo ds Dc h jump=.go s'/\s'.h=h')\/∃v,leave fn n tm todo ds Dc h jump=.done v h')->AWf h h':=by
  intro todo jump h' E;rcases E with⟨s',y,h2⟩|⟨v,y⟩
  ·obtain⟨_,e,_⟩:=Aym y
   rw[e]at h2;subst h2;exact .refl _
  ·unfold leave at y
   split at y
   ·split at y<;>cases y
   ·split at y
    ·rename_i A
     split at y
     ·cases y;exact .put A _
     ·cases y;exact .put A _
    ·cases y
 cases ret with
 | true=>
  cases ds with
  | cons d ds=>
   simp only[Cl]at j;split at j
   ·rename_i A
    rcases j with⟨s',e,rfl⟩|⟨v,e⟩
    ·cases e;exact .put A _
    ·cases e
   ·rcases j with⟨s',e,_⟩|⟨v,e⟩<;>cases e
  | nil=>
   simp only[Cl]at j;rcases j with⟨s',e,rfl⟩|⟨v,e⟩
   ·split at e
    ·split at e<;>cases e
    ·cases e
   ·split at e
    ·split at e<;>first|(cases e;done)|(cases e;exact .refl _)
    ·cases e
 | false=>
  cases todo with
  | nil=>simp only[Cl]at j;exact u j
  | cons it k=>
   have q:∀{s0:Hi},((∃s',AR.go s0=.go s'/\s'.h=h')\/∃v,AR.go s0=.done v h')->s0.h=h':=by
    rintro s0 (⟨s',e,rfl⟩|⟨v,e⟩)<;>cases e;rfl
   have m:((∃s',AR.fail=.go s'/\s'.h=h')\/∃v,AR.fail=.done v h')->AWf h h':=by
    rintro(⟨s',e,_⟩|⟨v,e⟩)<;>cases e
   have x:∀{B:List Nat} {l g:Nat} {args:List EV} {y:Aa},AWf h y->((∃s',behind fn n tm B Dc l k (call g args y)=.go s'/\s'.h=h')\/∃v,behind fn n tm B Dc l k (call g args y)=.done v h')->AWf h h':=by
    intro B l g args y C hb;unfold behind at hb;split at hb
    ·exact m hb
    ·rename_i v h2 F
     split at hb
     ·rename_i A
      split at hb
      ·exact m hb
      ·rw[<-q hb]
       exact(C.trans (wC _ _ _ _ _ F)).trans (.put A _)
     ·exact m hb
   cases it with
   | code c=>
    cases c with
    | region id ops dr=>
     cases dr with
     | false=>
      simp only[Cl]at j;split at j
      ·rename_i D;rw[<-q j];exact A8x wC wR D
      ·exact m j
     | true=>
      simp only[Cl]at j;split at j
      ·rename_i D;rw[<-q j];exact Bbk wC wR D
      ·exact m j
    | cond c a b=>
     simp only[Cl]at j;split at j
     ·rw[<-q j];exact .refl _
     ·rw[<-q j];exact .refl _
     ·exact m j
    | exit id=>
     simp only[Cl]at j;split at j
     ·rw[<-q j];exact .refl _
     ·exact u j
    | ret=>simp only[Cl]at j;exact u j
    | rangeFunc fo ps asg body=>
     simp only[Cl]at j;split at j
     ·split at j
      ·exact x ((AWf.new _ _).trans (.new _ _)) j
      ·split at j
       ·exact x (.new _ _) j
       ·exact m j
     ·exact m j
    | seq a b=>simp only[Cl]at j;rw[<-q j];exact .refl _
    | skip=>simp only[Cl]at j;rw[<-q j];exact .refl _
    | block id c=>simp only[Cl]at j;rw[<-q j];exact .refl _
    | loop c=>simp only[Cl]at j;rw[<-q j];exact .refl _
    | label l=>simp only[Cl]at j;rw[<-q j];exact .refl _
    | scope c=>simp only[Cl]at j;exact m j
    | goto c=>simp only[Cl]at j;exact m j
    | refuse c=>simp only[Cl]at j;exact m j
   | inBlock id=>simp only[Cl]at j;rw[<-q j];exact .refl _
   | inLoop c=>simp only[Cl]at j;rw[<-q j];exact .refl _
   | beginRound=>
    simp only[Cl]at j;split at j
    ·split at j
     ·rename_i A;rw[<-q j];exact .put A _
     ·exact m j
    ·exact m j
   | _=>simp only[Cl]at j;exact m j
theorem Sim.run{w:World}{e:List Nat}{f':Loc}
 (hs:Steps P (lone ((FB.mk fn (ds.map (Io f)) (Dc.map f.b)).at (Be f n tm) todo) cs w) (lone ((FB.mk fn (e.map (Io f')) (Dc.map f'.b)).at (Be f' n tm') todo') cs w'))
 (hm:Move p f h w f' h' w') (hwf:Wf p h h') (j:V9 (grow p h h') ⟨fn,n,tm',todo',e,false,Dc⟩):Sim P p f w cs ⟨⟨fn,n,tm,todo,ds,false,Dc⟩,h⟩ ⟨⟨fn,n,tm',todo',e,false,Dc⟩,h'⟩:=
 ⟨f',w',hs,hm,hwf,j,rfl,rfl⟩
theorem Sim.Zf{w:World}(j:S9 p h)(m:S8 f h w)(e:V9 p ⟨fn,n,tm,todo,ds,false,Dc⟩)
 (hs:step P (lone ((FB.mk fn (ds.map (Io f)) (Dc.map f.b)).at (Be f n tm) todo) cs w)=.next (lone ((FB.mk fn (ds.map (Io f)) (Dc.map f.b)).at (Be f n tm) todo') cs w)) :
 Sim P p f w cs ⟨⟨fn,n,tm,todo,ds,false,Dc⟩,h⟩ ⟨⟨fn,n,tm,todo',ds,false,Dc⟩,h⟩:=
 Sim.run (.one hs) (Move.refl m) (Wf.refl j) (by rw[J7 _ _ _ rfl];exact⟨e.tm,e.dfr,e.Dc,fun x=>by cases x⟩)
variable{w:World}
theorem A0v(j:S9 p h)(m:S8 f h w)(e:V9 p ⟨fn,n,tm,todo,ds,false,Dc⟩)
 (q:leave fn n tm todo ds Dc h jump=.go s') (u:jump=none->todo = []) (h2:jump=some .ret->∃k,todo=.code .ret::k):Sim P p f w cs ⟨⟨fn,n,tm,todo,ds,false,Dc⟩,h⟩ s':=by
 obtain⟨rfl,rfl,hj⟩:=Aym q;refine Sim.stay j m ?_ ⟨e.tm,e.dfr,e.Dc,fun _=>rfl⟩ rfl rfl;rw[Aog,Aoa];rcases hj with rfl|rfl
 ·rw[u rfl];exact .one (Bnq rfl)
 ·obtain⟨k,rfl⟩:=h2 rfl;exact .one (Bn7 rfl)
include hT hC hR in
theorem A85{ops:Array Oper}(y:S9 p h)(A:S8 f h w)(m:V9 p ⟨fn,n,tm,k,ds,false,Dc⟩)
 (B:Api T call round n ops.toList ops.toList tm h=some (tm',h')):Sim P p f w cs ⟨⟨fn,n,tm,.code (.region id ops false)::k,ds,false,Dc⟩,h⟩ ⟨⟨fn,n,tm',k,ds,false,Dc⟩,h'⟩:=by
 obtain⟨f',w',hs,hm,hwf,u⟩:=A37 hT hC hR ops (i:=0) rfl m.tm y A B (FB.mk fn (ds.map (Io f)) (Dc.map f.b)) k cs;have e:=Akt hm.E9 m;simp only[A8u]at e;refine Sim.run (f':=f') (w':=w') ?_ hm hwf ?_
 ·refine .head Be5 (.trans ?_ (.one (Awc (ops:=ops))))
  rw[<-e];have e2:List.range' 0 (List.drop 0 ops.toList).length=List.range ops.size:=by rw[List.range_eq_range'];simp
  have j:Steps P _ _:=hs;rw[e2]at j;exact j
 ·have:=m.mono (q:=grow p h h') fun _ C=>.inl C
  exact⟨u,this.dfr,this.Dc,fun x=>by cases x⟩
include hT hC hR wC wR in
theorem Bim{ops:Array Oper}(u:S9 p h)(y:S8 f h w)(j:V9 p ⟨fn,n,tm,k,ds,false,Dc⟩)
 (A:Ap6 T call round n ops.toList tm h=some (tm',h')):Sim P p f w cs ⟨⟨fn,n,tm,.code (.region id ops true)::k,ds,false,Dc⟩,h⟩ ⟨⟨fn,n,tm',k,ds,false,Dc⟩,h'⟩:=by
 obtain⟨f',w',hs,hm,hwf,m⟩:=Bkc hT hC hR wC wR j.tm u y A (FB.mk fn (ds.map (Io f)) (Dc.map f.b)) (w.tape w.drawn (.order fn id)) k cs (w.drawn+1);have e:=Akt hm.E9 j;simp only[A8u]at e;refine Sim.run (f':=f') (w':=w') ?_ hm hwf ?_
 ·refine .head (Bmi hT.mixed) (.trans ?_ (.one (Awc (ops:=ops))))
  rw[<-e];exact hs
 ·have:=j.mono (q:=grow p h h') fun _ B=>.inl B
  exact⟨m,this.dfr,this.Dc,fun x=>by cases x⟩
theorem A1p(q:Lb p n tm)(m:Cf tm fo=some (.func g first captured))(l:Nat)(w1:World)(e:Func)(u:P.funcs[g]? = some e)(h2:e.body.isSome=true)(x:(e.name == "runtime.NumGoroutine")=false):
 (do let d ←resolve (Ik (Be f n tm)) { callee:=.value fo,args:=#[.const (.func (.yield l) #[] #[])],argTypes:=#[] } 0;invoke d.target d.args:Sem Next).run P w1 =
  .ok (.enter g ((Br f first).toArray ++ #[.func (.yield l) #[] #[]]++(Br f captured).toArray)) w1:=by
 have y:=So (f:=f) q;have hb:¬e.body=none:=by cases B:e.body<;>simp_all
 have A:¬e.name = "runtime.NumGoroutine":=by simpa using x
 have j:Ik (Be f n tm) (.const (.func (.yield l) #[] #[]))=.func (.yield l) #[] #[]:=rfl;simp[resolve,Bh y m,Cn,Deferred.ofValue,invoke,callFunc,u,A,hb,j]
include hC in
theorem Bc0{ps:Array Tmp}(hh:S9 p h)(rp:S8 f h w)(u:V9 p ⟨fn,n,tm,k,ds,false,none⟩)
 (C:Cf tm fo=some (.func g first captured))
 (O:behind fn n tm (h.next::ds) none (Nat.succ h.next) k (call g (first++(.Uv (Nat.succ h.next)::captured)) ((h.new (.deferred true)).new (.loop .ready none fn n tm ps.toList asg body h.next)))=.go s') :
 Sim P p f w cs ⟨⟨fn,n,tm,.code (.rangeFunc fo ps asg body)::k,ds,false,none⟩,h⟩ s':=by
 have j:=Em (v:=.func g first captured) u.tm C;have Q:(Dt.deferred true).ok (grow p h (h.new (.deferred true))):=trivial;have m1:Move p f h w (f.set h.next w.heap.size 0) (h.new (.deferred true)) { w with heap:=w.heap.push (.deferred (some [])) }:=Move.new hh rp 0 rfl rfl rfl rfl rfl;have y:Wf p h (h.new (.deferred true)):=Wf.new hh Q;have S:Be f n tm=Be (f.set h.next w.heap.size 0) n tm:=Ku m1.E9 u.tm;have U:grow p h (h.new (.deferred true)) h.next:=.inr ⟨aE _,by rw[Aa.Dl];omega⟩
 have D:(Dt.loop .ready none fn n tm ps.toList asg body h.next).ok (grow p h (h.new (.deferred true))):=⟨u.tm.mono fun _ A=>.inl A,U⟩;have m2:Move (grow p h (h.new (.deferred true))) (f.set h.next w.heap.size 0) (h.new (.deferred true)) { w with heap:=w.heap.push (.deferred (some [])) }
  ((f.set h.next w.heap.size 0).set (h.next+1) (w.heap.size+1) 0) ((h.new (.deferred true)).new (.loop .ready none fn n tm ps.toList asg body h.next))
  { w with heap:=(w.heap.push (.deferred (some []))).push (.loop ⟨.ready,none,fn,Be f n tm,ps,asg,body,w.heap.size⟩) }:=by
  have hx:=Move.new (w':={ w with heap:=(w.heap.push (.deferred (some []))).push (.loop ⟨.ready,none,fn,Be f n tm,ps,asg,body,w.heap.size⟩) }) (o:=.loop .ready none fn n tm ps.toList asg body h.next) (r:=.loop ⟨.ready,none,fn,Be f n tm,ps,asg,body,w.heap.size⟩) y.hok m1.rep 0 rfl ?_ rfl rfl rfl
  ·have e1:(h.new (.deferred true)).next=h.next+1:=rfl
   have e2:({ w with heap:=w.heap.push (.deferred (some [])) }:World).heap.size=w.heap.size+1:=by simp
   rw[e1,e2]at hx;exact hx
  ·have W:Be f n tm=Be ((f.set h.next w.heap.size 0).set (h.new (.deferred true)).next ({ w with heap:=w.heap.push (.deferred (some [])) }:World).heap.size 0) n tm:=by
    rw[S];exact Ku (Loc.P9 _ _ _ (fun x=>absurd (y.hok.lt _ x) (by omega))) (u.tm.mono fun _ A=>.inl A)
   show Obj.loop _=Obj.loop _;rw[<-W,eA];have e3:((f.set h.next w.heap.size 0).set (h.new (.deferred true)).next ({ w with heap:=w.heap.push (.deferred (some [])) }:World).heap.size 0).b h.next=w.heap.size:=by
    rw[(Loc.Tu _ _ _ (by rw[Aa.Dl];omega)).1,Loc.Aai]
   rw[e3]
 have X:Wf (grow p h (h.new (.deferred true))) (h.new (.deferred true)) ((h.new (.deferred true)).new (.loop .ready none fn n tm ps.toList asg body h.next)):=Wf.new y.hok (D.mono fun _ A=>.inl A);have e:=m1.trans m2;have m:=y.trans X;generalize E:(f.set h.next w.heap.size 0).set (h.next+1) (w.heap.size+1) 0=f2 at m2 e;have Y:f2.b h.next=w.heap.size:=by rw[<-E,(Loc.Tu _ _ _ (by omega)).1,Loc.Aai]
 have F:f2.b (h.next+1)=w.heap.size+1:=by rw[<-E,Loc.Aai]
 have Z:grow p h ((h.new (.deferred true)).new (.loop .ready none fn n tm ps.toList asg body h.next)) h.next:=.inr ⟨aE _,by rw[Aa.Dl,Aa.Dl];omega⟩
 have G:grow p h ((h.new (.deferred true)).new (.loop .ready none fn n tm ps.toList asg body h.next)) (h.next+1):=.inr ⟨by omega,by rw[Aa.Dl,Aa.Dl];omega⟩;have B:EV.Tf (grow p h ((h.new (.deferred true)).new (.loop .ready none fn n tm ps.toList asg body h.next))) (first++(.Uv (Nat.succ h.next)::captured)):=
  Y3 (Z0 j.1) ⟨G,Z0 j.2⟩
 have H:V9 (grow p h ((h.new (.deferred true)).new (.loop .ready none fn n tm ps.toList asg body h.next))) ⟨fn,n,tm,k,h.next::ds,false,none⟩:=by
  refine⟨u.tm.mono fun _ A=>.inl A,fun d hd=>?_,fun l hl=>(by cases hl),fun x=>(by cases x)⟩;rcases bS.1 hd with rfl|hd
  ·exact Z
  ·exact .inl (u.dfr d hd)
 obtain⟨⟨gn,g1,g2,g3⟩,f',w',hb⟩:=A0x (cs:=cs) hC O m.hok e.rep B H;obtain⟨hs,hm,hwf,J,K,L⟩:=hb G;refine⟨f',w',?_,e.trans hm,m.trans hwf,?_,K,L⟩
 ·rw[Aog]
  refine .head ?_ hs;have M:=Ar8 (P:=P) (b:=FB.mk fn (ds.map (Io f)) none) (k:=k) (cs:=cs) (w:=w) (fo:=fo) (ps:=ps) (asg:=asg) (body:=body) (tmps:=Be f n tm)
   (l:=w.heap.size+1) (mark:=[{ target:=.collected w.heap.size,args:=#[] }]) (w1:={ w with heap:=(w.heap.push (.deferred (some []))).push (.loop ⟨.ready,none,fn,Be f n tm,ps,asg,body,w.heap.size⟩) })
   (g:=g) (args:=(Br f first).toArray ++ #[.func (.yield (w.heap.size+1)) #[] #[]]++(Br f captured).toArray) (by simp[Instr.enterLoop];rfl) (A1p u.tm C _ _ gn g1 g2 g3)
  have e1:Br f2 (first++(.Uv (Nat.succ h.next)::captured))=Br f first++(.func (.yield (w.heap.size+1)) #[] #[]::Br f captured):=by
   rw[Rz,Br,<-G7 e.E9 _ j.1,<-G7 e.E9 _ j.2];simp only[Cn];rw[show f2.b (Nat.succ h.next)=w.heap.size+1 from F]
  have e2:(Be f n tm)=Be f2 n tm:=Ku e.E9 u.tm;have e3:ds.map (Io f)=ds.map (Io f2):=by
   apply cW;intro d hd;unfold Io;rw[(e.E9 d (u.dfr d hd)).1]
  rw[e1,<-e2,dL,<-e3];have e4:Io f2 h.next = { target:=.collected w.heap.size,args:=#[] }:=by unfold Io;rw[Y]
  rw[e4,show f2.b (Nat.succ h.next)=w.heap.size+1 from F];have e5:((Br f first).toArray ++ #[Value.func (.yield (w.heap.size+1)) #[] #[]]++(Br f captured).toArray)=(Br f first++(.func (.yield (w.heap.size+1)) #[] #[]::Br f captured)).toArray:=by simp
  rw[e5]at M;exact M
 ·exact J.mono fun q hq=>by rw[Adh p m.next hwf.next]at hq;exact hq
include hC in
theorem A6l{l0:Nat}{ps:Array Tmp}(y:S9 p h)(Y:S8 f h w)(j:V9 p ⟨fn,n,tm,k,ds,false,some l0⟩)
 (A:Cf tm fo=some (.func g first captured)) {L:LoopState} {M n0:Nat} {O:Az} {Q:List Tmp} {B m:Code} {d0:Nat} (C:h.get l0=some (.loop L pd0 M n0 O Q B m d0))
 (S:behind fn n tm ds (some l0) h.next k (call g (first++(.Uv h.next::captured)) (h.new (.loop .ready none fn n tm ps.toList asg body d0)))=.go s') :
 Sim P p f w cs ⟨⟨fn,n,tm,.code (.rangeFunc fo ps asg body)::k,ds,false,some l0⟩,h⟩ s':=by
 have e:=Em (v:=.func g first captured) j.tm A;have D:p d0:=(y.get l0 _ C).2.2;have m1:Move p f h w (f.set h.next w.heap.size 0) (h.new (.loop .ready none fn n tm ps.toList asg body d0)) { w with heap:=w.heap.push (.loop ⟨.ready,none,fn,Be f n tm,ps,asg,body,f.b d0⟩) }:=by
  refine Move.new y Y 0 rfl ?_ rfl rfl rfl;show Obj.loop _=Obj.loop _;rw[<-Ku (Loc.P9 f _ _ y.fresh) j.tm,eA,(Loc.P9 f w.heap.size 0 y.fresh d0 D).1]
 have u:Wf p h (h.new (.loop .ready none fn n tm ps.toList asg body d0)):=Wf.new y ⟨j.tm.mono fun _ U=>.inl U,.inl D⟩;generalize W:f.set h.next w.heap.size 0=f2 at m1
 have Z:f2.b h.next=w.heap.size:=by rw[<-W,Loc.Aai]
 have E:grow p h (h.new (.loop .ready none fn n tm ps.toList asg body d0)) h.next:=.inr ⟨aE _,by rw[Aa.Dl];omega⟩
 have x:EV.Tf (grow p h (h.new (.loop .ready none fn n tm ps.toList asg body d0))) (first++(.Uv h.next::captured)):=Y3 (Z0 e.1) ⟨E,Z0 e.2⟩;have F:V9 (grow p h (h.new (.loop .ready none fn n tm ps.toList asg body d0))) ⟨fn,n,tm,k,ds,false,some l0⟩:=j.mono fun _ U=>.inl U
 obtain⟨⟨gn,g1,g2,g3⟩,f',w',hb⟩:=A0x (cs:=cs) hC S u.hok m1.rep x F;obtain⟨hs,hm,hwf,G,H,J⟩:=hb E;refine⟨f',w',?_,m1.trans hm,u.trans hwf,?_,H,J⟩
 ·rw[Aog]
  refine .head ?_ hs;obtain⟨X,ag⟩:=Af6 (P:=P) Y C;have K:=Ar8 (P:=P) (b:=FB.mk fn (ds.map (Io f)) (some (f.b l0))) (k:=k) (cs:=cs) (w:=w) (fo:=fo) (ps:=ps) (asg:=asg) (body:=body) (tmps:=Be f n tm)
   (l:=w.heap.size) (mark:=[]) (w1:={ w with heap:=w.heap.push (.loop ⟨.ready,none,fn,Be f n tm,ps,asg,body,f.b d0⟩) })
   (g:=g) (args:=(Br f first).toArray ++ #[.func (.yield w.heap.size) #[] #[]]++(Br f captured).toArray) (by simp[Instr.enterLoop,X]) (A1p j.tm A _ _ gn g1 g2 g3)
  have e1:Br f2 (first++(.Uv h.next::captured))=Br f first++(.func (.yield w.heap.size) #[] #[]::Br f captured):=by
   rw[Rz,Br,<-G7 m1.E9 _ e.1,<-G7 m1.E9 _ e.2];simp only[Cn];rw[Z]
  have e2:=Akt m1.E9 j;simp only[A8u]at e2;rw[e1,<-e2,Z,<-Ku m1.E9 j.tm];have e5:((Br f first).toArray ++ #[Value.func (.yield w.heap.size) #[] #[]]++(Br f captured).toArray)=(Br f first++(.func (.yield w.heap.size) #[] #[]::Br f captured)).toArray:=by simp
  rw[e5]at K;exact K
 ·exact G.mono fun q hq=>by rw[Adh p u.next hwf.next]at hq;exact hq
include hT hC hR wC wR in
theorem Bjy {s:Hi}(j:Cl T call round s=.go s')(m:V9 p s.fr)(u:S9 p s.h)(q:S8 f s.h w)(cs:List Frame):Sim P p f w cs s s':=by
 obtain⟨⟨fn,n,tm,todo,ds,ret,Dc⟩,h⟩:=s;cases ret with
 | true=>
  have G:Dc=none:=m.ret rfl;subst G;cases ds with
  | cons d ds=>
   simp only[Cl]at j;split at j
   ·rename_i A
    cases j;obtain⟨r0,B,rfl⟩:=q.obj d _ A;have y:(Instr.takeDeferred (f.b d)).run P w=.ok [] { w with heap:=w.heap.setIfInBounds (f.b d) (.deferred none) }:=by
     have F:=Nn (P:=P) B (by intros;simp);have h2:=Qc (P:=P) (o':=.deferred none) B (by intros;simp);simp only[bI]at F;simp only[Instr.takeDeferred,Sem.run_bind,F,aI,h2,aT]
    have hm:Move p f h w f (h.put d (.deferred false)) { w with heap:=w.heap.setIfInBounds (f.b d) (.deferred none) }:=Move.setObj q A rfl;have hwf:Wf p h (h.put d (.deferred false)):=Wf.put u A trivial;refine⟨f,_,.one ?_,hm,hwf,?_,rfl,rfl⟩
    ·rw[Aoa,Aoa];exact Bet y
    ·exact V9.mono (p:=p) ⟨m.tm,fun x S=>m.dfr x (aR _ S),m.Dc,fun _=>rfl⟩ fun _ H=>.inl H
   ·cases j
  | nil=>
   simp only[Cl]at j;split at j
   ·split at j<;>cases j
   ·cases j
 | false=>
  have O:=So (f:=f) m.tm;have C:∀{it:Item} {k:List Item},V9 p ⟨fn,n,tm,it::k,ds,false,Dc⟩->V9 p ⟨fn,n,tm,k,ds,false,Dc⟩:=fun h=>⟨h.tm,h.dfr,h.Dc,h.ret⟩
  cases todo with
  | nil=>simp only[Cl]at j;exact A0v u q m j (fun _=>rfl) (fun e=>by cases e)
  | cons it k=>
   cases it with
   | code c=>
    cases c with
    | region id ops dr=>
     cases dr with
     | false=>
      simp only[Cl]at j;split at j
      ·rename_i J;cases j;exact A85 hT hC hR u q (C m) J
      ·cases j
     | true=>
      simp only[Cl]at j;split at j
      ·rename_i J;cases j;exact Bim hT hC hR wC wR u q (C m) J
      ·cases j
    | cond c a b=>
     simp only[Cl]at j;split at j
     ·rename_i K;cases j;exact Sim.Zf u q m (Bbs (t:=true) (by rw[Bh O K];rfl))
     ·rename_i K;cases j;exact Sim.Zf u q m (Bbs (t:=false) (by rw[Bh O K];rfl))
     ·cases j
    | exit id=>
     simp only[Cl]at j;split at j
     ·rename_i he;cases j;exact Sim.Zf u q m (Blt he)
     ·obtain⟨_,_,hj⟩:=Aym j
      rcases hj with hj|hj<;>cases hj
    | ret=>simp only[Cl]at j;exact A0v u q m j (fun e=>by cases e) (fun _=>⟨k,rfl⟩)
    | rangeFunc fo ps asg body=>
     simp only[Cl]at j;split at j
     ·rename_i g first captured D
      split at j
      ·exact Bc0 hC u q (C m) D j
      ·split at j
       ·rename_i L;exact A6l hC u q (C m) D L j
       ·cases j
     ·cases j
    | seq a b=>simp only[Cl]at j;cases j;exact Sim.Zf u q m Bom
    | skip=>simp only[Cl]at j;cases j;exact Sim.Zf u q m Bma
    | block id c=>simp only[Cl]at j;cases j;exact Sim.Zf u q m Bj6
    | loop c=>simp only[Cl]at j;cases j;exact Sim.Zf u q m Bk3
    | label l=>simp only[Cl]at j;cases j;exact Sim.Zf u q m Bia
    | scope c=>simp only[Cl]at j;cases j
    | goto c=>simp only[Cl]at j;cases j
    | refuse c=>simp only[Cl]at j;cases j
   | inBlock id=>simp only[Cl]at j;cases j;exact Sim.Zf u q m A98
   | inLoop c=>simp only[Cl]at j;cases j;exact Sim.Zf u q m Bdc
   | beginRound=>
    simp only[Cl]at j;split at j
    ·rename_i l
     split at j
     ·rename_i pd E Q tm' ps asg body d A
      cases j;obtain⟨F,h2⟩:=Af6 (P:=P) q A;obtain⟨m1,M⟩:=A3g (st':=.busy) (pd':=pd) u q A;have hs:=Qc (P:=P) (o':=.loop ⟨.busy,pd,E,Be f Q tm',ps.toArray,asg,body,f.b d⟩) h2 (by intros;simp);have y:(Instr.beginRound (f.b l)).run P w=.ok () { w with heap:=w.heap.setIfInBounds (f.b l) (.loop ⟨.busy,pd,E,Be f Q tm',ps.toArray,asg,body,f.b d⟩) }:=by
       simp only[Instr.beginRound,Sem.run_bind,F,aI,hs,aT]
      exact Sim.run (.one (Az1 (b:=FB.mk fn (ds.map (Io f)) (some (f.b l))) rfl y)) m1 M ((C m).mono fun _ H=>.inl H)
     ·cases j
    ·cases j
   | _=>simp only[Cl]at j;cases j
end
end
section
section
variable(hT:P6 P T){call:Ai}(hC:Aeh P call)(hR:Ajt P round)(wC:U7 call)(wR:U7 round)
variable{w:World}
include hT in
theorem Ayx {s:Hi}(j:Cl T call round s=.done v h')(F:V9 p s.fr)(y:S9 p s.h)(A:S8 f s.h w):Fin P p f w s v h':=by
 obtain⟨⟨fn,n,tm,todo,ds,ret,Dc⟩,h⟩:=s;cases ret with
 | true=>
  have B:Dc=none:=F.ret rfl;subst B;cases ds with
  | cons d ds=>
   simp only[Cl]at j;split at j<;>cases j
  | nil=>
   simp only[Cl]at j;split at j
   ·rename_i q C
    have key:∀{vs:List EV} {v:EV},Mb T tm h q.results.toList=some vs->(vs = [v]\/((∀x,vs≠[x])/\v=.tuple vs))->Fin P p f w ⟨⟨fn,n,tm,todo,[],true,none⟩,h⟩ v h:=by
     intro vs v G h2;obtain⟨H,J⟩:=A56 hT y A F.tm G h2;exact⟨rfl,⟨rfl,rfl,rfl,q,(hT.fn fn q C).1,H⟩,J⟩
    split at j
    ·rename_i D;cases j;exact key D (.inl rfl)
    ·rename_i l E D;cases j;exact key D (.inr ⟨fun x e=>by subst e;exact E x rfl,rfl⟩)
    ·cases j
   ·cases j
 | false=>
  cases todo with
  | nil=>simp only[Cl]at j;exact Arm y A j (.inl ⟨rfl,rfl⟩)
  | cons it k=>
   have m:∀{u:List Nat} {l:Nat} {r:Option (EV × Aa)},behind fn n tm u Dc l k r=.done v h'->False:=by
    intro u l r hb;unfold behind at hb;split at hb
    ·cases hb
    ·split at hb
     ·split at hb<;>cases hb
     ·cases hb
   cases it with
   | code c=>
    cases c with
    | region id ops dr=>cases dr<;>(simp only[Cl]at j;split at j<;>cases j)
    | cond c a b=>simp only[Cl]at j;split at j<;>cases j
    | exit id=>
     simp only[Cl]at j;split at j
     ·cases j
     ·rename_i he;exact Arm y A j (.inr (.inr ⟨id,k,rfl,he,rfl⟩))
    | ret=>simp only[Cl]at j;exact Arm y A j (.inr (.inl ⟨k,rfl,rfl⟩))
    | rangeFunc fo ps asg body=>
     simp only[Cl]at j;split at j
     ·split at j
      ·exact(m j).elim
      ·split at j
       ·exact(m j).elim
       ·cases j
     ·cases j
    | _=>simp only[Cl]at j;cases j
   | beginRound=>
    simp only[Cl]at j;split at j
    ·split at j<;>cases j
    ·cases j
   | _=>simp only[Cl]at j;cases j
theorem Sim.refl{s:Hi}(e:V9 p s.fr)(j:S9 p s.h)(m:S8 f s.h w):Sim P p f w cs s s:=
 ⟨f,w,.refl _ _,Move.refl m,Wf.refl j,by rw[J7 _ _ _ rfl];exact e,rfl,rfl⟩
def Beo(P:Program)(s s':Hi):Prop:=∀p f w cs,V9 p s.fr->S9 p s.h->S8 f s.h w->Sim P p f w cs s s'
theorem Beo.trans {s s1 s2:Hi}(a:Beo P s s1)(b:Beo P s1 s2):Beo P s s2:=by
 intro p f w cs B C D;obtain⟨f1,w1,q,m,e,u,e1,e2⟩:=a p f w cs B C D;obtain⟨f2,w2,x,y,j,A,e3,e4⟩:=b _ f1 w1 cs u e.hok m.rep;exact⟨f2,w2,q.trans x,m.trans y,e.trans j,by rw[<-Adh p e.next j.next];exact A,e3.trans e1,e4.trans e2⟩
theorem Af2:∀(l:List EV) (i:Nat) (t:Tr EV) (j:Nat),(setArgs l i t).get j=if i<=j/\j<i+l.length then l[j-i]? else t.get j
 | [],i,t,j=>by simp[setArgs];omega
 | v::r,i,t,j=>by
  simp only[setArgs];rw[Af2 r (i+1) (t.put i (some v)) j,Tr.get_put];simp only[bF];by_cases e:i=j
  ·subst e
   rw[aF (by omega),aH rfl,aH (by omega)];simp
  ·by_cases h2:i+1<=j/\j<i+1+r.length
   ·rw[aH h2,aH (by omega)]
    rw[show j-i=(j-(i+1))+1 by omega,bY]
   ·rw[aF h2,aF e,aF (by omega)]
theorem A8t(f:Loc)(h:args.length<=n):Be f n (setArgs args 0 .nil)=(Br f args).toArray++Array.replicate (n-(Br f args).toArray.size) undef:=by
 apply fV;intro j;rw[Aem];rw[Array.getElem?_append];simp only[dY,C0,cD,Ad0,Array.getElem?_replicate];unfold tmp;rw[Af2];by_cases hj:j<args.length
 ·rw[aH (by omega),aH (by omega),aH hj,Nat.sub_zero]
  rw[aD hj];rfl
 ·rw[aF (show ¬(0<=j/\j<0+args.length) by omega),aF hj]
  by_cases e:j<n
  ·rw[aH e,aH (by omega)];rfl
  ·rw[aF e,aF (by omega)]
theorem Bgf(h:args.length<=n)(j:EV.Tf p args):Lb p n (setArgs args 0 .nil) where
 ok t v e:=by
  rw[Af2]at e;split at e
  ·exact(Ic p args).1 j v (bU e)
  ·cases e
 out t m:=by
  rw[Af2,aF (by omega)];rfl
end
end
section
theorem Zg:∀{a b:List EV} {r:Bool},E2 a b=some r->a.length=b.length
 | [],[],_,_=>rfl
 | x::a,y::b,r,h=>by
  simp only[E2]at h;split at h
  ·simp[Zg h]
  ·split at h
   ·rename_i h2;simp[Zg h2]
   ·cases h
  ·cases h
 | [],_::_,_,h=>by cases h
 | _::_,[],_,h=>by cases h
theorem Ac5:∀(k:Nat) {a b:List EV} {r:Bool},E2 a b=some r->∃j e,E2 (a.take k) (b.take k)=some j/\E2 (a.drop k) (b.drop k)=some e/\r=(j&&e)
 | 0,a,b,r,h=>⟨true,r,rfl,h,by simp⟩
 | k+1,[],[],r,h=>by cases h;exact⟨true,true,rfl,rfl,rfl⟩
 | k+1,x::a,y::b,r,h=>by
  simp only[E2]at h;split at h
  ·rename_i m
   obtain⟨j,e,q,h2,u⟩:=Ac5 k h;exact⟨j,e,by simp only[fP,E2,m,q],by simpa using h2,u⟩
  ·rename_i m
   split at h
   ·rename_i r0 h0
    cases h;obtain⟨j,e,q,h2,u⟩:=Ac5 k h0;exact⟨false,e,by simp only[fP,E2,m,q],by simpa using h2,rfl⟩
   ·cases h
  ·cases h
 | k+1,[],_::_,_,h=>by cases h
 | k+1,_::_,[],_,h=>by cases h
theorem Zo {b:Nat}{s:List Nat}{x:EV}{l:List EV}(h:shaped (b::s) (x::l)=true):shaped s l=true/\((b=0/\∃k n,x=.int k n)\/(b=1/\∃c,x=.bool c)\/(b=2/\∃c,x=.str c)):=by
 cases x with
 | int k n=>
  simp only[shaped]at h;rw[Bn]at h;split at h
  ·rename_i hb;exact⟨h,.inl ⟨aJ hb,k,n,rfl⟩⟩
  ·cases h
 | bool c=>
  simp only[shaped]at h;rw[Bn]at h;split at h
  ·rename_i hb;exact⟨h,.inr (.inl ⟨aJ hb,c,rfl⟩)⟩
  ·cases h
 | str c=>
  simp only[shaped]at h;rw[Bn]at h;split at h
  ·rename_i hb;exact⟨h,.inr (.inr ⟨aJ hb,c,rfl⟩)⟩
  ·cases h
 | _=>cases h
theorem K6:∀{sh:List Nat} {l:List EV},shaped sh l=true->l.length=sh.length
 | [],[],_=>rfl
 | b::s,x::l,h=>by rw[bF,bF,K6 (Zo h).1]
 | [],_::_,h=>by cases h
 | _::_,[],h=>by cases h
theorem Ac6:∀{s1 s2:List Nat} {l:List EV},shaped (s1++s2) l=true->shaped s1 (l.take s1.length)=true/\shaped s2 (l.drop s1.length)=true
 | [],s2,l,h=>⟨rfl,h⟩
 | b::s1,s2,l,h=>by
  cases l with
  | nil=>have:=K6 h;simp at this
  | cons x l=>
   obtain⟨j,h2⟩:=Zo (s:=s1++s2) h;obtain⟨e,h4⟩:=Ac6 j;refine⟨?_,h4⟩;simp only[bF,fP];rcases h2 with⟨rfl,k,n,rfl⟩|⟨rfl,c,rfl⟩|⟨rfl,c,rfl⟩
   ·exact e
   ·exact e
   ·exact e
def Ar2(fl:TypeId->Option (List Nat)):List Field->Nat->Option (List Nat)
 | [],_=>some []
 | f::r,off=>match fl f.type with
  | some s=>if f.offset=off/\f.name≠"_" then(match Ar2 fl r (off+s.length)with|some t=>some (s++t)|none=>none)else none
  | none=>none
def flat(P:Program):Nat->TypeId->Option (List Nat)
 | 0=>fun _=>none
 | d+1=>fun t=>match P.info? t with
  | some i=>match P.underlying t with
   | some (.int _)=>if i.size=1 then some [0]else none
   | some .bool=>if i.size=1 then some [1]else none
   | some .string=>if i.size=1 then some [2]else none
   | some (.struct j)=>if P.stoodInHeld t=false then(match Ar2 (flat P d) j.toList 0 with
    | some s=>if s.length=i.size then some s else none
    | none=>none)else none
   | some (.array len e)=>match flat P d e with
    | some s=>if len*s.length=i.size then some (List.replicate len s).flatten else none
    | none=>none
   | _=>none
  | none=>none
def isA(P:Program)(t:TypeId):Bool:=match P.underlying t with|some (.struct _)=>true|some (.array _ _)=>true|_=>false
noncomputable def Ah6(P:Program)(f:Loc)(t:TypeId)(l:List EV):Value:=if isA P t=true then .agg (Br f l).toArray else(match l with|v::_=>Cn f v | []=>undef)
theorem Us(n:Nat)(s:List Nat):(List.replicate n s).flatten.length=n*s.length:=by
 induction n with
 | zero=>simp
 | succ n e=>rw[eB,br,aG,e,fQ];omega
theorem Vb{s:List Nat}(h:flat P d t=some s):(∃i,P.info? t=some i/\i.size=s.length)/\(isA P t=false->(s = [0]/\∃k,P.underlying t=some (.int k))\/(s = [1]/\P.underlying t=some .bool)\/(s = [2]/\P.underlying t=some .string))/\∀w,(isAgg t).run P w=.ok (isA P t) w:=by
 cases d with
 | zero=>simp[flat]at h
 | succ d=>
  simp only[flat]at h;split at h
  ·rename_i i m
   split at h
   ·rename_i k hu
    split at h
    ·rename_i j;cases h;exact⟨⟨i,m,j⟩,fun _=>.inl ⟨rfl,k,hu⟩,fun w=>by simp[isAgg,underlying,isA,hu]⟩
    ·cases h
   ·rename_i hu
    split at h
    ·rename_i j;cases h;exact⟨⟨i,m,j⟩,fun _=>.inr (.inl ⟨rfl,hu⟩),fun w=>by simp[isAgg,underlying,isA,hu]⟩
    ·cases h
   ·rename_i hu
    split at h
    ·rename_i j;cases h;exact⟨⟨i,m,j⟩,fun _=>.inr (.inr ⟨rfl,hu⟩),fun w=>by simp[isAgg,underlying,isA,hu]⟩
    ·cases h
   ·rename_i q hu
    split at h
    ·split at h
     ·split at h
      ·rename_i j;cases h;exact⟨⟨i,m,j.symm⟩,fun e=>by simp[isA,hu]at e,fun w=>by simp[isAgg,underlying,isA,hu]⟩
      ·cases h
     ·cases h
    ·cases h
   ·rename_i len e hu
    split at h
    ·split at h
     ·rename_i j;cases h;exact⟨⟨i,m,by rw[Us];exact j.symm⟩,fun e=>by simp[isA,hu]at e,fun w=>by simp[isAgg,underlying,isA,hu]⟩
     ·cases h
    ·cases h
   ·cases h
  ·cases h
theorem Qb(f:Loc)(w:World){s:List Nat}(h:flat P d t=some s){xs:List EV}(u:off+s.length<=xs.length):
 (Go.part t (Br f xs).toArray off).run P w=.ok (Ah6 P f t ((xs.drop off).take s.length)) w:=by
 obtain⟨⟨i,x,hs⟩,j,e⟩:=Vb h;have m:(sizeOf t).run P w=.ok s.length w:=by simp[sizeOf,typeInfo,x,hs]
 unfold Ah6;cases q:isA P t with
 | true=>
  simp only[Go.part,Sem.run_bind,e w,q,aI,bI,m,aT];congr 2;apply eK;simp[Py,List.extract_eq_take_drop]
 | false=>
  have y:s.length=1:=by rcases j q with⟨rfl,_⟩|⟨rfl,_⟩|⟨rfl,_⟩<;>rfl
  rw[y]at u⊢;have A:xs[off]? = some xs[off]:=aD (by omega);have e1:(xs.drop off).take 1 = [xs[off]]:=by
   rw[cq (by omega)];rfl
  have e2:(Br f xs).toArray[off]? = some (Cn f xs[off]):=by simp[Py,A]
  rw[e1];simp only[Go.part,Sem.run_bind,e w,q,aI,aX,ak,e2,aT]
def EqF(P:Program)(d D:Nat):Prop:=∀(t:TypeId) (s:List Nat),flat P d t=some s->∀(f:Loc) (w:World) (a b:List EV) (r:Bool),shaped s a=true->E2 a b=some r->(Op.equalIn D t (Ah6 P f t a) (Ah6 P f t b)).run P w=.ok r w
theorem Axr(f:Loc)(w:World){D:Nat}(A:EqF P d D)(a b:List EV)(B:a.length=b.length):∀(x:List Field) (off:Nat) (s:List Nat) (r:Bool),Ar2 (flat P d) x off=some s->shaped s (a.drop off)=true->E2 (a.drop off) (b.drop off)=some r ->
 (Op.eqFields D (Br f a).toArray (Br f b).toArray x).run P w=.ok r w
 | [],off,s,r,h,hs,q=>by
  simp only[Ar2]at h;cases h;have:=K6 hs;rw[fF,cM]at this;rw[this]at q;have h2:=Zg q;rw[fF]at h2;rw[cM.1 h2.symm]at q;cases q;simp[Op.eqFields]
 | fd::x,off,s,r,h,hs,q=>by
  simp only[Ar2]at h;split at h
  ·rename_i s1 e
   split at h
   ·rename_i j
    split at h
    ·rename_i s2 C
     cases h;obtain⟨E,K⟩:=Ac6 hs;obtain⟨y,O,F,h2,L⟩:=Ac5 s1.length q;rw[dZ]at K;rw[dZ,dZ]at h2;have hlen:=K6 hs;rw[bT,aG]at hlen;have M:=Axr f w A a b B x (off+s1.length) s2 O C K h2;by_cases Q:off+s1.length<=a.length
     ·have p1:=Qb f w e (xs:=a) (off:=off) Q
      have S:=Qb f w e (xs:=b) (off:=off) (by omega);have G:=A fd.type s1 e f w _ _ y E F;simp only[Op.eqFields,j.2,ne_eq,aN,bI,Sem.run_bind,j.1,p1,S,G,aI];subst L;cases y
      ·simp
      ·simpa using M
     ·
      have h0:s1.length=0:=by omega
      obtain⟨⟨i,U,H⟩,J,u⟩:=Vb e;have W:isA P fd.type=true:=by
       cases X:isA P fd.type with
       | true=>rfl
       | false=>rcases J X with⟨rfl,_⟩|⟨rfl,_⟩|⟨rfl,_⟩<;>simp at h0
      have m:(sizeOf fd.type).run P w=.ok 0 w:=by simp[sizeOf,typeInfo,U,H,h0]
      have hp:∀xs:List EV,(Go.part fd.type (Br f xs).toArray off).run P w=.ok (Ah6 P f fd.type []) w:=by
       intro xs;simp only[Go.part,Sem.run_bind,u w,W,aI,bI,m,aT,Ah6,dO];congr 2;apply eK;simp[Br]
      rw[h0,List.take_zero,List.take_zero]at F;rw[h0,List.take_zero]at E;have G:=A fd.type s1 e f w [] [] y E F;simp only[Op.eqFields,j.2,ne_eq,aN,bI,Sem.run_bind,j.1,hp,G,aI];subst L;cases y
      ·simp
      ·simpa using M
    ·cases h
   ·cases h
  ·cases h
theorem A1s(f:Loc)(w:World){D:Nat}(A:EqF P d D){e:TypeId}{s:List Nat}(hs:flat P d e=some s)(a b:List EV)(x:a.length=b.length):∀(n k:Nat) (r:Bool),(k+n)*s.length=a.length->shaped (List.replicate n s).flatten (a.drop (k*s.length))=true ->
 E2 (a.drop (k*s.length)) (b.drop (k*s.length))=some r ->
 (Op.eqItems D e (P.cellsOf e) (Br f a).toArray (Br f b).toArray (List.range' k n)).run P w=.ok r w
 | 0,k,r,j,m,u=>by
  rw[dO]at j;rw[dV (by omega),dV (by omega)]at u;cases u;simp[Op.eqItems]
 | n+1,k,r,j,m,u=>by
  obtain⟨⟨i,G,y⟩,_⟩:=Vb hs;have B:P.cellsOf e=s.length:=by simp[Program.cellsOf,G,y]
  rw[eB,br]at m;obtain⟨H,C⟩:=Ac6 m;obtain⟨E,J,K,h2,L⟩:=Ac5 s.length u;have q:k*s.length+s.length=(k+1)*s.length:=by rw[fQ];omega
  rw[dZ,q]at C;rw[dZ,dZ,q]at h2;have F:=A1s f w A hs a b x n (k+1) J (by rw[<-j];congr 1;omega) C h2;have M:k*s.length+s.length<=a.length:=by
   rw[<-j,show k+(n+1)=(k+1)+n by omega,fQ,fQ];omega
  have p1:=Qb f w hs (xs:=a) (off:=k*s.length) M;have O:=Qb f w hs (xs:=b) (off:=k*s.length) (by omega);have Q:=A e s hs f w _ _ E H K;rw[fM];simp only[Op.eqItems,Sem.run_bind,B,p1,O,Q,aI];rw[B]at F;subst L;cases E
  ·simp
  ·simpa using F
theorem Bbd:∀(d D:Nat),d<=D->EqF P d D
 | 0,_,_=>fun t n h=>by simp[flat]at h
 | d+1,0,h=>by omega
 | d+1,D+1,hd=>by
  have M:=Bbd d D (by omega);intro t s h f w a b r j q;have u:=Zg q;obtain⟨_,C,_⟩:=Vb h;by_cases B:isA P t=true
  ·simp only[flat]at h
   split at h
   ·rename_i i W
    split at h
    ·rename_i k hu;simp[isA,hu]at B
    ·rename_i hu;simp[isA,hu]at B
    ·rename_i hu;simp[isA,hu]at B
    ·rename_i O hu
     split at h
     ·rename_i G
      split at h
      ·rename_i s' H
       split at h
       ·cases h
        have Q:P.fieldsOf t=O:=by simp[Program.fieldsOf,hu]
        simp only[Ah6,B,bI];rw[run_equalIn_struct w D t _ _ (by rw[Q];exact hu) G,Q];exact Axr f w M a b u O.toList 0 s r H (by simpa using j) (by simpa using q)
       ·cases h
      ·cases h
     ·cases h
    ·rename_i len e hu
     split at h
     ·rename_i s' hs
      split at h
      ·rename_i X
       cases h;obtain⟨⟨Y,J,_⟩,_⟩:=Vb hs;simp only[Ah6,B,bI];rw[run_equalIn_array w D _ _ hu J,List.range_eq_range'];refine A1s f w M hs a b u len 0 r ?_ (by simpa using j) (by simpa using q);rw[K6 j,Us,bK]
      ·cases h
     ·cases h
    ·cases h
   ·cases h
  ·have A:isA P t=false:=by simpa using B
   have hlen:=K6 j;have K:s.length=1:=by rcases C A with⟨rfl,_⟩|⟨rfl,_⟩|⟨rfl,_⟩<;>rfl
   rw[K]at hlen
   match a,b,hlen,u with
   | [x],[y],_,_=>
    simp only[Ah6,A,aX,ak];simp only[E2]at q;have hle:Aje x y=some r:=by
     split at q
     ·rename_i L;cases q;exact L
     ·rename_i L;cases q;exact L
     ·cases q
    rcases C A with⟨rfl,S,hu⟩|⟨rfl,hu⟩|⟨rfl,hu⟩
    ·rcases(Zo j).2 with⟨_,k,n,rfl⟩|⟨h0,_⟩|⟨h0,_⟩
     ·cases y with
      | int Z m=>
       simp only[Aje]at hle;obtain⟨U,E⟩:=An hle;have:=Ans U;subst this;have hle:=fW E;simp only[Cn];rw[run_equalIn_int w D t k S n m hu,<-hle,Ah1];congr 1
      | _=>cases hle
     ·cases h0
     ·cases h0
    ·rcases(Zo j).2 with⟨h0,_⟩|⟨_,c,rfl⟩|⟨h0,_⟩
     ·cases h0
     ·cases y with
      | bool F=>
       simp only[Aje,cN]at hle;simp only[Cn];rw[A01 w D t c F hu,<-hle];cases c<;>cases F<;>rfl
      | _=>cases hle
     ·cases h0
    ·rcases(Zo j).2 with⟨h0,_⟩|⟨h0,_⟩|⟨_,c,rfl⟩
     ·cases h0
     ·cases h0
     ·cases y with
      | str F=>
       simp only[Aje,cN]at hle;simp only[Cn];rw[Bju w D t c F hu,<-hle,Aw6]
      | _=>cases hle
def Aja(P:Program)(t:TypeId):Bool:=
 match P.underlying t with
 | some (.struct e)=>e.toList.all fun f=>f.name != "_"&&(match P.underlying f.type with|some (.int _)=>true|some .bool=>true|_=>false)
 | _=>false
theorem Alm(f:Loc)(w:World)(e:Bool)(D:Nat)(a:List EV):∀(m:List Field) (off:Nat) (s:List Nat) (d:Nat),(m.all fun f=>f.name != "_"&&(match P.underlying f.type with|some (.int _)=>true|some .bool=>true|_=>false))=true ->
 Ar2 (flat P d) m off=some s->shaped s (a.drop off)=true ->
 (forIn m PUnit.unit fun(fd:Field) (_:PUnit)=>(do
  if fd.name≠"_" then do
   Instr.checkKey e (D+1) fd.type (←Go.part fd.type (Br f a).toArray fd.offset)
   pure (.yield PUnit.unit)
  else pure (.yield PUnit.unit):Sem (ForInStep PUnit))).run P w=.ok PUnit.unit w
 | [],off,s,d,_,h,hs=>by simp
 | fd::m,off,s,d,j,h,hs=>by
  simp only[List.all_cons,aV]at j;simp only[Ar2]at h;split at h
  ·rename_i s1 q
   split at h
   ·rename_i u
    split at h
    ·rename_i s2 x
     cases h;obtain⟨A,y⟩:=Ac6 hs;rw[dZ]at y;have B:=Alm f w e D a m (off+s1.length) s2 d j.2 x y;have hlen:=K6 A;rw[b9,bT]at hlen;have C:s1.length=1:=by
      have E:isA P fd.type=false:=by
       have:=j.1.2;unfold isA;split at this<;>simp_all
      rcases(Vb q).2.1 E with⟨rfl,_⟩|⟨rfl,_⟩|⟨rfl,_⟩<;>rfl
     have p1:=Qb f w q (xs:=a) (off:=off) (by omega);have F:∀v,(Instr.checkKey e (D+1) fd.type v).run P w=.ok () w:=by
      intro v;have:=j.1.2;rw[Instr.checkKey.eq_def];split at this
      ·rename_i k hu;simp[underlying,hu]
      ·rename_i hu;simp[underlying,hu]
      ·cases this
     rw[List.forIn_cons];simp only[u.2,ne_eq,aN,bI,Sem.run_bind,u.1,p1,F,aI,aT];exact B
    ·cases h
   ·cases h
  ·cases h
def Ayi(P:Program)(t:TypeId):Bool:=
 match P.underlying t with
 | some (.array _ e)=>(match P.underlying e with|some (.int _)=>true|_=>false)
 | _=>false
theorem Aoo(f:Loc)(w:World)(e:Bool)(D:Nat){m:TypeId}{k:IntKind}(hu:P.underlying m=some (.int k))(hs:flat P d m=some [0])(a:List EV):∀(n i:Nat),i+n<=a.length ->
 (forIn (List.range' i n) PUnit.unit fun(j:Nat) (_:PUnit)=>(do
  Instr.checkKey e (D+1) m (←Go.part m (Br f a).toArray (j*(←sizeOf m)))
  pure (.yield PUnit.unit):Sem (ForInStep PUnit))).run P w=.ok PUnit.unit w
 | 0,i,_=>by simp
 | n+1,i,h=>by
  have u:=Aoo f w e D hu hs a n (i+1) (by omega);have p1:=Qb f w hs (xs:=a) (off:=i) (by simp;omega);have x:∀v,(Instr.checkKey e (D+1) m v).run P w=.ok () w:=by
   intro v;rw[Instr.checkKey.eq_def];simp[underlying,hu]
  obtain⟨⟨ii,y,q⟩,_⟩:=Vb hs;have A:(sizeOf m).run P w=.ok 1 w:=by simp[sizeOf,typeInfo,y,q]
  rw[fM,List.forIn_cons];simp only[Sem.run_bind,A,aI,bW,p1,x,aT];exact u
theorem A9q(m:Ayi P t=true){s:List Nat}(h:flat P d t=some s)(f:Loc)(w:World)(e:Bool)(a:List EV)(hs:shaped s a=true):
 (Instr.checkKey e 10000 t (.agg (Br f a).toArray)).run P w=.ok () w:=by
 unfold Ayi at m;split at m
 ·rename_i len x hu
  split at m
  ·rename_i k j
   cases d with
   | zero=>simp[flat]at h
   | succ d=>
    simp only[flat]at h;split at h
    ·simp only[hu]at h
     split at h
     ·rename_i s' q
      split at h
      ·rename_i A
       cases h;have y:isA P x=false:=by simp[isA,j]
       have u:s' = [0]:=by
        rcases(Vb q).2.1 y with⟨rfl,_⟩|⟨_,h2⟩|⟨_,h2⟩
        ·rfl
        ·rw[j]at h2;cases h2
        ·rw[j]at h2;cases h2
       subst u;have hlen:=K6 hs;rw[Us]at hlen;simp only[bF,fF,bK,bW]at hlen;have:=Aoo f w e 9998 j q a len 0 (by omega);rw[Instr.checkKey.eq_def];simp only[underlying,hu,Sem.run_bind,fR,aI,aT];simp only[Std.Legacy.Range.forIn_eq_forIn_range',Std.Legacy.Range.size,Nat.sub_zero,Nat.add_one_sub_one,Nat.div_one];rw[this];rfl
      ·cases h
     ·cases h
    ·cases h
  ·cases m
 ·cases m
theorem A0a(j:Aja P t=true){s:List Nat}(h:flat P d t=some s)(f:Loc)(w:World)(e:Bool)(a:List EV)(hs:shaped s a=true):
 (∃m,P.underlying t=some (.struct m))/\(Instr.checkKey e 10000 t (.agg (Br f a).toArray)).run P w=.ok () w:=by
 unfold Aja at j;split at j
 ·rename_i m hu
  refine⟨⟨m,hu⟩,?_⟩;cases d with
  | zero=>simp[flat]at h
  | succ d=>
   simp only[flat]at h;split at h
   ·simp only[hu]at h
    split at h
    ·split at h
     ·rename_i s' q
      split at h
      ·cases h
       have:=Alm f w e 9998 a m.toList 0 s d j q (by simpa using hs);rw[Instr.checkKey.eq_def];simp only[underlying,hu,Sem.run_bind,fR,aI,aT];rw[<-Array.forIn_toList];rw[this];rfl
      ·cases h
     ·cases h
    ·cases h
   ·cases h
 ·cases j
end
noncomputable def Fv {α:Type}:List α->Nat->Tr α->Tr α
 | [],_,t=>t
 | a::r,i,t=>Fv r (Nat.succ i) (t.put i (some a))
theorem Aoq:∀(l:List α) (i:Nat) (t:Tr α) (j:Nat),(Fv l i t).get j=if i<=j/\j<i+l.length then l[j-i]? else t.get j
 | [],i,t,j=>by simp[Fv];omega
 | a::r,i,t,j=>by
  simp only[Fv];rw[Aoq r (i+1) (t.put i (some a)) j,Tr.get_put];simp only[bF];by_cases e:i=j
  ·subst e
   rw[aF (by omega),aH rfl,aH (by omega)];simp
  ·by_cases h2:i+1<=j/\j<i+1+r.length
   ·rw[aH h2,aH (by omega)]
    rw[show j-i=(j-(i+1))+1 by omega,bY]
   ·rw[aF h2,aF e,aF (by omega)]
theorem Azh(l:List α)(j:Nat):(Fv l 0 .nil).get j=l[j]?:=by
 rw[Aoq];by_cases h:j<l.length
 ·rw[aH (by omega),Nat.sub_zero]
 ·rw[aF (by omega),bh (by omega)];rfl
noncomputable def Bmw:List Nat->Nat->Bool
 | [],_=>false
 | a::r,x=>Ba (Nat.beq a x) true (Bmw r x)
theorem A1z:∀{l:List Nat} {x:Nat},Bmw l x=true->x∈l
 | [],_,h=>by cases h
 | a::r,x,h=>by
  simp only[Bmw]at h;rw[Bn]at h;split at h
  ·rename_i e;rw[aJ e];exact aW
  ·exact aR _ (A1z h)
noncomputable def Bcd:List (Nat × List Nat)->Nat->Option (List Nat)
 | [],_=>none
 | (a,s)::r,x=>Ba (Nat.beq a x) (some s) (Bcd r x)
theorem Aj7:∀{l:List (Nat × List Nat)} {x:Nat} {s:List Nat},Bcd l x=some s->(x,s)∈l
 | [],_,_,h=>by cases h
 | (a,s')::r,x,s,h=>by
  simp only[Bcd]at h;rw[Bn]at h;split at h
  ·rename_i e;cases h;rw[aJ e];exact aW
  ·exact aR _ (Aj7 h)
noncomputable def Blu(ty:Tr TypeInfo)(t:Nat):Option TypeDesc:=
 match ty.get t with
 | some i=>match i.desc with
  | .named _ u=>(match ty.get u with|some j=>some j.desc|none=>none)
  | d=>some d
 | none=>none
noncomputable def Bh5(ty:Tr TypeInfo)(t:Nat):Option Bool:=match Blu ty t with|some d=>some (Auh d)|none=>none
noncomputable def Bh8(ty:Tr TypeInfo)(t:Nat):Option (List EV):=
 match ty.get t with
 | some i=>match i.zero with
  | some v=>match ofV v with
   | some x=>Ba x.plain (Ba (Nat.beq i.size (len x.cells)) (Ba (Nat.ble i.bytes 1048576) (match Bh5 ty t with
    | some true=>(match x with | .agg l=>some l|_=>none)
    | some false=>Ba x.one (some [x]) none
    | none=>none) none) none) none
   | none=>none
  | none=>none
 | none=>none
noncomputable def Bb1(e:Tr Func)(ty:Tr TypeInfo)(eqs:List (Nat × List Nat))(keys:List Nat):H7 where
 fn:=e.get
 Th:=Blu ty
 size t:=match ty.get t with|some i=>Ba (Nat.ble i.bytes 1048576) (some i.size) none|none=>none
 zero:=Bh8 ty
 agg:=Bh5 ty
 eqs:=Bcd eqs
 key:=Bmw keys
theorem Bm0{t:Nat}{i:TypeInfo}(h:P.types[t]? = some i):P.info? t=some i:=by
 have e:t<P.types.size:=(cL.1 h).1;unfold Tables.info?;rw[aH e];exact h
theorem Big{keys:List Nat}(hm:P.follows .mixedOrders=true)
 (A:(P.funcs.toList.all fun f=>!(f.name == "runtime.NumGoroutine"))=true)
 (y:∀x∈eqs,flat P 6 x.1=some x.2/\isA P x.1=true/\P.eqGuardType P.depth x.1=false) (D:∀t∈keys,Aja P t=true\/Ayi P t=true) :
 P6 P (Bb1 (Fv P.funcs.toList 0 .nil) (Fv P.types.toList 0 .nil) eqs keys):=by
 have B:∀t i,(Fv P.types.toList 0 .nil).get t=some i->P.info? t=some i:=by
  intro t i h;rw[Azh,cF]at h;exact Bm0 h
 have C:∀t d,Blu (Fv P.types.toList 0 .nil) t=some d->P.underlying t=some d:=by
  intro t d h;unfold Blu at h;split at h
  ·rename_i i J
   have q:=B t i J;split at h
   ·rename_i s u hd
    split at h
    ·rename_i j hj
     cases h;have h2:=B u j hj;obtain⟨desc,str,size,bytes,hp,Y,Z,z⟩:=i;simp only at hd;subst hd;simp[Program.underlying,q,h2]
    ·cases h
   ·rename_i hd
    cases h;unfold Program.underlying;rw[q];split
    ·rename_i E;cases E;exact absurd rfl (hd _ _)
    ·rename_i E;cases E;rfl
    ·rename_i E;cases E
  ·cases h
 have K:∀t b,Bh5 (Fv P.types.toList 0 .nil) t=some b->∃d,P.underlying t=some d/\Auh d=b:=by
  intro t b h;unfold Bh5 at h;split at h
  ·rename_i d hd;cases h;exact⟨d,C t d hd,rfl⟩
  ·cases h
 refine⟨hm,fun g fn h=>?_,C,fun t n h=>?_,fun t z h=>?_,K,fun t sh h=>?_,fun t h=>?_⟩
 ·have h':(Fv P.funcs.toList 0 .nil).get g=some fn:=h
  rw[Azh]at h';refine⟨by rw[<-cF];exact h',?_⟩;have:=dN.1 A fn (bU h');simpa using this
 ·simp only[Bb1]at h
  split at h
  ·rename_i i J
   obtain⟨q,h2⟩:=An h;cases h2;exact⟨i,B t i J,rfl,bG q⟩
  ·cases h
 ·have h':Bh8 (Fv P.types.toList 0 .nil) t=some z:=h
  unfold Bh8 at h';split at h'
  ·rename_i i J
   split at h'
   ·rename_i v U
    split at h'
    ·rename_i x E
     obtain⟨q,h'⟩:=An h';obtain⟨h2,h'⟩:=An h';obtain⟨O,h'⟩:=An h';have L:i.size=x.cells.length:=by rw[<-Tq];exact aJ h2
     refine⟨i,v,x,B t i J,U,E,q,?_⟩;have M:∀b,Bh5 (Fv P.types.toList 0 .nil) t=some b->(Bb1 (Fv P.funcs.toList 0 .nil) (Fv P.types.toList 0 .nil) eqs keys).agg t=some b:=fun _ h=>h
     split at h'
     ·rename_i Q
      have F:=M true Q;cases x with
      | agg l=>
       simp only[cN]at h';subst h';exact⟨rfl,L,bG O,fun _=>rfl,fun e=>(by rw[F]at e;cases e)⟩
      | _=>cases h'
     ·rename_i Q
      have F:=M false Q;obtain⟨W,h'⟩:=An h';cases h';have S:x.cells = [x]:=by
       cases x<;>first|rfl|(simp[EV.one]at W)
      exact⟨S.symm,by rw[L,S],bG O,fun e=>(by rw[F]at e;cases e),fun _=>rfl⟩
     ·cases h'
    ·cases h'
   ·cases h'
  ·cases h'
 ·obtain⟨q,h2,O⟩:=y _ (Aj7 h)
  refine⟨O,fun f w a b r X hs=>?_⟩;have:=Bbd (P:=P) 6 10000 (by omega) t sh q f w a b r hs X;simp only[Ah6,h2,bI]at this;exact this
 ·have G:=D t (A1z h)
  rcases G with G|G
  ·constructor
   ·have m:=G
    unfold Aja at m;split at m
    ·rename_i fs hu;exact⟨_,hu,rfl⟩
    ·cases m
   ·intro f w e a sh H hs
    obtain⟨q,_,_⟩:=y _ (Aj7 H);exact(A0a G q f w e a hs).2
  ·constructor
   ·have m:=G
    unfold Ayi at m;split at m
    ·rename_i n e hu;exact⟨_,hu,rfl⟩
    ·cases m
   ·intro f w e a sh H hs
    obtain⟨q,_,_⟩:=y _ (Aj7 H);exact A9q G q f w e a hs
theorem Bgl(f:Loc)(w:World)(n m:Nat):S8 f ⟨.nil,n,m⟩ w:=⟨fun i o h=>(by cases h),fun i j o o' h=>(by cases h)⟩
theorem Bjb(n m:Nat):S9 (fun _=>False) ⟨.nil,n,m⟩:=⟨fun i h=>h.elim,fun i o h=>(by cases h)⟩
theorem Ay9{c:Ai}(hC:Aeh P c)(h:c g [] ⟨.nil,0,0⟩=some (v,h'))(q:∀f,Cn f v=V)(w:World):
 Calls P g #[] w fun e w'=>e=.returned V/\RowKit.Below w.heap.size w w':=by
 obtain⟨_,u⟩:=hC _ _ _ _ _ h;intro cs;obtain⟨fr,f',w',hs,j,m,hm,hwf,x⟩:=u (fun _=>False) ⟨fun _=>0,fun _=>0⟩ w (Bjb 0 0) (Bgl _ _ 0 0) trivial cs;rw[q]at m;exact⟨.returned V,w',fr,⟨rfl,hm.os,hm.tape,hm.output,hm.size,fun k y=>hm.kept k y (fun i o A=>(by cases A))⟩,hs,j,m⟩
noncomputable def isTrue:Option (EV × Aa)->Bool
 | some (.bool b,_)=>b
 | _=>false
theorem A45 {r:Option (EV × Aa)}(h:isTrue r=true):∃h',r=some (.bool true,h'):=by
 unfold isTrue at h;split at h
 ·subst h;exact⟨_,rfl⟩
 ·cases h
noncomputable def Ati(g:Nat)(v:EV):Ai:=fun e args h=>Ba (Nat.beq e g) (match args with | []=>some (v,h)|_=>none) none
theorem Azd(C:∀f,Cn f v=V)(q:∀p,v.ok p){fn:Func}(D:P.funcs[g]? = some fn)(hb:fn.body.isSome=true)(E:(fn.name == "runtime.NumGoroutine")=false)
 (hC:∀w,Calls P g #[] w fun e w'=>e=.returned V/\RowKit.Below w.heap.size w w'):Aeh P (Ati g v)/\U7 (Ati g v):=by
 have key:∀u args h x h',Ati g v u args h=some (x,h')->u=g/\args = []/\x=v/\h'=h:=by
  intro u args h x h' m;unfold Ati at m;obtain⟨y,h2⟩:=An m;split at h2
  ·cases h2;exact⟨aJ y,rfl,rfl,rfl⟩
  ·cases h2
 constructor
 ·intro u args h x h' m
  obtain⟨rfl,rfl,rfl,rfl⟩:=key _ _ _ _ _ m;refine⟨⟨fn,D,hb,E⟩,fun p f w m A G cs=>?_⟩;obtain⟨e,w',fr,⟨rfl,j⟩,hs,B,F⟩:=hC w cs;refine⟨fr,f,w',hs,B,?_,⟨Loc.Akl _ _,⟨fun i o q=>?_,A.inj⟩,fun b hb _=>j.block b hb,j.size,j.tape,j.os,j.output,fun i o q=>.inr ⟨i,o,q,rfl⟩⟩,Wf.refl m,q _⟩
  ·rw[C];exact F
  ·obtain⟨r,y,h2⟩:=A.obj i o q
   exact⟨r,by rw[j.block _ (A.lt q)];exact y,h2⟩
 ·intro u args h x h' m
  obtain⟨_,_,_,rfl⟩:=key _ _ _ _ _ m;exact .refl _
end Go.Ev
