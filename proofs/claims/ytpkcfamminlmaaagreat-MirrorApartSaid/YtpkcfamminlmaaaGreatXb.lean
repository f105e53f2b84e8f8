import Derived.Test.YtpkcfamminlmaaaGreatWa
import Derived.Test.YtpkcfamminlmaaaGreatXa
import Derived.Test.YtpkcfamminlmaaaGreatDb
import Derived.Test.YtpkcfamminlmaaaGreatDc
set_option linter.unusedVariables false
set_option linter.unusedSimpArgs false
set_option linter.unusedSectionVars false
namespace Go.Ev
end Go.Ev

namespace Go.Ev
noncomputable def Bv(T:D4)(g n i:Nat)(tm:Ah)(st:LoopState)(p:Option Code)(d:Nat):Cn:=.loop st p g n tm (D1 T g i).2.1 (D1 T g i).2.2.1 (D1 T g i).2.2.2 d
noncomputable def Dq(T:D4)(g n i:Nat)(tm:Ah)(h:Aa):Aa:=(h.new (.deferred true)).new (Bv T g n i tm .ready none h.next)
section
variable {T:D4}{g n i l d:Nat}{tm:Ah}{h:Aa}{st:LoopState}{p:Option Code}{Q:EV->Aa->Prop}
theorem U6:(Dq T g n i tm h).get (h.next+1)=some (Bv T g n i tm .ready none h.next):=Ae _ _
theorem Ww:(Dq T g n i tm h).get h.next=some (.deferred true):=by
 unfold Dq
 rw[Bm _ (Nat.lt_succ_self _)];exact Ae _ _
theorem Wl:Ext h (Dq T g n i tm h):=(A4.new _ _).Hy _
theorem Ajv:(Dq T g n i tm h).next=h.next+2:=rfl
theorem Ant {kk:Aa->R}(hg:h.get l=some (Bv T g n i tm .ready p d)):I0 l h kk=kk (h.put l (Bv T g n i tm .busy p d)):=by
 unfold I0;rw[hg];rfl
theorem Ai2 {b:Bool}{st':LoopState}{j:Option Code}(hg:h.get l=some (Bv T g n i tm st p d)):Ao6 l b st' j h=some (.bool b,h.put l (Bv T g n i tm st' j d)):=by
 unfold Ao6 Bw;rw[hg];rfl
theorem Ok.range {c:Ac}{q:Nat}{caps:List EV}{ds:List Nat}{k:Aa->List Nat->R}{ex:Nat->Aa->List Nat->R}{ret:Aa->List Nat->R}
 (hc:Ok (c q (.Vv (h.next+1)::caps) (Dq T g n i tm h)) fun _ h'=>
  (h'.get (h.next+1)=some (Bv T g n i tm .ready none h.next)/\Ok (k (h'.put (h.next+1) (Bv T g n i tm .exhausted none h.next)) (h.next::ds)) Q) \/
  (h'.get (h.next+1)=some (Bv T g n i tm .done (some .ret) h.next)/\Ok (ret (h'.put (h.next+1) (Bv T g n i tm .exhausted (some .ret) h.next)) (h.next::ds)) Q)) :
 Ok (Abc c T g n i (.func q [] caps) tm h ds k ex ret) Q:=by
 obtain⟨v,h',e,hh⟩:=hc
 have:Abc c T g n i (.func q [] caps) tm h ds k ex ret=A2y (h.next+1) (c q (.Vv (h.next+1)::caps) (Dq T g n i tm h)) (fun h'=>k h' (h.next::ds)) (fun id h'=>ex id h' (h.next::ds)) (fun h'=>ret h' (h.next::ds)):=rfl
 rw[this,e]
 unfold A2y
 simp only
 rcases hh with ⟨a,b⟩|⟨a,b⟩
 ·rw[a];exact b
 ·rw[a];exact b
theorem Ok.unwind:∀ {ds:List Nat} {h:Aa} {k:Aa->R},ds.Nodup->(∀ d ∈ ds,h.get d=some (.deferred true))->HB h->(∀ h',A4 (fun i=>i ∈ ds) h h'->h'.next=h.next->Ok (k h') Q)->Ok (F0 ds h k) Q
 | [],h,k,_,_,_,hk=>hk h (A4.refl _) rfl
 | d::ds,h,k,hn,hd,hb,hk=>by
  obtain⟨hn1,hn2⟩:=List.nodup_cons.1 hn
  have hd0:=hd d List.mem_cons_self
  have ld:=hb _ _ hd0
  have e:F0 (d::ds) h k=F0 ds (h.put d (.deferred false)) k:=by
   show (match h.get d with|some (.deferred true)=>F0 ds (h.put d (.deferred false)) k|_=>none)=_
   rw[hd0]
  rw[e]
  refine Ok.unwind hn2 (fun x hx=>?_) (hb.put ld _) fun h' c n=>hk h' ?_ (by rw[n];rfl)
  ·rw[Ar _ (fun y=>hn1 (by rw[y];exact hx))];exact hd x (List.mem_cons_of_mem _ hx)
  ·exact((A4.refl h).A8 (S:=fun i=>i ∈ d::ds) (.inl List.mem_cons_self) ld _).trans (c.mono fun i hi=>List.mem_cons_of_mem _ hi)
end
structure Kp(S:Nat->Prop)(h0 h:Aa):Prop where
 chg:A4 S h0 h
 same:∀ i,i<h0.next->h.get i=h0.get i
theorem Ext.kp {S:Nat->Prop}{h0 h:Aa}(x:Ext h0 h):Kp S h0 h:=⟨Ext.to x,fun i hi=>x.get i hi id⟩
theorem Kp.A8 {S:Nat->Prop}{h0 h:Aa}(x:Kp S h0 h){i:Nat}(hi:h0.next<=i)(hn:i<h.next)(o:Cn):Kp S h0 (h.put i o):=
 ⟨x.chg.A8 (.inr hi) hn o,fun j hj=>by rw[Ar _ (by omega)];exact x.same j hj⟩
theorem Kp.at {S:Nat->Prop}{h0 h:Aa}(x:Kp S h0 h)(hb:HB h0){i:Nat}{o:Cn}(g:h0.get i=some o):h.get i=some o:=by rw[x.same i (hb _ _ g)];exact g
theorem Kp.Asz {S T:Nat->Prop}{a b c:Aa}(x:Kp S a b)(y:A4 T b c)(st:∀ i,T i->a.next<=i):Kp S a c:=
 ⟨x.chg.then y fun i hi hl=>by have:=st i hi;omega,fun i hi=>by rw[y.get i (Nat.lt_of_lt_of_le hi x.chg.next) fun hT=>by have:=st i hT;omega,x.same i hi]⟩
end Go.Ev

namespace Go.Ev
open Go.Proofs
set_option maxRecDepth 10000
variable {K:Nat}
def Af0(ps:Nat->List Int)(n:Nat)(d:Int):Nat:=if 0<=d/\d<n then (ps d.toNat).length else 0
theorem Age {h:Aa}{q c cap:Nat}{buf:List EV}(hq:h.get q=some (.cells [.chan c] 218))(hc:h.get c=some (.chan cap buf)):Cf K (.ptr q 0) h=some (I buf.length,h):=by
 simp only[Cf,Ab,B2 hq rfl]
 have:Aou (.chan c) h=some (I buf.length,h):=by
  show (match h.get c with|some (.chan _ buf)=>some (EV.int .i64 (.ofNat (len buf)),h)|_=>none)=_
  rw[hc];simp only;rw[Oj];rfl
 rw[this];rfl
section
variable {h:Aa}{p ql n:Nat}{q c:Nat->Nat}{g:Gm}{ps:Nat->List Int}(P:Dj h p ql n q c g ps)
include P
theorem Dj.rowAt:B0 h (.slice ql 0 n n true) ql 153 1 n ((List.range n).map fun d=>.ptr (q d) 0):=.inr ⟨P.pos,rfl,P.row,by simp⟩
theorem Dj.list(k:EV->R):Am (.ptr p 6) h k=k (.slice ql 0 n n true):=by rw[B2 P.Ft rfl];rfl
theorem Dj.Ay8(k:EV->R):B8 6 (.ptr p 0) h k=k (gV g):=by rw[F4 P.Ft rfl];rfl
theorem Dj.Arp {d:Nat}(hd:d<n)(k:EV->R):Am (.ptr ql (d*1)) h k=k (.ptr (q d) 0):=by
 rw[B2 P.row rfl,Nat.mul_one,List.getElem?_map,List.getElem?_range hd];rfl
theorem Dj.len {d:Nat}(hd:d<n):Cf K (.ptr (q d) 0) h=some (I (ps d).length,h):=by
 rw[Age (P.que d hd) (P.chan d hd),List.length_map]
theorem Amb(d:Int):L0 K (.ptr p 0) (I d) h=some (I (Af0 ps n d:Nat),h):=by
 unfold Af0
 simp only[L0,I,Ad,Ab]
 by_cases h1:d<0
 ·simp only[h1,decide_true,Ab,Ad,Lr]
  rw[if_neg (by omega)];rfl
 ·simp only[h1,decide_false,Ab,Ad,P.list,Lr]
  by_cases h2:(n:Int)<=d
  ·simp only[h2,decide_true,Ab]
   rw[if_neg (by omega)];rfl
  ·simp only[h2,decide_false,Ab,Ur,P.list]
   have hd:d.toNat<n:=by omega
   have e:d=(d.toNat:Int):=by omega
   rw[e,P.rowAt.ix hd]
   simp only[Ab,P.Arp hd]
   rw[P.len hd,Bf,if_pos (by omega)];rfl
end
def Ar4(ps:Nat->List Int)(Nr:Int)(b:Int)(d:Nat):Int:=if ¬ (d:Int)=Nr/\(b<0\/(ps b.toNat).length<(ps d).length) then d else b
def Dz(ps:Nat->List Int)(Nr:Int)(n:Nat):Int:=(List.range n).foldl (Ar4 ps Nr) (-1)
theorem Aen(ps:Nat->List Int)(Nr:Int)(n:Nat):Dz ps Nr (n+1)=Ar4 ps Nr (Dz ps Nr n) n:=by unfold Dz;rw[List.range_succ,List.foldl_append];rfl
theorem Arc(ps:Nat->List Int)(Nr:Int):∀ n,-1<=Dz ps Nr n/\Dz ps Nr n<(n:Int)/\(Dz ps Nr n = -1\/0<=Dz ps Nr n)
 | 0=>by unfold Dz;simp
 | n+1=>by
  obtain⟨a,b,c⟩:=Arc ps Nr n
  rw[Aen];unfold Ar4
  split <;> omega
def Asf(n:Nat)(ps:Nat->List Int):Prop:=n<=64/\∀ d,d<n->(ps d).length<=4096
theorem Aot {p ql n:Nat}{q c:Nat->Nat}{g:Gm}{ps:Nat->List Int}(Nr:Int)(hn:n<=64):∀ (m i:Nat) (h:Aa),n-i<m->i<=n->HB h->Dj h p ql n q c g ps ->
 Ok (Cr K m (.ptr p 0) (I Nr) (I (Dz ps Nr i)) (.slice ql 0 n n true) (I n) (I i) h) fun v h'=>v=I (Dz ps Nr n)/\Ext h h':=by
 intro m
 induction m with
 | zero=>intro i h hm;omega
 | succ m ih=>
  intro i h hm hi hb P
  simp only[Cr,I,Ad,Ab]
  by_cases hlt:(i:Int)<n
  ·have hi':i<n:=by omega
   simp only[hlt,decide_true,Ab,Ry]
   rw[P.rowAt.ix hi',P.Arp hi']
   obtain⟨b0,b1,b2⟩:=Arc ps Nr i
   have next:∀ (b:Int) (h1:Aa),b=Dz ps Nr (i+1)->Ext h h1->Ok (Jn K (Cr K m) (.ptr p 0) (.int .i64 Nr) (.int .i64 b) (.slice ql 0 n n true) (.int .i64 (n:Int)) (.int .i64 (i:Int)) h1) fun v h'=>v=I (Dz ps Nr n)/\Ext h h':=by
    rintro _ h1 rfl x1
    simp only[Jn,Ad]
    rw[C6 (by omega) (by omega)]
    exact(ih (i+1) h1 (by omega) (by omega) (x1.hb hb) (P.ext fun i o g=>x1.at hb g)).mono fun v h' a=>⟨a.1,x1.trans a.2⟩
   rw[Aen]at next
   unfold Ar4 at next
   simp only[Ab,Ad]
   by_cases hbut:(i:Int)=Nr
   ·simp only[hbut,not_true_eq_false,decide_false,Ab,Ad,Jr,Fu,Fz]
    rw[if_neg (fun x=>x.1 hbut)]at next
    rw[hbut]at next
    exact next _ h rfl (A4.refl _)
   ·simp only[hbut,not_false_eq_true,decide_true,Ab,Ad,Jr]
    by_cases hneg:Dz ps Nr i<0
    ·simp only[hneg,decide_true,Ab,Ad,Fu,Fz]
     rw[if_pos ⟨hbut,.inl hneg⟩]at next
     exact next _ h rfl (A4.refl _)
    ·simp only[hneg,decide_false,Ab,Ad]
     refine Ok.Cs (by kernel_rfl) (by kernel_rfl) (P:=fun v h2=>v=I (ps i).length/\Ext h.lift h2) ⟨_,_,(P.ext (h':=h.lift) fun i o g=>by rw[Dg];exact g).len hi',rfl,A4.refl _⟩ (fun _ _ p=>p.2) ?_
     rintro _ h2 h3 ⟨rfl,_⟩ _ x3
     have P3:Dj h3 p ql n q c g ps:=P.ext fun i o g=>x3.at hb g
     have hp:p<h.next:=hb _ _ P.Ft
     have hq:ql<h.next:=hb _ _ P.row
     have hfn:(Dz ps Nr i).toNat<n:=by omega
     simp only[Ab,Bo,Aq hp,P3.list]
     rw[show Dz ps Nr i=((Dz ps Nr i).toNat:Int) by omega,P3.rowAt.ix hfn]
     simp only[Ab,Bo,Aq hq,P3.Arp hfn]
     refine Ok.Cs (by kernel_rfl) (by kernel_rfl) (P:=fun v h2=>v=I (ps (Dz ps Nr i).toNat).length/\Ext h3.lift h2) ⟨_,_,(P3.ext (h':=h3.lift) fun i o g=>by rw[Dg];exact g).len hfn,rfl,A4.refl _⟩ (fun _ _ p=>p.2) ?_
     rintro _ h4 h5 ⟨rfl,_⟩ _ x5
     rw[show ((Dz ps Nr i).toNat:Int)=Dz ps Nr i by omega]
     simp only[Ad,I]
     by_cases hc:((ps (Dz ps Nr i).toNat).length:Int)<(ps i).length
     ·simp only[hc,decide_true,Fu,Fz,Ab,Ad]
      rw[if_pos ⟨hbut,.inr (by omega)⟩]at next
      exact next _ h5 rfl (x3.trans x5)
     ·simp only[hc,decide_false,Fu,Fz,Ab,Ad]
      rw[if_neg (fun x=>by rcases x.2 with a|a <;> omega)]at next
      exact next _ h5 rfl (x3.trans x5)
  ·have:i=n:=by omega
   subst this
   simp only[hlt,decide_false,Ab,No]
   exact .ret ⟨rfl,A4.refl _⟩
theorem Ad3 {h:Aa}{p ql n:Nat}{q c:Nat->Nat}{g:Gm}{ps:Nat->List Int}(P:Dj h p ql n q c g ps)(hb:HB h)(hn:n<=64)(hK:1000<K)(Nr:Int):
 Ok (Gc K (.ptr p 0) (I Nr) h) fun v h'=>v=I (Dz ps Nr n)/\Ext h h':=by
 simp only[Gc,Ab,P.list]
 exact Aot Nr hn K 0 h (by omega) (by omega) hb P
def Abm(ps:Nat->List Int)(n:Nat):Nat:=((List.range n).map fun d=>(ps d).length).sum
theorem Xw(ps:Nat->List Int)(n:Nat):Abm ps (n+1)=Abm ps n+(ps n).length:=by unfold Abm;rw[List.range_succ,List.map_append,List.sum_append];simp
def Su(ps:Nat->List Int)(n:Nat):Int:=min ((Abm ps n:Int) / 2) (Abm ps n-Af0 ps n (Dz ps (-1) n))
theorem Atw {p ql n:Nat}{q c:Nat->Nat}{g:Gm}{ps:Nat->List Int}{h:Aa}(hs:Asf n ps)(hb:HB h)(P:Dj h p ql n q c g ps)(hK:1000<K):∀ (m i:Nat),n-i<m->i<=n->Abm ps i<=4096*i ->
 Ok (Ef K m (.ptr p 0) (I (Abm ps i)) (.slice ql 0 n n true) (I n) (I i) h) fun v h'=>v=I (Su ps n)/\Ext h h':=by
 obtain⟨hn,hl⟩:=hs
 intro m
 induction m with
 | zero=>intro i hm;omega
 | succ m ih=>
  intro i hm hi hsum
  simp only[Ef,I,Ad,Ab]
  by_cases hlt:(i:Int)<n
  ·have hi':i<n:=by omega
   have:=hl i hi'
   simp only[hlt,decide_true,Ab,Ul]
   rw[P.rowAt.ix hi',P.Arp hi',P.len hi',Bf]
   simp only[I,Ad,Ut]
   rw[C6 (by omega) (by omega),C6 (by omega) (by omega)]
   have e:((Abm ps i:Int)+(ps i).length)=(Abm ps (i+1):Nat):=by rw[Xw];omega
   rw[e]
   exact ih (i+1) (by omega) (by omega) (by rw[Xw];omega)
  ·have:i=n:=by omega
   subst this
   simp only[hlt,decide_false,Ab,O4]
   rw[Ay3 (by omega) (by omega) (by omega)]
   refine(Ad3 P hb hn hK (-1)).Al ?_
   rintro _ h1 ⟨rfl,x1⟩
   rw[Amb (P.ext fun i o g=>x1.at hb g),Bf]
   simp only[I,Ad]
   have hle:Af0 ps i (Dz ps (-1) i)<=4096:=by
    unfold Af0
    split
    ·exact hl _ (by omega)
    ·omega
   rw[C6 (by omega) (by omega),min2,Bf]
   exact .ret ⟨rfl,x1⟩
theorem A1g {h:Aa}{p ql n:Nat}{q c:Nat->Nat}{g:Gm}{ps:Nat->List Int}(P:Dj h p ql n q c g ps)(hb:HB h)(hs:Asf n ps)(hK:1000<K):
 Ok (O1 K (.ptr p 0) h) fun v h'=>v=I (Su ps n)/\Ext h h':=by
 simp only[O1,Ab,P.list]
 exact Atw hs hb P hK K 0 (by obtain⟨a,_⟩:=hs;omega) (by omega) (by unfold Abm;simp)
end Go.Ev

namespace Go.Ev
open Go.Proofs
set_option maxRecDepth 100000
variable {K:Nat}
def Ro(D:Nat)(g:Gm)(p bl n:Nat)(a b u:Int):List EV:=[.ptr D 0]++gL g++Bp++[.ptr p 0,.slice bl 0 n n false,I a,I b,I u]
theorem X8:Bp.length=256:=by kernel_rfl
section
variable (D:Nat)(g:Gm)(p bl n:Nat)(a b u:Int)
theorem Akz:(Ro D g p bl n a b u).length=268:=by unfold Ro;simp[X8,gL]
theorem Atf:(Ro D g p bl n a b u)[0]? = some (.ptr D 0):=rfl
theorem Ayq:Oh (Ro D g p bl n a b u) 1 6=some (gL g):=by kernel_rfl
theorem Atx:Oh (Ro D g p bl n a b u) 7 256=some Bp:=by kernel_rfl
theorem Aw6:(Ro D g p bl n a b u)[263]? = some (.ptr p 0):=by kernel_rfl
theorem Az3:(Ro D g p bl n a b u)[264]? = some (.slice bl 0 n n false):=by kernel_rfl
theorem A4s:(Ro D g p bl n a b u)[265]? = some (I a):=by kernel_rfl
theorem A44:(Ro D g p bl n a b u)[266]? = some (I b):=by kernel_rfl
theorem A40:(Ro D g p bl n a b u)[267]? = some (I u):=by kernel_rfl
end
theorem X4 {h:Aa}{i t n:Nat}{l:List EV}(hg:h.get i=some (.cells l t))(hs:TT.size t=some n)(ha:TT.agg t=some true)(hl:l.length=n):H3 TT [.c (.ptr i 0) t] h=some (.agg l,h):=by
 have hr:Gq h i 0 n=some l:=by
  unfold Gq;rw[hg];simp only;rw[<-Ts];exact Av hl
 unfold H3
 simp only[Aml,hs,hr,ha]
structure Vq(h:Aa)(m D p bl n:Nat)(g:Gm)(a b u:Int)(bad:Nat->Int):Prop where
 Kb:h.get m=some (.cells (Ro D g p bl n a b u) 149)
 Aik:h.get bl=some (.cells ((List.range n).map fun z=>I (bad z)) 3)
section
variable {h:Aa}{m D p bl n:Nat}{g:Gm}{a b u:Int}{bad:Nat->Int}(M:Vq h m D p bl n g a b u bad)
include M
theorem Vq.Ct(k:EV->R):Am (.ptr m 0) h k=k (.ptr D 0):=by rw[B2 M.Kb rfl,Atf];rfl
theorem Vq.Ay8(k:EV->R):B8 6 (.ptr m 1) h k=k (gV g):=by rw[F4 M.Kb rfl,Ayq];rfl
theorem Vq.table(k:EV->R):B8 256 (.ptr m 7) h k=k Aah:=by rw[F4 M.Kb rfl,Atx];rfl
theorem Vq.Ft(k:EV->R):Am (.ptr m 263) h k=k (.ptr p 0):=by rw[B2 M.Kb rfl,Aw6];rfl
theorem Vq.A7n(k:EV->R):Am (.ptr m 264) h k=k (.slice bl 0 n n false):=by rw[B2 M.Kb rfl,Az3];rfl
theorem Vq.oa(k:EV->R):Am (.ptr m 265) h k=k (I a):=by rw[B2 M.Kb rfl,A4s];rfl
theorem Vq.ob(k:EV->R):Am (.ptr m 266) h k=k (I b):=by rw[B2 M.Kb rfl,A44];rfl
theorem Vq.ou(k:EV->R):Am (.ptr m 267) h k=k (I u):=by rw[B2 M.Kb rfl,A40];rfl
theorem Vq.ext {h':Aa}(e:∀ i o,h.get i=some o->h'.get i=some o):Vq h' m D p bl n g a b u bad:=⟨e _ _ M.Kb,e _ _ M.Aik⟩
theorem Aku:G6 K (.ptr m 0) h=some (.ptr p 0,h):=by simp only[G6,Ab,M.Ft]
theorem Aix:Gi K (.ptr m 0) h=some (.ptr D 0,h):=by simp only[Gi,Ab,M.Ct]
end
section
variable {h:Aa}{D V M zl n:Nat}{z q:Nat->Nat}{size op cnt:Int}{down:Bool}{E4 happened:EV}{marks:List (EV × EV)}{Zs:Nat->Zn}
theorem Zv(d:V4 h D V M zl n z q size op cnt down E4 happened marks Zs):Jl K (.ptr D 0) h=some (.ptr V 0,h):=by simp only[Jl,Ab,B2 d.Ct rfl]
theorem Aff(d:Iz h V zl n z q size op cnt down Zs):J1 K (.ptr V 0) h=some (I n,h):=by simp only[J1,Ab,B2 d.dev rfl,I]
theorem Aq9(d:Iz h V zl n z q size op cnt down Zs):Nw K (.ptr V 0) h=some (I size,h):=by simp only[Nw,Ab,B2 d.dev rfl]
end
theorem A5n(v:EV):∀ n,rep [v] n=List.replicate n v
 | 0=>rfl
 | n+1=>by show [v]++rep [v] n=_;rw[A5n v n];rfl
theorem Arq(v:EV)(n:Nat):(List.range n).map (fun _=>v)=List.replicate n v:=by
 rw[List.map_const',List.length_range]
theorem Al7 {g:Gm}(hK:1000<K){h:Aa}(hb:HB h){D V M zl n:Nat}{z q:Nat->Nat}{size op cnt:Int}{down:Bool}{E4 happened:EV}{marks:List (EV × EV)}{Zs:Nat->Zn}(dr:V4 h D V M zl n z q size op cnt down E4 happened marks Zs):
 Ok (Yd K (.ptr D 0) (gV g) Aah h) fun v h'=>Ext h h'/\HB h'/\if rtB g=true/\g.D*g.Z=n/\g.S=size then
  ∃ m p bl ql q c,v=.tuple [.ptr m 0,I 0]/\Vq h' m D p bl n g (-1) (-1) 0 (fun _=>0)/\Dj h' p ql g.D.toNat q c g (fun _=>[])/\(h.next<=m/\h.next<=bl)/\h.next<=p/\h.next<=ql/\∀ d,d<g.D.toNat->h.next<=q d/\h.next<=c d else v=.tuple [.Dx,I 20]:=by
 have hcv:E3 72 Aah (h.new (.cells (gL g) 23))=fun(k:EV->Aa->R)=>k (.ptr (h.next+1) 0) ((h.new (.cells (gL g) 23)).new (.cells Bp 72)):=rfl
 simp only[Yd,gV,Ab,hcv]
 have g4:((h.new (.cells (gL g) 23)).new (.cells Bp 72)).get h.next=some (.cells (gL g) 23):=by rw[Bm _ (Nat.lt_succ_self _)];exact Ae _ _
 have g5:((h.new (.cells (gL g) 23)).new (.cells Bp 72)).get (h.next+1)=some (.cells Bp 72):=Ae _ _
 have x1:Ext h ((h.new (.cells (gL g) 23)).new (.cells Bp 72)):=(A4.new _ _).Hy _
 have n1:((h.new (.cells (gL g) 23)).new (.cells Bp 72)).next=h.next+2:=rfl
 generalize (h.new (.cells (gL g) 23)).new (.cells Bp 72)=h1 at g4 g5 x1 n1 ⊢
 have hb1:=x1.hb hb
 simp only[F4 g4 rfl,Av (show (gL g).length=6 from rfl),Ab]
 cases hr:rtB g with
 | false=>
  refine(Ara hr h1).Al ?_
  rintro _ h2 ⟨rfl,x2⟩
  simp only[Ab,I,Ad,show ¬ ((20:Int)=0) by decide,not_false_eq_true,decide_true,Rf,Mh]
  exact .ret ⟨x1.trans x2,x2.hb hb1,rfl⟩
 | true=>
  have s:=Adr hr
  have:=s.d0;have:=s.d1;have:=s.z0;have:=s.z1
  obtain⟨m0,m1⟩:=Un (a:=g.D) (b:=g.Z) (A:=8) (B:=64) (by omega) (by omega) (by omega) (by omega)
  refine(Apj hr hK hb1).Al ?_
  rintro _ h2 ⟨p,ql,qq,c,rfl,x2,hb2,P,nw⟩
  have k2:∀ i o,h.get i=some o->h2.get i=some o:=fun i o g=>x2.at hb1 (x1.at hb g)
  have l4:h.next<h2.next:=by have:=x2.next;omega
  have l5:h.next+1<h2.next:=by have:=x2.next;omega
  have g42:=x2.at hb1 g4
  have g52:=x2.at hb1 g5
  simp only[Ab,I,Ad,not_true_eq_false,decide_false]
  refine Ok.Cs (by kernel_rfl) (by kernel_rfl) (P:=fun v h3=>v=.ptr V 0/\Ext h2.lift h3) ⟨_,_,Zv ((dr.ext k2).ext fun i o g=>by rw[Dg];exact g),rfl,A4.refl _⟩ (fun _ _ p=>p.2) ?_
  rintro _ _ h3 ⟨rfl,_⟩ _ x3
  have hb3:=x3.hb hb2
  have k3:∀ i o,h.get i=some o->h3.get i=some o:=fun i o g=>x3.at hb2 (k2 i o g)
  refine Ok.Cs (by kernel_rfl) (by kernel_rfl) (P:=fun v h4=>v=I n/\Ext h3.lift h4) ⟨_,_,Aff ((dr.dev.ext k3).ext fun i o g=>by rw[Dg];exact g),rfl,A4.refl _⟩ (fun _ _ p=>p.2) ?_
  rintro _ _ h4 ⟨rfl,_⟩ _ x4
  have hb4:=x4.hb hb3
  have k4:∀ i o,h.get i=some o->h4.get i=some o:=fun i o g=>x4.at hb3 (k3 i o g)
  have x24:Ext h2 h4:=x3.trans x4
  have g44:=x24.at hb2 g42
  simp only[Ab,Bo,Aq l4,F4 g44 rfl,Av (show (gL g).length=6 from rfl)]
  refine Ok.Cs (by kernel_rfl) (by kernel_rfl) (P:=fun v h5=>v=I (g.D*g.Z)/\Ext h4.lift h5) ⟨_,_,Vr s _,rfl,A4.new _ _⟩ (fun _ _ p=>p.2) ?_
  rintro _ _ h5 ⟨rfl,_⟩ _ x5
  have hb5:=x5.hb hb4
  have k5:∀ i o,h.get i=some o->h5.get i=some o:=fun i o g=>x5.at hb4 (k4 i o g)
  simp only[I,Ad,Rf]
  have x25:Ext h2 h5:=x24.trans x5
  by_cases hn:(n:Int)=g.D*g.Z
  ·simp only[hn,not_true_eq_false,decide_false,Ab,Ad]
   refine Ok.Cs (by kernel_rfl) (by kernel_rfl) (P:=fun v h6=>v=.ptr V 0/\Ext h5.lift h6) ⟨_,_,Zv ((dr.ext k5).ext fun i o g=>by rw[Dg];exact g),rfl,A4.refl _⟩ (fun _ _ p=>p.2) ?_
   rintro _ _ h6 ⟨rfl,_⟩ _ x6
   have hb6:=x6.hb hb5
   have k6:∀ i o,h.get i=some o->h6.get i=some o:=fun i o g=>x6.at hb5 (k5 i o g)
   refine Ok.Cs (by kernel_rfl) (by kernel_rfl) (P:=fun v h7=>v=I size/\Ext h6.lift h7) ⟨_,_,Aq9 ((dr.dev.ext k6).ext fun i o g=>by rw[Dg];exact g),rfl,A4.refl _⟩ (fun _ _ p=>p.2) ?_
   rintro _ _ h7 ⟨rfl,_⟩ _ x7
   have hb7:=x7.hb hb6
   have x27:Ext h2 h7:=x25.trans (x6.trans x7)
   have g47:=x27.at hb2 g42
   simp only[Ab,Bo,Aq l4,B2 g47 rfl,gL,I,Ad]
   by_cases hs:size=g.S
   ·subst hs
    simp only[not_true_eq_false,decide_false,Mh,Adg,Ab]
    have g57:=x27.at hb2 g52
    have l47:h.next<h7.next:=Nat.lt_of_lt_of_le l4 x27.next
    have l57:h.next+1<h7.next:=Nat.lt_of_lt_of_le l5 x27.next
    simp only[Ab,Bo,Aq l47,Aq l57,F4 g47 rfl,F4 g57 rfl,Av (show (gL g).length=6 from rfl),Av X8]
    refine Ok.Cs (by kernel_rfl) (by kernel_rfl) (P:=fun v h8=>v=I (g.D*g.Z)/\Ext h7.lift h8) ⟨_,_,Vr s _,rfl,A4.new _ _⟩ (fun _ _ p=>p.2) ?_
    rintro _ _ h8 ⟨rfl,_⟩ _ x8
    have hb8:=x8.hb hb7
    have x28:Ext h2 h8:=x27.trans x8
    simp only[Ab,Bo,I]
    rw[<-hn]
    have hmk:Zc [.int .i64 0] 3 (.int .i64 (n:Int)) (.int .i64 (n:Int)) h8=some (.slice h8.next 0 n n false,h8.new (.cells (rep [.int .i64 0] n) 3)):=by
     show Ao (Nat.ble n n) (Ao (Nat.ble n 65536) _ none) none=_
     rw[Nat.ble_eq_true_of_le (Nat.le_refl n),Ai,Nat.ble_eq_true_of_le (by omega),Ai]
    rw[hmk,Bf,Cu (l:=Ro D g p h8.next n (-1) (-1) 0) (by kernel_rfl)]
    simp only[Ab,Bo]
    have x8':Ext h8 ((h8.new (.cells (rep [.int .i64 0] n) 3)).new (.cells (Ro D g p h8.next n (-1) (-1) 0) 149)):=(A4.new _ _).Hy _
    have hx:Ext h ((h8.new (.cells (rep [.int .i64 0] n) 3)).new (.cells (Ro D g p h8.next n (-1) (-1) 0) 149)):=(x1.trans x2).trans (x28.trans x8')
    refine .ret ⟨hx,hx.hb hb,?_⟩
    rw[if_pos (by first|exact⟨rfl,hn.symm,rfl⟩|simp[hn]|simp)]
    refine⟨h8.next+1,p,h8.next,ql,qq,c,rfl,⟨Ae _ _,?_⟩,P.ext fun i o g=>Ext.at (x28.trans x8') hb2 g,?_⟩
    ·rw[Bm _ (Nat.lt_succ_self _),Ae,A5n,Arq]
    ·have t1:=x1.next
     have t2:=x2.next
     have t3:=x28.next
     exact⟨⟨by omega,by omega⟩,by omega,by omega,fun d hd=>by have:=nw.2.2 d hd;omega⟩
   ·have hs':¬ size=g.S:=hs
    simp only[hs',not_false_eq_true,decide_true,Mh,Ab]
    have hx:Ext h h7:=(x1.trans x2).trans x27
    refine .ret ⟨hx,hx.hb hb,?_⟩
    rw[if_neg (fun x=>hs' x.2.2.symm)]
  ·simp only[hn,not_false_eq_true,decide_true,Ab,Ad,Mh]
   have hx:Ext h h5:=(x1.trans x2).trans x25
   refine .ret ⟨hx,hx.hb hb,?_⟩
   rw[if_neg (fun x=>hn x.2.1.symm)]
end Go.Ev

namespace Go.Ev
open Go.Proofs
set_option maxRecDepth 100000
variable {K:Nat}
end Go.Ev

namespace Go.Ev
open Go.Proofs
set_option maxRecDepth 10000
variable {K:Nat}
section
variable {h:Aa}{q c cap:Nat}{xs:List Int}(hq:h.get q=some (.cells [.chan c] 218))(hc:h.get c=some (.chan cap (xs.map I)))
include hq hc
theorem Ao7(x:Int)(hl:xs.length<cap):Ei K (.ptr q 0) (I x) h=some (I 0,h.put c (.chan cap ((xs++[x]).map I))):=by
 have hs:Ak2 (.chan c) (I x) h=some (.tuple [.int .i64 0,.bool false],h.put c (.chan cap ((xs++[x]).map I))):=by
  unfold Ak2 Amw
  simp only[hc,Oj,List.length_map]
  rw[Nat.ble_eq_true_of_le hl,Ai,List.map_append];rfl
 simp only[Ei,Ab,B2 hq rfl,hs,Ad,decide_true]
theorem A49(x:Int)(hl:cap<=xs.length):Ei K (.ptr q 0) (I x) h=some (I 17,h):=by
 have hs:Ak2 (.chan c) (I x) h=some (.tuple [.int .i64 (-1),.bool false],h):=by
  unfold Ak2 Amw
  simp only[hc,Oj,List.length_map]
  rw[show Nat.ble (Nat.succ xs.length) cap=false from by
   cases hb:Nat.ble (Nat.succ xs.length) cap with
   | false=>rfl
   | true=>have:=Nat.le_of_ble_eq_true hb;omega,Aw]
 simp only[Ei,Ab,B2 hq rfl,hs,Ad,show ¬ ((-1:Int)=0) by decide,decide_false]
theorem take_cons {x:Int}{r:List Int}(hx:xs=x::r):Dp K (.ptr q 0) h=some (.tuple [I x,I 0],h.put c (.chan cap (r.map I))):=by
 subst hx
 have hs:Akc (.int .i64 0) (.chan c) h=some (.tuple [.int .i64 0,.bool true,I x],h.put c (.chan cap (r.map I))):=by
  unfold Akc Amt
  simp only[hc,List.map_cons]
 simp only[Dp,Ab,B2 hq rfl,hs,Ad,decide_true]
theorem take_nil(hx:xs = []):Dp K (.ptr q 0) h=some (.tuple [I 0,I 15],h):=by
 subst hx
 have hs:Akc (.int .i64 0) (.chan c) h=some (.tuple [.int .i64 (-1),.bool false,.int .i64 0],h):=by
  unfold Akc Amt
  simp only[hc,List.map_nil]
 simp only[Dp,Ab,B2 hq rfl,hs,Ad,show ¬ ((-1:Int)=0) by decide,decide_false]
end
structure Listed(h0 h:Aa)(v:EV)(c cap:Nat)(xs:List Int)(q':Nat):Prop where
 row:B0 h v q' 3 1 xs.length (xs.map I)
 new:0<xs.length->h0.next<=q'
 chan:h.get c=some (.chan cap (xs.map I))
 chg:A4 (fun i=>i=c) h0 h
 hb:HB h
theorem Awx {h0:Aa}{q c cap:Nat}{xs:List Int}(hq0:h0.get q=some (.cells [.chan c] 218))(hc0:∃ b,h0.get c=some (.chan cap b))(hcap:xs.length<=cap)(hsm:cap<=4096)(hb0:HB h0):∀ (m j:Nat) (h:Aa) (s:EV) (q':Nat),xs.length-j<m->j<=xs.length ->
 B0 h s q' 3 1 xs.length (xs.map I)->(0<xs.length->h0.next<=q')->h.get c=some (.chan cap ((xs.take j).map I))->A4 (fun i=>i=c) h0 h->HB h ->
 Ok (Du K m (.ptr q 0) s s (I xs.length) (I j) h) fun v h'=>∃ q',Listed h0 h' v c cap xs q':=by
 obtain⟨b0,hc0⟩:=hc0
 have hqc:q ≠ c:=Bh hq0 hc0 (by simp)
 have lc:=hb0 _ _ hc0
 intro m
 induction m with
 | zero=>intro j h s q' hm;omega
 | succ m ih=>
  intro j h s q' hm hj row new hc x hb
  simp only[Du,I,Ad,Ab]
  by_cases hlt:(j:Int)<xs.length
  ·have hj':j<xs.length:=by omega
   have hq:h.get q=some (.cells [.chan c] 218):=A4.at x hb0 hq0 hqc
   have hbl:=row.block (by omega)
   simp only[hlt,decide_true,Ab,Tl]
   rw[row.ix hj',B2 hbl rfl,Nat.mul_one,List.getElem?_map,List.getElem?_eq_getElem hj',Option.map_some,I8,Ao7 hq hc xs[j] (by rw[List.length_take];omega),Bf]
   simp only[Tm,Ad]
   rw[C6 (by omega) (by omega)]
   have e:xs.take j++[xs[j]]=xs.take (j+1):=(List.take_succ_eq_append_getElem hj').symm
   rw[e]
   have lc':c<h.next:=Nat.lt_of_lt_of_le lc x.next
   have hne:q' ≠ c:=Bh hbl hc (by simp)
   exact ih (j+1) _ s q' (by omega) (by omega) (row.frame fun _=>Ar _ (Ne.symm hne)) new (Aj _ _ _) (x.A8 (.inl rfl) lc' _) (hb.put lc' _)
  ·have:j=xs.length:=by omega
   subst this
   simp only[hlt,decide_false,Ab,Oe]
   rw[List.take_length]at hc
   exact .ret ⟨q',row,new,hc,x,hb⟩
theorem Av8 {h0:Aa}{q c cap:Nat}{xs:List Int}(hq0:h0.get q=some (.cells [.chan c] 218))(hc0:∃ b,h0.get c=some (.chan cap b))(hcap:xs.length<=cap)(hsm:cap<=4096)(hb0:HB h0)(hK:5000<K):∀ (m j:Nat) (h:Aa) (s:EV) (q':Nat),xs.length-j<m->j<=xs.length ->
 B0 h s q' 3 1 j ((xs.take j).map I)->(0<j->h0.next<=q')->h.get c=some (.chan cap ((xs.drop j).map I))->A4 (fun i=>i=c) h0 h->HB h ->
 Ok (Dt K m (.ptr q 0) s (I xs.length) (I j) h) fun v h'=>∃ q',Listed h0 h' v c cap xs q':=by
 have hc0':=hc0
 obtain⟨b0,hc0⟩:=hc0
 have hqc:q ≠ c:=Bh hq0 hc0 (by simp)
 have lc:=hb0 _ _ hc0
 intro m
 induction m with
 | zero=>intro j h s q' hm;omega
 | succ m ih=>
  intro j h s q' hm hj row new hc x hb
  simp only[Dt,I,Ad,Ab]
  by_cases hlt:(j:Int)<xs.length
  ·have hj':j<xs.length:=by omega
   have hq:h.get q=some (.cells [.chan c] 218):=A4.at x hb0 hq0 hqc
   have e:xs.drop j=xs[j]::xs.drop (j+1):=List.drop_eq_getElem_cons hj'
   have lc':c<h.next:=Nat.lt_of_lt_of_le lc x.next
   simp only[hlt,decide_true,Ab,Tb]
   rw[take_cons hq hc e]
   simp only[Ab,I,Ad,decide_true]
   have row':B0 (h.put c (.chan cap ((xs.drop (j+1)).map I))) s q' 3 1 j ((xs.take j).map I):=row.frame fun hl=>Ar _ (Ne.symm (Bh (row.block hl) hc (by simp)))
   refine Q5 (z:=[.int .i64 0]) row' (hb.put lc' _) rfl rfl rfl (by omega) (by omega) ?_
   intro h2 row2 n2 c2
   have x2:A4 (fun i=>i=c) h0 (h.put c (.chan cap ((xs.drop (j+1)).map I))):=x.A8 (.inl rfl) lc' _
   have x3:A4 (fun i=>i=c) h0 h2:=x2.then c2 fun i hi hl=>by have:=new hi.1;omega
   simp only[Om,Ad]
   rw[C6 (by omega) (by omega)]
   have e2:(xs.take j).map I++EV.cells (.int .i64 xs[j])=(xs.take (j+1)).map I:=by
    rw[List.take_succ_eq_append_getElem hj',List.map_append];rfl
   rw[e2]at row2
   refine ih (j+1) _ _ _ (by omega) (by omega) row2 (fun _=>by have:=x2.next;omega) ?_ x3 (c2.hb (hb.put lc' _))
   rw[c2.get _ (by rw[Aa.Abk];exact lc') (fun hx=>by
    have:=row.block hx.1
    exact Bh this hc (by simp) hx.2.symm)]
   exact Aj _ _ _
  ·have:j=xs.length:=by omega
   subst this
   rw[List.take_length]at row
   simp only[hlt,decide_false,Ab,Oc]
   rw[row.Ho]
   rw[List.drop_length]at hc
   exact Awx hq0 hc0' hcap hsm hb0 K 0 h s q' (by omega) (by omega) row new hc x hb
theorem Amd {h0:Aa}{q c cap:Nat}{xs:List Int}(hq0:h0.get q=some (.cells [.chan c] 218))(hc0:h0.get c=some (.chan cap (xs.map I)))(hcap:xs.length<=cap)(hsm:cap<=4096)(hb0:HB h0)(hK:5000<K):
 Ok (K0 K (.ptr q 0) h0) fun v h'=>∃ q',Listed h0 h' v c cap xs q':=by
 simp only[K0]
 rw[Age hq0 hc0,Bf,List.length_map]
 exact Av8 hq0 ⟨_,hc0⟩ hcap hsm hb0 hK K 0 h0 .Ag 0 (by omega) (by omega) (.nil _ _ _ _) (fun x=>absurd x (Nat.lt_irrefl _)) hc0 (A4.refl _) hb0
theorem Listed.same {h0 h:Aa}{v:EV}{c cap:Nat}{xs:List Int}{q':Nat}(l:Listed h0 h v c cap xs q')(hc:h0.get c=some (.chan cap (xs.map I))):∀ i,i<h0.next->h.get i=h0.get i:=by
 intro i hi
 by_cases e:i=c
 ·subst e;rw[l.chan,hc]
 ·exact l.chg.get i hi e
end Go.Ev

namespace Go.Ev
open Go.Proofs
set_option maxRecDepth 10000
variable {disp:Nat->Option FT}{K:Nat}
theorem A8g:(D1 TT 49 0).2.1 = [9,10]:=by kernel_rfl
theorem A65:(D1 TT 149 0).2.1 = [19,20]:=by kernel_rfl
section
variable (H:Au disp)
include H
theorem Awc {e:Nat}(he:1<=e){h:Aa}{l0 d0 b3 b4:Nat}{tm:Ah}{z x i:Int}(hg:h.get l0=some (Bv TT 49 14 0 tm .ready none d0))(t3:tmp tm 3=.ptr b3 0)(t4:tmp tm 4=.ptr b4 0)(g3:h.get b3=some (.cells [I z] 3))(g4:h.get b4=some (.cells [.bool false] 4))(hb:HB h):
 ∃ h',Af TT disp K (e+1) true l0 [I i,I x] h=some (.bool (decide (¬ x=z)),h')/\h'.get l0=some (Bv TT 49 14 0 tm (if x=z then .done else .ready) (if x=z then some .ret else none) d0)/\h'.get b4=some (.cells [.bool (decide (x=z))] 4)/\A4 (fun j=>j=l0\/j=b4) h h'/\HB h':=by
 have hg':=hg
 unfold Bv at hg'
 rw[A8g]at hg'
 rw[Aa0 H he tm h (I i) (I x) hg',t3,t4]
 have l0l:=hb _ _ hg
 have l4l:=hb _ _ g4
 have n03:l0 ≠ b3:=Bh hg g3 (by simp[Bv])
 have n04:l0 ≠ b4:=Bh hg g4 (by simp[Bv])
 simp only[N2,Ant hg,Jw]
 have g3':(h.put l0 (Bv TT 49 14 0 tm .busy none d0)).get b3=some (.cells [I z] 3):=by rw[Ar _ n03];exact g3
 have g4':(h.put l0 (Bv TT 49 14 0 tm .busy none d0)).get b4=some (.cells [.bool false] 4):=by rw[Ar _ n04];exact g4
 have g0':(h.put l0 (Bv TT 49 14 0 tm .busy none d0)).get l0=some (Bv TT 49 14 0 tm .busy none d0):=Aj _ _ _
 have x1:A4 (fun j=>j=l0\/j=b4) h (h.put l0 (Bv TT 49 14 0 tm .busy none d0)):=(A4.refl h).A8 (.inl (.inl rfl)) l0l _
 have hb1:HB (h.put l0 (Bv TT 49 14 0 tm .busy none d0)):=hb.put l0l _
 have n1:(h.put l0 (Bv TT 49 14 0 tm .busy none d0)).next=h.next:=rfl
 generalize h.put l0 (Bv TT 49 14 0 tm .busy none d0)=h1 at g3' g4' g0' x1 hb1 n1 ⊢
 simp only[B2 g3' rfl,Ab,I,Ad]
 by_cases hx:x=z
 ·simp only[hx,decide_true,Ab,not_true_eq_false,decide_false,if_true]
  rw[Asx (o:=0) (n:=1) (v:=.bool true) (l':=[.bool true]) g4' rfl rfl rfl,Ai2 (by rw[Ar _ (Ne.symm n04)];exact g0')]
  exact⟨_,rfl,Aj _ _ _,by rw[Ar _ n04];exact Aj _ _ _,(x1.A8 (.inl (.inr rfl)) (by omega) _).A8 (.inl (.inl rfl)) (by rw[Aa.Abk];omega) _,(hb1.put (by omega) _).put (by rw[Aa.Abk];omega) _⟩
 ·simp only[hx,decide_false,Ab,not_false_eq_true,decide_true,if_false]
  rw[Ai2 g0']
  exact⟨_,rfl,Aj _ _ _,by rw[Ar _ n04];exact g4',x1.A8 (.inl (.inl rfl)) (by omega) _,hb1.put (by omega) _⟩
theorem Ayi {e:Nat}(he:2<=e){h:Aa}{l0 d0 b3 b4 l1 d1 b2 b5:Nat}{tm tm1:Ah}{z x i dd:Int}(hg:h.get l0=some (Bv TT 49 14 0 tm .ready none d0))(t3:tmp tm 3=.ptr b3 0)(t4:tmp tm 4=.ptr b4 0)(g3:h.get b3=some (.cells [I z] 3))(g4:h.get b4=some (.cells [.bool false] 4))
 (hg1:h.get l1=some (Bv TT 149 27 0 tm1 .ready none d1)) (u2:tmp tm1 2=.ptr b2 0) (u3:tmp tm1 3=.ptr b5 0) (g2:h.get b2=some (.cells [.Vv l0] 142)) (g5:h.get b5=some (.cells [I dd] 3)) (hb:HB h) :
 ∃ h',Af TT disp K (e+1) true l1 [I i,I x] h=some (.bool (decide (¬ x=z)),h')/\h'.get l0=some (Bv TT 49 14 0 tm (if x=z then .done else .ready) (if x=z then some .ret else none) d0)/\h'.get l1=some (Bv TT 149 27 0 tm1 (if x=z then .done else .ready) (if x=z then some .ret else none) d1) /\
  h'.get b4=some (.cells [.bool (decide (x=z))] 4)/\A4 (fun j=>j=l0\/j=b4\/j=l1) h h'/\HB h':=by
 obtain⟨e,rfl⟩:∃ k,e=k+1:=⟨e-1,by omega⟩
 have hg':=hg1
 unfold Bv at hg'
 rw[A65]at hg'
 rw[Yc H (by omega) tm1 h (I i) (I x) hg',u2,u3]
 have l1l:=hb _ _ hg1
 have n10:l1 ≠ l0:=Bh hg1 hg (by simp[Bv])
 have n1c:∀ b o,h.get b=some o->(∀ st p,o ≠ Bv TT 149 27 0 tm1 st p d1)->(h.put l1 (Bv TT 149 27 0 tm1 .busy none d1)).get b=some o:=fun b o gb hn=>by
  rw[Ar _ (Bh hg1 gb (fun x=>hn _ _ x.symm))];exact gb
 simp only[Lh,Ant hg1,Ic]
 have q0:=n1c _ _ hg (by intros;simp[Bv])
 have q2:=n1c _ _ g2 (by intros;simp[Bv])
 have q3:=n1c _ _ g3 (by intros;simp[Bv])
 have q4:=n1c _ _ g4 (by intros;simp[Bv])
 have q5:=n1c _ _ g5 (by intros;simp[Bv])
 have q1:(h.put l1 (Bv TT 149 27 0 tm1 .busy none d1)).get l1=some (Bv TT 149 27 0 tm1 .busy none d1):=Aj _ _ _
 have x1:A4 (fun j=>j=l0\/j=b4\/j=l1) h (h.put l1 (Bv TT 149 27 0 tm1 .busy none d1)):=(A4.refl h).A8 (.inl (.inr (.inr rfl))) l1l _
 have hb1:HB (h.put l1 (Bv TT 149 27 0 tm1 .busy none d1)):=hb.put l1l _
 have n1:(h.put l1 (Bv TT 149 27 0 tm1 .busy none d1)).next=h.next:=rfl
 generalize h.put l1 (Bv TT 149 27 0 tm1 .busy none d1)=h1 at q0 q1 q2 q3 q4 q5 x1 hb1 n1 ⊢
 simp only[B2 q2 rfl,B2 q5 rfl,Ab]
 have hc:V2 (Af TT disp K (e+1) false) (Af TT disp K (e+1) true) (.Vv l0) [I dd,I x] h1=Af TT disp K (e+1) true l0 [I dd,I x] h1:=rfl
 rw[hc]
 obtain⟨h2,r1,r2,r3,r4,r5⟩:=Awc (K:=K) H (e:=e) (by omega) (i:=dd) (x:=x) q0 t3 t4 q3 q4 hb1
 rw[r1,Bf]
 have q12:h2.get l1=some (Bv TT 149 27 0 tm1 .busy none d1):=A4.at r4 hb1 q1 (fun y=>by
  rcases y with y|y
  ·exact n10 y
  ·exact Bh q1 q4 (by simp[Bv]) y)
 have n2:=r4.next
 have x2:A4 (fun j=>j=l0\/j=b4\/j=l1) h h2:=x1.trans (r4.mono fun j hj=>hj.elim .inl (fun y=>.inr (.inl y)))
 by_cases hx:x=z
 ·simp only[hx,not_true_eq_false,decide_false,decide_true,if_true]at r2 r3 ⊢
  simp only[Ab]
  rw[Ai2 q12]
  refine⟨_,rfl,?_,Aj _ _ _,?_,x2.A8 (.inl (.inr (.inr rfl))) (by omega) _,r5.put (by omega) _⟩
  ·rw[Ar _ n10];exact r2
  ·rw[Ar _ (Bh q12 r3 (by simp[Bv]))];exact r3
 ·simp only[hx,not_false_eq_true,decide_false,decide_true,if_false]at r2 r3 ⊢
  simp only[Ab]
  rw[Ai2 q12]
  refine⟨_,rfl,?_,Aj _ _ _,?_,x2.A8 (.inl (.inr (.inr rfl))) (by omega) _,r5.put (by omega) _⟩
  ·rw[Ar _ n10];exact r2
  ·rw[Ar _ (Bh q12 r3 (by simp[Bv]))];exact r3
end
end Go.Ev

namespace Go.Ev
open Go.Proofs
set_option maxRecDepth 10000
variable {disp:Nat->Option FT}{K:Nat}
structure Atc(h:Aa)(l0 d0:Nat)(tm:Ah)(b3 b4:Nat)(z:Int)(b2:Nat)(found:Bool):Prop where
 lp:h.get l0=some (Bv TT 49 14 0 tm (if found then .done else .ready) (if found then some .ret else none) d0)
 c3:h.get b3=some (.cells [I z] 3)
 c4:h.get b4=some (.cells [.bool found] 4)
 c2:h.get b2=some (.cells [.Vv l0] 142)
 hb:HB h
structure A0f(tm:Ah)(b3 b4:Nat):Prop where
 t3:tmp tm 3=.ptr b3 0
 t4:tmp tm 4=.ptr b4 0
section
variable (H:Au disp){l0 d0:Nat}{tm:Ah}{b3 b4:Nat}{z:Int}{b2:Nat}(T0:A0f tm b3 b4){l1 d1:Nat}{tm1:Ah}{b5:Nat}{dd:Int}(u2:tmp tm1 2=.ptr b2 0)(u3:tmp tm1 3=.ptr b5 0)
include H T0 u2 u3
theorem Axd {e:Nat}(he:3<=e){xs:List Int}(hn:xs.length<=4096):∀ (m i:Nat) (h:Aa) (s:EV) (q':Nat),xs.length-i<m->i<=xs.length->Atc h l0 d0 tm b3 b4 z b2 false->h.get l1=some (Bv TT 149 27 0 tm1 .ready none d1)->h.get b5=some (.cells [I dd] 3) ->
 B0 h s q' 3 1 xs.length (xs.map I)->(xs.take i).contains z=false ->
 Ok (Db (Af TT disp K e false) (Af TT disp K e true) K m (.Vv l1) s (I xs.length) (I i) h) fun v h'=>v=.tuple []/\Atc h' l0 d0 tm b3 b4 z b2 (xs.contains z)/\h'.get l1=some (Bv TT 149 27 0 tm1 (if xs.contains z then .done else .ready) (if xs.contains z then some .ret else none) d1)/\A4 (fun j=>j=l0\/j=b4\/j=l1) h h':=by
 intro m
 induction m with
 | zero=>intro i h s q' hm;omega
 | succ m ih=>
  intro i h s q' hm hi L g1 g5 row hno
  simp only[Db,I,Ad,Ab]
  by_cases hlt:(i:Int)<xs.length
  ·have hi':i<xs.length:=by omega
   have hbl:=row.block (by omega)
   simp only[hlt,decide_true,Ab,Sh]
   rw[row.ix hi',B2 hbl rfl,Nat.mul_one,List.getElem?_map,List.getElem?_eq_getElem hi',Option.map_some,I8]
   obtain⟨e,rfl⟩:∃ k,e=k+1:=⟨e-1,by omega⟩
   have hc:V2 (Af TT disp K (e+1) false) (Af TT disp K (e+1) true) (.Vv l1) [I i,I xs[i]] h=Af TT disp K (e+1) true l1 [I i,I xs[i]] h:=rfl
   obtain⟨h2,r1,r2,r3,r4,r5,r6⟩:=Ayi (K:=K) H (e:=e) (by omega) (i:=i) (x:=xs[i]) L.lp T0.t3 T0.t4 L.c3 L.c4 g1 u2 u3 L.c2 g5 L.hb
   have hgo:∀ k:EV->Aa->R,Al (V2 (Af TT disp K (e+1) false) (Af TT disp K (e+1) true) (.Vv l1) [.int .i64 (i:Int),I xs[i]] h) k=k (.bool (decide (¬ xs[i]=z))) h2:=fun k=>by
    have:V2 (Af TT disp K (e+1) false) (Af TT disp K (e+1) true) (.Vv l1) [.int .i64 (i:Int),I xs[i]] h=some (.bool (decide (¬ xs[i]=z)),h2):=hc.trans r1
    rw[this,Bf]
   rw[hgo]
   have keep:∀ b o,h.get b=some o->(∀ st p,o ≠ Bv TT 49 14 0 tm st p d0)->(∀ st p,o ≠ Bv TT 149 27 0 tm1 st p d1)->(∀ v,o ≠ .cells [v] 4)->h2.get b=some o:=fun b o gb n0 n1 n4=>A4.at r5 L.hb gb fun y=>by
    rcases y with rfl|rfl|rfl
    ·rw[L.lp]at gb;cases gb;exact n0 _ _ rfl
    ·rw[L.c4]at gb;cases gb;exact n4 _ rfl
    ·rw[g1]at gb;cases gb;exact n1 _ _ rfl
   have k3:=keep _ _ L.c3 (by intros;simp[Bv]) (by intros;simp[Bv]) (by intros;simp)
   have k2:=keep _ _ L.c2 (by intros;simp[Bv]) (by intros;simp[Bv]) (by intros;simp)
   have k5:=keep _ _ g5 (by intros;simp[Bv]) (by intros;simp[Bv]) (by intros;simp)
   by_cases hx:xs[i]=z
   ·have hct:xs.contains z=true:=by
     rw[List.contains_iff_mem,<-hx];exact List.getElem_mem hi'
    simp only[hx,if_true,decide_true]at r2 r3 r4
    simp only[hx,not_true_eq_false,decide_false,Ab]
    exact .ret ⟨rfl,by rw[hct];exact⟨r2,k3,r4,k2,r6⟩,by rw[hct];exact r3,r5⟩
   ·simp only[hx,if_false,decide_false]at r2 r3 r4
    simp only[hx,not_false_eq_true,decide_true,Ab,R9,Ad]
    rw[C6 (by omega) (by omega)]
    have hrow2:B0 h2 s q' 3 1 xs.length (xs.map I):=row.frame fun _=>by
     rw[keep _ _ hbl (by intros;simp[Bv]) (by intros;simp[Bv]) (by intros;simp),hbl]
    have hno2:(xs.take (i+1)).contains z=false:=by
     rw[List.take_succ_eq_append_getElem hi']
     simp only[List.contains_eq_mem,List.mem_append,List.mem_singleton,decide_eq_false_iff_not]at hno ⊢
     intro y
     rcases y with y|y
     ·exact hno y
     ·exact hx y.symm
    refine(ih (i+1) h2 s q' (by omega) (by omega) ⟨r2,k3,r4,k2,r6⟩ r3 k5 hrow2 hno2).mono ?_
    rintro v h' ⟨a1,a2,a3,a4⟩
    exact⟨a1,a2,a3,r5.trans a4⟩
  ·have:i=xs.length:=by omega
   subst this
   simp only[hlt,decide_false,Ab]
   rw[List.take_length]at hno
   exact .ret ⟨rfl,by rw[hno];exact L,by rw[hno];exact g1,A4.refl _⟩
theorem A25 {e:Nat}(he:3<=e)(hK:5000<K){h:Aa}{b6 q c cap:Nat}{xs:List Int}(g6:h.get b6=some (.cells [.ptr q 0] 153))(hq:h.get q=some (.cells [.chan c] 218))(hc:h.get c=some (.chan cap (xs.map I)))(hcap:xs.length<=cap)(hsm:cap<=4096)
 (L:Atc h l0 d0 tm b3 b4 z b2 false) (g1:h.get l1=some (Bv TT 149 27 0 tm1 .ready none d1)) (g5:h.get b5=some (.cells [I dd] 3)) :
 Ok (Af TT disp K (e+1) false 190 [.Vv l1,.ptr b6 0] h) fun v h'=>Atc h' l0 d0 tm b3 b4 z b2 (xs.contains z)/\h'.get l1=some (Bv TT 149 27 0 tm1 (if xs.contains z then .done else .ready) (if xs.contains z then some .ret else none) d1) /\
  (∀ i,i<h.next->¬ (i=l0\/i=b4\/i=l1)->h'.get i=h.get i)/\A4 (fun j=>j=c\/j=l0\/j=b4\/j=l1) h h':=by
 rw[Aae H (by omega)]
 simp only[Vl,B2 g6 rfl,Ab]
 refine(Amd hq hc hcap hsm L.hb hK).Al ?_
 rintro s h1 ⟨q',Li⟩
 rw[Li.row.Ho]
 have same:=Li.same hc
 have at1:∀ i o,h.get i=some o->h1.get i=some o:=fun i o g=>by rw[same i (L.hb _ _ g)];exact g
 have L1:Atc h1 l0 d0 tm b3 b4 z b2 false:=⟨at1 _ _ L.lp,at1 _ _ L.c3,at1 _ _ L.c4,at1 _ _ L.c2,Li.hb⟩
 refine(Axd (K:=K) H T0 u2 u3 he (by omega) K 0 h1 s q' (by omega) (by omega) L1 (at1 _ _ g1) (at1 _ _ g5) Li.row (by simp)).mono ?_
 rintro v h' ⟨_,a2,a3,a4⟩
 refine⟨a2,a3,fun i hi hn=>by rw[a4.get i (Nat.lt_of_lt_of_le hi Li.chg.next) hn,same i hi],?_⟩
 exact(Li.chg.mono fun i hi=>.inl hi).trans (a4.mono fun i hi=>.inr hi)
end
end Go.Ev

namespace Go.Ev
open Go.Proofs
set_option maxRecDepth 10000
variable {disp:Nat->Option FT}{K:Nat}
def hasB(ps:Nat->List Int)(n:Nat)(z:Int):Bool:=(List.range n).any fun d=>(ps d).contains z
theorem Ax3(ps:Nat->List Int)(n:Nat)(z:Int):hasB ps (n+1) z=(hasB ps n z || (ps n).contains z):=by
 unfold hasB;rw[List.range_succ,List.any_append];simp
theorem Agv {ps:Nat->List Int}{n:Nat}{z:Int}:hasB ps n z=true ↔ ∃ d,d<n/\z ∈ ps d:=by
 unfold hasB;simp
theorem A14 {ps:Nat->List Int}{n d:Nat}{z:Int}(hd:d<n)(h:(ps d).contains z=true):hasB ps n z=true:=Agv.2 ⟨d,hd,List.contains_iff_mem.1 h⟩
structure Mid(h0 h:Aa)(C:Nat->Prop)(l0 d0:Nat)(tm:Ah)(b3 b4:Nat)(z:Int)(b2:Nat)(found:Bool):Prop where
 kp:Kp C h0 h
 look:Atc h l0 d0 tm b3 b4 z b2 found
 cd:h.get d0=some (.deferred true)
 n0:h0.next<=l0
 n4:h0.next<=b4
 nd:h0.next<=d0
section
variable (H:Au disp){h0:Aa}{p ql n:Nat}{q c:Nat->Nat}{g:Gm}{ps:Nat->List Int}(P:Dj h0 p ql n q c g ps)(hb0:HB h0)(hps:∀ d,d<n->(ps d).length<=g.Z.toNat)(hZ:g.Z<=4096)(hn:n<=64)
variable {l0 d0:Nat}{tm:Ah}{b3 b4:Nat}{z:Int}{b2:Nat}(T0:A0f tm b3 b4)
include H P hb0 hps hZ hn T0
theorem Azb {e:Nat}(he:4<=e)(hK:5000<K):∀ (m i:Nat) (h:Aa) (t1:Ah) (ds:List Nat),n-i<m->i<=n->Mid h0 h (fun x=>∃ d,d<n/\x=c d) l0 d0 tm b3 b4 z b2 false->tmp t1 2=.ptr b2 0 ->
 ds.Nodup->(∀ d ∈ ds,h.get d=some (.deferred true)/\h0.next<=d/\d ≠ d0)->hasB ps i z=false ->
 Ok (G1 (Af TT disp K e false) (Af TT disp K e true) K m t1 (.slice ql 0 n n true) (I n) (I i) h ds) fun v h'=>Mid h0 h' (fun x=>∃ d,d<n/\x=c d) l0 d0 tm b3 b4 z b2 (hasB ps n z):=by
 intro m
 induction m with
 | zero=>intro i h t1 ds hm;omega
 | succ m ih=>
  intro i h t1 ds hm hi M u2 hnd hds hno
  have fin:∀ (h2:Aa) (dl:List Nat) (found:Bool),found=hasB ps n z->Mid h0 h2 (fun x=>∃ d,d<n/\x=c d) l0 d0 tm b3 b4 z b2 found->dl.Nodup->(∀ d ∈ dl,h2.get d=some (.deferred true)/\h0.next<=d/\d ≠ d0) ->
   Ok (F0 dl h2 fun h=>some (EV.tuple [],h)) fun v h'=>Mid h0 h' (fun x=>∃ d,d<n/\x=c d) l0 d0 tm b3 b4 z b2 (hasB ps n z):=by
   rintro h2 dl found rfl M2 hd1 hd2
   refine Ok.unwind hd1 (fun d hd=>(hd2 d hd).1) M2.look.hb fun h3 ch hn3=>.ret ?_
   have nk:∀ b o,h2.get b=some o->o ≠ .deferred true->¬ (b ∈ dl):=fun b o gb hne hb=>by rw[(hd2 b hb).1]at gb;cases gb;exact hne rfl
   have a:∀ b o,h2.get b=some o->o ≠ .deferred true->h3.get b=some o:=fun b o gb hne=>A4.at ch M2.look.hb gb (nk b o gb hne)
   refine⟨M2.kp.Asz ch fun i hi=>(hd2 i hi).2.1,⟨a _ _ M2.look.lp (by simp[Bv]),a _ _ M2.look.c3 (by simp),a _ _ M2.look.c4 (by simp),a _ _ M2.look.c2 (by simp),ch.hb M2.look.hb⟩,A4.at ch M2.look.hb M2.cd (fun y=>(hd2 _ y).2.2 rfl),M2.n0,M2.n4,M2.nd⟩
  simp only[G1,I,Ad,Ab]
  by_cases hlt:(i:Int)<n
  ·have hi':i<n:=by omega
   have at0:∀ b o,h0.get b=some o->h.get b=some o:=fun b o gb=>M.kp.at hb0 gb
   have P1:=P.ext at0
   simp only[hlt,decide_true,Ab,Ln]
   rw[P1.rowAt.ix hi',P1.Arp hi']
   try simp only[Ab]
   refine Ok.st1 (Ae _ _) rfl rfl (by show 0<1;decide) ?_
   have hnx:=M.kp.chg.next
   have x1:Ext h ((h.new (.cells [.int .i64 0] 3)).put h.next (.cells [EV.int .i64 (i:Int)] 3)):=(A4.new _ _:Ext h _).A8 (.inr (Nat.le_refl _)) (Nat.lt_succ_self _) _
   have g5:((h.new (.cells [.int .i64 0] 3)).put h.next (.cells [EV.int .i64 (i:Int)] 3)).get h.next=some (.cells [I i] 3):=Aj _ _ _
   simp only[List.set]
   generalize (h.new (.cells [.int .i64 0] 3)).put h.next (.cells [EV.int .i64 (i:Int)] 3)=h1 at x1 g5 ⊢
   have hb1:=x1.hb M.look.hb
   have hn1:=x1.next
   simp only[Sq,Ab]
   have x2:Ext h (h1.new (.cells [.ptr (q i) 0] 153)):=x1.Hy _
   have g6:(h1.new (.cells [.ptr (q i) 0] 153)).get h1.next=some (.cells [.ptr (q i) 0] 153):=Ae _ _
   have g52:(h1.new (.cells [.ptr (q i) 0] 153)).get h.next=some (.cells [I i] 3):=by rw[Bm _ (hb1 _ _ g5)];exact g5
   have n2:h1.next<(h1.new (.cells [.ptr (q i) 0] 153)).next:=Nat.lt_succ_self _
   generalize h1.new (.cells [.ptr (q i) 0] 153)=h2 at x2 g6 g52 n2 ⊢
   have hb2:=x2.hb M.look.hb
   generalize htm:(((((((t1.put 13 (some (EV.bool true))).put 14 (some (EV.int .i64 (i:Int)))).put 15 (some (EV.ptr ql (i*1)))).put 16 (some (EV.ptr (q i) 0))).put 3 (some (EV.ptr h.next 0))).put 4 (some (EV.ptr (q i) 0))).put 17 (some (EV.ptr (q i) 0))).put 18 (some (EV.func 190 [] [EV.ptr h1.next 0]))=t2
   have v2:tmp t2 2=.ptr b2 0:=by rw[<-htm];simp only[Sa,reduceIte,Nat.reduceEqDiff,u2]
   have v3:tmp t2 3=.ptr h.next 0:=by rw[<-htm];simp only[Sa,reduceIte,Nat.reduceEqDiff]
   have v2':∀ w,tmp ((t2.put 26 (some w)).put 12 (some w)) 2=.ptr b2 0:=fun w=>by simp only[Sa,reduceIte,Nat.reduceEqDiff,v2]
   clear htm
   refine Ok.range ?_
   have x3:Ext h (Dq TT 149 27 0 t2 h2):=x2.trans Wl
   have hb3:=x3.hb M.look.hb
   have at3:∀ b o,h.get b=some o->(Dq TT 149 27 0 t2 h2).get b=some o:=fun b o gb=>x3.at M.look.hb gb
   have at23:∀ b o,h2.get b=some o->(Dq TT 149 27 0 t2 h2).get b=some o:=fun b o gb=>Ext.at Wl hb2 gb
   have L3:Atc (Dq TT 149 27 0 t2 h2) l0 d0 tm b3 b4 z b2 false:=⟨at3 _ _ M.look.lp,at3 _ _ M.look.c3,at3 _ _ M.look.c4,at3 _ _ M.look.c2,hb3⟩
   have P3:=P1.ext at3
   obtain⟨e,rfl⟩:∃ k,e=k+1:=⟨e-1,by omega⟩
   refine(A25 (K:=K) H T0 (l1:=h2.next+1) (d1:=h2.next) v2 v3 (e:=e) (by omega) hK (at23 _ _ g6) (P3.que i hi') (P3.chan i hi') (hps i hi') (by omega) L3 U6 (at23 _ _ g52)).mono ?_
   rintro v h4 ⟨L4,gl4,same4,ch4⟩
   have hn4:=ch4.next
   have hl1:h2.next+1<(Dq TT 149 27 0 t2 h2).next:=by rw[Ajv];omega
   have hk4:Kp (fun x=>∃ d,d<n/\x=c d) h0 h4:=by
    refine⟨(M.kp.chg.trans (Ext.to x3)).then ch4 ?_,fun j hj=>?_⟩
    ·rintro j (rfl|rfl|rfl|rfl) hl
     ·exact⟨i,hi',rfl⟩
     ·have:=M.n0;omega
     ·have:=M.n4;omega
     ·have:=x2.next;omega
    ·have hj3:j<(Dq TT 149 27 0 t2 h2).next:=by have:=x3.next;omega
     rw[same4 j hj3 (by rintro(rfl|rfl|rfl) <;> (have:=M.n0;have:=M.n4;have:=x2.next;omega)),x3.get j (by omega) id]
     exact M.kp.same j hj
   have gd4:h4.get h2.next=some (.deferred true):=by
    rw[same4 _ (by omega) ?_]
    ·exact Ww
    ·rintro(y|y|y)
     ·have:=M.look.hb _ _ M.look.lp;omega
     ·have:=M.look.hb _ _ M.look.c4;omega
     ·omega
   have keep4:∀ d,h.get d=some (.deferred true)->h4.get d=some (.deferred true):=fun d gd=>by
    have gd3:=at3 _ _ gd
    rw[same4 d (hb3 _ _ gd3) ?_]
    ·exact gd3
    ·rintro(rfl|rfl|rfl)
     ·rw[M.look.lp]at gd;cases gd
     ·rw[M.look.c4]at gd;cases gd
     ·have:=M.look.hb _ _ gd;omega
   have hnl:∀ o,h4.get (h2.next+1)=some o->∀ b o',h4.get b=some o'->(∀ st p,o' ≠ Bv TT 149 27 0 t2 st p h2.next)->b ≠ h2.next+1:=by
    intro o ho b o' hb' hne e'
    subst e'
    rw[gl4]at hb';cases hb';exact hne _ _ rfl
   have mid:∀ (p5:Option Code),Mid h0 (h4.put (h2.next+1) (Bv TT 149 27 0 t2 .exhausted p5 h2.next)) (fun x=>∃ d,d<n/\x=c d) l0 d0 tm b3 b4 z b2 ((ps i).contains z):=by
    intro p5
    have lt1:h2.next+1<h4.next:=by omega
    have pn:∀ b o',h4.get b=some o'->(∀ st p,o' ≠ Bv TT 149 27 0 t2 st p h2.next)->(h4.put (h2.next+1) (Bv TT 149 27 0 t2 .exhausted p5 h2.next)).get b=some o':=fun b o' hb' hne=>by
     rw[Ar _ (Ne.symm (hnl _ gl4 b o' hb' hne))];exact hb'
    refine⟨hk4.A8 (by have:=x2.next;omega) lt1 _,⟨pn _ _ L4.lp (by intros;simp[Bv]),pn _ _ L4.c3 (by intros;simp[Bv]),pn _ _ L4.c4 (by intros;simp[Bv]),pn _ _ L4.c2 (by intros;simp[Bv]),L4.hb.put lt1 _⟩,pn _ _ (keep4 _ M.cd) (by intros;simp[Bv]),M.n0,M.n4,M.nd⟩
   have dsok:∀ (p5:Option Code),∀ d ∈ h2.next::ds,(h4.put (h2.next+1) (Bv TT 149 27 0 t2 .exhausted p5 h2.next)).get d=some (.deferred true)/\h0.next<=d/\d ≠ d0:=by
    intro p5 d hd
    rcases List.mem_cons.1 hd with rfl|hd
    ·exact⟨by rw[Ar _ (by omega)];exact gd4,by have:=x2.next;omega,by have:=M.look.hb _ _ M.cd;omega⟩
    ·obtain⟨a,b,c'⟩:=hds d hd
     exact⟨by rw[Ar _ (by have:=M.look.hb _ _ a;omega)];exact keep4 _ a,b,c'⟩
   have nd2:(h2.next::ds).Nodup:=List.nodup_cons.2 ⟨fun hd=>by have:=M.look.hb _ _ (hds _ hd).1;omega,hnd⟩
   cases hct:(ps i).contains z with
   | true=>
    rw[hct]at gl4 mid
    refine .inr ⟨gl4,?_⟩
    exact fin _ _ true (A14 hi' hct).symm (mid _) nd2 (dsok _)
   | false=>
    rw[hct]at gl4 mid
    refine .inl ⟨gl4,?_⟩
    simp only[G7,Ad]
    rw[C6 (by omega) (by omega)]
    exact ih (i+1) _ _ _ (by omega) (by omega) (mid _) (v2' _) nd2 (dsok _) (by rw[Ax3,hno,hct];rfl)
  ·have:i=n:=by omega
   subst this
   simp only[hlt,decide_false,Ab]
   exact fin h ds false hno.symm M hnd hds
end
section
variable (H:Au disp){h0:Aa}{p ql n:Nat}{q c:Nat->Nat}{g:Gm}{ps:Nat->List Int}(P:Dj h0 p ql n q c g ps)(hb0:HB h0)(hps:∀ d,d<n->(ps d).length<=g.Z.toNat)(hZ:g.Z<=4096)(hn:n<=64)
include H P hb0 hps hZ hn
theorem A41 {d:Nat}(hd:7<=d)(hK:5000<K)(z:Int):Ok (Af TT disp K d false 49 [.ptr p 0,I z] h0) fun v h'=>v=.bool (hasB ps n z)/\Kp (fun x=>∃ d,d<n/\x=c d) h0 h'/\HB h':=by
 obtain⟨e,rfl⟩:∃ k,d=k+2:=⟨d-2,by omega⟩
 rw[Afl H (by omega)]
 simp only[Wo,I,Ab,W7]
 have x1:Ext h0 (((h0.new (.cells [.int .i64 z] 3)).new (.cells [.bool false] 4)).new (.cells [.ptr p 0] 49)):=((A4.new _ _).Hy _).Hy _
 have n1:(((h0.new (.cells [.int .i64 z] 3)).new (.cells [.bool false] 4)).new (.cells [.ptr p 0] 49)).next=h0.next+3:=rfl
 have gb:(((h0.new (.cells [.int .i64 z] 3)).new (.cells [.bool false] 4)).new (.cells [.ptr p 0] 49)).get (h0.next+2)=some (.cells [.ptr p 0] 49):=Ae _ _
 have g4:(((h0.new (.cells [.int .i64 z] 3)).new (.cells [.bool false] 4)).new (.cells [.ptr p 0] 49)).get (h0.next+1)=some (.cells [.bool false] 4):=by
  rw[Bm _ (Nat.lt_succ_self _)];exact Ae _ _
 have g3:(((h0.new (.cells [.int .i64 z] 3)).new (.cells [.bool false] 4)).new (.cells [.ptr p 0] 49)).get h0.next=some (.cells [I z] 3):=by
  rw[Bm _ (show h0.next<h0.next+2 by omega),Bm _ (show h0.next<h0.next+1 by omega)];exact Ae _ _
 have hnn:((h0.new (.cells [.int .i64 z] 3)).new (.cells [.bool false] 4)).next=h0.next+2:=rfl
 have hn3:(h0.new (.cells [.int .i64 z] 3)).next=h0.next+1:=rfl
 rw[hnn,hn3]
 generalize ((h0.new (.cells [.int .i64 z] 3)).new (.cells [.bool false] 4)).new (.cells [.ptr p 0] 49)=h1 at x1 n1 gb g4 g3 ⊢
 have hb1:=x1.hb hb0
 generalize htm:(((((Tr.nil.put 0 (some (EV.ptr p 0))).put 1 (some (EV.int .i64 z))).put 3 (some (EV.ptr h0.next 0))).put 4 (some (EV.ptr (h0.next+1) 0))).put 7 (some (EV.ptr p 0))).put 8 (some (EV.func 149 [] [EV.ptr (h0.next+2) 0]))=tm
 have T0:A0f tm h0.next (h0.next+1):=⟨by rw[<-htm];simp only[Sa,reduceIte,Nat.reduceEqDiff],by rw[<-htm];simp only[Sa,reduceIte,Nat.reduceEqDiff]⟩
 clear htm
 refine Ok.range ?_
 rw[Ac6 H (by omega)]
 simp only[Sv,Ab]
 have x2:Ext h1 (Dq TT 49 14 0 tm h1):=Wl
 have hb2:=x2.hb hb1
 have hbx:E3 142 (.Vv (h1.next+1)) (Dq TT 49 14 0 tm h1)=fun(k:EV->Aa->R)=>k (.ptr (h1.next+2) 0) ((Dq TT 49 14 0 tm h1).new (.cells [.Vv (h1.next+1)] 142)):=rfl
 rw[hbx]
 have x3:Ext h1 ((Dq TT 49 14 0 tm h1).new (.cells [.Vv (h1.next+1)] 142)):=x2.Hy _
 have k2:((Dq TT 49 14 0 tm h1).new (.cells [.Vv (h1.next+1)] 142)).get (h1.next+2)=some (.cells [.Vv (h1.next+1)] 142):=Ae _ _
 have kl:((Dq TT 49 14 0 tm h1).new (.cells [.Vv (h1.next+1)] 142)).get (h1.next+1)=some (Bv TT 49 14 0 tm .ready none h1.next):=by rw[Bm _ (hb2 _ _ U6)];exact U6
 have kd:((Dq TT 49 14 0 tm h1).new (.cells [.Vv (h1.next+1)] 142)).get h1.next=some (.deferred true):=by rw[Bm _ (hb2 _ _ Ww)];exact Ww
 generalize (Dq TT 49 14 0 tm h1).new (.cells [.Vv (h1.next+1)] 142)=h3 at x3 k2 kl kd ⊢
 have hb3:=x3.hb hb1
 have at3:∀ b o,h1.get b=some o->h3.get b=some o:=fun b o gb=>x3.at hb1 gb
 have P3:Dj h3 p ql n q c g ps:=P.ext fun b o gb=>at3 _ _ (x1.at hb0 gb)
 simp only[B2 (at3 _ _ gb) rfl,Ab,P3.list]
 have M3:Mid h0 h3 (fun x=>∃ d,d<n/\x=c d) (h1.next+1) h1.next tm h0.next (h0.next+1) z (h1.next+2) false:=
  ⟨Ext.kp (x1.trans x3),⟨kl,at3 _ _ g3,at3 _ _ g4,k2,hb3⟩,kd,by omega,by omega,by omega⟩
 refine(Azb (K:=K) H P hb0 hps hZ hn T0 (e:=e) (by omega) hK K 0 h3 _ [] (by omega) (by omega) M3 (by simp only[Sa,reduceIte,Nat.reduceEqDiff]) List.nodup_nil (fun d hd=>by cases hd) rfl).mono ?_
 rintro v h4 M4
 have lt1:=M4.look.hb _ _ M4.look.lp
 have nl:∀ b o st p',h4.get b=some o->(∀ st p,o ≠ Bv TT 49 14 0 tm st p h1.next)->(h4.put (h1.next+1) (Bv TT 49 14 0 tm st p' h1.next)).get b=some o:=fun b o st p' gb hne=>by
  rw[Ar _ (Bh M4.look.lp gb (fun y=>hne _ _ y.symm))];exact gb
 have kend:∀ st p',Kp (fun x=>∃ d,d<n/\x=c d) h0 (h4.put (h1.next+1) (Bv TT 49 14 0 tm st p' h1.next)):=fun st p'=>M4.kp.A8 (by omega) lt1 _
 have hbe:∀ st p',HB (h4.put (h1.next+1) (Bv TT 49 14 0 tm st p' h1.next)):=fun st p'=>M4.look.hb.put lt1 _
 have cellres:∀ (h5:Aa) (b:Bool),h5.get (h0.next+1)=some (.cells [.bool b] 4)->H3 TT [.c (.ptr (h0.next+1) 0) 4] h5=some (.bool b,h5):=by
  intro h5 b hg
  have hr:Gq h5 (h0.next+1) 0 1=some [.bool b]:=by unfold Gq;rw[hg];rfl
  unfold H3
  simp only[Aml,show TT.size 4=some 1 by kernel_rfl,show TT.agg 4=some false by kernel_rfl,hr]
 cases hf:hasB ps n z with
 | true=>
  rw[hf]at M4
  refine .inr ⟨M4.look.lp,?_⟩
  refine Ok.unwind (List.nodup_cons.2 ⟨by simp,List.nodup_nil⟩) (fun d hd=>by rw[List.mem_singleton]at hd;subst hd;exact nl _ _ _ _ M4.cd (by intros;simp[Bv])) (hbe _ _) fun h5 ch hn5=>?_
  have g45:h5.get (h0.next+1)=some (.cells [.bool true] 4):=A4.at ch (hbe _ _) (nl _ _ _ _ M4.look.c4 (by intros;simp[Bv])) (by simp;omega)
  rw[cellres h5 true g45]
  exact .ret ⟨rfl,(kend _ _).Asz ch fun i hi=>by rw[List.mem_singleton]at hi;omega,ch.hb (hbe _ _)⟩
 | false=>
  rw[hf]at M4
  refine .inl ⟨M4.look.lp,?_⟩
  simp only[K8]
  refine Ok.st1 (nl _ _ _ _ M4.look.c4 (by intros;simp[Bv])) rfl rfl (by show 0<1;decide) ?_
  have lt4:h0.next+1<(h4.put (h1.next+1) (Bv TT 49 14 0 tm .exhausted none h1.next)).next:=M4.look.hb _ _ M4.look.c4
  have hb5:HB ((h4.put (h1.next+1) (Bv TT 49 14 0 tm .exhausted none h1.next)).put (h0.next+1) (.cells ([EV.bool false].set 0 (.bool false)) 4)):=(hbe _ _).put lt4 _
  refine Ok.unwind (List.nodup_cons.2 ⟨by simp,List.nodup_nil⟩) (fun d hd=>by rw[List.mem_singleton]at hd;subst hd;rw[Ar _ (by omega)];exact nl _ _ _ _ M4.cd (by intros;simp[Bv])) hb5 fun h5 ch hn5=>?_
  have g45:h5.get (h0.next+1)=some (.cells [.bool false] 4):=A4.at ch hb5 (Aj _ _ _) (by simp;omega)
  rw[cellres h5 false g45]
  exact .ret ⟨rfl,((kend _ _).A8 (by omega) lt4 _).Asz ch fun i hi=>by rw[List.mem_singleton]at hi;omega,ch.hb hb5⟩
end
end Go.Ev

namespace Go.Ev
open Go.Proofs
set_option maxRecDepth 10000
variable {disp:Nat->Option FT}{K:Nat}
def De(g:Gm)(z:Int):Int:=if z<0\/g.D*g.Z<=z then -1 else z / g.Z
theorem K7 {g:Gm}(s:Sm g)(z:Int)(hz : -9223372036854775808<=z/\z<=9223372036854775807)(h:Aa):Ok (Ej K (gV g) (I z) h) fun v h'=>v=I (De g z)/\Ext h h':=by
 have:=s.d0;have:=s.d1;have:=s.z0;have:=s.z1
 obtain⟨m0,m1⟩:=Un (a:=g.D) (b:=g.Z) (A:=8) (B:=64) (by omega) (by omega) (by omega) (by omega)
 simp only[Ej,gV,Ab,I,Ad]
 have hg:(h.new (.cells (gL g) 23)).get h.next=some (.cells (gL g) 23):=Ae _ _
 have hn:h.next<(h.new (.cells (gL g) 23)).next:=Nat.lt_succ_self _
 have hx:Ext h (h.new (.cells (gL g) 23)):=A4.new _ _
 generalize h.new (.cells (gL g) 23)=ha at hg hn hx ⊢
 unfold De
 by_cases h1:z<0
 ·simp only[h1,decide_true,Ab,Ad,Kc]
  exact .ret ⟨by rw[if_pos (.inl trivial)],hx⟩
 ·simp only[h1,decide_false,Ab,Ad,F4 hg rfl,Av (show (gL g).length=6 from rfl)]
  rw[show EV.agg (gL g)=gV g from rfl,Vr s,Bf]
  simp only[I,Ad,Kc]
  by_cases h2:g.D*g.Z<=z
  ·simp only[h2,decide_true,Ab]
   exact .ret ⟨by rw[if_pos (.inr trivial)],hx.Hy _⟩
  ·have hg2:(ha.new (.cells (gL g) 23)).get h.next=some (.cells (gL g) 23):=by rw[Bm _ hn];exact hg
   have hx2:Ext h (ha.new (.cells (gL g) 23)):=hx.Hy _
   generalize ha.new (.cells (gL g) 23)=hc at hg2 hx2 ⊢
   simp only[h2,decide_false,Ab,Tj,B2 hg2 rfl,gL,I]
   rw[Ay3 (by omega) (by omega) (by omega)]
   exact .ret ⟨by rw[if_neg (by rintro(x|x) <;> exact x)],hx2⟩
def upd(ps:Nat->List Int)(d:Nat)(l:List Int):Nat->List Int:=fun e=>if e=d then l else ps e
def Aex(n:Nat)(c:Nat->Nat):Nat->Prop:=fun x=>∃ d,d<n/\x=c d
def An1:Cn->Prop
 | .chan ..=>False
 | _=>True
theorem Dj.A3o {h:Aa}{p ql n:Nat}{q c:Nat->Nat}{g:Gm}{ps:Nat->List Int}(P:Dj h p ql n q c g ps){b:Nat}{o:Cn}(gb:h.get b=some o)(ho:An1 o):¬ Aex n c b:=by
 rintro⟨d,hd,rfl⟩
 rw[P.chan d hd]at gb;cases gb;exact ho
theorem Dj.put {h:Aa}{p ql n:Nat}{q c:Nat->Nat}{g:Gm}{ps:Nat->List Int}(P:Dj h p ql n q c g ps){d:Nat}(hd:d<n)(l:List Int):Dj (h.put (c d) (.chan g.Z.toNat (l.map I))) p ql n q c g (upd ps d l):=by
 have ne:∀ b o,h.get b=some o->An1 o->(h.put (c d) (.chan g.Z.toNat (l.map I))).get b=some o:=fun b o gb ho=>by
  rw[Ar _ (fun e=>P.A3o gb ho ⟨d,hd,e.symm⟩)];exact gb
 refine⟨P.pos,ne _ _ P.Ft trivial,ne _ _ P.row trivial,fun e he=>ne _ _ (P.que e he) trivial,fun e he=>?_,P.inj⟩
 unfold upd
 by_cases hed:e=d
 ·subst hed;rw[if_pos rfl];exact Aj _ _ _
 ·rw[if_neg hed,Ar _ (fun x=>hed (P.inj _ _ he hd x.symm))];exact P.chan e he
theorem Dj.kp {h h':Aa}{S:Nat->Prop}{p ql n:Nat}{q c:Nat->Nat}{g:Gm}{ps:Nat->List Int}(P:Dj h p ql n q c g ps)(hb:HB h)(k:Kp S h h'):Dj h' p ql n q c g ps:=P.ext fun i o g=>k.at hb g
structure Nm(n:Nat)(g:Gm)(ps:Nat->List Int):Prop where
 nd:n=g.D.toNat
 sm:Sm g
 cap:∀ d,d<n->(ps d).length<=g.Z.toNat
theorem Nm.bd {n:Nat}{g:Gm}{ps:Nat->List Int}(z:Nm n g ps):n<=8/\g.Z<=64/\(n:Int)=g.D:=by
 have:=z.nd;have:=z.sm.d0;have:=z.sm.d1;have:=z.sm.z1;omega
theorem Nm.small {n:Nat}{g:Gm}{ps:Nat->List Int}(z:Nm n g ps):Asf n ps:=by
 obtain⟨a,b,_⟩:=z.bd
 exact⟨by omega,fun d hd=>by have:=z.cap d hd;omega⟩
theorem Nm.upd {n:Nat}{g:Gm}{ps:Nat->List Int}(z:Nm n g ps){d:Nat}{l:List Int}(hl:l.length<=g.Z.toNat):Nm n g (upd ps d l):=
 ⟨z.nd,z.sm,fun e he=>by unfold Ev.upd;split;exact hl;exact z.cap e he⟩
def Rr(g:Gm)(n:Nat)(ps:Nat->List Int)(z:Int):Int × (Nat->List Int):=
 if De g z<0 then (13,ps) else if hasB ps n z then (16,ps) else
  if (ps (De g z).toNat).length<g.Z.toNat then (0,upd ps (De g z).toNat (ps (De g z).toNat++[z])) else (17,ps)
theorem Wg {g:Gm}(s:Sm g)(z:Int):De g z = -1\/(0<=De g z/\De g z<g.D/\De g z=z / g.Z/\0<=z/\z<g.D*g.Z):=by
 have:=s.z0
 unfold De
 split
 ·exact .inl rfl
 ·refine .inr ⟨Int.ediv_nonneg (by omega) (by omega),Int.ediv_lt_of_lt_mul (by omega) (by omega),rfl,by omega,by omega⟩
section
variable (H:Au disp){h:Aa}{p ql n:Nat}{q c:Nat->Nat}{g:Gm}{ps:Nat->List Int}(P:Dj h p ql n q c g ps)(hb:HB h)(Z:Nm n g ps)(hK:5000<K)
include P hb Z hK
theorem Avx(d:Int):Ok (Ni K (.ptr p 0) (I d) h) fun v h'=>A4 (Aex n c) h h'/\HB h'/\∃ x e ps',v=.tuple [I x,I e]/\Dj h' p ql n q c g ps'/\Nm n g ps' /\
 ((d<0\/(n:Int)<=d)/\x=0/\e=13/\ps'=ps\/(0<=d/\d<n/\ps d.toNat = []/\x=0/\e=15/\ps'=ps)\/(0<=d/\d<n/\e=0/\∃ r,ps d.toNat=x::r/\ps'=upd ps d.toNat r)):=by
 simp only[Ni,I,Ad,Ab]
 by_cases h1:d<0
 ·simp only[h1,decide_true,Ab,Ad,Mt]
  exact .ret ⟨A4.refl _,hb,0,13,ps,rfl,P,Z,.inl ⟨.inl trivial,rfl,rfl,rfl⟩⟩
 ·simp only[h1,decide_false,Ab,Ad,P.list,Mt]
  by_cases h2:(n:Int)<=d
  ·simp only[h2,decide_true,Ab]
   exact .ret ⟨A4.refl _,hb,0,13,ps,rfl,P,Z,.inl ⟨.inr trivial,rfl,rfl,rfl⟩⟩
  ·obtain⟨d,rfl⟩:=Int.eq_ofNat_of_zero_le (show 0<=d by omega)
   have hd:d<n:=by omega
   simp only[h2,decide_false,Ab,Wb,P.list]
   rw[P.rowAt.ix hd]
   simp only[P.Arp hd]
   cases hl:ps d with
   | nil=>
    rw[take_nil (P.que _ hd) (P.chan _ hd) hl]
    simp only[Ab]
    exact .ret ⟨A4.refl _,hb,0,15,ps,rfl,P,Z,.inr (.inl ⟨by omega,by omega,hl,rfl,rfl,rfl⟩)⟩
   | cons x r=>
    rw[take_cons (P.que _ hd) (P.chan _ hd) hl]
    simp only[Ab]
    have lt:=hb _ _ (P.chan _ hd)
    refine .ret ⟨(A4.refl h).A8 (.inl ⟨_,hd,rfl⟩) lt _,hb.put lt _,x,0,upd ps d r,rfl,P.put hd r,Z.upd ?_,.inr (.inr ⟨by omega,by omega,rfl,r,hl,rfl⟩)⟩
    have:=Z.cap _ hd;rw[hl]at this;simp at this;omega
include H
theorem Av0 {d:Nat}(hd:8<=d)(z:Int)(hz : -9223372036854775808<=z/\z<=9223372036854775807):Ok (Af TT disp K d false 15 [.ptr p 0,I z] h) fun v h'=>A4 (Aex n c) h h'/\HB h'/\v=I (Rr g n ps z).1/\Dj h' p ql n q c g (Rr g n ps z).2/\Nm n g (Rr g n ps z).2:=by
 obtain⟨e,rfl⟩:∃ k,d=k+1:=⟨d-1,by omega⟩
 obtain⟨b1,b2,b3⟩:=Z.bd
 rw[Ad7 H (by omega)]
 simp only[Aay,Ab,P.Ay8]
 refine(K7 Z.sm z hz h).Al ?_
 rintro _ h1 ⟨rfl,x1⟩
 have hb1:=x1.hb hb
 have P1:=P.ext fun i o g=>x1.at hb g
 simp only[I,Ad]
 unfold Rr
 rcases Wg Z.sm z with hdm|⟨d0,d1,d2,d3,d4⟩
 ·rw[hdm]
  simp only[show (-1:Int)<0 by decide,decide_true,Ab,if_true]
  exact .ret ⟨Ext.to x1,hb1,rfl,P1,Z⟩
 ·have hnn:¬ De g z<0:=by omega
  simp only[hnn,decide_false,Ab,if_false]
  refine(A41 (K:=K) H P1 hb1 Z.cap (by omega) (by omega) (d:=e) (by omega) hK z).Al ?_
  rintro _ h2 ⟨rfl,k2,hb2⟩
  have P2:=P1.kp hb1 k2
  have ch2:A4 (Aex n c) h h2:=(Ext.to x1).trans k2.chg
  cases hf:hasB ps n z with
  | true=>
   simp only[Ab,if_true]
   exact .ret ⟨ch2,hb2,rfl,P2,Z⟩
  | false=>
   have hdn:(De g z).toNat<n:=by omega
   simp only[Ab,Vo,P2.list]
   rw[show De g z=((De g z).toNat:Int) by omega,P2.rowAt.ix hdn]
   simp only[P2.Arp hdn,Int.toNat_natCast]
   have lt:=hb2 _ _ (P2.chan _ hdn)
   by_cases hl:(ps (De g z).toNat).length<g.Z.toNat
   ·rw[Ao7 (P2.que _ hdn) (P2.chan _ hdn) z hl,Bf]
    rw[if_pos hl]
    refine .ret ⟨ch2.A8 (.inl ⟨_,hdn,rfl⟩) lt _,hb2.put lt _,rfl,P2.put hdn _,Z.upd ?_⟩
    rw[List.length_append];simp;omega
   ·rw[A49 (P2.que _ hdn) (P2.chan _ hdn) z (by omega),Bf]
    rw[if_neg hl]
    exact .ret ⟨ch2,hb2,rfl,P2,Z⟩
end
end Go.Ev

namespace Go.Ev
open Go.Proofs
set_option maxRecDepth 10000
variable {disp:Nat->Option FT}{K:Nat}
def Nr(z:Int)(xs:List Int):List Int:=xs.filter fun x=>decide (¬ x=z)
theorem Ay5(z x:Int)(r:List Int):Nr z (x::r)=(if x=z then [] else [x])++Nr z r:=by
 unfold Nr;rw[List.filter_cons];by_cases h:x=z <;> simp[h]
theorem As5(z:Int)(a b:List Int):Nr z (a++b)=Nr z a++Nr z b:=List.filter_append ..
theorem Avt(z:Int)(xs:List Int):(Nr z xs).length<=xs.length:=List.length_filter_le _ _
section
variable (H:Au disp)(hK:5000<K)
include H hK
theorem Aw5 {e:Nat}(he:1<=e){h0:Aa}{q c cap b3:Nat}{z:Int}{xs:List Int}(hq0:h0.get q=some (.cells [.chan c] 218))(hc0:∃ b,h0.get c=some (.chan cap b))(h30:h0.get b3=some (.cells [I z] 3))(hcap:xs.length<=cap)(hsm:cap<=4096)(hb0:HB h0):∀ (m i:Nat) (h:Aa),xs.length-i<m->i<=xs.length ->
 h.get c=some (.chan cap ((xs.drop i++Nr z (xs.take i)).map I))->A4 (fun j=>j=c) h0 h->HB h ->
 Ok (Dr (Af TT disp K e false) (Af TT disp K e true) K m (.ptr q 0) (.func 122 [] [.ptr b3 0]) (I ((i:Int)-(Nr z (xs.take i)).length)) (I xs.length) (I i) h) fun v h'=>v=I ((xs.length:Int)-(Nr z xs).length)/\h'.get c=some (.chan cap ((Nr z xs).map I))/\A4 (fun j=>j=c) h0 h'/\HB h':=by
 obtain⟨b0,hc0⟩:=hc0
 have hqc:q ≠ c:=Bh hq0 hc0 (by simp)
 have h3c:b3 ≠ c:=Bh h30 hc0 (by simp)
 have lc:=hb0 _ _ hc0
 intro m
 induction m with
 | zero=>intro i h hm;omega
 | succ m ih=>
  intro i h hm hi hc x hb
  simp only[Dr,I,Ad,Ab]
  by_cases hlt:(i:Int)<xs.length
  ·have hi':i<xs.length:=by omega
   have hq:h.get q=some (.cells [.chan c] 218):=A4.at x hb0 hq0 hqc
   have lc':c<h.next:=Nat.lt_of_lt_of_le lc x.next
   have ed:xs.drop i=xs[i]::xs.drop (i+1):=List.drop_eq_getElem_cons hi'
   have et:Nr z (xs.take (i+1))=Nr z (xs.take i)++(if xs[i]=z then [] else [xs[i]]):=by
    rw[List.take_succ_eq_append_getElem hi',As5,Ay5];simp[Nr]
   rw[ed,List.cons_append]at hc
   have bl:=Avt z (xs.take i)
   rw[List.length_take]at bl
   simp only[hlt,decide_true,Ab,S6]
   rw[take_cons hq hc rfl]
   simp only[Ab,I,Ad,not_true_eq_false,decide_false,Tg]
   have x2:A4 (fun j=>j=c) h0 (h.put c (.chan cap ((xs.drop (i+1)++Nr z (xs.take i)).map I))):=x.A8 (.inl rfl) lc' _
   have hb2:HB (h.put c (.chan cap ((xs.drop (i+1)++Nr z (xs.take i)).map I))):=hb.put lc' _
   have hc2:(h.put c (.chan cap ((xs.drop (i+1)++Nr z (xs.take i)).map I))).get c=some (.chan cap ((xs.drop (i+1)++Nr z (xs.take i)).map I)):=Aj _ _ _
   have hn2:(h.put c (.chan cap ((xs.drop (i+1)++Nr z (xs.take i)).map I))).next=h.next:=rfl
   generalize h.put c (.chan cap ((xs.drop (i+1)++Nr z (xs.take i)).map I))=h2 at x2 hb2 hc2 hn2 ⊢
   have g3:h2.get b3=some (.cells [I z] 3):=A4.at x2 hb0 h30 h3c
   have hcall:V2 (Af TT disp K e false) (Af TT disp K e true) (.func 122 [] [.ptr b3 0]) [.int .i64 xs[i]] h2=some (.bool (decide (¬ xs[i]=z)),h2):=by
    show Af TT disp K e false 122 [.int .i64 xs[i],.ptr b3 0] h2=_
    rw[Ace H he]
    simp only[Xy,B2 g3 rfl,Ab,I,Ad]
   rw[hcall,Bf]
   by_cases hz:xs[i]=z
   ·rw[if_pos hz,List.append_nil]at et
    simp only[hz,not_true_eq_false,decide_false,Ab,Ad,Kh]
    rw[C6 (n:=(i:Int)-(Nr z (xs.take i)).length+1) (by omega) (by omega),C6 (n:=(i:Int)+1) (by omega) (by omega)]
    have:=ih (i+1) h2 (by omega) (by omega) (by rw[et];exact hc2) x2 hb2
    rw[et]at this
    have e3:(i:Int)-(Nr z (xs.take i)).length+1=((i+1:Nat):Int)-(Nr z (xs.take i)).length:=by omega
    rw[e3];exact this
   ·rw[if_neg hz]at et
    simp only[hz,not_false_eq_true,decide_true,Ab,Ad,S3]
    have hq2:h2.get q=some (.cells [.chan c] 218):=A4.at x2 hb0 hq0 hqc
    rw[show EV.int .i64 xs[i]=I xs[i] from rfl,Ao7 hq2 hc2 xs[i] (by rw[List.length_append,List.length_drop];omega),Bf]
    simp only[Kh,Ad]
    rw[C6 (n:=(i:Int)+1) (by omega) (by omega)]
    have:=ih (i+1) (h2.put c (.chan cap ((xs.drop (i+1)++Nr z (xs.take i)++[xs[i]]).map I))) (by omega) (by omega) (by rw[et,<-List.append_assoc];exact Aj _ _ _) (x2.A8 (.inl rfl) (by omega) _) (hb2.put (by omega) _)
    rw[et,List.length_append]at this
    have e3:(i:Int)-(Nr z (xs.take i)).length=((i+1:Nat):Int)-((Nr z (xs.take i)).length+[xs[i]].length:Nat):=by simp;omega
    rw[e3];exact this
  ·have:i=xs.length:=by omega
   subst this
   rw[List.drop_length,List.nil_append,List.take_length]at hc
   rw[List.take_length]
   simp only[hlt,decide_false,Ab,Kn]
   exact .ret ⟨rfl,hc,x,hb⟩
theorem A21 {h:Aa}{p ql n:Nat}{q c:Nat->Nat}{g:Gm}{ps:Nat->List Int}(P:Dj h p ql n q c g ps)(hb:HB h)(Z:Nm n g ps){d:Nat}(hd:4<=d)(z:Int)(hz : -9223372036854775808<=z/\z<=9223372036854775807):
 Ok (Af TT disp K d false 69 [.ptr p 0,I z] h) fun v h'=>(∃ e,v=I e)/\A4 (Aex n c) h h'/\HB h'/\Dj h' p ql n q c g (if De g z<0 then ps else upd ps (De g z).toNat (Nr z (ps (De g z).toNat)))/\Nm n g (if De g z<0 then ps else upd ps (De g z).toNat (Nr z (ps (De g z).toNat))):=by
 obtain⟨e,rfl⟩:∃ k,d=k+2:=⟨d-2,by omega⟩
 obtain⟨b1,b2,b3⟩:=Z.bd
 rw[Aep H (by omega)]
 simp only[Abf,I,Ab]
 have x1:Ext h (h.new (.cells [.int .i64 z] 3)):=A4.new _ _
 have g3:(h.new (.cells [.int .i64 z] 3)).get h.next=some (.cells [I z] 3):=Ae _ _
 have n1:(h.new (.cells [.int .i64 z] 3)).next=h.next+1:=rfl
 generalize h.new (.cells [.int .i64 z] 3)=h1 at x1 g3 n1 ⊢
 have hb1:=x1.hb hb
 have P1:=P.ext fun i o g=>x1.at hb g
 have lp:=hb1 _ _ P1.Ft
 have l3:=hb1 _ _ g3
 simp only[Ab,Bo,Aq lp,Aq l3,P1.Ay8,B2 g3 rfl]
 refine Ok.Cs (by kernel_rfl) (by kernel_rfl) (K7 Z.sm z hz _) (fun _ _ p=>p.2) ?_
 rintro _ _ h2 ⟨rfl,_⟩ _ x2
 have hb2:=x2.hb hb1
 have P2:=P1.ext fun i o g=>x2.at hb1 g
 have x02:=x1.trans x2
 simp only[I,Ad]
 rcases Wg Z.sm z with hdm|⟨d0,d1,d2,d3,d4⟩
 ·rw[hdm]
  simp only[show (-1:Int)<0 by decide,decide_true,Ab,Ad,if_true,Jj]
  exact .ret ⟨⟨15,rfl⟩,Ext.to x02,hb2,P2,Z⟩
 ·have hnn:¬ De g z<0:=by omega
  simp only[hnn,decide_false,Ab,Ad,if_false,P2.list]
  generalize hdd:De g z=dm at d0 d1 hnn
  obtain⟨dn,rfl⟩:=Int.eq_ofNat_of_zero_le d0
  have hdn:dn<n:=by omega
  rw[P2.rowAt.ix hdn]
  simp only[P2.Arp hdn,Int.toNat_natCast]
  rw[Ab7 H (by omega)]
  simp only[Xs]
  rw[P2.len hdn,Bf]
  have hcc:=P2.chan _ hdn
  have:=Aw5 (K:=K) H hK (e:=e) (by omega) (z:=z) (xs:=ps dn) (P2.que _ hdn) ⟨_,hcc⟩ (x2.at hb1 g3) (Z.cap _ hdn) (by omega) hb2 K 0 h2 (by have:=Z.cap _ hdn;omega) (by omega) (by rw[List.drop_zero,List.take_zero,show Nr z [] = [] from rfl,List.append_nil];exact hcc) (A4.refl _) hb2
  refine Ok.Al (P:=fun v h'=>v=I (((ps dn).length:Int)-(Nr z (ps dn)).length)/\h'.get (c dn)=some (.chan g.Z.toNat ((Nr z (ps dn)).map I))/\A4 (fun j=>j=c dn) h2 h'/\HB h') this ?_
  rintro _ h3 ⟨rfl,hc3,x3,hb3⟩
  simp only[Ad,I]
  have ch:A4 (Aex n c) h h3:=(Ext.to x02).trans (x3.mono fun i hi=>⟨dn,hdn,hi⟩)
  have P3:Dj h3 p ql n q c g (upd ps dn (Nr z (ps dn))):=by
   have ne:∀ b o,h2.get b=some o->An1 o->h3.get b=some o:=fun b o gb ho=>A4.at x3 hb2 gb fun e=>P2.A3o gb ho ⟨dn,hdn,e⟩
   refine⟨P2.pos,ne _ _ P2.Ft trivial,ne _ _ P2.row trivial,fun e he=>ne _ _ (P2.que e he) trivial,fun e he=>?_,P2.inj⟩
   unfold upd
   by_cases hed:e=dn
   ·subst hed;rw[if_pos rfl];exact hc3
   ·rw[if_neg hed];exact A4.at x3 hb2 (P2.chan e he) fun y=>hed (P2.inj _ _ he hdn y)
  have Z3:Nm n g (upd ps dn (Nr z (ps dn))):=Z.upd (Nat.le_trans (Avt _ _) (Z.cap _ hdn))
  by_cases h0:((ps dn).length:Int)-(Nr z (ps dn)).length=0
  ·simp only[h0,decide_true,Jj,Ab]
   exact .ret ⟨⟨15,rfl⟩,ch,hb3,P3,Z3⟩
  ·simp only[h0,decide_false,Jj,Ab,Wa]
   exact .ret ⟨⟨0,rfl⟩,ch,hb3,P3,Z3⟩
end
theorem Agu(ps:Nat->List Int)(b:Int):∀ n,(Dz ps b n = -1/\∀ d:Nat,d<n->(d:Int)=b)\/(0<=Dz ps b n/\Dz ps b n<n/\¬ Dz ps b n=b/\∀ d:Nat,d<n->(d:Int)=b\/(ps d).length<=(ps (Dz ps b n).toNat).length)
 | 0=>.inl ⟨rfl,fun d hd=>absurd hd (Nat.not_lt_zero _)⟩
 | n+1=>by
  have ih:=Agu ps b n
  rw[Aen]
  unfold Ar4
  rcases ih with ⟨a1,a2⟩|⟨a1,a2,a3,a4⟩
  ·by_cases hb:(n:Int)=b
   ·rw[if_neg (fun x=>x.1 hb)]
    exact .inl ⟨a1,fun d hd=>by rcases Nat.lt_succ_iff_lt_or_eq.1 hd with h|h;exact a2 d h;subst h;exact hb⟩
   ·rw[if_pos ⟨hb,.inl (by omega)⟩]
    refine .inr ⟨by omega,by omega,hb,fun d hd=>?_⟩
    rcases Nat.lt_succ_iff_lt_or_eq.1 hd with h|h
    ·exact .inl (a2 d h)
    ·subst h;exact .inr (by simp)
  ·by_cases hc:¬ (n:Int)=b/\(Dz ps b n<0\/(ps (Dz ps b n).toNat).length<(ps n).length)
   ·rw[if_pos hc]
    refine .inr ⟨by omega,by omega,hc.1,fun d hd=>?_⟩
    rcases Nat.lt_succ_iff_lt_or_eq.1 hd with h|h
    ·rcases a4 d h with y|y
     ·exact .inl y
     ·refine .inr ?_
      rcases hc.2 with z|z
      ·omega
      ·simp only[Int.toNat_natCast];omega
    ·subst h;exact .inr (by simp)
   ·rw[if_neg hc]
    refine .inr ⟨a1,by omega,a3,fun d hd=>?_⟩
    rcases Nat.lt_succ_iff_lt_or_eq.1 hd with h|h
    ·exact a4 d h
    ·subst h
     by_cases hb:(d:Int)=b
     ·exact .inl hb
     ·exact .inr (by have:¬ (ps (Dz ps b d).toNat).length<(ps d).length:=fun y=>hc ⟨hb,.inr y⟩;omega)
theorem Au5 {ps:Nat->List Int}{a:Nat}:∀ n,(∀ d,d<n->d=a\/ps d = [])->Abm ps n<=(ps a).length
 | 0,_=>by unfold Abm;simp
 | n+1,h=>by
  rw[Xw]
  rcases h n (Nat.lt_succ_self _) with e|e
  ·subst e
   have:Abm ps n=0:=by
    have:∀ k,k<=n->Abm ps k=0:=by
     intro k hk
     induction k with
     | zero=>rfl
     | succ k ih=>
      rw[Xw,ih (by omega)]
      rcases h k (by omega) with e|e
      ·omega
      ·rw[e];rfl
    exact this n (Nat.le_refl _)
   omega
  ·rw[e];have:=Au5 (a:=a) n fun d hd=>h d (Nat.lt_succ_of_lt hd);simp;omega
theorem Amp {ps:Nat->List Int}{n:Nat}(h:Su ps n ≠ 0)(hp:0<=Su ps n):∃ a b:Nat,Dz ps (-1) n=a/\Dz ps a n=b/\a<n/\b<n/\a ≠ b/\ps a ≠ []/\ps b ≠ []:=by
 have hpos:0<Su ps n:=by omega
 unfold Su at hpos
 rw[Int.lt_min]at hpos
 obtain⟨p1,p2⟩:=hpos
 rcases Agu ps (-1) n with ⟨a1,a2⟩|⟨a1,a2,_,a4⟩
 ·have:n=0:=by
   cases n with
   | zero=>rfl
   | succ n=>have:=a2 0 (by omega);omega
  subst this
  unfold Abm at p1;simp at p1
 ·obtain⟨a,ha⟩:=Int.eq_ofNat_of_zero_le a1
  rw[ha]at a2 a4 p2
  have han:a<n:=by omega
  have e1:Af0 ps n a=(ps a).length:=by unfold Af0;rw[if_pos (by omega)];rfl
  rw[e1]at p2
  have hex:∃ d,d<n/\d ≠ a/\ps d ≠ []:=by
   apply Classical.byContradiction
   intro hno
   have:=Au5 (ps:=ps) (a:=a) n fun d hd=>by
    by_cases hda:d=a
    ·exact .inl hda
    ·refine .inr (Classical.byContradiction fun hne=>hno ⟨d,hd,hda,hne⟩)
   omega
  obtain⟨d,hd,hda,hne⟩:=hex
  have ha0:ps a ≠ []:=fun e=>by
   rcases a4 d hd with y|y
   ·omega
   ·rw[Int.toNat_natCast,e]at y;exact hne (List.length_eq_zero_iff.1 (by simpa using y))
  rcases Agu ps a n with ⟨b1,b2⟩|⟨b1,b2,b3,b4⟩
  ·have:=b2 d hd;omega
  ·obtain⟨b,hbb⟩:=Int.eq_ofNat_of_zero_le b1
   rw[hbb]at b2 b3 b4
   refine⟨a,b,ha,hbb,han,by omega,by omega,ha0,fun e=>?_⟩
   rcases b4 d hd with y|y
   ·omega
   ·rw[Int.toNat_natCast,e]at y;exact hne (List.length_eq_zero_iff.1 (by simpa using y))
theorem Adn {ps:Nat->List Int}{n:Nat}:0<=Su ps n:=by
 unfold Su
 have:Af0 ps n (Dz ps (-1) n)<=Abm ps n:=by
  unfold Af0
  split
  ·rename_i h
   have:∀ m d,d<m->(ps d).length<=Abm ps m:=by
    intro m
    induction m with
    | zero=>intro d hd;omega
    | succ m ih=>
     intro d hd
     rw[Xw]
     rcases Nat.lt_succ_iff_lt_or_eq.1 hd with h|h
     ·have:=ih d h;omega
     ·subst h;omega
   exact this n _ (by omega)
  ·omega
 omega
section
variable {h:Aa}{p ql n:Nat}{q c:Nat->Nat}{g:Gm}{ps:Nat->List Int}(P:Dj h p ql n q c g ps)(hb:HB h)(Z:Nm n g ps)(hK:5000<K)
include P hb Z hK
theorem A3f:Ok (Pt K (.ptr p 0) h) fun v h'=>A4 (Aex n c) h h'/\HB h'/\((Su ps n=0/\v=.tuple [I 0,I 0,I 15]/\Dj h' p ql n q c g ps) \/
 ∃ (a b:Nat) (x y:Int) (r s:List Int),¬ Su ps n=0/\Dz ps (-1) n=a/\Dz ps a n=b/\a<n/\b<n/\a ≠ b/\ps a=x::r/\ps b=y::s/\v=.tuple [I x,I y,I 0]/\Dj h' p ql n q c g (upd (upd ps a r) b s)/\Nm n g (upd (upd ps a r) b s)):=by
 obtain⟨b1,b2,b3⟩:=Z.bd
 simp only[Pt]
 refine(A1g P hb Z.small (by omega)).Al ?_
 rintro _ h1 ⟨rfl,x1⟩
 have hb1:=x1.hb hb
 have P1:=P.ext fun i o g=>x1.at hb g
 simp only[I,Ad]
 by_cases hp:Su ps n=0
 ·simp only[hp,decide_true,Ab]
  exact .ret ⟨Ext.to x1,hb1,.inl ⟨trivial,rfl,P1⟩⟩
 ·simp only[hp,decide_false,Ab,We]
  obtain⟨a,b,ha,hbb,han,hbn,hab,ha0,hb0⟩:=Amp hp Adn
  refine(Ad3 P1 hb1 (by omega) (by omega) (-1)).Al ?_
  rintro _ h2 ⟨rfl,x2⟩
  have hb2:=x2.hb hb1
  have P2:=P1.ext fun i o g=>x2.at hb1 g
  rw[ha]
  refine(Ad3 P2 hb2 (by omega) (by omega) a).Al ?_
  rintro _ h3 ⟨rfl,x3⟩
  have hb3:=x3.hb hb2
  have P3:=P2.ext fun i o g=>x3.at hb2 g
  rw[hbb]
  refine(Avx P3 hb3 Z hK a).Al ?_
  rintro _ h4 ⟨c4,hb4,x,e,ps',rfl,P4,Z4,hh⟩
  have hx:e=0/\∃ r,ps a=x::r/\ps'=upd ps a r:=by
   rcases hh with ⟨y,_⟩|⟨_,_,y,_⟩|⟨_,_,y,z⟩
   ·omega
   ·rw[Int.toNat_natCast]at y;exact absurd y ha0
   ·rw[Int.toNat_natCast]at z;exact⟨y,z⟩
  obtain⟨rfl,r,har,rfl⟩:=hx
  simp only[Ab]
  refine(Avx P4 hb4 Z4 hK b).Al ?_
  rintro _ h5 ⟨c5,hb5,y,e,ps',rfl,P5,Z5,hh⟩
  have eb:upd ps a r b=ps b:=by unfold upd;rw[if_neg (Ne.symm hab)]
  have hy:e=0/\∃ s,ps b=y::s/\ps'=upd (upd ps a r) b s:=by
   rcases hh with ⟨w,_⟩|⟨_,_,w,_⟩|⟨_,_,w,z⟩
   ·omega
   ·rw[Int.toNat_natCast,eb]at w;exact absurd w hb0
   ·rw[Int.toNat_natCast,eb]at z;exact⟨w,z⟩
  obtain⟨rfl,s,hbs,rfl⟩:=hy
  simp only[Ab,I,Ad,not_true_eq_false,decide_false,Vk]
  refine .ret ⟨(Ext.to (x1.trans (x2.trans x3))).trans (c4.trans c5),hb5,.inr ⟨a,b,x,y,r,s,not_false,rfl,hbb,han,hbn,hab,har,hbs,rfl,P5,Z5⟩⟩
end
end Go.Ev

namespace Go.Ev
open Go.Proofs
set_option maxRecDepth 100000
variable {K:Nat}
def Oa(st:Nat):Int:=if st=4 then 32 else if st=3 then 30 else 0
theorem Adc {h:Aa}{z q:Nat}{size:Int}{Z:Zn}(zz:Fk h z q size Z):Co K (.ptr z 0) h=some (I Z.st,h):=by
 obtain⟨s,g,_⟩:=zz.A2
 simp only[Co,Ab,B2 g rfl]
theorem U4 {h:Aa}{z q:Nat}{size:Int}{Z:Zn}(zz:Fk h z q size Z):Da K (.ptr z 0) h=some (I (Oa Z.st),h):=by
 obtain⟨s,g,_⟩:=zz.A2
 simp only[Da,Ab,B2 g rfl,I,Ad]
 unfold Oa
 by_cases h4:Z.st=4
 ·have:decide ((Z.st:Int)=4)=true:=by simp[h4]
  rw[this,if_pos h4];simp only[Ab]
 ·have a:decide ((Z.st:Int)=4)=false:=by simp;omega
  rw[a,if_neg h4];simp only[Ab,Ad]
  by_cases h3:Z.st=3
  ·have:decide ((Z.st:Int)=3)=true:=by simp[h3]
   rw[this,if_pos h3];simp only[Ab]
  ·have b:decide ((Z.st:Int)=3)=false:=by simp;omega
   rw[b,if_neg h3];simp only[Ab,Ad,Jv]
theorem Fk.ext {h h':Aa}{z q:Nat}{size:Int}{Z:Zn}(d:Fk h z q size Z)(g:∀ i o,h.get i=some o->h'.get i=some o):Fk h' z q size Z:=by
 obtain⟨s,a,b⟩:=d.A2
 exact⟨⟨s,g _ _ a,b.frame fun hl=>by rw[g _ _ (b.block hl),b.block hl]⟩,d.wf⟩
def Zn.app(Z:Zn)(size:Nat)(x:List EV):Zn:=⟨Z.l++[x],Z.safe,if Z.l.length+1=size then 2 else 1,Z.fin⟩
theorem Akw {h:Aa}{z q size:Nat}{Z:Zn}(zz:Fk h z q size Z)(hb:HB h)(hst:Z.st<2)(hl:Z.l.length<=64){x:List EV}(hx:x.length=64):
 Ok (Cj K (.ptr z 0) (.agg x) h) fun v h'=>v=.tuple [I Z.l.length,I 0]/\(∃ q',Fk h' z q' size (Z.app size x)/\h.next<=q')/\A4 (fun i=>i=z\/(0<Z.l.length/\i=q)) h h'/\HB h':=by
 obtain⟨s,g,r⟩:=zz.A2
 simp only[Cj,Ab]
 have x1:Ext h (h.new (.cells x 103)):=A4.new _ _
 have g3:(h.new (.cells x 103)).get h.next=some (.cells x 103):=Ae _ _
 have n1:(h.new (.cells x 103)).next=h.next+1:=rfl
 generalize h.new (.cells x 103)=h1 at x1 g3 n1 ⊢
 have hb1:=x1.hb hb
 have z1:Fk h1 z q size Z:=zz.ext fun i o g=>x1.at hb g
 have g1:=x1.at hb g
 have r1:B0 h1 s q 103 64 Z.l.length Z.l.flatten:=r.frame fun hl=>by rw[x1.at hb (r.block hl),r.block hl]
 rw[U4 z1,Bf]
 have hf:Oa Z.st=0:=by unfold Oa;rw[if_neg (by omega),if_neg (by omega)]
 rw[hf]
 have h2:¬ (Z.st:Int)=2:=by omega
 simp only[Ad,I,not_true_eq_false,decide_false,Ab,Gg,B2 g1 rfl,h2,Jt]
 have lz:=hb1 _ _ g1
 have l3:=hb1 _ _ g3
 simp only[Ab,Bo,Aq lz,Aq l3,B2 g1 rfl,F4 g3 rfl,Av hx]
 rw[Wd (z:=List.replicate 64 (.int .u8 0)) rfl (by simp) (by exact hx) (by omega),Bf]
 have x2:Ext h1 (h1.new (.cells (EV.cells (.agg x)) 103)):=A4.new _ _
 have gx:(h1.new (.cells (EV.cells (.agg x)) 103)).get h1.next=some (.cells x 103):=Ae _ _
 have n2:(h1.new (.cells (EV.cells (.agg x)) 103)).next=h1.next+1:=rfl
 generalize h1.new (.cells (EV.cells (.agg x)) 103)=h2' at x2 gx n2 ⊢
 have hb2:=x2.hb hb1
 have g2:=x2.at hb1 g1
 have r2:B0 h2'.lift s q 103 64 Z.l.length Z.l.flatten:=(r1.frame (h':=h2') fun hl=>by rw[x2.at hb1 (r1.block hl),r1.block hl]).frame fun _=>Dg _ _
 obtain⟨h3,e3,r3,n3,c3⟩:=Q2 (x:=.slice h1.next 0 1 1 false) (n:=1) r2 rfl (by omega) (by omega) (by omega) (Zo (b:=h1.next) (by rw[Dg];exact gx) hx) (by rw[hx])
 refine Ok.Amo (S:=fun i=>0<Z.l.length/\i=q) (by kernel_rfl) (by kernel_rfl) (fun _=>by kernel_rfl) (P:=fun v h'=>v=.slice h2'.lift.next 0 (Z.l.length+1) (Z.l.length+1) true/\h'=h3) ⟨_,_,e3,rfl,rfl⟩ (fun _ _ p=>by rw[p.2];exact c3) ?_
 rintro _ _ h4 s' ⟨rfl,rfl⟩ sm x4 hs'
 have hb4:=x4.hb hb2
 rw[Xr]at r3 n3
 rw[Xr]
 have hnz:¬ (0<Z.l.length/\z=q):=fun y=>by
  have:=r1.block y.1;exact Bh g1 this (by simp) y.2
 have g4:h4.get z=some (.cells [s,I size,I Z.safe,I Z.st,.bool Z.fin] 240):=A4.at x4 hb2 g2 hnz
 have r4:B0 h4 (.slice h2'.next 0 (Z.l.length+1) (Z.l.length+1) true) h2'.next 103 64 (Z.l.length+1) (Z.l.flatten++x):=r3.frame fun _=>sm.get _
 have lz4:z<h4.next:=hb4 _ _ g4
 try simp only[Ab]
 rw[Rd (by rcases hs' with rfl|⟨w,rfl,_⟩ <;> kernel_rfl)]
 refine Ok.st1 g4 rfl rfl (by show 0<5;decide) ?_
 refine Ok.st1 (Aj _ _ _) rfl rfl (by show 3<5;decide) ?_
 simp only[List.set,Ab]
 have hne:h2'.next ≠ z:=by have:=hb2 _ _ g2;omega
 have lz5:z<((h4.put z (.cells [EV.slice h2'.next 0 (Z.l.length+1) (Z.l.length+1) true,I size,I Z.safe,I Z.st,.bool Z.fin] 240)).put z (.cells [EV.slice h2'.next 0 (Z.l.length+1) (Z.l.length+1) true,I size,I Z.safe,.int .i64 1,.bool Z.fin] 240)).next:=lz4
 have hq:h.next<=h2'.next:=by omega
 have r5:∀ o1 o2,B0 ((h4.put z o1).put z o2) (.slice h2'.next 0 (Z.l.length+1) (Z.l.length+1) true) h2'.next 103 64 (Z.l.length+1) (Z.l.flatten++x):=fun o1 o2=>r4.frame fun _=>by rw[Ar _ (Ne.symm hne),Ar _ (Ne.symm hne)]
 have ch:∀ o1 o2,A4 (fun i=>i=z\/(0<Z.l.length/\i=q)) h ((h4.put z o1).put z o2):=fun o1 o2=>((((Ext.to (x1.trans x2)).trans (x4.mono fun i hi=>.inr hi)).A8 (.inl (.inl rfl)) lz4 _).A8 (.inl (.inl rfl)) lz4 _)
 have hbz:∀ o1 o2,HB ((h4.put z o1).put z o2):=fun o1 o2=>(hb4.put lz4 _).put lz4 _
 have gz:((h4.put z (.cells [EV.slice h2'.next 0 (Z.l.length+1) (Z.l.length+1) true,I size,I Z.safe,I Z.st,.bool Z.fin] 240)).put z (.cells [EV.slice h2'.next 0 (Z.l.length+1) (Z.l.length+1) true,I size,I Z.safe,.int .i64 1,.bool Z.fin] 240)).get z=some (.cells [EV.slice h2'.next 0 (Z.l.length+1) (Z.l.length+1) true,I size,I Z.safe,.int .i64 1,.bool Z.fin] 240):=Aj _ _ _
 have r5':=r5 (.cells [EV.slice h2'.next 0 (Z.l.length+1) (Z.l.length+1) true,I size,I Z.safe,I Z.st,.bool Z.fin] 240) (.cells [EV.slice h2'.next 0 (Z.l.length+1) (Z.l.length+1) true,I size,I Z.safe,.int .i64 1,.bool Z.fin] 240)
 have ch':=ch (.cells [EV.slice h2'.next 0 (Z.l.length+1) (Z.l.length+1) true,I size,I Z.safe,I Z.st,.bool Z.fin] 240) (.cells [EV.slice h2'.next 0 (Z.l.length+1) (Z.l.length+1) true,I size,I Z.safe,.int .i64 1,.bool Z.fin] 240)
 have hb5:=hbz (.cells [EV.slice h2'.next 0 (Z.l.length+1) (Z.l.length+1) true,I size,I Z.safe,I Z.st,.bool Z.fin] 240) (.cells [EV.slice h2'.next 0 (Z.l.length+1) (Z.l.length+1) true,I size,I Z.safe,.int .i64 1,.bool Z.fin] 240)
 generalize (h4.put z (.cells [EV.slice h2'.next 0 (Z.l.length+1) (Z.l.length+1) true,I size,I Z.safe,I Z.st,.bool Z.fin] 240)).put z (.cells [EV.slice h2'.next 0 (Z.l.length+1) (Z.l.length+1) true,I size,I Z.safe,.int .i64 1,.bool Z.fin] 240)=h5 at gz r5' ch' hb5 lz5 ⊢
 simp only[B2 gz rfl,Ab,I,Ad]
 have fin:∀ (st:Nat) (h6:Aa),st=(Z.app size x).st->h6.get z=some (.cells [EV.slice h2'.next 0 (Z.l.length+1) (Z.l.length+1) true,I size,I Z.safe,I st,.bool Z.fin] 240)->B0 h6 (.slice h2'.next 0 (Z.l.length+1) (Z.l.length+1) true) h2'.next 103 64 (Z.l.length+1) (Z.l.flatten++x)->A4 (fun i=>i=z\/(0<Z.l.length/\i=q)) h h6->HB h6 ->
  Ok (Dy K (.ptr z 0) h6) fun v h'=>v=.tuple [I Z.l.length,I 0]/\(∃ q',Fk h' z q' size (Z.app size x)/\h.next<=q')/\A4 (fun i=>i=z\/(0<Z.l.length/\i=q)) h h'/\HB h':=by
  rintro st h6 rfl g6 r6 c6 hb6
  simp only[Dy,Ab,B2 g6 rfl,I,Ad]
  rw[C6 (by omega) (by omega),show ((Z.l.length+1:Nat):Int)-1=(Z.l.length:Int) by omega]
  refine .ret ⟨rfl,⟨h2'.next,⟨⟨_,g6,?_⟩,fun y hy=>by
   rcases List.mem_append.1 hy with hy|hy
   ·exact zz.wf y hy
   ·rw[List.mem_singleton.1 hy];exact hx⟩,hq⟩,c6,hb6⟩
  have e1:(Z.app size x).l.length=Z.l.length+1:=by simp[Zn.app]
  have e2:(Z.app size x).l.flatten=Z.l.flatten++x:=by simp[Zn.app]
  rw[e1,e2];exact r6
 by_cases hs:Z.l.length+1=size
 ·have:((Z.l.length+1:Nat):Int)=(size:Int):=by omega
  simp only[this,decide_true,Ab]
  refine Ok.st1 gz rfl rfl (by show 3<5;decide) ?_
  refine fin 2 _ (by simp[Zn.app,hs]) (Aj _ _ _) (r5'.frame fun _=>Ar _ (Ne.symm hne)) (ch'.A8 (.inl (.inl rfl)) lz5 _) (hb5.put lz5 _)
 ·have:¬ ((Z.l.length+1:Nat):Int)=(size:Int):=by omega
  simp only[this,decide_false,Ab]
  exact fin 1 _ (by simp[Zn.app,hs]) gz r5' ch' hb5
theorem Akn {h:Aa}{z q:Nat}{size:Int}{Z:Zn}(zz:Fk h z q size Z)(hb:HB h)(hst:2<=Z.st)(h4:Z.st<=4)(x:List EV):
 Ok (Cj K (.ptr z 0) (.agg x) h) fun v h'=>v=.tuple [I 0,I (if Z.st=2 then 17 else Oa Z.st)]/\Ext h h':=by
 simp only[Cj,Ab]
 have x1:Ext h (h.new (.cells x 103)):=A4.new _ _
 generalize h.new (.cells x 103)=h1 at x1 ⊢
 have z1:Fk h1 z q size Z:=zz.ext fun i o g=>x1.at hb g
 rw[U4 z1,Bf]
 obtain⟨s,g,_⟩:=z1.A2
 by_cases h2:Z.st=2
 ·have hf:Oa Z.st=0:=by unfold Oa;rw[if_neg (by omega),if_neg (by omega)]
  have h2':(Z.st:Int)=2:=by omega
  rw[hf]
  simp only[Ad,I,not_true_eq_false,decide_false,Ab,Gg,B2 g rfl,h2',decide_true,h2,if_true]
  exact .ret ⟨rfl,x1⟩
 ·have hf:¬ Oa Z.st=0:=by
   unfold Oa
   split
   ·decide
   ·split
    ·decide
    ·omega
  simp only[Ad,I,hf,not_false_eq_true,decide_true,Ab,h2,if_false]
  exact .ret ⟨rfl,x1⟩
end Go.Ev

namespace Go.Ev
open Go.Proofs
set_option maxRecDepth 100000
variable {K:Nat}
theorem U5 {h:Aa}{i t n:Nat}{l:List EV}{v:EV}(hg:h.get i=some (.cells l t))(hs:TT.size t=some n)(ha:TT.agg t=some true)(hl:l.length=n):H3 TT [.c (.ptr i 0) t,.v v] h=some (.tuple [.agg l,v],h):=by
 have hr:Gq h i 0 n=some l:=by
  unfold Gq;rw[hg];simp only;rw[<-Ts];exact Av hl
 unfold H3
 simp only[Aml,hs,hr,ha]
theorem Amy:TT.size 103=some 64/\TT.agg 103=some true:=⟨by kernel_rfl,by kernel_rfl⟩
def Yf:List EV:=List.replicate 64 (.int .u8 0)
theorem Afy:Yf.length=64:=by simp[Yf]
theorem Fk.put {h:Aa}{z q:Nat}{size:Int}{Z:Zn}(zz:Fk h z q size Z){s:EV}(g:h.get z=some (.cells [s,I size,I Z.safe,I Z.st,.bool Z.fin] 240))(safe st:Nat)(fin:Bool):
 Fk (h.put z (.cells [s,I size,I safe,I st,.bool fin] 240)) z q size ⟨Z.l,safe,st,fin⟩:=by
 obtain⟨s',g',r⟩:=zz.A2
 rw[g]at g'
 have:s=s':=by
  have:=Option.some.inj g'
  injection this with a _
  exact(List.cons.inj a).1
 subst this
 refine⟨⟨s,Aj _ _ _,r.frame fun hl=>Ar _ ?_⟩,zz.wf⟩
 exact Bh g (r.block hl) (by simp)
def Zn.flush(Z:Zn):Zn:={ Z with safe:=Z.l.length }
theorem Al9 {h:Aa}{z q:Nat}{size:Int}{Z:Zn}(zz:Fk h z q size Z)(hb:HB h):
 Ok (Dk K (.ptr z 0) h) fun v h'=>Fk h' z q size Z.flush/\A4 (fun i=>i=z) h h'/\HB h':=by
 obtain⟨s,g,r⟩:=zz.A2
 have lz:=hb _ _ g
 simp only[Dk,Ab,B2 g rfl,r.Ho]
 refine Ok.st1 g rfl rfl (by show 2<5;decide) ?_
 refine .ret ⟨?_,(A4.refl (S:=fun i=>i=z) h).A8 (.inl rfl) lz _,hb.put lz _⟩
 exact zz.put g Z.l.length Z.st Z.fin
def Zn.finish(Z:Zn):Zn:={ Z with st:=2,fin:=true }
theorem Alg {h:Aa}{z q:Nat}{size:Int}{Z:Zn}(zz:Fk h z q size Z)(hb:HB h):
 Ok (Fe K (.ptr z 0) h) fun v h'=>v=I (Oa Z.st)/\Fk h' z q size (if Oa Z.st=0 then Z.finish else Z)/\A4 (fun i=>i=z) h h'/\HB h':=by
 obtain⟨s,g,r⟩:=zz.A2
 have lz:=hb _ _ g
 simp only[Fe,U4 zz,Ab,I,Ad]
 by_cases hf:Oa Z.st=0
 ·simp only[hf,not_true_eq_false,decide_false,Ab,if_true,J2]
  refine Ok.st1 g rfl rfl (by show 3<5;decide) ?_
  refine Ok.st1 (Aj _ _ _) rfl rfl (by show 4<5;decide) ?_
  refine .ret ⟨rfl,?_,((A4.refl (S:=fun i=>i=z) h).A8 (.inl rfl) lz _).A8 (.inl rfl) lz _,(hb.put lz _).put lz _⟩
  exact(zz.put g Z.safe 2 Z.fin).put (Aj _ _ _) Z.safe 2 true
 ·simp only[hf,not_false_eq_true,decide_true,Ab,if_false]
  exact .ret ⟨rfl,zz,A4.refl _,hb⟩
def Zn.fail(Z:Zn)(st:Nat):Zn:=if st=4\/st=3/\¬ Z.st=4 then { Z with st:=st } else Z
theorem Aol {h:Aa}{z q:Nat}{size:Int}{Z:Zn}(zz:Fk h z q size Z)(hb:HB h)(st:Nat):
 Ok (F2 K (.ptr z 0) (I st) h) fun v h'=>Fk h' z q size (Z.fail st)/\A4 (fun i=>i=z) h h'/\HB h':=by
 obtain⟨s,g,r⟩:=zz.A2
 have lz:=hb _ _ g
 have yes:(st=4\/st=3/\¬ Z.st=4)->Ok (Jf 1 (.ptr z 3) (I st) h fun h=>some (.tuple [],h)) fun v h'=>Fk h' z q size (Z.fail st)/\A4 (fun i=>i=z) h h'/\HB h':=by
  intro hc
  refine Ok.st1 g rfl rfl (by show 3<5;decide) ?_
  refine .ret ⟨?_,(A4.refl (S:=fun i=>i=z) h).A8 (.inl rfl) lz _,hb.put lz _⟩
  unfold Zn.fail;rw[if_pos hc]
  exact zz.put g Z.safe st Z.fin
 have no:¬ (st=4\/st=3/\¬ Z.st=4)->Ok (some (.tuple [],h)) fun v h'=>Fk h' z q size (Z.fail st)/\A4 (fun i=>i=z) h h'/\HB h':=by
  intro hc
  refine .ret ⟨?_,A4.refl _,hb⟩
  unfold Zn.fail;rw[if_neg hc];exact zz
 simp only[F2,I,Ad,Ab]
 by_cases a:st=4
 ·rw[show decide ((st:Int)=4)=true by simp[a]]
  simp only[Ab,Ad,C5,Cc,Ca]
  exact yes (.inl a)
 ·rw[show decide ((st:Int)=4)=false by simp;omega]
  simp only[Ab,Ad]
  by_cases b:st=3
  ·rw[show decide ((st:Int)=3)=true by simp[b]]
   simp only[Ab,Ad,C5,B2 g rfl,I]
   by_cases c:Z.st=4
   ·rw[show decide (¬ (Z.st:Int)=4)=false by simp[c]]
    simp only[Ab,Ad,Cc,Ca]
    exact no (by omega)
   ·rw[show decide (¬ (Z.st:Int)=4)=true by simp;omega]
    simp only[Ab,Ad,Cc,Ca]
    exact yes (.inr ⟨b,c⟩)
  ·rw[show decide ((st:Int)=3)=false by simp;omega]
   simp only[Ab,Ad,C5,Cc,Ca]
   exact no (by omega)
end Go.Ev

namespace Go.Ev
open Go.Proofs
set_option maxRecDepth 100000
variable {K:Nat}
theorem Yz {h:Aa}{b e sz n:Nat}{x:EV}{new:List EV}(hx:lenOf x=some n)(hn':n<=65536)(hc:Nj h sz n x=some new)(hs:new.length=n*sz)(q:Nat):
 Ok (D5 e sz (.slice b 0 0 0 false) x h) fun v h'=>∃ q',B0 h' v q' e sz n new/\Ext h h'/\(0<n->h.next<=q'):=by
 rcases Nat.eq_zero_or_pos n with rfl|hp
 ·have:new = []:=List.length_eq_zero_iff.1 (by omega)
  subst this
  refine⟨.slice b 0 0 0 false,h,?_,q,.empty _ _ _ _ _,A4.refl _,fun y=>by omega⟩
  unfold D5;simp only[hx,I8];rfl
 ·obtain⟨h',e1,r,n1,c⟩:=Q2 (s:=.slice b 0 0 0 false) (q:=q) (e:=e) (.empty h b q e sz) hx hp hn' (Nat.zero_le _) hc hs
  refine⟨_,h',e1,h.next,?_,c.mono fun i hi=>absurd hi.1 (Nat.lt_irrefl _),fun _=>Nat.le_refl _⟩
  rw[List.nil_append]at r
  simpa only[Nat.zero_add] using r
end Go.Ev
