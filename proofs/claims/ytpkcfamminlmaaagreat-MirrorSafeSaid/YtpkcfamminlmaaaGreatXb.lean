import Derived.Test.YtpkcfamminlmaaaGreatWa
import Derived.Test.YtpkcfamminlmaaaGreatXa
import Derived.Test.YtpkcfamminlmaaaGreatDb
import Derived.Test.YtpkcfamminlmaaaGreatDc
set_option linter.unusedVariables false
set_option linter.unusedSimpArgs false
set_option linter.unusedSectionVars false
namespace Go.Ev
end Go.Ev

namespace Go.Ev
noncomputable def B2(T:Et)(g n i:Nat)(tm:Ai)(st:LoopState)(p:Option Code)(d:Nat):Cs:=.loop st p g n tm (Eo T g i).2.1 (Eo T g i).2.2.1 (Eo T g i).2.2.2 d
noncomputable def D9(T:Et)(g n i:Nat)(tm:Ai)(h:Aa):Aa:=(h.new (.deferred true)).new (B2 T g n i tm .ready none h.next)
section
variable {T:Et}{g n i l d:Nat}{tm:Ai}{h:Aa}{st:LoopState}{p:Option Code}{Q:EV->Aa->Prop}
theorem Xs:(D9 T g n i tm h).get (h.next+1)=some (B2 T g n i tm .ready none h.next):=Ac _ _
theorem Zd:(D9 T g n i tm h).get h.next=some (.deferred true):=by
 unfold D9
 rw[A4 _ (Nat.lt_succ_self _)];exact Ac _ _
theorem Zk:Ext h (D9 T g n i tm h):=(A0.new _ _).Fa _
theorem Anx:(D9 T g n i tm h).next=h.next+2:=rfl
theorem Arw {kk:Aa->R}(hg:h.get l=some (B2 T g n i tm .ready p d)):Ga l h kk=kk (h.put l (B2 T g n i tm .busy p d)):=by
 unfold Ga;rw[hg];rfl
theorem Amn {b:Bool}{st':LoopState}{j:Option Code}(hg:h.get l=some (B2 T g n i tm st p d)):Asz l b st' j h=some (.bool b,h.put l (B2 T g n i tm st' j d)):=by
 unfold Asz B3;rw[hg];rfl
theorem Ok.range {c:Ad}{q:Nat}{caps:List EV}{ds:List Nat}{k:Aa->List Nat->R}{ex:Nat->Aa->List Nat->R}{ret:Aa->List Nat->R}
 (hc:Ok (c q (.Y5 (h.next+1)::caps) (D9 T g n i tm h)) fun _ h'=>
  (h'.get (h.next+1)=some (B2 T g n i tm .ready none h.next)/\Ok (k (h'.put (h.next+1) (B2 T g n i tm .exhausted none h.next)) (h.next::ds)) Q) \/
  (h'.get (h.next+1)=some (B2 T g n i tm .done (some .ret) h.next)/\Ok (ret (h'.put (h.next+1) (B2 T g n i tm .exhausted (some .ret) h.next)) (h.next::ds)) Q)) :
 Ok (Aeu c T g n i (.func q [] caps) tm h ds k ex ret) Q:=by
 obtain⟨v,h',e,hh⟩:=hc
 have:Aeu c T g n i (.func q [] caps) tm h ds k ex ret=A7x (h.next+1) (c q (.Y5 (h.next+1)::caps) (D9 T g n i tm h)) (fun h'=>k h' (h.next::ds)) (fun id h'=>ex id h' (h.next::ds)) (fun h'=>ret h' (h.next::ds)):=rfl
 rw[this,e]
 unfold A7x
 simp only
 rcases hh with ⟨a,b⟩|⟨a,b⟩
 ·rw[a];exact b
 ·rw[a];exact b
theorem Ok.unwind:∀ {ds:List Nat} {h:Aa} {k:Aa->R},ds.Nodup->(∀ d ∈ ds,h.get d=some (.deferred true))->HB h->(∀ h',A0 (fun i=>i ∈ ds) h h'->h'.next=h.next->Ok (k h') Q)->Ok (Gp ds h k) Q
 | [],h,k,_,_,_,hk=>hk h (A0.refl _) rfl
 | d::ds,h,k,hn,hd,hb,hk=>by
  obtain⟨hn1,hn2⟩:=List.nodup_cons.1 hn
  have hd0:=hd d List.mem_cons_self
  have ld:=hb _ _ hd0
  have e:Gp (d::ds) h k=Gp ds (h.put d (.deferred false)) k:=by
   show (match h.get d with|some (.deferred true)=>Gp ds (h.put d (.deferred false)) k|_=>none)=_
   rw[hd0]
  rw[e]
  refine Ok.unwind hn2 (fun x hx=>?_) (hb.put ld _) fun h' c n=>hk h' ?_ (by rw[n];rfl)
  ·rw[Aq _ (fun y=>hn1 (by rw[y];exact hx))];exact hd x (List.mem_cons_of_mem _ hx)
  ·exact((A0.refl h).Az (S:=fun i=>i ∈ d::ds) (.inl List.mem_cons_self) ld _).trans (c.mono fun i hi=>List.mem_cons_of_mem _ hi)
end
structure Kp(S:Nat->Prop)(h0 h:Aa):Prop where
 chg:A0 S h0 h
 same:∀ i,i<h0.next->h.get i=h0.get i
theorem Ext.kp {S:Nat->Prop}{h0 h:Aa}(x:Ext h0 h):Kp S h0 h:=⟨Ext.to x,fun i hi=>x.get i hi id⟩
theorem Kp.Az {S:Nat->Prop}{h0 h:Aa}(x:Kp S h0 h){i:Nat}(hi:h0.next<=i)(hn:i<h.next)(o:Cs):Kp S h0 (h.put i o):=
 ⟨x.chg.Az (.inr hi) hn o,fun j hj=>by rw[Aq _ (by omega)];exact x.same j hj⟩
theorem Kp.at {S:Nat->Prop}{h0 h:Aa}(x:Kp S h0 h)(hb:HB h0){i:Nat}{o:Cs}(g:h0.get i=some o):h.get i=some o:=by rw[x.same i (hb _ _ g)];exact g
theorem Kp.Aw9 {S T:Nat->Prop}{a b c:Aa}(x:Kp S a b)(y:A0 T b c)(st:∀ i,T i->a.next<=i):Kp S a c:=
 ⟨x.chg.then y fun i hi hl=>by have:=st i hi;omega,fun i hi=>by rw[y.get i (Nat.lt_of_lt_of_le hi x.chg.next) fun hT=>by have:=st i hT;omega,x.same i hi]⟩
end Go.Ev

namespace Go.Ev
open Go.Proofs
set_option maxRecDepth 10000
variable {K:Nat}
def Ajl(ps:Nat->List Int)(n:Nat)(d:Int):Nat:=if 0<=d/\d<n then (ps d.toNat).length else 0
theorem Aia {h:Aa}{q c cap:Nat}{buf:List EV}(hq:h.get q=some (.cells [.chan c] 218))(hc:h.get c=some (.chan cap buf)):Cp K (.ptr q 0) h=some (I buf.length,h):=by
 simp only[Cp,Ab,B8 hq rfl]
 have:Ar0 (.chan c) h=some (I buf.length,h):=by
  show (match h.get c with|some (.chan _ buf)=>some (EV.int .i64 (.ofNat (len buf)),h)|_=>none)=_
  rw[hc];simp only;rw[Qi];rfl
 rw[this];rfl
section
variable {h:Aa}{p ql n:Nat}{q c:Nat->Nat}{g:Gm}{ps:Nat->List Int}(P:Dw h p ql n q c g ps)
include P
theorem Dw.rowAt:B7 h (.slice ql 0 n n true) ql 153 1 n ((List.range n).map fun d=>.ptr (q d) 0):=.inr ⟨P.pos,rfl,P.row,by simp⟩
theorem Dw.list(k:EV->R):Al (.ptr p 6) h k=k (.slice ql 0 n n true):=by rw[B8 P.Gb rfl];rfl
theorem Dw.A2n(k:EV->R):Ca 6 (.ptr p 0) h k=k (gV g):=by rw[C0 P.Gb rfl];rfl
theorem Dw.Au2 {d:Nat}(hd:d<n)(k:EV->R):Al (.ptr ql (d*1)) h k=k (.ptr (q d) 0):=by
 rw[B8 P.row rfl,Nat.mul_one,List.getElem?_map,List.getElem?_range hd];rfl
theorem Dw.len {d:Nat}(hd:d<n):Cp K (.ptr (q d) 0) h=some (I (ps d).length,h):=by
 rw[Aia (P.que d hd) (P.chan d hd),List.length_map]
theorem Apt(d:Int):Nb K (.ptr p 0) (I d) h=some (I (Ajl ps n d:Nat),h):=by
 unfold Ajl
 simp only[Nb,I,Af,Ab]
 by_cases h1:d<0
 ·simp only[h1,decide_true,Ab,Af,Mp]
  rw[if_neg (by omega)];rfl
 ·simp only[h1,decide_false,Ab,Af,P.list,Mp]
  by_cases h2:(n:Int)<=d
  ·simp only[h2,decide_true,Ab]
   rw[if_neg (by omega)];rfl
  ·simp only[h2,decide_false,Ab,Xl,P.list]
   have hd:d.toNat<n:=by omega
   have e:d=(d.toNat:Int):=by omega
   rw[e,P.rowAt.ix hd]
   simp only[Ab,P.Au2 hd]
   rw[P.len hd,A9,if_pos (by omega)];rfl
end
def Awf(ps:Nat->List Int)(O0:Int)(b:Int)(d:Nat):Int:=if ¬ (d:Int)=O0/\(b<0\/(ps b.toNat).length<(ps d).length) then d else b
def Ek(ps:Nat->List Int)(O0:Int)(n:Nat):Int:=(List.range n).foldl (Awf ps O0) (-1)
theorem Ahy(ps:Nat->List Int)(O0:Int)(n:Nat):Ek ps O0 (n+1)=Awf ps O0 (Ek ps O0 n) n:=by unfold Ek;rw[List.range_succ,List.foldl_append];rfl
theorem Avu(ps:Nat->List Int)(O0:Int):∀ n,-1<=Ek ps O0 n/\Ek ps O0 n<(n:Int)/\(Ek ps O0 n = -1\/0<=Ek ps O0 n)
 | 0=>by unfold Ek;simp
 | n+1=>by
  obtain⟨a,b,c⟩:=Avu ps O0 n
  rw[Ahy];unfold Awf
  split <;> omega
def Axw(n:Nat)(ps:Nat->List Int):Prop:=n<=64/\∀ d,d<n->(ps d).length<=4096
theorem Aso {p ql n:Nat}{q c:Nat->Nat}{g:Gm}{ps:Nat->List Int}(O0:Int)(hn:n<=64):∀ (m i:Nat) (h:Aa),n-i<m->i<=n->HB h->Dw h p ql n q c g ps ->
 Ok (C2 K m (.ptr p 0) (I O0) (I (Ek ps O0 i)) (.slice ql 0 n n true) (I n) (I i) h) fun v h'=>v=I (Ek ps O0 n)/\Ext h h':=by
 intro m
 induction m with
 | zero=>intro i h hm;omega
 | succ m ih=>
  intro i h hm hi hb P
  simp only[C2,I,Af,Ab]
  by_cases hlt:(i:Int)<n
  ·have hi':i<n:=by omega
   simp only[hlt,decide_true,Ab,Tx]
   rw[P.rowAt.ix hi',P.Au2 hi']
   obtain⟨b0,b1,b2⟩:=Avu ps O0 i
   have next:∀ (b:Int) (h1:Aa),b=Ek ps O0 (i+1)->Ext h h1->Ok (Kj K (C2 K m) (.ptr p 0) (.int .i64 O0) (.int .i64 b) (.slice ql 0 n n true) (.int .i64 (n:Int)) (.int .i64 (i:Int)) h1) fun v h'=>v=I (Ek ps O0 n)/\Ext h h':=by
    rintro _ h1 rfl x1
    simp only[Kj,Af]
    rw[Cq (by omega) (by omega)]
    exact(ih (i+1) h1 (by omega) (by omega) (x1.hb hb) (P.ext fun i o g=>x1.at hb g)).mono fun v h' a=>⟨a.1,x1.trans a.2⟩
   rw[Ahy]at next
   unfold Awf at next
   simp only[Ab,Af]
   by_cases hbut:(i:Int)=O0
   ·simp only[hbut,not_true_eq_false,decide_false,Ab,Af,Ko,Gi,Gf]
    rw[if_neg (fun x=>x.1 hbut)]at next
    rw[hbut]at next
    exact next _ h rfl (A0.refl _)
   ·simp only[hbut,not_false_eq_true,decide_true,Ab,Af,Ko]
    by_cases hneg:Ek ps O0 i<0
    ·simp only[hneg,decide_true,Ab,Af,Gi,Gf]
     rw[if_pos ⟨hbut,.inl hneg⟩]at next
     exact next _ h rfl (A0.refl _)
    ·simp only[hneg,decide_false,Ab,Af]
     refine Ok.Ci (by kernel_rfl) (by kernel_rfl) (P:=fun v h2=>v=I (ps i).length/\Ext h.lift h2) ⟨_,_,(P.ext (h':=h.lift) fun i o g=>by rw[C5];exact g).len hi',rfl,A0.refl _⟩ (fun _ _ p=>p.2) ?_
     rintro _ h2 h3 ⟨rfl,_⟩ _ x3
     have P3:Dw h3 p ql n q c g ps:=P.ext fun i o g=>x3.at hb g
     have hp:p<h.next:=hb _ _ P.Gb
     have hq:ql<h.next:=hb _ _ P.row
     have hfn:(Ek ps O0 i).toNat<n:=by omega
     simp only[Ab,Bg,Au hp,P3.list]
     rw[show Ek ps O0 i=((Ek ps O0 i).toNat:Int) by omega,P3.rowAt.ix hfn]
     simp only[Ab,Bg,Au hq,P3.Au2 hfn]
     refine Ok.Ci (by kernel_rfl) (by kernel_rfl) (P:=fun v h2=>v=I (ps (Ek ps O0 i).toNat).length/\Ext h3.lift h2) ⟨_,_,(P3.ext (h':=h3.lift) fun i o g=>by rw[C5];exact g).len hfn,rfl,A0.refl _⟩ (fun _ _ p=>p.2) ?_
     rintro _ h4 h5 ⟨rfl,_⟩ _ x5
     rw[show ((Ek ps O0 i).toNat:Int)=Ek ps O0 i by omega]
     simp only[Af,I]
     by_cases hc:((ps (Ek ps O0 i).toNat).length:Int)<(ps i).length
     ·simp only[hc,decide_true,Gi,Gf,Ab,Af]
      rw[if_pos ⟨hbut,.inr (by omega)⟩]at next
      exact next _ h5 rfl (x3.trans x5)
     ·simp only[hc,decide_false,Gi,Gf,Ab,Af]
      rw[if_neg (fun x=>by rcases x.2 with a|a <;> omega)]at next
      exact next _ h5 rfl (x3.trans x5)
  ·have:i=n:=by omega
   subst this
   simp only[hlt,decide_false,Ab,Oh]
   exact .ret ⟨rfl,A0.refl _⟩
theorem Ahk {h:Aa}{p ql n:Nat}{q c:Nat->Nat}{g:Gm}{ps:Nat->List Int}(P:Dw h p ql n q c g ps)(hb:HB h)(hn:n<=64)(hK:1000<K)(O0:Int):
 Ok (Hc K (.ptr p 0) (I O0) h) fun v h'=>v=I (Ek ps O0 n)/\Ext h h':=by
 simp only[Hc,Ab,P.list]
 exact Aso O0 hn K 0 h (by omega) (by omega) hb P
def Afl(ps:Nat->List Int)(n:Nat):Nat:=((List.range n).map fun d=>(ps d).length).sum
theorem Aad(ps:Nat->List Int)(n:Nat):Afl ps (n+1)=Afl ps n+(ps n).length:=by unfold Afl;rw[List.range_succ,List.map_append,List.sum_append];simp
def U5(ps:Nat->List Int)(n:Nat):Int:=min ((Afl ps n:Int) / 2) (Afl ps n-Ajl ps n (Ek ps (-1) n))
theorem Aye {p ql n:Nat}{q c:Nat->Nat}{g:Gm}{ps:Nat->List Int}{h:Aa}(hs:Axw n ps)(hb:HB h)(P:Dw h p ql n q c g ps)(hK:1000<K):∀ (m i:Nat),n-i<m->i<=n->Afl ps i<=4096*i ->
 Ok (E1 K m (.ptr p 0) (I (Afl ps i)) (.slice ql 0 n n true) (I n) (I i) h) fun v h'=>v=I (U5 ps n)/\Ext h h':=by
 obtain⟨hn,hl⟩:=hs
 intro m
 induction m with
 | zero=>intro i hm;omega
 | succ m ih=>
  intro i hm hi hsum
  simp only[E1,I,Af,Ab]
  by_cases hlt:(i:Int)<n
  ·have hi':i<n:=by omega
   have:=hl i hi'
   simp only[hlt,decide_true,Ab,W8]
   rw[P.rowAt.ix hi',P.Au2 hi',P.len hi',A9]
   simp only[I,Af,W7]
   rw[Cq (by omega) (by omega),Cq (by omega) (by omega)]
   have e:((Afl ps i:Int)+(ps i).length)=(Afl ps (i+1):Nat):=by rw[Aad];omega
   rw[e]
   exact ih (i+1) (by omega) (by omega) (by rw[Aad];omega)
  ·have:i=n:=by omega
   subst this
   simp only[hlt,decide_false,Ab,Qk]
   rw[A6j (by omega) (by omega) (by omega)]
   refine(Ahk P hb hn hK (-1)).Aj ?_
   rintro _ h1 ⟨rfl,x1⟩
   rw[Apt (P.ext fun i o g=>x1.at hb g),A9]
   simp only[I,Af]
   have hle:Ajl ps i (Ek ps (-1) i)<=4096:=by
    unfold Ajl
    split
    ·exact hl _ (by omega)
    ·omega
   rw[Cq (by omega) (by omega),min2,A9]
   exact .ret ⟨rfl,x1⟩
theorem A4b {h:Aa}{p ql n:Nat}{q c:Nat->Nat}{g:Gm}{ps:Nat->List Int}(P:Dw h p ql n q c g ps)(hb:HB h)(hs:Axw n ps)(hK:1000<K):
 Ok (Qg K (.ptr p 0) h) fun v h'=>v=I (U5 ps n)/\Ext h h':=by
 simp only[Qg,Ab,P.list]
 exact Aye hs hb P hK K 0 (by obtain⟨a,_⟩:=hs;omega) (by omega) (by unfold Afl;simp)
end Go.Ev

namespace Go.Ev
open Go.Proofs
set_option maxRecDepth 100000
variable {K:Nat}
def Ux(D:Nat)(g:Gm)(p bl n:Nat)(a b u:Int):List EV:=[.ptr D 0]++gL g++A3++[.ptr p 0,.slice bl 0 n n false,I a,I b,I u]
theorem Tk:A3.length=256:=by kernel_rfl
section
variable (D:Nat)(g:Gm)(p bl n:Nat)(a b u:Int)
theorem Aod:(Ux D g p bl n a b u).length=268:=by unfold Ux;simp[Tk,gL]
theorem Aw7:(Ux D g p bl n a b u)[0]? = some (.ptr D 0):=rfl
theorem A2k:Of (Ux D g p bl n a b u) 1 6=some (gL g):=by kernel_rfl
theorem Ayc:Of (Ux D g p bl n a b u) 7 256=some A3:=by kernel_rfl
theorem A16:(Ux D g p bl n a b u)[263]? = some (.ptr p 0):=by kernel_rfl
theorem A5b:(Ux D g p bl n a b u)[264]? = some (.slice bl 0 n n false):=by kernel_rfl
theorem A9g:(Ux D g p bl n a b u)[265]? = some (I a):=by kernel_rfl
theorem A9i:(Ux D g p bl n a b u)[266]? = some (I b):=by kernel_rfl
theorem A8x:(Ux D g p bl n a b u)[267]? = some (I u):=by kernel_rfl
end
theorem Z1 {h:Aa}{i t n:Nat}{l:List EV}(hg:h.get i=some (.cells l t))(hs:TT.size t=some n)(ha:TT.agg t=some true)(hl:l.length=n):Cx TT [.c (.ptr i 0) t] h=some (.agg l,h):=by
 have hr:Gs h i 0 n=some l:=by
  unfold Gs;rw[hg];simp only;rw[<-Re];exact Av hl
 unfold Cx
 simp only[Aok,hs,hr,ha]
structure Ye(h:Aa)(m D p bl n:Nat)(g:Gm)(a b u:Int)(bad:Nat->Int):Prop where
 I8:h.get m=some (.cells (Ux D g p bl n a b u) 149)
 Amb:h.get bl=some (.cells ((List.range n).map fun z=>I (bad z)) 3)
section
variable {h:Aa}{m D p bl n:Nat}{g:Gm}{a b u:Int}{bad:Nat->Int}(M:Ye h m D p bl n g a b u bad)
include M
theorem Ye.C6(k:EV->R):Al (.ptr m 0) h k=k (.ptr D 0):=by rw[B8 M.I8 rfl,Aw7];rfl
theorem Ye.A2n(k:EV->R):Ca 6 (.ptr m 1) h k=k (gV g):=by rw[C0 M.I8 rfl,A2k];rfl
theorem Ye.table(k:EV->R):Ca 256 (.ptr m 7) h k=k We:=by rw[C0 M.I8 rfl,Ayc];rfl
theorem Ye.Gb(k:EV->R):Al (.ptr m 263) h k=k (.ptr p 0):=by rw[B8 M.I8 rfl,A16];rfl
theorem Ye.Bbk(k:EV->R):Al (.ptr m 264) h k=k (.slice bl 0 n n false):=by rw[B8 M.I8 rfl,A5b];rfl
theorem Ye.oa(k:EV->R):Al (.ptr m 265) h k=k (I a):=by rw[B8 M.I8 rfl,A9g];rfl
theorem Ye.ob(k:EV->R):Al (.ptr m 266) h k=k (I b):=by rw[B8 M.I8 rfl,A9i];rfl
theorem Ye.ou(k:EV->R):Al (.ptr m 267) h k=k (I u):=by rw[B8 M.I8 rfl,A8x];rfl
theorem Ye.ext {h':Aa}(e:∀ i o,h.get i=some o->h'.get i=some o):Ye h' m D p bl n g a b u bad:=⟨e _ _ M.I8,e _ _ M.Amb⟩
theorem Apa:Hz K (.ptr m 0) h=some (.ptr p 0,h):=by simp only[Hz,Ab,M.Gb]
theorem Ac7:Ef K (.ptr m 0) h=some (.ptr D 0,h):=by simp only[Ef,Ab,M.C6]
theorem Anr:Hx K (.ptr m 0) h=some (.tuple [I a,I b,I u],h):=by simp only[Hx,Ab,M.oa,M.ob,M.ou]
end
section
variable {h:Aa}{D V M zl n:Nat}{z q:Nat->Nat}{size op cnt:Int}{down:Bool}{Ij happened:EV}{marks:List (EV × EV)}{Zs:Nat->Zn}
theorem Ac6(d:Yb h D V M zl n z q size op cnt down Ij happened marks Zs):Di K (.ptr D 0) h=some (.ptr V 0,h):=by simp only[Di,Ab,B8 d.C6 rfl]
theorem Ab0(d:Jy h V zl n z q size op cnt down Zs):Hf K (.ptr V 0) h=some (I n,h):=by simp only[Hf,Ab,B8 d.dev rfl,I]
theorem Alp(d:Jy h V zl n z q size op cnt down Zs):Jp K (.ptr V 0) h=some (I size,h):=by simp only[Jp,Ab,B8 d.dev rfl]
end
theorem Bbt(v:EV):∀ n,rep [v] n=List.replicate n v
 | 0=>rfl
 | n+1=>by show [v]++rep [v] n=_;rw[Bbt v n];rfl
theorem Aub(v:EV)(n:Nat):(List.range n).map (fun _=>v)=List.replicate n v:=by
 rw[List.map_const',List.length_range]
theorem Aql {g:Gm}(hK:1000<K){h:Aa}(hb:HB h){D V M zl n:Nat}{z q:Nat->Nat}{size op cnt:Int}{down:Bool}{Ij happened:EV}{marks:List (EV × EV)}{Zs:Nat->Zn}(dr:Yb h D V M zl n z q size op cnt down Ij happened marks Zs):
 Ok (Ab1 K (.ptr D 0) (gV g) We h) fun v h'=>Ext h h'/\HB h'/\if rtB g=true/\g.D*g.Z=n/\g.S=size then
  ∃ m p bl ql q c,v=.tuple [.ptr m 0,I 0]/\Ye h' m D p bl n g (-1) (-1) 0 (fun _=>0)/\Dw h' p ql g.D.toNat q c g (fun _=>[])/\(h.next<=m/\h.next<=bl)/\h.next<=p/\h.next<=ql/\∀ d,d<g.D.toNat->h.next<=q d/\h.next<=c d else v=.tuple [.Ej,I 20]:=by
 have hcv:Ea 72 We (h.new (.cells (gL g) 23))=fun(k:EV->Aa->R)=>k (.ptr (h.next+1) 0) ((h.new (.cells (gL g) 23)).new (.cells A3 72)):=rfl
 simp only[Ab1,gV,Ab,hcv]
 have g4:((h.new (.cells (gL g) 23)).new (.cells A3 72)).get h.next=some (.cells (gL g) 23):=by rw[A4 _ (Nat.lt_succ_self _)];exact Ac _ _
 have g5:((h.new (.cells (gL g) 23)).new (.cells A3 72)).get (h.next+1)=some (.cells A3 72):=Ac _ _
 have x1:Ext h ((h.new (.cells (gL g) 23)).new (.cells A3 72)):=(A0.new _ _).Fa _
 have n1:((h.new (.cells (gL g) 23)).new (.cells A3 72)).next=h.next+2:=rfl
 generalize (h.new (.cells (gL g) 23)).new (.cells A3 72)=h1 at g4 g5 x1 n1 ⊢
 have hb1:=x1.hb hb
 simp only[C0 g4 rfl,Av (show (gL g).length=6 from rfl),Ab]
 cases hr:rtB g with
 | false=>
  refine(Av6 hr h1).Aj ?_
  rintro _ h2 ⟨rfl,x2⟩
  simp only[Ab,I,Af,show ¬ ((20:Int)=0) by decide,not_false_eq_true,decide_true,To,Nn]
  exact .ret ⟨x1.trans x2,x2.hb hb1,rfl⟩
 | true=>
  have s:=Xo hr
  have:=s.d0;have:=s.d1;have:=s.z0;have:=s.z1
  obtain⟨m0,m1⟩:=U7 (a:=g.D) (b:=g.Z) (A:=8) (B:=64) (by omega) (by omega) (by omega) (by omega)
  refine(Asv hr hK hb1).Aj ?_
  rintro _ h2 ⟨p,ql,qq,c,rfl,x2,hb2,P,nw⟩
  have k2:∀ i o,h.get i=some o->h2.get i=some o:=fun i o g=>x2.at hb1 (x1.at hb g)
  have l4:h.next<h2.next:=by have:=x2.next;omega
  have l5:h.next+1<h2.next:=by have:=x2.next;omega
  have g42:=x2.at hb1 g4
  have g52:=x2.at hb1 g5
  simp only[Ab,I,Af,not_true_eq_false,decide_false]
  refine Ok.Ci (by kernel_rfl) (by kernel_rfl) (P:=fun v h3=>v=.ptr V 0/\Ext h2.lift h3) ⟨_,_,Ac6 ((dr.ext k2).ext fun i o g=>by rw[C5];exact g),rfl,A0.refl _⟩ (fun _ _ p=>p.2) ?_
  rintro _ _ h3 ⟨rfl,_⟩ _ x3
  have hb3:=x3.hb hb2
  have k3:∀ i o,h.get i=some o->h3.get i=some o:=fun i o g=>x3.at hb2 (k2 i o g)
  refine Ok.Ci (by kernel_rfl) (by kernel_rfl) (P:=fun v h4=>v=I n/\Ext h3.lift h4) ⟨_,_,Ab0 ((dr.dev.ext k3).ext fun i o g=>by rw[C5];exact g),rfl,A0.refl _⟩ (fun _ _ p=>p.2) ?_
  rintro _ _ h4 ⟨rfl,_⟩ _ x4
  have hb4:=x4.hb hb3
  have k4:∀ i o,h.get i=some o->h4.get i=some o:=fun i o g=>x4.at hb3 (k3 i o g)
  have x24:Ext h2 h4:=x3.trans x4
  have g44:=x24.at hb2 g42
  simp only[Ab,Bg,Au l4,C0 g44 rfl,Av (show (gL g).length=6 from rfl)]
  refine Ok.Ci (by kernel_rfl) (by kernel_rfl) (P:=fun v h5=>v=I (g.D*g.Z)/\Ext h4.lift h5) ⟨_,_,Y3 s _,rfl,A0.new _ _⟩ (fun _ _ p=>p.2) ?_
  rintro _ _ h5 ⟨rfl,_⟩ _ x5
  have hb5:=x5.hb hb4
  have k5:∀ i o,h.get i=some o->h5.get i=some o:=fun i o g=>x5.at hb4 (k4 i o g)
  simp only[I,Af,To]
  have x25:Ext h2 h5:=x24.trans x5
  by_cases hn:(n:Int)=g.D*g.Z
  ·simp only[hn,not_true_eq_false,decide_false,Ab,Af]
   refine Ok.Ci (by kernel_rfl) (by kernel_rfl) (P:=fun v h6=>v=.ptr V 0/\Ext h5.lift h6) ⟨_,_,Ac6 ((dr.ext k5).ext fun i o g=>by rw[C5];exact g),rfl,A0.refl _⟩ (fun _ _ p=>p.2) ?_
   rintro _ _ h6 ⟨rfl,_⟩ _ x6
   have hb6:=x6.hb hb5
   have k6:∀ i o,h.get i=some o->h6.get i=some o:=fun i o g=>x6.at hb5 (k5 i o g)
   refine Ok.Ci (by kernel_rfl) (by kernel_rfl) (P:=fun v h7=>v=I size/\Ext h6.lift h7) ⟨_,_,Alp ((dr.dev.ext k6).ext fun i o g=>by rw[C5];exact g),rfl,A0.refl _⟩ (fun _ _ p=>p.2) ?_
   rintro _ _ h7 ⟨rfl,_⟩ _ x7
   have hb7:=x7.hb hb6
   have x27:Ext h2 h7:=x25.trans (x6.trans x7)
   have g47:=x27.at hb2 g42
   simp only[Ab,Bg,Au l4,B8 g47 rfl,gL,I,Af]
   by_cases hs:size=g.S
   ·subst hs
    simp only[not_true_eq_false,decide_false,Nn,Agy,Ab]
    have g57:=x27.at hb2 g52
    have l47:h.next<h7.next:=Nat.lt_of_lt_of_le l4 x27.next
    have l57:h.next+1<h7.next:=Nat.lt_of_lt_of_le l5 x27.next
    simp only[Ab,Bg,Au l47,Au l57,C0 g47 rfl,C0 g57 rfl,Av (show (gL g).length=6 from rfl),Av Tk]
    refine Ok.Ci (by kernel_rfl) (by kernel_rfl) (P:=fun v h8=>v=I (g.D*g.Z)/\Ext h7.lift h8) ⟨_,_,Y3 s _,rfl,A0.new _ _⟩ (fun _ _ p=>p.2) ?_
    rintro _ _ h8 ⟨rfl,_⟩ _ x8
    have hb8:=x8.hb hb7
    have x28:Ext h2 h8:=x27.trans x8
    simp only[Ab,Bg,I]
    rw[<-hn]
    have hmk:Abv [.int .i64 0] 3 (.int .i64 (n:Int)) (.int .i64 (n:Int)) h8=some (.slice h8.next 0 n n false,h8.new (.cells (rep [.int .i64 0] n) 3)):=by
     show As (Nat.ble n n) (As (Nat.ble n 65536) _ none) none=_
     rw[Nat.ble_eq_true_of_le (Nat.le_refl n),Ak,Nat.ble_eq_true_of_le (by omega),Ak]
    rw[hmk,A9,Bi (l:=Ux D g p h8.next n (-1) (-1) 0) (by kernel_rfl)]
    simp only[Ab,Bg]
    have x8':Ext h8 ((h8.new (.cells (rep [.int .i64 0] n) 3)).new (.cells (Ux D g p h8.next n (-1) (-1) 0) 149)):=(A0.new _ _).Fa _
    have hx:Ext h ((h8.new (.cells (rep [.int .i64 0] n) 3)).new (.cells (Ux D g p h8.next n (-1) (-1) 0) 149)):=(x1.trans x2).trans (x28.trans x8')
    refine .ret ⟨hx,hx.hb hb,?_⟩
    rw[if_pos (by first|exact⟨rfl,hn.symm,rfl⟩|simp[hn]|simp)]
    refine⟨h8.next+1,p,h8.next,ql,qq,c,rfl,⟨Ac _ _,?_⟩,P.ext fun i o g=>Ext.at (x28.trans x8') hb2 g,?_⟩
    ·rw[A4 _ (Nat.lt_succ_self _),Ac,Bbt,Aub]
    ·have t1:=x1.next
     have t2:=x2.next
     have t3:=x28.next
     exact⟨⟨by omega,by omega⟩,by omega,by omega,fun d hd=>by have:=nw.2.2 d hd;omega⟩
   ·have hs':¬ size=g.S:=hs
    simp only[hs',not_false_eq_true,decide_true,Nn,Ab]
    have hx:Ext h h7:=(x1.trans x2).trans x27
    refine .ret ⟨hx,hx.hb hb,?_⟩
    rw[if_neg (fun x=>hs' x.2.2.symm)]
  ·simp only[hn,not_false_eq_true,decide_true,Ab,Af,Nn]
   have hx:Ext h h5:=(x1.trans x2).trans x25
   refine .ret ⟨hx,hx.hb hb,?_⟩
   rw[if_neg (fun x=>hn x.2.1.symm)]
end Go.Ev

namespace Go.Ev
open Go.Proofs
set_option maxRecDepth 100000
variable {K:Nat}
end Go.Ev

namespace Go.Ev
open Go.Proofs
set_option maxRecDepth 10000
variable {K:Nat}
section
variable {h:Aa}{q c cap:Nat}{xs:List Int}(hq:h.get q=some (.cells [.chan c] 218))(hc:h.get c=some (.chan cap (xs.map I)))
include hq hc
theorem As7(x:Int)(hl:xs.length<cap):E7 K (.ptr q 0) (I x) h=some (I 0,h.put c (.chan cap ((xs++[x]).map I))):=by
 have hs:Aol (.chan c) (I x) h=some (.tuple [.int .i64 0,.bool false],h.put c (.chan cap ((xs++[x]).map I))):=by
  unfold Aol Arf
  simp only[hc,Qi,List.length_map]
  rw[Nat.ble_eq_true_of_le hl,Ak,List.map_append];rfl
 simp only[E7,Ab,B8 hq rfl,hs,Af,decide_true]
theorem A9k(x:Int)(hl:cap<=xs.length):E7 K (.ptr q 0) (I x) h=some (I 17,h):=by
 have hs:Aol (.chan c) (I x) h=some (.tuple [.int .i64 (-1),.bool false],h):=by
  unfold Aol Arf
  simp only[hc,Qi,List.length_map]
  rw[show Nat.ble (Nat.succ xs.length) cap=false from by
   cases hb:Nat.ble (Nat.succ xs.length) cap with
   | false=>rfl
   | true=>have:=Nat.le_of_ble_eq_true hb;omega,Ax]
 simp only[E7,Ab,B8 hq rfl,hs,Af,show ¬ ((-1:Int)=0) by decide,decide_false]
theorem take_cons {x:Int}{r:List Int}(hx:xs=x::r):D8 K (.ptr q 0) h=some (.tuple [I x,I 0],h.put c (.chan cap (r.map I))):=by
 subst hx
 have hs:Ao7 (.int .i64 0) (.chan c) h=some (.tuple [.int .i64 0,.bool true,I x],h.put c (.chan cap (r.map I))):=by
  unfold Ao7 Aq0
  simp only[hc,List.map_cons]
 simp only[D8,Ab,B8 hq rfl,hs,Af,decide_true]
theorem take_nil(hx:xs = []):D8 K (.ptr q 0) h=some (.tuple [I 0,I 15],h):=by
 subst hx
 have hs:Ao7 (.int .i64 0) (.chan c) h=some (.tuple [.int .i64 (-1),.bool false,.int .i64 0],h):=by
  unfold Ao7 Aq0
  simp only[hc,List.map_nil]
 simp only[D8,Ab,B8 hq rfl,hs,Af,show ¬ ((-1:Int)=0) by decide,decide_false]
end
structure Listed(h0 h:Aa)(v:EV)(c cap:Nat)(xs:List Int)(q':Nat):Prop where
 row:B7 h v q' 3 1 xs.length (xs.map I)
 new:0<xs.length->h0.next<=q'
 chan:h.get c=some (.chan cap (xs.map I))
 chg:A0 (fun i=>i=c) h0 h
 hb:HB h
theorem A2m {h0:Aa}{q c cap:Nat}{xs:List Int}(hq0:h0.get q=some (.cells [.chan c] 218))(hc0:∃ b,h0.get c=some (.chan cap b))(hcap:xs.length<=cap)(hsm:cap<=4096)(hb0:HB h0):∀ (m j:Nat) (h:Aa) (s:EV) (q':Nat),xs.length-j<m->j<=xs.length ->
 B7 h s q' 3 1 xs.length (xs.map I)->(0<xs.length->h0.next<=q')->h.get c=some (.chan cap ((xs.take j).map I))->A0 (fun i=>i=c) h0 h->HB h ->
 Ok (Ee K m (.ptr q 0) s s (I xs.length) (I j) h) fun v h'=>∃ q',Listed h0 h' v c cap xs q':=by
 obtain⟨b0,hc0⟩:=hc0
 have hqc:q ≠ c:=Bo hq0 hc0 (by simp)
 have lc:=hb0 _ _ hc0
 intro m
 induction m with
 | zero=>intro j h s q' hm;omega
 | succ m ih=>
  intro j h s q' hm hj row new hc x hb
  simp only[Ee,I,Af,Ab]
  by_cases hlt:(j:Int)<xs.length
  ·have hj':j<xs.length:=by omega
   have hq:h.get q=some (.cells [.chan c] 218):=A0.at x hb0 hq0 hqc
   have hbl:=row.block (by omega)
   simp only[hlt,decide_true,Ab,Vo]
   rw[row.ix hj',B8 hbl rfl,Nat.mul_one,List.getElem?_map,List.getElem?_eq_getElem hj',Option.map_some,Gl,As7 hq hc xs[j] (by rw[List.length_take];omega),A9]
   simp only[Vh,Af]
   rw[Cq (by omega) (by omega)]
   have e:xs.take j++[xs[j]]=xs.take (j+1):=(List.take_succ_eq_append_getElem hj').symm
   rw[e]
   have lc':c<h.next:=Nat.lt_of_lt_of_le lc x.next
   have hne:q' ≠ c:=Bo hbl hc (by simp)
   exact ih (j+1) _ s q' (by omega) (by omega) (row.frame fun _=>Aq _ (Ne.symm hne)) new (Ah _ _ _) (x.Az (.inl rfl) lc' _) (hb.put lc' _)
  ·have:j=xs.length:=by omega
   subst this
   simp only[hlt,decide_false,Ab,Ps]
   rw[List.take_length]at hc
   exact .ret ⟨q',row,new,hc,x,hb⟩
theorem A2s {h0:Aa}{q c cap:Nat}{xs:List Int}(hq0:h0.get q=some (.cells [.chan c] 218))(hc0:∃ b,h0.get c=some (.chan cap b))(hcap:xs.length<=cap)(hsm:cap<=4096)(hb0:HB h0)(hK:5000<K):∀ (m j:Nat) (h:Aa) (s:EV) (q':Nat),xs.length-j<m->j<=xs.length ->
 B7 h s q' 3 1 j ((xs.take j).map I)->(0<j->h0.next<=q')->h.get c=some (.chan cap ((xs.drop j).map I))->A0 (fun i=>i=c) h0 h->HB h ->
 Ok (Ei K m (.ptr q 0) s (I xs.length) (I j) h) fun v h'=>∃ q',Listed h0 h' v c cap xs q':=by
 have hc0':=hc0
 obtain⟨b0,hc0⟩:=hc0
 have hqc:q ≠ c:=Bo hq0 hc0 (by simp)
 have lc:=hb0 _ _ hc0
 intro m
 induction m with
 | zero=>intro j h s q' hm;omega
 | succ m ih=>
  intro j h s q' hm hj row new hc x hb
  simp only[Ei,I,Af,Ab]
  by_cases hlt:(j:Int)<xs.length
  ·have hj':j<xs.length:=by omega
   have hq:h.get q=some (.cells [.chan c] 218):=A0.at x hb0 hq0 hqc
   have e:xs.drop j=xs[j]::xs.drop (j+1):=List.drop_eq_getElem_cons hj'
   have lc':c<h.next:=Nat.lt_of_lt_of_le lc x.next
   simp only[hlt,decide_true,Ab,Vj]
   rw[take_cons hq hc e]
   simp only[Ab,I,Af,decide_true]
   have row':B7 (h.put c (.chan cap ((xs.drop (j+1)).map I))) s q' 3 1 j ((xs.take j).map I):=row.frame fun hl=>Aq _ (Ne.symm (Bo (row.block hl) hc (by simp)))
   refine S2 (z:=[.int .i64 0]) row' (hb.put lc' _) rfl rfl rfl (by omega) (by omega) ?_
   intro h2 row2 n2 c2
   have x2:A0 (fun i=>i=c) h0 (h.put c (.chan cap ((xs.drop (j+1)).map I))):=x.Az (.inl rfl) lc' _
   have x3:A0 (fun i=>i=c) h0 h2:=x2.then c2 fun i hi hl=>by have:=new hi.1;omega
   simp only[Px,Af]
   rw[Cq (by omega) (by omega)]
   have e2:(xs.take j).map I++EV.cells (.int .i64 xs[j])=(xs.take (j+1)).map I:=by
    rw[List.take_succ_eq_append_getElem hj',List.map_append];rfl
   rw[e2]at row2
   refine ih (j+1) _ _ _ (by omega) (by omega) row2 (fun _=>by have:=x2.next;omega) ?_ x3 (c2.hb (hb.put lc' _))
   rw[c2.get _ (by rw[Aa.Aer];exact lc') (fun hx=>by
    have:=row.block hx.1
    exact Bo this hc (by simp) hx.2.symm)]
   exact Ah _ _ _
  ·have:j=xs.length:=by omega
   subst this
   rw[List.take_length]at row
   simp only[hlt,decide_false,Ab,Pu]
   rw[row.Hg]
   rw[List.drop_length]at hc
   exact A2m hq0 hc0' hcap hsm hb0 K 0 h s q' (by omega) (by omega) row new hc x hb
theorem Ap8 {h0:Aa}{q c cap:Nat}{xs:List Int}(hq0:h0.get q=some (.cells [.chan c] 218))(hc0:h0.get c=some (.chan cap (xs.map I)))(hcap:xs.length<=cap)(hsm:cap<=4096)(hb0:HB h0)(hK:5000<K):
 Ok (Lj K (.ptr q 0) h0) fun v h'=>∃ q',Listed h0 h' v c cap xs q':=by
 simp only[Lj]
 rw[Aia hq0 hc0,A9,List.length_map]
 exact A2s hq0 ⟨_,hc0⟩ hcap hsm hb0 hK K 0 h0 .Ag 0 (by omega) (by omega) (.nil _ _ _ _) (fun x=>absurd x (Nat.lt_irrefl _)) hc0 (A0.refl _) hb0
theorem Listed.same {h0 h:Aa}{v:EV}{c cap:Nat}{xs:List Int}{q':Nat}(l:Listed h0 h v c cap xs q')(hc:h0.get c=some (.chan cap (xs.map I))):∀ i,i<h0.next->h.get i=h0.get i:=by
 intro i hi
 by_cases e:i=c
 ·subst e;rw[l.chan,hc]
 ·exact l.chg.get i hi e
end Go.Ev

namespace Go.Ev
open Go.Proofs
set_option maxRecDepth 10000
variable {disp:Nat->Option FT}{K:Nat}
theorem Bb1:(Eo TT 49 0).2.1 = [9,10]:=by kernel_rfl
theorem Baw:(Eo TT 149 0).2.1 = [19,20]:=by kernel_rfl
section
variable (H:Aw disp)
include H
theorem A2w {e:Nat}(he:1<=e){h:Aa}{l0 d0 b3 b4:Nat}{tm:Ai}{z x i:Int}(hg:h.get l0=some (B2 TT 49 14 0 tm .ready none d0))(t3:tmp tm 3=.ptr b3 0)(t4:tmp tm 4=.ptr b4 0)(g3:h.get b3=some (.cells [I z] 3))(g4:h.get b4=some (.cells [.bool false] 4))(hb:HB h):
 ∃ h',Ae TT disp K (e+1) true l0 [I i,I x] h=some (.bool (decide (¬ x=z)),h')/\h'.get l0=some (B2 TT 49 14 0 tm (if x=z then .done else .ready) (if x=z then some .ret else none) d0)/\h'.get b4=some (.cells [.bool (decide (x=z))] 4)/\A0 (fun j=>j=l0\/j=b4) h h'/\HB h':=by
 have hg':=hg
 unfold B2 at hg'
 rw[Bb1]at hg'
 rw[Aex H he tm h (I i) (I x) hg',t3,t4]
 have l0l:=hb _ _ hg
 have l4l:=hb _ _ g4
 have n03:l0 ≠ b3:=Bo hg g3 (by simp[B2])
 have n04:l0 ≠ b4:=Bo hg g4 (by simp[B2])
 simp only[O4,Arw hg,Ki]
 have g3':(h.put l0 (B2 TT 49 14 0 tm .busy none d0)).get b3=some (.cells [I z] 3):=by rw[Aq _ n03];exact g3
 have g4':(h.put l0 (B2 TT 49 14 0 tm .busy none d0)).get b4=some (.cells [.bool false] 4):=by rw[Aq _ n04];exact g4
 have g0':(h.put l0 (B2 TT 49 14 0 tm .busy none d0)).get l0=some (B2 TT 49 14 0 tm .busy none d0):=Ah _ _ _
 have x1:A0 (fun j=>j=l0\/j=b4) h (h.put l0 (B2 TT 49 14 0 tm .busy none d0)):=(A0.refl h).Az (.inl (.inl rfl)) l0l _
 have hb1:HB (h.put l0 (B2 TT 49 14 0 tm .busy none d0)):=hb.put l0l _
 have n1:(h.put l0 (B2 TT 49 14 0 tm .busy none d0)).next=h.next:=rfl
 generalize h.put l0 (B2 TT 49 14 0 tm .busy none d0)=h1 at g3' g4' g0' x1 hb1 n1 ⊢
 simp only[B8 g3' rfl,Ab,I,Af]
 by_cases hx:x=z
 ·simp only[hx,decide_true,Ab,not_true_eq_false,decide_false,if_true]
  rw[Ayo (o:=0) (n:=1) (v:=.bool true) (l':=[.bool true]) g4' rfl rfl rfl,Amn (by rw[Aq _ (Ne.symm n04)];exact g0')]
  exact⟨_,rfl,Ah _ _ _,by rw[Aq _ n04];exact Ah _ _ _,(x1.Az (.inl (.inr rfl)) (by omega) _).Az (.inl (.inl rfl)) (by rw[Aa.Aer];omega) _,(hb1.put (by omega) _).put (by rw[Aa.Aer];omega) _⟩
 ·simp only[hx,decide_false,Ab,not_false_eq_true,decide_true,if_false]
  rw[Amn g0']
  exact⟨_,rfl,Ah _ _ _,by rw[Aq _ n04];exact g4',x1.Az (.inl (.inl rfl)) (by omega) _,hb1.put (by omega) _⟩
theorem A03 {e:Nat}(he:2<=e){h:Aa}{l0 d0 b3 b4 l1 d1 b2 b5:Nat}{tm tm1:Ai}{z x i dd:Int}(hg:h.get l0=some (B2 TT 49 14 0 tm .ready none d0))(t3:tmp tm 3=.ptr b3 0)(t4:tmp tm 4=.ptr b4 0)(g3:h.get b3=some (.cells [I z] 3))(g4:h.get b4=some (.cells [.bool false] 4))
 (hg1:h.get l1=some (B2 TT 149 27 0 tm1 .ready none d1)) (u2:tmp tm1 2=.ptr b2 0) (u3:tmp tm1 3=.ptr b5 0) (g2:h.get b2=some (.cells [.Y5 l0] 142)) (g5:h.get b5=some (.cells [I dd] 3)) (hb:HB h) :
 ∃ h',Ae TT disp K (e+1) true l1 [I i,I x] h=some (.bool (decide (¬ x=z)),h')/\h'.get l0=some (B2 TT 49 14 0 tm (if x=z then .done else .ready) (if x=z then some .ret else none) d0)/\h'.get l1=some (B2 TT 149 27 0 tm1 (if x=z then .done else .ready) (if x=z then some .ret else none) d1) /\
  h'.get b4=some (.cells [.bool (decide (x=z))] 4)/\A0 (fun j=>j=l0\/j=b4\/j=l1) h h'/\HB h':=by
 obtain⟨e,rfl⟩:∃ k,e=k+1:=⟨e-1,by omega⟩
 have hg':=hg1
 unfold B2 at hg'
 rw[Baw]at hg'
 rw[Acd H (by omega) tm1 h (I i) (I x) hg',u2,u3]
 have l1l:=hb _ _ hg1
 have n10:l1 ≠ l0:=Bo hg1 hg (by simp[B2])
 have n1c:∀ b o,h.get b=some o->(∀ st p,o ≠ B2 TT 149 27 0 tm1 st p d1)->(h.put l1 (B2 TT 149 27 0 tm1 .busy none d1)).get b=some o:=fun b o gb hn=>by
  rw[Aq _ (Bo hg1 gb (fun x=>hn _ _ x.symm))];exact gb
 simp only[Md,Arw hg1,Jf]
 have q0:=n1c _ _ hg (by intros;simp[B2])
 have q2:=n1c _ _ g2 (by intros;simp[B2])
 have q3:=n1c _ _ g3 (by intros;simp[B2])
 have q4:=n1c _ _ g4 (by intros;simp[B2])
 have q5:=n1c _ _ g5 (by intros;simp[B2])
 have q1:(h.put l1 (B2 TT 149 27 0 tm1 .busy none d1)).get l1=some (B2 TT 149 27 0 tm1 .busy none d1):=Ah _ _ _
 have x1:A0 (fun j=>j=l0\/j=b4\/j=l1) h (h.put l1 (B2 TT 149 27 0 tm1 .busy none d1)):=(A0.refl h).Az (.inl (.inr (.inr rfl))) l1l _
 have hb1:HB (h.put l1 (B2 TT 149 27 0 tm1 .busy none d1)):=hb.put l1l _
 have n1:(h.put l1 (B2 TT 149 27 0 tm1 .busy none d1)).next=h.next:=rfl
 generalize h.put l1 (B2 TT 149 27 0 tm1 .busy none d1)=h1 at q0 q1 q2 q3 q4 q5 x1 hb1 n1 ⊢
 simp only[B8 q2 rfl,B8 q5 rfl,Ab]
 have hc:Y6 (Ae TT disp K (e+1) false) (Ae TT disp K (e+1) true) (.Y5 l0) [I dd,I x] h1=Ae TT disp K (e+1) true l0 [I dd,I x] h1:=rfl
 rw[hc]
 obtain⟨h2,r1,r2,r3,r4,r5⟩:=A2w (K:=K) H (e:=e) (by omega) (i:=dd) (x:=x) q0 t3 t4 q3 q4 hb1
 rw[r1,A9]
 have q12:h2.get l1=some (B2 TT 149 27 0 tm1 .busy none d1):=A0.at r4 hb1 q1 (fun y=>by
  rcases y with y|y
  ·exact n10 y
  ·exact Bo q1 q4 (by simp[B2]) y)
 have n2:=r4.next
 have x2:A0 (fun j=>j=l0\/j=b4\/j=l1) h h2:=x1.trans (r4.mono fun j hj=>hj.elim .inl (fun y=>.inr (.inl y)))
 by_cases hx:x=z
 ·simp only[hx,not_true_eq_false,decide_false,decide_true,if_true]at r2 r3 ⊢
  simp only[Ab]
  rw[Amn q12]
  refine⟨_,rfl,?_,Ah _ _ _,?_,x2.Az (.inl (.inr (.inr rfl))) (by omega) _,r5.put (by omega) _⟩
  ·rw[Aq _ n10];exact r2
  ·rw[Aq _ (Bo q12 r3 (by simp[B2]))];exact r3
 ·simp only[hx,not_false_eq_true,decide_false,decide_true,if_false]at r2 r3 ⊢
  simp only[Ab]
  rw[Amn q12]
  refine⟨_,rfl,?_,Ah _ _ _,?_,x2.Az (.inl (.inr (.inr rfl))) (by omega) _,r5.put (by omega) _⟩
  ·rw[Aq _ n10];exact r2
  ·rw[Aq _ (Bo q12 r3 (by simp[B2]))];exact r3
end
end Go.Ev

namespace Go.Ev
open Go.Proofs
set_option maxRecDepth 10000
variable {disp:Nat->Option FT}{K:Nat}
structure Axf(h:Aa)(l0 d0:Nat)(tm:Ai)(b3 b4:Nat)(z:Int)(b2:Nat)(found:Bool):Prop where
 lp:h.get l0=some (B2 TT 49 14 0 tm (if found then .done else .ready) (if found then some .ret else none) d0)
 c3:h.get b3=some (.cells [I z] 3)
 c4:h.get b4=some (.cells [.bool found] 4)
 c2:h.get b2=some (.cells [.Y5 l0] 142)
 hb:HB h
structure A3p(tm:Ai)(b3 b4:Nat):Prop where
 t3:tmp tm 3=.ptr b3 0
 t4:tmp tm 4=.ptr b4 0
section
variable (H:Aw disp){l0 d0:Nat}{tm:Ai}{b3 b4:Nat}{z:Int}{b2:Nat}(T0:A3p tm b3 b4){l1 d1:Nat}{tm1:Ai}{b5:Nat}{dd:Int}(u2:tmp tm1 2=.ptr b2 0)(u3:tmp tm1 3=.ptr b5 0)
include H T0 u2 u3
theorem A1f {e:Nat}(he:3<=e){xs:List Int}(hn:xs.length<=4096):∀ (m i:Nat) (h:Aa) (s:EV) (q':Nat),xs.length-i<m->i<=xs.length->Axf h l0 d0 tm b3 b4 z b2 false->h.get l1=some (B2 TT 149 27 0 tm1 .ready none d1)->h.get b5=some (.cells [I dd] 3) ->
 B7 h s q' 3 1 xs.length (xs.map I)->(xs.take i).contains z=false ->
 Ok (Dn (Ae TT disp K e false) (Ae TT disp K e true) K m (.Y5 l1) s (I xs.length) (I i) h) fun v h'=>v=.tuple []/\Axf h' l0 d0 tm b3 b4 z b2 (xs.contains z)/\h'.get l1=some (B2 TT 149 27 0 tm1 (if xs.contains z then .done else .ready) (if xs.contains z then some .ret else none) d1)/\A0 (fun j=>j=l0\/j=b4\/j=l1) h h':=by
 intro m
 induction m with
 | zero=>intro i h s q' hm;omega
 | succ m ih=>
  intro i h s q' hm hi L g1 g5 row hno
  simp only[Dn,I,Af,Ab]
  by_cases hlt:(i:Int)<xs.length
  ·have hi':i<xs.length:=by omega
   have hbl:=row.block (by omega)
   simp only[hlt,decide_true,Ab,Tw]
   rw[row.ix hi',B8 hbl rfl,Nat.mul_one,List.getElem?_map,List.getElem?_eq_getElem hi',Option.map_some,Gl]
   obtain⟨e,rfl⟩:∃ k,e=k+1:=⟨e-1,by omega⟩
   have hc:Y6 (Ae TT disp K (e+1) false) (Ae TT disp K (e+1) true) (.Y5 l1) [I i,I xs[i]] h=Ae TT disp K (e+1) true l1 [I i,I xs[i]] h:=rfl
   obtain⟨h2,r1,r2,r3,r4,r5,r6⟩:=A03 (K:=K) H (e:=e) (by omega) (i:=i) (x:=xs[i]) L.lp T0.t3 T0.t4 L.c3 L.c4 g1 u2 u3 L.c2 g5 L.hb
   have hgo:∀ k:EV->Aa->R,Aj (Y6 (Ae TT disp K (e+1) false) (Ae TT disp K (e+1) true) (.Y5 l1) [.int .i64 (i:Int),I xs[i]] h) k=k (.bool (decide (¬ xs[i]=z))) h2:=fun k=>by
    have:Y6 (Ae TT disp K (e+1) false) (Ae TT disp K (e+1) true) (.Y5 l1) [.int .i64 (i:Int),I xs[i]] h=some (.bool (decide (¬ xs[i]=z)),h2):=hc.trans r1
    rw[this,A9]
   rw[hgo]
   have keep:∀ b o,h.get b=some o->(∀ st p,o ≠ B2 TT 49 14 0 tm st p d0)->(∀ st p,o ≠ B2 TT 149 27 0 tm1 st p d1)->(∀ v,o ≠ .cells [v] 4)->h2.get b=some o:=fun b o gb n0 n1 n4=>A0.at r5 L.hb gb fun y=>by
    rcases y with rfl|rfl|rfl
    ·rw[L.lp]at gb;cases gb;exact n0 _ _ rfl
    ·rw[L.c4]at gb;cases gb;exact n4 _ rfl
    ·rw[g1]at gb;cases gb;exact n1 _ _ rfl
   have k3:=keep _ _ L.c3 (by intros;simp[B2]) (by intros;simp[B2]) (by intros;simp)
   have k2:=keep _ _ L.c2 (by intros;simp[B2]) (by intros;simp[B2]) (by intros;simp)
   have k5:=keep _ _ g5 (by intros;simp[B2]) (by intros;simp[B2]) (by intros;simp)
   by_cases hx:xs[i]=z
   ·have hct:xs.contains z=true:=by
     rw[List.contains_iff_mem,<-hx];exact List.getElem_mem hi'
    simp only[hx,if_true,decide_true]at r2 r3 r4
    simp only[hx,not_true_eq_false,decide_false,Ab]
    exact .ret ⟨rfl,by rw[hct];exact⟨r2,k3,r4,k2,r6⟩,by rw[hct];exact r3,r5⟩
   ·simp only[hx,if_false,decide_false]at r2 r3 r4
    simp only[hx,not_false_eq_true,decide_true,Ab,Ty,Af]
    rw[Cq (by omega) (by omega)]
    have hrow2:B7 h2 s q' 3 1 xs.length (xs.map I):=row.frame fun _=>by
     rw[keep _ _ hbl (by intros;simp[B2]) (by intros;simp[B2]) (by intros;simp),hbl]
    have hno2:(xs.take (i+1)).contains z=false:=by
     rw[List.take_succ_eq_append_getElem hi']
     simp only[List.contains_eq_mem,List.mem_append,List.mem_singleton,decide_eq_false_iff_not]at hno ⊢
     intro y
     rcases y with y|y
     ·exact hno y
     ·exact hx y.symm
    refine(ih (i+1) h2 s q' (by omega) (by omega) ⟨r2,k3,r4,k2,r6⟩ r3 k5 hrow2 hno2).mono ?_
    rintro v h' ⟨a1,a2,a3,a4⟩
    exact⟨a1,a2,a3,r5.trans a4⟩
  ·have:i=xs.length:=by omega
   subst this
   simp only[hlt,decide_false,Ab]
   rw[List.take_length]at hno
   exact .ret ⟨rfl,by rw[hno];exact L,by rw[hno];exact g1,A0.refl _⟩
theorem A7z {e:Nat}(he:3<=e)(hK:5000<K){h:Aa}{b6 q c cap:Nat}{xs:List Int}(g6:h.get b6=some (.cells [.ptr q 0] 153))(hq:h.get q=some (.cells [.chan c] 218))(hc:h.get c=some (.chan cap (xs.map I)))(hcap:xs.length<=cap)(hsm:cap<=4096)
 (L:Axf h l0 d0 tm b3 b4 z b2 false) (g1:h.get l1=some (B2 TT 149 27 0 tm1 .ready none d1)) (g5:h.get b5=some (.cells [I dd] 3)) :
 Ok (Ae TT disp K (e+1) false 190 [.Y5 l1,.ptr b6 0] h) fun v h'=>Axf h' l0 d0 tm b3 b4 z b2 (xs.contains z)/\h'.get l1=some (B2 TT 149 27 0 tm1 (if xs.contains z then .done else .ready) (if xs.contains z then some .ret else none) d1) /\
  (∀ i,i<h.next->¬ (i=l0\/i=b4\/i=l1)->h'.get i=h.get i)/\A0 (fun j=>j=c\/j=l0\/j=b4\/j=l1) h h':=by
 rw[Adu H (by omega)]
 simp only[Yh,B8 g6 rfl,Ab]
 refine(Ap8 hq hc hcap hsm L.hb hK).Aj ?_
 rintro s h1 ⟨q',Li⟩
 rw[Li.row.Hg]
 have same:=Li.same hc
 have at1:∀ i o,h.get i=some o->h1.get i=some o:=fun i o g=>by rw[same i (L.hb _ _ g)];exact g
 have L1:Axf h1 l0 d0 tm b3 b4 z b2 false:=⟨at1 _ _ L.lp,at1 _ _ L.c3,at1 _ _ L.c4,at1 _ _ L.c2,Li.hb⟩
 refine(A1f (K:=K) H T0 u2 u3 he (by omega) K 0 h1 s q' (by omega) (by omega) L1 (at1 _ _ g1) (at1 _ _ g5) Li.row (by simp)).mono ?_
 rintro v h' ⟨_,a2,a3,a4⟩
 refine⟨a2,a3,fun i hi hn=>by rw[a4.get i (Nat.lt_of_lt_of_le hi Li.chg.next) hn,same i hi],?_⟩
 exact(Li.chg.mono fun i hi=>.inl hi).trans (a4.mono fun i hi=>.inr hi)
end
end Go.Ev

namespace Go.Ev
open Go.Proofs
set_option maxRecDepth 10000
variable {disp:Nat->Option FT}{K:Nat}
def hasB(ps:Nat->List Int)(n:Nat)(z:Int):Bool:=(List.range n).any fun d=>(ps d).contains z
theorem A0y(ps:Nat->List Int)(n:Nat)(z:Int):hasB ps (n+1) z=(hasB ps n z || (ps n).contains z):=by
 unfold hasB;rw[List.range_succ,List.any_append];simp
theorem Aq7 {ps:Nat->List Int}{n:Nat}{z:Int}:hasB ps n z=true ↔ ∃ d,d<n/\z ∈ ps d:=by
 unfold hasB;simp
theorem A7c {ps:Nat->List Int}{n d:Nat}{z:Int}(hd:d<n)(h:(ps d).contains z=true):hasB ps n z=true:=Aq7.2 ⟨d,hd,List.contains_iff_mem.1 h⟩
structure Mid(h0 h:Aa)(C:Nat->Prop)(l0 d0:Nat)(tm:Ai)(b3 b4:Nat)(z:Int)(b2:Nat)(found:Bool):Prop where
 kp:Kp C h0 h
 look:Axf h l0 d0 tm b3 b4 z b2 found
 cd:h.get d0=some (.deferred true)
 n0:h0.next<=l0
 n4:h0.next<=b4
 nd:h0.next<=d0
section
variable (H:Aw disp){h0:Aa}{p ql n:Nat}{q c:Nat->Nat}{g:Gm}{ps:Nat->List Int}(P:Dw h0 p ql n q c g ps)(hb0:HB h0)(hps:∀ d,d<n->(ps d).length<=g.Z.toNat)(hZ:g.Z<=4096)(hn:n<=64)
variable {l0 d0:Nat}{tm:Ai}{b3 b4:Nat}{z:Int}{b2:Nat}(T0:A3p tm b3 b4)
include H P hb0 hps hZ hn T0
theorem A56 {e:Nat}(he:4<=e)(hK:5000<K):∀ (m i:Nat) (h:Aa) (t1:Ai) (ds:List Nat),n-i<m->i<=n->Mid h0 h (fun x=>∃ d,d<n/\x=c d) l0 d0 tm b3 b4 z b2 false->tmp t1 2=.ptr b2 0 ->
 ds.Nodup->(∀ d ∈ ds,h.get d=some (.deferred true)/\h0.next<=d/\d ≠ d0)->hasB ps i z=false ->
 Ok (H3 (Ae TT disp K e false) (Ae TT disp K e true) K m t1 (.slice ql 0 n n true) (I n) (I i) h ds) fun v h'=>Mid h0 h' (fun x=>∃ d,d<n/\x=c d) l0 d0 tm b3 b4 z b2 (hasB ps n z):=by
 intro m
 induction m with
 | zero=>intro i h t1 ds hm;omega
 | succ m ih=>
  intro i h t1 ds hm hi M u2 hnd hds hno
  have fin:∀ (h2:Aa) (dl:List Nat) (found:Bool),found=hasB ps n z->Mid h0 h2 (fun x=>∃ d,d<n/\x=c d) l0 d0 tm b3 b4 z b2 found->dl.Nodup->(∀ d ∈ dl,h2.get d=some (.deferred true)/\h0.next<=d/\d ≠ d0) ->
   Ok (Gp dl h2 fun h=>some (EV.tuple [],h)) fun v h'=>Mid h0 h' (fun x=>∃ d,d<n/\x=c d) l0 d0 tm b3 b4 z b2 (hasB ps n z):=by
   rintro h2 dl found rfl M2 hd1 hd2
   refine Ok.unwind hd1 (fun d hd=>(hd2 d hd).1) M2.look.hb fun h3 ch hn3=>.ret ?_
   have nk:∀ b o,h2.get b=some o->o ≠ .deferred true->¬ (b ∈ dl):=fun b o gb hne hb=>by rw[(hd2 b hb).1]at gb;cases gb;exact hne rfl
   have a:∀ b o,h2.get b=some o->o ≠ .deferred true->h3.get b=some o:=fun b o gb hne=>A0.at ch M2.look.hb gb (nk b o gb hne)
   refine⟨M2.kp.Aw9 ch fun i hi=>(hd2 i hi).2.1,⟨a _ _ M2.look.lp (by simp[B2]),a _ _ M2.look.c3 (by simp),a _ _ M2.look.c4 (by simp),a _ _ M2.look.c2 (by simp),ch.hb M2.look.hb⟩,A0.at ch M2.look.hb M2.cd (fun y=>(hd2 _ y).2.2 rfl),M2.n0,M2.n4,M2.nd⟩
  simp only[H3,I,Af,Ab]
  by_cases hlt:(i:Int)<n
  ·have hi':i<n:=by omega
   have at0:∀ b o,h0.get b=some o->h.get b=some o:=fun b o gb=>M.kp.at hb0 gb
   have P1:=P.ext at0
   simp only[hlt,decide_true,Ab,Mk]
   rw[P1.rowAt.ix hi',P1.Au2 hi']
   try simp only[Ab]
   refine Ok.st1 (Ac _ _) rfl rfl (by show 0<1;decide) ?_
   have hnx:=M.kp.chg.next
   have x1:Ext h ((h.new (.cells [.int .i64 0] 3)).put h.next (.cells [EV.int .i64 (i:Int)] 3)):=(A0.new _ _:Ext h _).Az (.inr (Nat.le_refl _)) (Nat.lt_succ_self _) _
   have g5:((h.new (.cells [.int .i64 0] 3)).put h.next (.cells [EV.int .i64 (i:Int)] 3)).get h.next=some (.cells [I i] 3):=Ah _ _ _
   simp only[List.set]
   generalize (h.new (.cells [.int .i64 0] 3)).put h.next (.cells [EV.int .i64 (i:Int)] 3)=h1 at x1 g5 ⊢
   have hb1:=x1.hb M.look.hb
   have hn1:=x1.next
   simp only[Vc,Ab]
   have x2:Ext h (h1.new (.cells [.ptr (q i) 0] 153)):=x1.Fa _
   have g6:(h1.new (.cells [.ptr (q i) 0] 153)).get h1.next=some (.cells [.ptr (q i) 0] 153):=Ac _ _
   have g52:(h1.new (.cells [.ptr (q i) 0] 153)).get h.next=some (.cells [I i] 3):=by rw[A4 _ (hb1 _ _ g5)];exact g5
   have n2:h1.next<(h1.new (.cells [.ptr (q i) 0] 153)).next:=Nat.lt_succ_self _
   generalize h1.new (.cells [.ptr (q i) 0] 153)=h2 at x2 g6 g52 n2 ⊢
   have hb2:=x2.hb M.look.hb
   generalize htm:(((((((t1.put 13 (some (EV.bool true))).put 14 (some (EV.int .i64 (i:Int)))).put 15 (some (EV.ptr ql (i*1)))).put 16 (some (EV.ptr (q i) 0))).put 3 (some (EV.ptr h.next 0))).put 4 (some (EV.ptr (q i) 0))).put 17 (some (EV.ptr (q i) 0))).put 18 (some (EV.func 190 [] [EV.ptr h1.next 0]))=t2
   have v2:tmp t2 2=.ptr b2 0:=by rw[<-htm];simp only[Ur,reduceIte,Nat.reduceEqDiff,u2]
   have v3:tmp t2 3=.ptr h.next 0:=by rw[<-htm];simp only[Ur,reduceIte,Nat.reduceEqDiff]
   have v2':∀ w,tmp ((t2.put 26 (some w)).put 12 (some w)) 2=.ptr b2 0:=fun w=>by simp only[Ur,reduceIte,Nat.reduceEqDiff,v2]
   clear htm
   refine Ok.range ?_
   have x3:Ext h (D9 TT 149 27 0 t2 h2):=x2.trans Zk
   have hb3:=x3.hb M.look.hb
   have at3:∀ b o,h.get b=some o->(D9 TT 149 27 0 t2 h2).get b=some o:=fun b o gb=>x3.at M.look.hb gb
   have at23:∀ b o,h2.get b=some o->(D9 TT 149 27 0 t2 h2).get b=some o:=fun b o gb=>Ext.at Zk hb2 gb
   have L3:Axf (D9 TT 149 27 0 t2 h2) l0 d0 tm b3 b4 z b2 false:=⟨at3 _ _ M.look.lp,at3 _ _ M.look.c3,at3 _ _ M.look.c4,at3 _ _ M.look.c2,hb3⟩
   have P3:=P1.ext at3
   obtain⟨e,rfl⟩:∃ k,e=k+1:=⟨e-1,by omega⟩
   refine(A7z (K:=K) H T0 (l1:=h2.next+1) (d1:=h2.next) v2 v3 (e:=e) (by omega) hK (at23 _ _ g6) (P3.que i hi') (P3.chan i hi') (hps i hi') (by omega) L3 Xs (at23 _ _ g52)).mono ?_
   rintro v h4 ⟨L4,gl4,same4,ch4⟩
   have hn4:=ch4.next
   have hl1:h2.next+1<(D9 TT 149 27 0 t2 h2).next:=by rw[Anx];omega
   have hk4:Kp (fun x=>∃ d,d<n/\x=c d) h0 h4:=by
    refine⟨(M.kp.chg.trans (Ext.to x3)).then ch4 ?_,fun j hj=>?_⟩
    ·rintro j (rfl|rfl|rfl|rfl) hl
     ·exact⟨i,hi',rfl⟩
     ·have:=M.n0;omega
     ·have:=M.n4;omega
     ·have:=x2.next;omega
    ·have hj3:j<(D9 TT 149 27 0 t2 h2).next:=by have:=x3.next;omega
     rw[same4 j hj3 (by rintro(rfl|rfl|rfl) <;> (have:=M.n0;have:=M.n4;have:=x2.next;omega)),x3.get j (by omega) id]
     exact M.kp.same j hj
   have gd4:h4.get h2.next=some (.deferred true):=by
    rw[same4 _ (by omega) ?_]
    ·exact Zd
    ·rintro(y|y|y)
     ·have:=M.look.hb _ _ M.look.lp;omega
     ·have:=M.look.hb _ _ M.look.c4;omega
     ·omega
   have keep4:∀ d,h.get d=some (.deferred true)->h4.get d=some (.deferred true):=fun d gd=>by
    have gd3:=at3 _ _ gd
    rw[same4 d (hb3 _ _ gd3) ?_]
    ·exact gd3
    ·rintro(rfl|rfl|rfl)
     ·rw[M.look.lp]at gd;cases gd
     ·rw[M.look.c4]at gd;cases gd
     ·have:=M.look.hb _ _ gd;omega
   have hnl:∀ o,h4.get (h2.next+1)=some o->∀ b o',h4.get b=some o'->(∀ st p,o' ≠ B2 TT 149 27 0 t2 st p h2.next)->b ≠ h2.next+1:=by
    intro o ho b o' hb' hne e'
    subst e'
    rw[gl4]at hb';cases hb';exact hne _ _ rfl
   have mid:∀ (p5:Option Code),Mid h0 (h4.put (h2.next+1) (B2 TT 149 27 0 t2 .exhausted p5 h2.next)) (fun x=>∃ d,d<n/\x=c d) l0 d0 tm b3 b4 z b2 ((ps i).contains z):=by
    intro p5
    have lt1:h2.next+1<h4.next:=by omega
    have pn:∀ b o',h4.get b=some o'->(∀ st p,o' ≠ B2 TT 149 27 0 t2 st p h2.next)->(h4.put (h2.next+1) (B2 TT 149 27 0 t2 .exhausted p5 h2.next)).get b=some o':=fun b o' hb' hne=>by
     rw[Aq _ (Ne.symm (hnl _ gl4 b o' hb' hne))];exact hb'
    refine⟨hk4.Az (by have:=x2.next;omega) lt1 _,⟨pn _ _ L4.lp (by intros;simp[B2]),pn _ _ L4.c3 (by intros;simp[B2]),pn _ _ L4.c4 (by intros;simp[B2]),pn _ _ L4.c2 (by intros;simp[B2]),L4.hb.put lt1 _⟩,pn _ _ (keep4 _ M.cd) (by intros;simp[B2]),M.n0,M.n4,M.nd⟩
   have dsok:∀ (p5:Option Code),∀ d ∈ h2.next::ds,(h4.put (h2.next+1) (B2 TT 149 27 0 t2 .exhausted p5 h2.next)).get d=some (.deferred true)/\h0.next<=d/\d ≠ d0:=by
    intro p5 d hd
    rcases List.mem_cons.1 hd with rfl|hd
    ·exact⟨by rw[Aq _ (by omega)];exact gd4,by have:=x2.next;omega,by have:=M.look.hb _ _ M.cd;omega⟩
    ·obtain⟨a,b,c'⟩:=hds d hd
     exact⟨by rw[Aq _ (by have:=M.look.hb _ _ a;omega)];exact keep4 _ a,b,c'⟩
   have nd2:(h2.next::ds).Nodup:=List.nodup_cons.2 ⟨fun hd=>by have:=M.look.hb _ _ (hds _ hd).1;omega,hnd⟩
   cases hct:(ps i).contains z with
   | true=>
    rw[hct]at gl4 mid
    refine .inr ⟨gl4,?_⟩
    exact fin _ _ true (A7c hi' hct).symm (mid _) nd2 (dsok _)
   | false=>
    rw[hct]at gl4 mid
    refine .inl ⟨gl4,?_⟩
    simp only[H5,Af]
    rw[Cq (by omega) (by omega)]
    exact ih (i+1) _ _ _ (by omega) (by omega) (mid _) (v2' _) nd2 (dsok _) (by rw[A0y,hno,hct];rfl)
  ·have:i=n:=by omega
   subst this
   simp only[hlt,decide_false,Ab]
   exact fin h ds false hno.symm M hnd hds
end
section
variable (H:Aw disp){h0:Aa}{p ql n:Nat}{q c:Nat->Nat}{g:Gm}{ps:Nat->List Int}(P:Dw h0 p ql n q c g ps)(hb0:HB h0)(hps:∀ d,d<n->(ps d).length<=g.Z.toNat)(hZ:g.Z<=4096)(hn:n<=64)
include H P hb0 hps hZ hn
theorem A9m {d:Nat}(hd:7<=d)(hK:5000<K)(z:Int):Ok (Ae TT disp K d false 49 [.ptr p 0,I z] h0) fun v h'=>v=.bool (hasB ps n z)/\Kp (fun x=>∃ d,d<n/\x=c d) h0 h'/\HB h':=by
 obtain⟨e,rfl⟩:∃ k,d=k+2:=⟨d-2,by omega⟩
 rw[Aja H (by omega)]
 simp only[Zm,I,Ab,Zo]
 have x1:Ext h0 (((h0.new (.cells [.int .i64 z] 3)).new (.cells [.bool false] 4)).new (.cells [.ptr p 0] 49)):=((A0.new _ _).Fa _).Fa _
 have n1:(((h0.new (.cells [.int .i64 z] 3)).new (.cells [.bool false] 4)).new (.cells [.ptr p 0] 49)).next=h0.next+3:=rfl
 have gb:(((h0.new (.cells [.int .i64 z] 3)).new (.cells [.bool false] 4)).new (.cells [.ptr p 0] 49)).get (h0.next+2)=some (.cells [.ptr p 0] 49):=Ac _ _
 have g4:(((h0.new (.cells [.int .i64 z] 3)).new (.cells [.bool false] 4)).new (.cells [.ptr p 0] 49)).get (h0.next+1)=some (.cells [.bool false] 4):=by
  rw[A4 _ (Nat.lt_succ_self _)];exact Ac _ _
 have g3:(((h0.new (.cells [.int .i64 z] 3)).new (.cells [.bool false] 4)).new (.cells [.ptr p 0] 49)).get h0.next=some (.cells [I z] 3):=by
  rw[A4 _ (show h0.next<h0.next+2 by omega),A4 _ (show h0.next<h0.next+1 by omega)];exact Ac _ _
 have hnn:((h0.new (.cells [.int .i64 z] 3)).new (.cells [.bool false] 4)).next=h0.next+2:=rfl
 have hn3:(h0.new (.cells [.int .i64 z] 3)).next=h0.next+1:=rfl
 rw[hnn,hn3]
 generalize ((h0.new (.cells [.int .i64 z] 3)).new (.cells [.bool false] 4)).new (.cells [.ptr p 0] 49)=h1 at x1 n1 gb g4 g3 ⊢
 have hb1:=x1.hb hb0
 generalize htm:(((((Tr.nil.put 0 (some (EV.ptr p 0))).put 1 (some (EV.int .i64 z))).put 3 (some (EV.ptr h0.next 0))).put 4 (some (EV.ptr (h0.next+1) 0))).put 7 (some (EV.ptr p 0))).put 8 (some (EV.func 149 [] [EV.ptr (h0.next+2) 0]))=tm
 have T0:A3p tm h0.next (h0.next+1):=⟨by rw[<-htm];simp only[Ur,reduceIte,Nat.reduceEqDiff],by rw[<-htm];simp only[Ur,reduceIte,Nat.reduceEqDiff]⟩
 clear htm
 refine Ok.range ?_
 rw[Af5 H (by omega)]
 simp only[U9,Ab]
 have x2:Ext h1 (D9 TT 49 14 0 tm h1):=Zk
 have hb2:=x2.hb hb1
 have hbx:Ea 142 (.Y5 (h1.next+1)) (D9 TT 49 14 0 tm h1)=fun(k:EV->Aa->R)=>k (.ptr (h1.next+2) 0) ((D9 TT 49 14 0 tm h1).new (.cells [.Y5 (h1.next+1)] 142)):=rfl
 rw[hbx]
 have x3:Ext h1 ((D9 TT 49 14 0 tm h1).new (.cells [.Y5 (h1.next+1)] 142)):=x2.Fa _
 have k2:((D9 TT 49 14 0 tm h1).new (.cells [.Y5 (h1.next+1)] 142)).get (h1.next+2)=some (.cells [.Y5 (h1.next+1)] 142):=Ac _ _
 have kl:((D9 TT 49 14 0 tm h1).new (.cells [.Y5 (h1.next+1)] 142)).get (h1.next+1)=some (B2 TT 49 14 0 tm .ready none h1.next):=by rw[A4 _ (hb2 _ _ Xs)];exact Xs
 have kd:((D9 TT 49 14 0 tm h1).new (.cells [.Y5 (h1.next+1)] 142)).get h1.next=some (.deferred true):=by rw[A4 _ (hb2 _ _ Zd)];exact Zd
 generalize (D9 TT 49 14 0 tm h1).new (.cells [.Y5 (h1.next+1)] 142)=h3 at x3 k2 kl kd ⊢
 have hb3:=x3.hb hb1
 have at3:∀ b o,h1.get b=some o->h3.get b=some o:=fun b o gb=>x3.at hb1 gb
 have P3:Dw h3 p ql n q c g ps:=P.ext fun b o gb=>at3 _ _ (x1.at hb0 gb)
 simp only[B8 (at3 _ _ gb) rfl,Ab,P3.list]
 have M3:Mid h0 h3 (fun x=>∃ d,d<n/\x=c d) (h1.next+1) h1.next tm h0.next (h0.next+1) z (h1.next+2) false:=
  ⟨Ext.kp (x1.trans x3),⟨kl,at3 _ _ g3,at3 _ _ g4,k2,hb3⟩,kd,by omega,by omega,by omega⟩
 refine(A56 (K:=K) H P hb0 hps hZ hn T0 (e:=e) (by omega) hK K 0 h3 _ [] (by omega) (by omega) M3 (by simp only[Ur,reduceIte,Nat.reduceEqDiff]) List.nodup_nil (fun d hd=>by cases hd) rfl).mono ?_
 rintro v h4 M4
 have lt1:=M4.look.hb _ _ M4.look.lp
 have nl:∀ b o st p',h4.get b=some o->(∀ st p,o ≠ B2 TT 49 14 0 tm st p h1.next)->(h4.put (h1.next+1) (B2 TT 49 14 0 tm st p' h1.next)).get b=some o:=fun b o st p' gb hne=>by
  rw[Aq _ (Bo M4.look.lp gb (fun y=>hne _ _ y.symm))];exact gb
 have kend:∀ st p',Kp (fun x=>∃ d,d<n/\x=c d) h0 (h4.put (h1.next+1) (B2 TT 49 14 0 tm st p' h1.next)):=fun st p'=>M4.kp.Az (by omega) lt1 _
 have hbe:∀ st p',HB (h4.put (h1.next+1) (B2 TT 49 14 0 tm st p' h1.next)):=fun st p'=>M4.look.hb.put lt1 _
 have cellres:∀ (h5:Aa) (b:Bool),h5.get (h0.next+1)=some (.cells [.bool b] 4)->Cx TT [.c (.ptr (h0.next+1) 0) 4] h5=some (.bool b,h5):=by
  intro h5 b hg
  have hr:Gs h5 (h0.next+1) 0 1=some [.bool b]:=by unfold Gs;rw[hg];rfl
  unfold Cx
  simp only[Aok,show TT.size 4=some 1 by kernel_rfl,show TT.agg 4=some false by kernel_rfl,hr]
 cases hf:hasB ps n z with
 | true=>
  rw[hf]at M4
  refine .inr ⟨M4.look.lp,?_⟩
  refine Ok.unwind (List.nodup_cons.2 ⟨by simp,List.nodup_nil⟩) (fun d hd=>by rw[List.mem_singleton]at hd;subst hd;exact nl _ _ _ _ M4.cd (by intros;simp[B2])) (hbe _ _) fun h5 ch hn5=>?_
  have g45:h5.get (h0.next+1)=some (.cells [.bool true] 4):=A0.at ch (hbe _ _) (nl _ _ _ _ M4.look.c4 (by intros;simp[B2])) (by simp;omega)
  rw[cellres h5 true g45]
  exact .ret ⟨rfl,(kend _ _).Aw9 ch fun i hi=>by rw[List.mem_singleton]at hi;omega,ch.hb (hbe _ _)⟩
 | false=>
  rw[hf]at M4
  refine .inl ⟨M4.look.lp,?_⟩
  simp only[Lq]
  refine Ok.st1 (nl _ _ _ _ M4.look.c4 (by intros;simp[B2])) rfl rfl (by show 0<1;decide) ?_
  have lt4:h0.next+1<(h4.put (h1.next+1) (B2 TT 49 14 0 tm .exhausted none h1.next)).next:=M4.look.hb _ _ M4.look.c4
  have hb5:HB ((h4.put (h1.next+1) (B2 TT 49 14 0 tm .exhausted none h1.next)).put (h0.next+1) (.cells ([EV.bool false].set 0 (.bool false)) 4)):=(hbe _ _).put lt4 _
  refine Ok.unwind (List.nodup_cons.2 ⟨by simp,List.nodup_nil⟩) (fun d hd=>by rw[List.mem_singleton]at hd;subst hd;rw[Aq _ (by omega)];exact nl _ _ _ _ M4.cd (by intros;simp[B2])) hb5 fun h5 ch hn5=>?_
  have g45:h5.get (h0.next+1)=some (.cells [.bool false] 4):=A0.at ch hb5 (Ah _ _ _) (by simp;omega)
  rw[cellres h5 false g45]
  exact .ret ⟨rfl,((kend _ _).Az (by omega) lt4 _).Aw9 ch fun i hi=>by rw[List.mem_singleton]at hi;omega,ch.hb hb5⟩
end
end Go.Ev

namespace Go.Ev
open Go.Proofs
set_option maxRecDepth 10000
variable {disp:Nat->Option FT}{K:Nat}
def Db(g:Gm)(z:Int):Int:=if z<0\/g.D*g.Z<=z then -1 else z / g.Z
theorem Lg {g:Gm}(s:Sm g)(z:Int)(hz : -9223372036854775808<=z/\z<=9223372036854775807)(h:Aa):Ok (E9 K (gV g) (I z) h) fun v h'=>v=I (Db g z)/\Ext h h':=by
 have:=s.d0;have:=s.d1;have:=s.z0;have:=s.z1
 obtain⟨m0,m1⟩:=U7 (a:=g.D) (b:=g.Z) (A:=8) (B:=64) (by omega) (by omega) (by omega) (by omega)
 simp only[E9,gV,Ab,I,Af]
 have hg:(h.new (.cells (gL g) 23)).get h.next=some (.cells (gL g) 23):=Ac _ _
 have hn:h.next<(h.new (.cells (gL g) 23)).next:=Nat.lt_succ_self _
 have hx:Ext h (h.new (.cells (gL g) 23)):=A0.new _ _
 generalize h.new (.cells (gL g) 23)=ha at hg hn hx ⊢
 unfold Db
 by_cases h1:z<0
 ·simp only[h1,decide_true,Ab,Af,Le]
  exact .ret ⟨by rw[if_pos (.inl trivial)],hx⟩
 ·simp only[h1,decide_false,Ab,Af,C0 hg rfl,Av (show (gL g).length=6 from rfl)]
  rw[show EV.agg (gL g)=gV g from rfl,Y3 s,A9]
  simp only[I,Af,Le]
  by_cases h2:g.D*g.Z<=z
  ·simp only[h2,decide_true,Ab]
   exact .ret ⟨by rw[if_pos (.inr trivial)],hx.Fa _⟩
  ·have hg2:(ha.new (.cells (gL g) 23)).get h.next=some (.cells (gL g) 23):=by rw[A4 _ hn];exact hg
   have hx2:Ext h (ha.new (.cells (gL g) 23)):=hx.Fa _
   generalize ha.new (.cells (gL g) 23)=hc at hg2 hx2 ⊢
   simp only[h2,decide_false,Ab,Vd,B8 hg2 rfl,gL,I]
   rw[A6j (by omega) (by omega) (by omega)]
   exact .ret ⟨by rw[if_neg (by rintro(x|x) <;> exact x)],hx2⟩
def upd(ps:Nat->List Int)(d:Nat)(l:List Int):Nat->List Int:=fun e=>if e=d then l else ps e
def Ai1(n:Nat)(c:Nat->Nat):Nat->Prop:=fun x=>∃ d,d<n/\x=c d
def Atz:Cs->Prop
 | .chan ..=>False
 | _=>True
theorem Dw.A7m {h:Aa}{p ql n:Nat}{q c:Nat->Nat}{g:Gm}{ps:Nat->List Int}(P:Dw h p ql n q c g ps){b:Nat}{o:Cs}(gb:h.get b=some o)(ho:Atz o):¬ Ai1 n c b:=by
 rintro⟨d,hd,rfl⟩
 rw[P.chan d hd]at gb;cases gb;exact ho
theorem Dw.put {h:Aa}{p ql n:Nat}{q c:Nat->Nat}{g:Gm}{ps:Nat->List Int}(P:Dw h p ql n q c g ps){d:Nat}(hd:d<n)(l:List Int):Dw (h.put (c d) (.chan g.Z.toNat (l.map I))) p ql n q c g (upd ps d l):=by
 have ne:∀ b o,h.get b=some o->Atz o->(h.put (c d) (.chan g.Z.toNat (l.map I))).get b=some o:=fun b o gb ho=>by
  rw[Aq _ (fun e=>P.A7m gb ho ⟨d,hd,e.symm⟩)];exact gb
 refine⟨P.pos,ne _ _ P.Gb trivial,ne _ _ P.row trivial,fun e he=>ne _ _ (P.que e he) trivial,fun e he=>?_,P.inj⟩
 unfold upd
 by_cases hed:e=d
 ·subst hed;rw[if_pos rfl];exact Ah _ _ _
 ·rw[if_neg hed,Aq _ (fun x=>hed (P.inj _ _ he hd x.symm))];exact P.chan e he
theorem Dw.kp {h h':Aa}{S:Nat->Prop}{p ql n:Nat}{q c:Nat->Nat}{g:Gm}{ps:Nat->List Int}(P:Dw h p ql n q c g ps)(hb:HB h)(k:Kp S h h'):Dw h' p ql n q c g ps:=P.ext fun i o g=>k.at hb g
structure Oz(n:Nat)(g:Gm)(ps:Nat->List Int):Prop where
 nd:n=g.D.toNat
 sm:Sm g
 cap:∀ d,d<n->(ps d).length<=g.Z.toNat
theorem Oz.bd {n:Nat}{g:Gm}{ps:Nat->List Int}(z:Oz n g ps):n<=8/\g.Z<=64/\(n:Int)=g.D:=by
 have:=z.nd;have:=z.sm.d0;have:=z.sm.d1;have:=z.sm.z1;omega
theorem Oz.small {n:Nat}{g:Gm}{ps:Nat->List Int}(z:Oz n g ps):Axw n ps:=by
 obtain⟨a,b,_⟩:=z.bd
 exact⟨by omega,fun d hd=>by have:=z.cap d hd;omega⟩
theorem Oz.upd {n:Nat}{g:Gm}{ps:Nat->List Int}(z:Oz n g ps){d:Nat}{l:List Int}(hl:l.length<=g.Z.toNat):Oz n g (upd ps d l):=
 ⟨z.nd,z.sm,fun e he=>by unfold Ev.upd;split;exact hl;exact z.cap e he⟩
def Acu(g:Gm)(n:Nat)(ps:Nat->List Int)(z:Int):Int × (Nat->List Int):=
 if Db g z<0 then (13,ps) else if hasB ps n z then (16,ps) else
  if (ps (Db g z).toNat).length<g.Z.toNat then (0,upd ps (Db g z).toNat (ps (Db g z).toNat++[z])) else (17,ps)
theorem Ti {g:Gm}(s:Sm g)(z:Int):Db g z = -1\/(0<=Db g z/\Db g z<g.D/\Db g z=z / g.Z/\0<=z/\z<g.D*g.Z):=by
 have:=s.z0
 unfold Db
 split
 ·exact .inl rfl
 ·refine .inr ⟨Int.ediv_nonneg (by omega) (by omega),Int.ediv_lt_of_lt_mul (by omega) (by omega),rfl,by omega,by omega⟩
section
variable (H:Aw disp){h:Aa}{p ql n:Nat}{q c:Nat->Nat}{g:Gm}{ps:Nat->List Int}(P:Dw h p ql n q c g ps)(hb:HB h)(Z:Oz n g ps)(hK:5000<K)
include P hb Z hK
theorem Azk(d:Int):Ok (Om K (.ptr p 0) (I d) h) fun v h'=>A0 (Ai1 n c) h h'/\HB h'/\∃ x e ps',v=.tuple [I x,I e]/\Dw h' p ql n q c g ps'/\Oz n g ps' /\
 ((d<0\/(n:Int)<=d)/\x=0/\e=13/\ps'=ps\/(0<=d/\d<n/\ps d.toNat = []/\x=0/\e=15/\ps'=ps)\/(0<=d/\d<n/\e=0/\∃ r,ps d.toNat=x::r/\ps'=upd ps d.toNat r)):=by
 simp only[Om,I,Af,Ab]
 by_cases h1:d<0
 ·simp only[h1,decide_true,Ab,Af,N6]
  exact .ret ⟨A0.refl _,hb,0,13,ps,rfl,P,Z,.inl ⟨.inl trivial,rfl,rfl,rfl⟩⟩
 ·simp only[h1,decide_false,Ab,Af,P.list,N6]
  by_cases h2:(n:Int)<=d
  ·simp only[h2,decide_true,Ab]
   exact .ret ⟨A0.refl _,hb,0,13,ps,rfl,P,Z,.inl ⟨.inr trivial,rfl,rfl,rfl⟩⟩
  ·obtain⟨d,rfl⟩:=Int.eq_ofNat_of_zero_le (show 0<=d by omega)
   have hd:d<n:=by omega
   simp only[h2,decide_false,Ab,Yq,P.list]
   rw[P.rowAt.ix hd]
   simp only[P.Au2 hd]
   cases hl:ps d with
   | nil=>
    rw[take_nil (P.que _ hd) (P.chan _ hd) hl]
    simp only[Ab]
    exact .ret ⟨A0.refl _,hb,0,15,ps,rfl,P,Z,.inr (.inl ⟨by omega,by omega,hl,rfl,rfl,rfl⟩)⟩
   | cons x r=>
    rw[take_cons (P.que _ hd) (P.chan _ hd) hl]
    simp only[Ab]
    have lt:=hb _ _ (P.chan _ hd)
    refine .ret ⟨(A0.refl h).Az (.inl ⟨_,hd,rfl⟩) lt _,hb.put lt _,x,0,upd ps d r,rfl,P.put hd r,Z.upd ?_,.inr (.inr ⟨by omega,by omega,rfl,r,hl,rfl⟩)⟩
    have:=Z.cap _ hd;rw[hl]at this;simp at this;omega
include H
theorem Azz {d:Nat}(hd:8<=d)(z:Int)(hz : -9223372036854775808<=z/\z<=9223372036854775807):Ok (Ae TT disp K d false 15 [.ptr p 0,I z] h) fun v h'=>A0 (Ai1 n c) h h'/\HB h'/\v=I (Acu g n ps z).1/\Dw h' p ql n q c g (Acu g n ps z).2/\Oz n g (Acu g n ps z).2:=by
 obtain⟨e,rfl⟩:∃ k,d=k+1:=⟨d-1,by omega⟩
 obtain⟨b1,b2,b3⟩:=Z.bd
 rw[Ag7 H (by omega)]
 simp only[Afa,Ab,P.A2n]
 refine(Lg Z.sm z hz h).Aj ?_
 rintro _ h1 ⟨rfl,x1⟩
 have hb1:=x1.hb hb
 have P1:=P.ext fun i o g=>x1.at hb g
 simp only[I,Af]
 unfold Acu
 rcases Ti Z.sm z with hdm|⟨d0,d1,d2,d3,d4⟩
 ·rw[hdm]
  simp only[show (-1:Int)<0 by decide,decide_true,Ab,if_true]
  exact .ret ⟨Ext.to x1,hb1,rfl,P1,Z⟩
 ·have hnn:¬ Db g z<0:=by omega
  simp only[hnn,decide_false,Ab,if_false]
  refine(A9m (K:=K) H P1 hb1 Z.cap (by omega) (by omega) (d:=e) (by omega) hK z).Aj ?_
  rintro _ h2 ⟨rfl,k2,hb2⟩
  have P2:=P1.kp hb1 k2
  have ch2:A0 (Ai1 n c) h h2:=(Ext.to x1).trans k2.chg
  cases hf:hasB ps n z with
  | true=>
   simp only[Ab,if_true]
   exact .ret ⟨ch2,hb2,rfl,P2,Z⟩
  | false=>
   have hdn:(Db g z).toNat<n:=by omega
   simp only[Ab,Yp,P2.list]
   rw[show Db g z=((Db g z).toNat:Int) by omega,P2.rowAt.ix hdn]
   simp only[P2.Au2 hdn,Int.toNat_natCast]
   have lt:=hb2 _ _ (P2.chan _ hdn)
   by_cases hl:(ps (Db g z).toNat).length<g.Z.toNat
   ·rw[As7 (P2.que _ hdn) (P2.chan _ hdn) z hl,A9]
    rw[if_pos hl]
    refine .ret ⟨ch2.Az (.inl ⟨_,hdn,rfl⟩) lt _,hb2.put lt _,rfl,P2.put hdn _,Z.upd ?_⟩
    rw[List.length_append];simp;omega
   ·rw[A9k (P2.que _ hdn) (P2.chan _ hdn) z (by omega),A9]
    rw[if_neg hl]
    exact .ret ⟨ch2,hb2,rfl,P2,Z⟩
end
end Go.Ev

namespace Go.Ev
open Go.Proofs
set_option maxRecDepth 10000
variable {disp:Nat->Option FT}{K:Nat}
def O0(z:Int)(xs:List Int):List Int:=xs.filter fun x=>decide (¬ x=z)
theorem A4o(z x:Int)(r:List Int):O0 z (x::r)=(if x=z then [] else [x])++O0 z r:=by
 unfold O0;rw[List.filter_cons];by_cases h:x=z <;> simp[h]
theorem Ayj(z:Int)(a b:List Int):O0 z (a++b)=O0 z a++O0 z b:=List.filter_append ..
theorem Azj(z:Int)(xs:List Int):(O0 z xs).length<=xs.length:=List.length_filter_le _ _
section
variable (H:Aw disp)(hK:5000<K)
include H hK
theorem A2d {e:Nat}(he:1<=e){h0:Aa}{q c cap b3:Nat}{z:Int}{xs:List Int}(hq0:h0.get q=some (.cells [.chan c] 218))(hc0:∃ b,h0.get c=some (.chan cap b))(h30:h0.get b3=some (.cells [I z] 3))(hcap:xs.length<=cap)(hsm:cap<=4096)(hb0:HB h0):∀ (m i:Nat) (h:Aa),xs.length-i<m->i<=xs.length ->
 h.get c=some (.chan cap ((xs.drop i++O0 z (xs.take i)).map I))->A0 (fun j=>j=c) h0 h->HB h ->
 Ok (Ed (Ae TT disp K e false) (Ae TT disp K e true) K m (.ptr q 0) (.func 122 [] [.ptr b3 0]) (I ((i:Int)-(O0 z (xs.take i)).length)) (I xs.length) (I i) h) fun v h'=>v=I ((xs.length:Int)-(O0 z xs).length)/\h'.get c=some (.chan cap ((O0 z xs).map I))/\A0 (fun j=>j=c) h0 h'/\HB h':=by
 obtain⟨b0,hc0⟩:=hc0
 have hqc:q ≠ c:=Bo hq0 hc0 (by simp)
 have h3c:b3 ≠ c:=Bo h30 hc0 (by simp)
 have lc:=hb0 _ _ hc0
 intro m
 induction m with
 | zero=>intro i h hm;omega
 | succ m ih=>
  intro i h hm hi hc x hb
  simp only[Ed,I,Af,Ab]
  by_cases hlt:(i:Int)<xs.length
  ·have hi':i<xs.length:=by omega
   have hq:h.get q=some (.cells [.chan c] 218):=A0.at x hb0 hq0 hqc
   have lc':c<h.next:=Nat.lt_of_lt_of_le lc x.next
   have ed:xs.drop i=xs[i]::xs.drop (i+1):=List.drop_eq_getElem_cons hi'
   have et:O0 z (xs.take (i+1))=O0 z (xs.take i)++(if xs[i]=z then [] else [xs[i]]):=by
    rw[List.take_succ_eq_append_getElem hi',Ayj,A4o];simp[O0]
   rw[ed,List.cons_append]at hc
   have bl:=Azj z (xs.take i)
   rw[List.length_take]at bl
   simp only[hlt,decide_true,Ab,Vg]
   rw[take_cons hq hc rfl]
   simp only[Ab,I,Af,not_true_eq_false,decide_false,Ve]
   have x2:A0 (fun j=>j=c) h0 (h.put c (.chan cap ((xs.drop (i+1)++O0 z (xs.take i)).map I))):=x.Az (.inl rfl) lc' _
   have hb2:HB (h.put c (.chan cap ((xs.drop (i+1)++O0 z (xs.take i)).map I))):=hb.put lc' _
   have hc2:(h.put c (.chan cap ((xs.drop (i+1)++O0 z (xs.take i)).map I))).get c=some (.chan cap ((xs.drop (i+1)++O0 z (xs.take i)).map I)):=Ah _ _ _
   have hn2:(h.put c (.chan cap ((xs.drop (i+1)++O0 z (xs.take i)).map I))).next=h.next:=rfl
   generalize h.put c (.chan cap ((xs.drop (i+1)++O0 z (xs.take i)).map I))=h2 at x2 hb2 hc2 hn2 ⊢
   have g3:h2.get b3=some (.cells [I z] 3):=A0.at x2 hb0 h30 h3c
   have hcall:Y6 (Ae TT disp K e false) (Ae TT disp K e true) (.func 122 [] [.ptr b3 0]) [.int .i64 xs[i]] h2=some (.bool (decide (¬ xs[i]=z)),h2):=by
    show Ae TT disp K e false 122 [.int .i64 xs[i],.ptr b3 0] h2=_
    rw[Ad9 H he]
    simp only[Aa4,B8 g3 rfl,Ab,I,Af]
   rw[hcall,A9]
   by_cases hz:xs[i]=z
   ·rw[if_pos hz,List.append_nil]at et
    simp only[hz,not_true_eq_false,decide_false,Ab,Af,Lc]
    rw[Cq (n:=(i:Int)-(O0 z (xs.take i)).length+1) (by omega) (by omega),Cq (n:=(i:Int)+1) (by omega) (by omega)]
    have:=ih (i+1) h2 (by omega) (by omega) (by rw[et];exact hc2) x2 hb2
    rw[et]at this
    have e3:(i:Int)-(O0 z (xs.take i)).length+1=((i+1:Nat):Int)-(O0 z (xs.take i)).length:=by omega
    rw[e3];exact this
   ·rw[if_neg hz]at et
    simp only[hz,not_false_eq_true,decide_true,Ab,Af,Vt]
    have hq2:h2.get q=some (.cells [.chan c] 218):=A0.at x2 hb0 hq0 hqc
    rw[show EV.int .i64 xs[i]=I xs[i] from rfl,As7 hq2 hc2 xs[i] (by rw[List.length_append,List.length_drop];omega),A9]
    simp only[Lc,Af]
    rw[Cq (n:=(i:Int)+1) (by omega) (by omega)]
    have:=ih (i+1) (h2.put c (.chan cap ((xs.drop (i+1)++O0 z (xs.take i)++[xs[i]]).map I))) (by omega) (by omega) (by rw[et,<-List.append_assoc];exact Ah _ _ _) (x2.Az (.inl rfl) (by omega) _) (hb2.put (by omega) _)
    rw[et,List.length_append]at this
    have e3:(i:Int)-(O0 z (xs.take i)).length=((i+1:Nat):Int)-((O0 z (xs.take i)).length+[xs[i]].length:Nat):=by simp;omega
    rw[e3];exact this
  ·have:i=xs.length:=by omega
   subst this
   rw[List.drop_length,List.nil_append,List.take_length]at hc
   rw[List.take_length]
   simp only[hlt,decide_false,Ab,K8]
   exact .ret ⟨rfl,hc,x,hb⟩
theorem A7l {h:Aa}{p ql n:Nat}{q c:Nat->Nat}{g:Gm}{ps:Nat->List Int}(P:Dw h p ql n q c g ps)(hb:HB h)(Z:Oz n g ps){d:Nat}(hd:4<=d)(z:Int)(hz : -9223372036854775808<=z/\z<=9223372036854775807):
 Ok (Ae TT disp K d false 69 [.ptr p 0,I z] h) fun v h'=>(∃ e,v=I e)/\A0 (Ai1 n c) h h'/\HB h'/\Dw h' p ql n q c g (if Db g z<0 then ps else upd ps (Db g z).toNat (O0 z (ps (Db g z).toNat)))/\Oz n g (if Db g z<0 then ps else upd ps (Db g z).toNat (O0 z (ps (Db g z).toNat))):=by
 obtain⟨e,rfl⟩:∃ k,d=k+2:=⟨d-2,by omega⟩
 obtain⟨b1,b2,b3⟩:=Z.bd
 rw[Ag1 H (by omega)]
 simp only[Aez,I,Ab]
 have x1:Ext h (h.new (.cells [.int .i64 z] 3)):=A0.new _ _
 have g3:(h.new (.cells [.int .i64 z] 3)).get h.next=some (.cells [I z] 3):=Ac _ _
 have n1:(h.new (.cells [.int .i64 z] 3)).next=h.next+1:=rfl
 generalize h.new (.cells [.int .i64 z] 3)=h1 at x1 g3 n1 ⊢
 have hb1:=x1.hb hb
 have P1:=P.ext fun i o g=>x1.at hb g
 have lp:=hb1 _ _ P1.Gb
 have l3:=hb1 _ _ g3
 simp only[Ab,Bg,Au lp,Au l3,P1.A2n,B8 g3 rfl]
 refine Ok.Ci (by kernel_rfl) (by kernel_rfl) (Lg Z.sm z hz _) (fun _ _ p=>p.2) ?_
 rintro _ _ h2 ⟨rfl,_⟩ _ x2
 have hb2:=x2.hb hb1
 have P2:=P1.ext fun i o g=>x2.at hb1 g
 have x02:=x1.trans x2
 simp only[I,Af]
 rcases Ti Z.sm z with hdm|⟨d0,d1,d2,d3,d4⟩
 ·rw[hdm]
  simp only[show (-1:Int)<0 by decide,decide_true,Ab,Af,if_true,K1]
  exact .ret ⟨⟨15,rfl⟩,Ext.to x02,hb2,P2,Z⟩
 ·have hnn:¬ Db g z<0:=by omega
  simp only[hnn,decide_false,Ab,Af,if_false,P2.list]
  generalize hdd:Db g z=dm at d0 d1 hnn
  obtain⟨dn,rfl⟩:=Int.eq_ofNat_of_zero_le d0
  have hdn:dn<n:=by omega
  rw[P2.rowAt.ix hdn]
  simp only[P2.Au2 hdn,Int.toNat_natCast]
  rw[Afe H (by omega)]
  simp only[Aa1]
  rw[P2.len hdn,A9]
  have hcc:=P2.chan _ hdn
  have:=A2d (K:=K) H hK (e:=e) (by omega) (z:=z) (xs:=ps dn) (P2.que _ hdn) ⟨_,hcc⟩ (x2.at hb1 g3) (Z.cap _ hdn) (by omega) hb2 K 0 h2 (by have:=Z.cap _ hdn;omega) (by omega) (by rw[List.drop_zero,List.take_zero,show O0 z [] = [] from rfl,List.append_nil];exact hcc) (A0.refl _) hb2
  refine Ok.Aj (P:=fun v h'=>v=I (((ps dn).length:Int)-(O0 z (ps dn)).length)/\h'.get (c dn)=some (.chan g.Z.toNat ((O0 z (ps dn)).map I))/\A0 (fun j=>j=c dn) h2 h'/\HB h') this ?_
  rintro _ h3 ⟨rfl,hc3,x3,hb3⟩
  simp only[Af,I]
  have ch:A0 (Ai1 n c) h h3:=(Ext.to x02).trans (x3.mono fun i hi=>⟨dn,hdn,hi⟩)
  have P3:Dw h3 p ql n q c g (upd ps dn (O0 z (ps dn))):=by
   have ne:∀ b o,h2.get b=some o->Atz o->h3.get b=some o:=fun b o gb ho=>A0.at x3 hb2 gb fun e=>P2.A7m gb ho ⟨dn,hdn,e⟩
   refine⟨P2.pos,ne _ _ P2.Gb trivial,ne _ _ P2.row trivial,fun e he=>ne _ _ (P2.que e he) trivial,fun e he=>?_,P2.inj⟩
   unfold upd
   by_cases hed:e=dn
   ·subst hed;rw[if_pos rfl];exact hc3
   ·rw[if_neg hed];exact A0.at x3 hb2 (P2.chan e he) fun y=>hed (P2.inj _ _ he hdn y)
  have Z3:Oz n g (upd ps dn (O0 z (ps dn))):=Z.upd (Nat.le_trans (Azj _ _) (Z.cap _ hdn))
  by_cases h0:((ps dn).length:Int)-(O0 z (ps dn)).length=0
  ·simp only[h0,decide_true,K1,Ab]
   exact .ret ⟨⟨15,rfl⟩,ch,hb3,P3,Z3⟩
  ·simp only[h0,decide_false,K1,Ab,Y0]
   exact .ret ⟨⟨0,rfl⟩,ch,hb3,P3,Z3⟩
end
theorem Aky(ps:Nat->List Int)(b:Int):∀ n,(Ek ps b n = -1/\∀ d:Nat,d<n->(d:Int)=b)\/(0<=Ek ps b n/\Ek ps b n<n/\¬ Ek ps b n=b/\∀ d:Nat,d<n->(d:Int)=b\/(ps d).length<=(ps (Ek ps b n).toNat).length)
 | 0=>.inl ⟨rfl,fun d hd=>absurd hd (Nat.not_lt_zero _)⟩
 | n+1=>by
  have ih:=Aky ps b n
  rw[Ahy]
  unfold Awf
  rcases ih with ⟨a1,a2⟩|⟨a1,a2,a3,a4⟩
  ·by_cases hb:(n:Int)=b
   ·rw[if_neg (fun x=>x.1 hb)]
    exact .inl ⟨a1,fun d hd=>by rcases Nat.lt_succ_iff_lt_or_eq.1 hd with h|h;exact a2 d h;subst h;exact hb⟩
   ·rw[if_pos ⟨hb,.inl (by omega)⟩]
    refine .inr ⟨by omega,by omega,hb,fun d hd=>?_⟩
    rcases Nat.lt_succ_iff_lt_or_eq.1 hd with h|h
    ·exact .inl (a2 d h)
    ·subst h;exact .inr (by simp)
  ·by_cases hc:¬ (n:Int)=b/\(Ek ps b n<0\/(ps (Ek ps b n).toNat).length<(ps n).length)
   ·rw[if_pos hc]
    refine .inr ⟨by omega,by omega,hc.1,fun d hd=>?_⟩
    rcases Nat.lt_succ_iff_lt_or_eq.1 hd with h|h
    ·rcases a4 d h with y|y
     ·exact .inl y
     ·refine .inr ?_
      rcases hc.2 with z|z
      ·omega
      ·simp only[Int.toNat_natCast];omega
    ·subst h;exact .inr (by simp)
   ·rw[if_neg hc]
    refine .inr ⟨a1,by omega,a3,fun d hd=>?_⟩
    rcases Nat.lt_succ_iff_lt_or_eq.1 hd with h|h
    ·exact a4 d h
    ·subst h
     by_cases hb:(d:Int)=b
     ·exact .inl hb
     ·exact .inr (by have:¬ (ps (Ek ps b d).toNat).length<(ps d).length:=fun y=>hc ⟨hb,.inr y⟩;omega)
theorem Az0 {ps:Nat->List Int}{a:Nat}:∀ n,(∀ d,d<n->d=a\/ps d = [])->Afl ps n<=(ps a).length
 | 0,_=>by unfold Afl;simp
 | n+1,h=>by
  rw[Aad]
  rcases h n (Nat.lt_succ_self _) with e|e
  ·subst e
   have:Afl ps n=0:=by
    have:∀ k,k<=n->Afl ps k=0:=by
     intro k hk
     induction k with
     | zero=>rfl
     | succ k ih=>
      rw[Aad,ih (by omega)]
      rcases h k (by omega) with e|e
      ·omega
      ·rw[e];rfl
    exact this n (Nat.le_refl _)
   omega
  ·rw[e];have:=Az0 (a:=a) n fun d hd=>h d (Nat.lt_succ_of_lt hd);simp;omega
theorem Arr {ps:Nat->List Int}{n:Nat}(h:U5 ps n ≠ 0)(hp:0<=U5 ps n):∃ a b:Nat,Ek ps (-1) n=a/\Ek ps a n=b/\a<n/\b<n/\a ≠ b/\ps a ≠ []/\ps b ≠ []:=by
 have hpos:0<U5 ps n:=by omega
 unfold U5 at hpos
 rw[Int.lt_min]at hpos
 obtain⟨p1,p2⟩:=hpos
 rcases Aky ps (-1) n with ⟨a1,a2⟩|⟨a1,a2,_,a4⟩
 ·have:n=0:=by
   cases n with
   | zero=>rfl
   | succ n=>have:=a2 0 (by omega);omega
  subst this
  unfold Afl at p1;simp at p1
 ·obtain⟨a,ha⟩:=Int.eq_ofNat_of_zero_le a1
  rw[ha]at a2 a4 p2
  have han:a<n:=by omega
  have e1:Ajl ps n a=(ps a).length:=by unfold Ajl;rw[if_pos (by omega)];rfl
  rw[e1]at p2
  have hex:∃ d,d<n/\d ≠ a/\ps d ≠ []:=by
   apply Classical.byContradiction
   intro hno
   have:=Az0 (ps:=ps) (a:=a) n fun d hd=>by
    by_cases hda:d=a
    ·exact .inl hda
    ·refine .inr (Classical.byContradiction fun hne=>hno ⟨d,hd,hda,hne⟩)
   omega
  obtain⟨d,hd,hda,hne⟩:=hex
  have ha0:ps a ≠ []:=fun e=>by
   rcases a4 d hd with y|y
   ·omega
   ·rw[Int.toNat_natCast,e]at y;exact hne (List.length_eq_zero_iff.1 (by simpa using y))
  rcases Aky ps a n with ⟨b1,b2⟩|⟨b1,b2,b3,b4⟩
  ·have:=b2 d hd;omega
  ·obtain⟨b,hbb⟩:=Int.eq_ofNat_of_zero_le b1
   rw[hbb]at b2 b3 b4
   refine⟨a,b,ha,hbb,han,by omega,by omega,ha0,fun e=>?_⟩
   rcases b4 d hd with y|y
   ·omega
   ·rw[Int.toNat_natCast,e]at y;exact hne (List.length_eq_zero_iff.1 (by simpa using y))
theorem Ags {ps:Nat->List Int}{n:Nat}:0<=U5 ps n:=by
 unfold U5
 have:Ajl ps n (Ek ps (-1) n)<=Afl ps n:=by
  unfold Ajl
  split
  ·rename_i h
   have:∀ m d,d<m->(ps d).length<=Afl ps m:=by
    intro m
    induction m with
    | zero=>intro d hd;omega
    | succ m ih=>
     intro d hd
     rw[Aad]
     rcases Nat.lt_succ_iff_lt_or_eq.1 hd with h|h
     ·have:=ih d h;omega
     ·subst h;omega
   exact this n _ (by omega)
  ·omega
 omega
section
variable {h:Aa}{p ql n:Nat}{q c:Nat->Nat}{g:Gm}{ps:Nat->List Int}(P:Dw h p ql n q c g ps)(hb:HB h)(Z:Oz n g ps)(hK:5000<K)
include P hb Z hK
theorem A6x:Ok (R7 K (.ptr p 0) h) fun v h'=>A0 (Ai1 n c) h h'/\HB h'/\((U5 ps n=0/\v=.tuple [I 0,I 0,I 15]/\Dw h' p ql n q c g ps) \/
 ∃ (a b:Nat) (x y:Int) (r s:List Int),¬ U5 ps n=0/\Ek ps (-1) n=a/\Ek ps a n=b/\a<n/\b<n/\a ≠ b/\ps a=x::r/\ps b=y::s/\v=.tuple [I x,I y,I 0]/\Dw h' p ql n q c g (upd (upd ps a r) b s)/\Oz n g (upd (upd ps a r) b s)):=by
 obtain⟨b1,b2,b3⟩:=Z.bd
 simp only[R7]
 refine(A4b P hb Z.small (by omega)).Aj ?_
 rintro _ h1 ⟨rfl,x1⟩
 have hb1:=x1.hb hb
 have P1:=P.ext fun i o g=>x1.at hb g
 simp only[I,Af]
 by_cases hp:U5 ps n=0
 ·simp only[hp,decide_true,Ab]
  exact .ret ⟨Ext.to x1,hb1,.inl ⟨trivial,rfl,P1⟩⟩
 ·simp only[hp,decide_false,Ab,Yc]
  obtain⟨a,b,ha,hbb,han,hbn,hab,ha0,hb0⟩:=Arr hp Ags
  refine(Ahk P1 hb1 (by omega) (by omega) (-1)).Aj ?_
  rintro _ h2 ⟨rfl,x2⟩
  have hb2:=x2.hb hb1
  have P2:=P1.ext fun i o g=>x2.at hb1 g
  rw[ha]
  refine(Ahk P2 hb2 (by omega) (by omega) a).Aj ?_
  rintro _ h3 ⟨rfl,x3⟩
  have hb3:=x3.hb hb2
  have P3:=P2.ext fun i o g=>x3.at hb2 g
  rw[hbb]
  refine(Azk P3 hb3 Z hK a).Aj ?_
  rintro _ h4 ⟨c4,hb4,x,e,ps',rfl,P4,Z4,hh⟩
  have hx:e=0/\∃ r,ps a=x::r/\ps'=upd ps a r:=by
   rcases hh with ⟨y,_⟩|⟨_,_,y,_⟩|⟨_,_,y,z⟩
   ·omega
   ·rw[Int.toNat_natCast]at y;exact absurd y ha0
   ·rw[Int.toNat_natCast]at z;exact⟨y,z⟩
  obtain⟨rfl,r,har,rfl⟩:=hx
  simp only[Ab]
  refine(Azk P4 hb4 Z4 hK b).Aj ?_
  rintro _ h5 ⟨c5,hb5,y,e,ps',rfl,P5,Z5,hh⟩
  have eb:upd ps a r b=ps b:=by unfold upd;rw[if_neg (Ne.symm hab)]
  have hy:e=0/\∃ s,ps b=y::s/\ps'=upd (upd ps a r) b s:=by
   rcases hh with ⟨w,_⟩|⟨_,_,w,_⟩|⟨_,_,w,z⟩
   ·omega
   ·rw[Int.toNat_natCast,eb]at w;exact absurd w hb0
   ·rw[Int.toNat_natCast,eb]at z;exact⟨w,z⟩
  obtain⟨rfl,s,hbs,rfl⟩:=hy
  simp only[Ab,I,Af,not_true_eq_false,decide_false,Yi]
  refine .ret ⟨(Ext.to (x1.trans (x2.trans x3))).trans (c4.trans c5),hb5,.inr ⟨a,b,x,y,r,s,not_false,rfl,hbb,han,hbn,hab,har,hbs,rfl,P5,Z5⟩⟩
end
end Go.Ev

namespace Go.Ev
open Go.Proofs
set_option maxRecDepth 100000
variable {K:Nat}
def Pd(st:Nat):Int:=if st=4 then 32 else if st=3 then 30 else 0
theorem Ago {h:Aa}{z q:Nat}{size:Int}{Z:Zn}(zz:Dg h z q size Z):C1 K (.ptr z 0) h=some (I Z.st,h):=by
 obtain⟨s,g,_⟩:=zz.Ao
 simp only[C1,Ab,B8 g rfl]
theorem Avq {h:Aa}{z q:Nat}{size:Int}{Z:Zn}(zz:Dg h z q size Z):Hd K (.ptr z 0) h=some (I Z.l.length,h):=by
 obtain⟨s,g,r⟩:=zz.Ao
 simp only[Hd,Ab,B8 g rfl,r.Hg]
theorem Xk {h:Aa}{z q:Nat}{size:Int}{Z:Zn}(zz:Dg h z q size Z):Dl K (.ptr z 0) h=some (I (Pd Z.st),h):=by
 obtain⟨s,g,_⟩:=zz.Ao
 simp only[Dl,Ab,B8 g rfl,I,Af]
 unfold Pd
 by_cases h4:Z.st=4
 ·have:decide ((Z.st:Int)=4)=true:=by simp[h4]
  rw[this,if_pos h4];simp only[Ab]
 ·have a:decide ((Z.st:Int)=4)=false:=by simp;omega
  rw[a,if_neg h4];simp only[Ab,Af]
  by_cases h3:Z.st=3
  ·have:decide ((Z.st:Int)=3)=true:=by simp[h3]
   rw[this,if_pos h3];simp only[Ab]
  ·have b:decide ((Z.st:Int)=3)=false:=by simp;omega
   rw[b,if_neg h3];simp only[Ab,Af,Ke]
theorem Dg.ext {h h':Aa}{z q:Nat}{size:Int}{Z:Zn}(d:Dg h z q size Z)(g:∀ i o,h.get i=some o->h'.get i=some o):Dg h' z q size Z:=by
 obtain⟨s,a,b⟩:=d.Ao
 exact⟨⟨s,g _ _ a,b.frame fun hl=>by rw[g _ _ (b.block hl),b.block hl]⟩,d.wf⟩
def Zn.app(Z:Zn)(size:Nat)(x:List EV):Zn:=⟨Z.l++[x],Z.safe,if Z.l.length+1=size then 2 else 1,Z.fin⟩
theorem Ao5 {h:Aa}{z q size:Nat}{Z:Zn}(zz:Dg h z q size Z)(hb:HB h)(hst:Z.st<2)(hl:Z.l.length<=64){x:List EV}(hx:x.length=64):
 Ok (Cw K (.ptr z 0) (.agg x) h) fun v h'=>v=.tuple [I Z.l.length,I 0]/\(∃ q',Dg h' z q' size (Z.app size x)/\h.next<=q')/\A0 (fun i=>i=z\/(0<Z.l.length/\i=q)) h h'/\HB h':=by
 obtain⟨s,g,r⟩:=zz.Ao
 simp only[Cw,Ab]
 have x1:Ext h (h.new (.cells x 103)):=A0.new _ _
 have g3:(h.new (.cells x 103)).get h.next=some (.cells x 103):=Ac _ _
 have n1:(h.new (.cells x 103)).next=h.next+1:=rfl
 generalize h.new (.cells x 103)=h1 at x1 g3 n1 ⊢
 have hb1:=x1.hb hb
 have z1:Dg h1 z q size Z:=zz.ext fun i o g=>x1.at hb g
 have g1:=x1.at hb g
 have r1:B7 h1 s q 103 64 Z.l.length Z.l.flatten:=r.frame fun hl=>by rw[x1.at hb (r.block hl),r.block hl]
 rw[Xk z1,A9]
 have hf:Pd Z.st=0:=by unfold Pd;rw[if_neg (by omega),if_neg (by omega)]
 rw[hf]
 have h2:¬ (Z.st:Int)=2:=by omega
 simp only[Af,I,not_true_eq_false,decide_false,Ab,G1,B8 g1 rfl,h2,Kn]
 have lz:=hb1 _ _ g1
 have l3:=hb1 _ _ g3
 simp only[Ab,Bg,Au lz,Au l3,B8 g1 rfl,C0 g3 rfl,Av hx]
 rw[Aej (z:=List.replicate 64 (.int .u8 0)) rfl (by simp) (by exact hx) (by omega),A9]
 have x2:Ext h1 (h1.new (.cells (EV.cells (.agg x)) 103)):=A0.new _ _
 have gx:(h1.new (.cells (EV.cells (.agg x)) 103)).get h1.next=some (.cells x 103):=Ac _ _
 have n2:(h1.new (.cells (EV.cells (.agg x)) 103)).next=h1.next+1:=rfl
 generalize h1.new (.cells (EV.cells (.agg x)) 103)=h2' at x2 gx n2 ⊢
 have hb2:=x2.hb hb1
 have g2:=x2.at hb1 g1
 have r2:B7 h2'.lift s q 103 64 Z.l.length Z.l.flatten:=(r1.frame (h':=h2') fun hl=>by rw[x2.at hb1 (r1.block hl),r1.block hl]).frame fun _=>C5 _ _
 obtain⟨h3,e3,r3,n3,c3⟩:=S3 (x:=.slice h1.next 0 1 1 false) (n:=1) r2 rfl (by omega) (by omega) (by omega) (Abg (b:=h1.next) (by rw[C5];exact gx) hx) (by rw[hx])
 refine Ok.Ake (S:=fun i=>0<Z.l.length/\i=q) (by kernel_rfl) (by kernel_rfl) (fun _=>by kernel_rfl) (P:=fun v h'=>v=.slice h2'.lift.next 0 (Z.l.length+1) (Z.l.length+1) true/\h'=h3) ⟨_,_,e3,rfl,rfl⟩ (fun _ _ p=>by rw[p.2];exact c3) ?_
 rintro _ _ h4 s' ⟨rfl,rfl⟩ sm x4 hs'
 have hb4:=x4.hb hb2
 rw[Aac]at r3 n3
 rw[Aac]
 have hnz:¬ (0<Z.l.length/\z=q):=fun y=>by
  have:=r1.block y.1;exact Bo g1 this (by simp) y.2
 have g4:h4.get z=some (.cells [s,I size,I Z.safe,I Z.st,.bool Z.fin] 240):=A0.at x4 hb2 g2 hnz
 have r4:B7 h4 (.slice h2'.next 0 (Z.l.length+1) (Z.l.length+1) true) h2'.next 103 64 (Z.l.length+1) (Z.l.flatten++x):=r3.frame fun _=>sm.get _
 have lz4:z<h4.next:=hb4 _ _ g4
 try simp only[Ab]
 rw[R5 (by rcases hs' with rfl|⟨w,rfl,_⟩ <;> kernel_rfl)]
 refine Ok.st1 g4 rfl rfl (by show 0<5;decide) ?_
 refine Ok.st1 (Ah _ _ _) rfl rfl (by show 3<5;decide) ?_
 simp only[List.set,Ab]
 have hne:h2'.next ≠ z:=by have:=hb2 _ _ g2;omega
 have lz5:z<((h4.put z (.cells [EV.slice h2'.next 0 (Z.l.length+1) (Z.l.length+1) true,I size,I Z.safe,I Z.st,.bool Z.fin] 240)).put z (.cells [EV.slice h2'.next 0 (Z.l.length+1) (Z.l.length+1) true,I size,I Z.safe,.int .i64 1,.bool Z.fin] 240)).next:=lz4
 have hq:h.next<=h2'.next:=by omega
 have r5:∀ o1 o2,B7 ((h4.put z o1).put z o2) (.slice h2'.next 0 (Z.l.length+1) (Z.l.length+1) true) h2'.next 103 64 (Z.l.length+1) (Z.l.flatten++x):=fun o1 o2=>r4.frame fun _=>by rw[Aq _ (Ne.symm hne),Aq _ (Ne.symm hne)]
 have ch:∀ o1 o2,A0 (fun i=>i=z\/(0<Z.l.length/\i=q)) h ((h4.put z o1).put z o2):=fun o1 o2=>((((Ext.to (x1.trans x2)).trans (x4.mono fun i hi=>.inr hi)).Az (.inl (.inl rfl)) lz4 _).Az (.inl (.inl rfl)) lz4 _)
 have hbz:∀ o1 o2,HB ((h4.put z o1).put z o2):=fun o1 o2=>(hb4.put lz4 _).put lz4 _
 have gz:((h4.put z (.cells [EV.slice h2'.next 0 (Z.l.length+1) (Z.l.length+1) true,I size,I Z.safe,I Z.st,.bool Z.fin] 240)).put z (.cells [EV.slice h2'.next 0 (Z.l.length+1) (Z.l.length+1) true,I size,I Z.safe,.int .i64 1,.bool Z.fin] 240)).get z=some (.cells [EV.slice h2'.next 0 (Z.l.length+1) (Z.l.length+1) true,I size,I Z.safe,.int .i64 1,.bool Z.fin] 240):=Ah _ _ _
 have r5':=r5 (.cells [EV.slice h2'.next 0 (Z.l.length+1) (Z.l.length+1) true,I size,I Z.safe,I Z.st,.bool Z.fin] 240) (.cells [EV.slice h2'.next 0 (Z.l.length+1) (Z.l.length+1) true,I size,I Z.safe,.int .i64 1,.bool Z.fin] 240)
 have ch':=ch (.cells [EV.slice h2'.next 0 (Z.l.length+1) (Z.l.length+1) true,I size,I Z.safe,I Z.st,.bool Z.fin] 240) (.cells [EV.slice h2'.next 0 (Z.l.length+1) (Z.l.length+1) true,I size,I Z.safe,.int .i64 1,.bool Z.fin] 240)
 have hb5:=hbz (.cells [EV.slice h2'.next 0 (Z.l.length+1) (Z.l.length+1) true,I size,I Z.safe,I Z.st,.bool Z.fin] 240) (.cells [EV.slice h2'.next 0 (Z.l.length+1) (Z.l.length+1) true,I size,I Z.safe,.int .i64 1,.bool Z.fin] 240)
 generalize (h4.put z (.cells [EV.slice h2'.next 0 (Z.l.length+1) (Z.l.length+1) true,I size,I Z.safe,I Z.st,.bool Z.fin] 240)).put z (.cells [EV.slice h2'.next 0 (Z.l.length+1) (Z.l.length+1) true,I size,I Z.safe,.int .i64 1,.bool Z.fin] 240)=h5 at gz r5' ch' hb5 lz5 ⊢
 simp only[B8 gz rfl,Ab,I,Af]
 have fin:∀ (st:Nat) (h6:Aa),st=(Z.app size x).st->h6.get z=some (.cells [EV.slice h2'.next 0 (Z.l.length+1) (Z.l.length+1) true,I size,I Z.safe,I st,.bool Z.fin] 240)->B7 h6 (.slice h2'.next 0 (Z.l.length+1) (Z.l.length+1) true) h2'.next 103 64 (Z.l.length+1) (Z.l.flatten++x)->A0 (fun i=>i=z\/(0<Z.l.length/\i=q)) h h6->HB h6 ->
  Ok (El K (.ptr z 0) h6) fun v h'=>v=.tuple [I Z.l.length,I 0]/\(∃ q',Dg h' z q' size (Z.app size x)/\h.next<=q')/\A0 (fun i=>i=z\/(0<Z.l.length/\i=q)) h h'/\HB h':=by
  rintro st h6 rfl g6 r6 c6 hb6
  simp only[El,Ab,B8 g6 rfl,I,Af]
  rw[Cq (by omega) (by omega),show ((Z.l.length+1:Nat):Int)-1=(Z.l.length:Int) by omega]
  refine .ret ⟨rfl,⟨h2'.next,⟨⟨_,g6,?_⟩,fun y hy=>by
   rcases List.mem_append.1 hy with hy|hy
   ·exact zz.wf y hy
   ·rw[List.mem_singleton.1 hy];exact hx⟩,hq⟩,c6,hb6⟩
  have e1:(Z.app size x).l.length=Z.l.length+1:=by simp[Zn.app]
  have e2:(Z.app size x).l.flatten=Z.l.flatten++x:=by simp[Zn.app]
  rw[e1,e2];exact r6
 by_cases hs:Z.l.length+1=size
 ·have:((Z.l.length+1:Nat):Int)=(size:Int):=by omega
  simp only[this,decide_true,Ab]
  refine Ok.st1 gz rfl rfl (by show 3<5;decide) ?_
  refine fin 2 _ (by simp[Zn.app,hs]) (Ah _ _ _) (r5'.frame fun _=>Aq _ (Ne.symm hne)) (ch'.Az (.inl (.inl rfl)) lz5 _) (hb5.put lz5 _)
 ·have:¬ ((Z.l.length+1:Nat):Int)=(size:Int):=by omega
  simp only[this,decide_false,Ab]
  exact fin 1 _ (by simp[Zn.app,hs]) gz r5' ch' hb5
theorem Aoh {h:Aa}{z q:Nat}{size:Int}{Z:Zn}(zz:Dg h z q size Z)(hb:HB h)(hst:2<=Z.st)(h4:Z.st<=4)(x:List EV):
 Ok (Cw K (.ptr z 0) (.agg x) h) fun v h'=>v=.tuple [I 0,I (if Z.st=2 then 17 else Pd Z.st)]/\Ext h h':=by
 simp only[Cw,Ab]
 have x1:Ext h (h.new (.cells x 103)):=A0.new _ _
 generalize h.new (.cells x 103)=h1 at x1 ⊢
 have z1:Dg h1 z q size Z:=zz.ext fun i o g=>x1.at hb g
 rw[Xk z1,A9]
 obtain⟨s,g,_⟩:=z1.Ao
 by_cases h2:Z.st=2
 ·have hf:Pd Z.st=0:=by unfold Pd;rw[if_neg (by omega),if_neg (by omega)]
  have h2':(Z.st:Int)=2:=by omega
  rw[hf]
  simp only[Af,I,not_true_eq_false,decide_false,Ab,G1,B8 g rfl,h2',decide_true,h2,if_true]
  exact .ret ⟨rfl,x1⟩
 ·have hf:¬ Pd Z.st=0:=by
   unfold Pd
   split
   ·decide
   ·split
    ·decide
    ·omega
  simp only[Af,I,hf,not_false_eq_true,decide_true,Ab,h2,if_false]
  exact .ret ⟨rfl,x1⟩
end Go.Ev

namespace Go.Ev
open Go.Proofs
set_option maxRecDepth 100000
variable {K:Nat}
theorem Ix {h:Aa}{i t n:Nat}{l:List EV}{v:EV}(hg:h.get i=some (.cells l t))(hs:TT.size t=some n)(ha:TT.agg t=some true)(hl:l.length=n):Cx TT [.c (.ptr i 0) t,.v v] h=some (.tuple [.agg l,v],h):=by
 have hr:Gs h i 0 n=some l:=by
  unfold Gs;rw[hg];simp only;rw[<-Re];exact Av hl
 unfold Cx
 simp only[Aok,hs,hr,ha]
theorem Acx:TT.size 103=some 64/\TT.agg 103=some true:=⟨by kernel_rfl,by kernel_rfl⟩
def P7:List EV:=List.replicate 64 (.int .u8 0)
theorem I3:P7.length=64:=by simp[P7]
theorem A3h:∀ (l:List (List EV)) (j:Nat),(∀ x ∈ l,x.length=64)->j<l.length->∃ x,l[j]? = some x/\x.length=64/\Of l.flatten (j*64) 64=some x:=by
 intro l
 induction l with
 | nil=>intro j _ hj;cases hj
 | cons y l ih=>
  intro j hw hj
  have hy:=hw y (List.mem_cons_self ..)
  cases j with
  | zero=>
   refine⟨y,rfl,hy,?_⟩
   rw[List.flatten_cons,Ff (by simp[hy]),Nat.zero_mul,List.drop_zero,List.take_append_of_le_length (by omega),List.take_of_length_le (by omega)]
  | succ j=>
   obtain⟨x,e1,e2,e3⟩:=ih j (fun x hx=>hw x (List.mem_cons_of_mem _ hx)) (by simpa using hj)
   refine⟨x,by simpa using e1,e2,?_⟩
   have hl:j*64+64<=l.flatten.length:=by
    rcases Nat.lt_or_ge l.flatten.length (j*64+64) with hlt|hge
    ·rw[Re]at e3
     exfalso
     have:(l.flatten.drop (j*64)).length<64:=by rw[List.length_drop];omega
     revert e3
     have hlen:l.flatten.length=l.length*64:=by
      clear ih hj e1 hlt this
      have hw':∀ x ∈ l,x.length=64:=fun x hx=>hw x (List.mem_cons_of_mem _ hx)
      clear hw
      induction l with
      | nil=>rfl
      | cons a l ih=>rw[List.flatten_cons,List.length_append,ih fun x hx=>hw' x (List.mem_cons_of_mem _ hx),hw' a (List.mem_cons_self ..),List.length_cons];omega
     have:j+1<=l.length:=by simp at hj;omega
     omega
    ·exact hge
   rw[Ff hl]at e3
   rw[List.flatten_cons,Ff (by rw[List.length_append];omega),show (j+1)*64=y.length+j*64 by omega,List.drop_append,<-e3,List.drop_of_length_le (by omega),List.nil_append]
   simp
def Xp(Z:Zn)(off:Int):List EV × Int:=if Z.st=4 then (P7,32) else if 0<=off/\off<Z.l.length then ((Z.l[off.toNat]?).getD P7,0) else (P7,31)
theorem A2i {Z:Zn}(wf:∀ x ∈ Z.l,x.length=64)(off:Int):(Xp Z off).1.length=64:=by
 unfold Xp
 split
 ·exact I3
 ·split
  ·rename_i hc
   have:off.toNat<Z.l.length:=by omega
   rw[List.getElem?_eq_getElem this]
   exact wf _ (List.getElem_mem _)
  ·exact I3
theorem Asd {h:Aa}{z q:Nat}{size:Int}{Z:Zn}(zz:Dg h z q size Z)(hb:HB h)(off:Int):
 Ok (Gn K (.ptr z 0) (I off) h) fun v h'=>v=.tuple [.agg (Xp Z off).1,I (Xp Z off).2]/\Ext h h':=by
 simp only[Gn,Ab]
 have x1:Ext h ((h.new (.cells (List.replicate 64 (.int .u8 0)) 103)).new (.cells (List.replicate 64 (.int .u8 0)) 103)):=(A0.new _ _).Fa _
 have g4:((h.new (.cells (List.replicate 64 (.int .u8 0)) 103)).new (.cells (List.replicate 64 (.int .u8 0)) 103)).get h.next=some (.cells P7 103):=by
  rw[A4 _ (Nat.lt_succ_self _)];exact Ac _ _
 have g6:((h.new (.cells (List.replicate 64 (.int .u8 0)) 103)).new (.cells (List.replicate 64 (.int .u8 0)) 103)).get (h.new (.cells (List.replicate 64 (.int .u8 0)) 103)).next=some (.cells P7 103):=Ac _ _
 generalize hx6:(h.new (.cells (List.replicate 64 (.int .u8 0)) 103)).next=n6 at g6 ⊢
 generalize (h.new (.cells (List.replicate 64 (.int .u8 0)) 103)).new (.cells (List.replicate 64 (.int .u8 0)) 103)=h1 at x1 g4 g6 ⊢
 have hb1:=x1.hb hb
 have z1:Dg h1 z q size Z:=zz.ext fun i o g=>x1.at hb g
 obtain⟨s,g,r⟩:=z1.Ao
 have l4:=hb1 _ _ g4
 have fin:∀ (l:List EV) (e:Int),l.length=64->(l,e)=Xp Z off->Ok (D5 64 (.ptr h.next 0) (.agg l) h1 fun h=>Cx TT [.c (.ptr h.next 0) 103,.v (I e)] h) (fun v h'=>True)->True:=fun _ _ _ _ _=>trivial
 clear fin
 have fin:∀ (l:List EV) (e:Int) (kk:Aa->R),(∀ h',kk h'=Cx TT [.c (.ptr h.next 0) 103,.v (I e)] h')->l.length=64->(l,e)=Xp Z off->Ok (D5 64 (.ptr h.next 0) (.agg l) h1 kk) fun v h'=>v=.tuple [.agg (Xp Z off).1,I (Xp Z off).2]/\Ext h h':=by
  intro l e kk hkk hl he
  refine Ok.st l g4 rfl (by rw[show EV.cells (.agg l)=l from rfl,Bf,hl]) (Bb (by rw[I3];exact hl.symm)) ?_
  rw[hkk,Ix (Ah _ _ _) Acx.1 Acx.2 hl,<-he]
  exact .ret ⟨rfl,x1.Az (.inr (Nat.le_refl _)) l4 _⟩
 simp only[B8 g rfl,Ab,I,Af,C0 g6 rfl,Av I3]
 by_cases h4:Z.st=4
 ·rw[show decide ((Z.st:Int)=4)=true by simp[h4]]
  simp only[Ab]
  exact fin P7 32 _ (fun _=>rfl) I3 (by unfold Xp;rw[if_pos h4])
 ·rw[show decide ((Z.st:Int)=4)=false by simp;omega]
  simp only[Ab]
  by_cases h0:off<0
  ·simp only[h0,decide_true,Ab,Fc,C0 g6 rfl,Av I3]
   exact fin P7 31 _ (fun _=>rfl) I3 (by unfold Xp;rw[if_neg h4,if_neg (by omega)])
  ·simp only[h0,decide_false,Ab,r.Hg,Af,Fc]
   by_cases h5:(Z.l.length:Int)<=off
   ·simp only[h5,decide_true,Ab,C0 g6 rfl,Av I3]
    exact fin P7 31 _ (fun _=>rfl) I3 (by unfold Xp;rw[if_neg h4,if_neg (by omega)])
   ·simp only[h5,decide_false,Ab,Ll,B8 g rfl]
    have hj:off.toNat<Z.l.length:=by omega
    obtain⟨j,rfl⟩:∃ j:Nat,off=j:=⟨off.toNat,by omega⟩
    rw[show (j:Int).toNat=j from rfl]at hj
    obtain⟨x,f1,f2,f3⟩:=A3h Z.l j zz.wf hj
    rw[r.ix hj]
    simp only[C0 (r.block (by omega)) rfl,f3,Ab]
    refine fin x 0 _ (fun _=>rfl) f2 ?_
    unfold Xp;rw[if_neg h4,if_pos (by omega),show (j:Int).toNat=j from rfl,f1];rfl
theorem Dg.put {h:Aa}{z q:Nat}{size:Int}{Z:Zn}(zz:Dg h z q size Z){s:EV}(g:h.get z=some (.cells [s,I size,I Z.safe,I Z.st,.bool Z.fin] 240))(safe st:Nat)(fin:Bool):
 Dg (h.put z (.cells [s,I size,I safe,I st,.bool fin] 240)) z q size ⟨Z.l,safe,st,fin⟩:=by
 obtain⟨s',g',r⟩:=zz.Ao
 rw[g]at g'
 have:s=s':=by
  have:=Option.some.inj g'
  injection this with a _
  exact(List.cons.inj a).1
 subst this
 refine⟨⟨s,Ah _ _ _,r.frame fun hl=>Aq _ ?_⟩,zz.wf⟩
 exact Bo g (r.block hl) (by simp)
def Zn.flush(Z:Zn):Zn:={ Z with safe:=Z.l.length }
theorem Aqc {h:Aa}{z q:Nat}{size:Int}{Z:Zn}(zz:Dg h z q size Z)(hb:HB h):
 Ok (D4 K (.ptr z 0) h) fun v h'=>Dg h' z q size Z.flush/\A0 (fun i=>i=z) h h'/\HB h':=by
 obtain⟨s,g,r⟩:=zz.Ao
 have lz:=hb _ _ g
 simp only[D4,Ab,B8 g rfl,r.Hg]
 refine Ok.st1 g rfl rfl (by show 2<5;decide) ?_
 refine .ret ⟨?_,(A0.refl (S:=fun i=>i=z) h).Az (.inl rfl) lz _,hb.put lz _⟩
 exact zz.put g Z.l.length Z.st Z.fin
def Zn.finish(Z:Zn):Zn:={ Z with st:=2,fin:=true }
theorem Ao9 {h:Aa}{z q:Nat}{size:Int}{Z:Zn}(zz:Dg h z q size Z)(hb:HB h):
 Ok (Fu K (.ptr z 0) h) fun v h'=>v=I (Pd Z.st)/\Dg h' z q size (if Pd Z.st=0 then Z.finish else Z)/\A0 (fun i=>i=z) h h'/\HB h':=by
 obtain⟨s,g,r⟩:=zz.Ao
 have lz:=hb _ _ g
 simp only[Fu,Xk zz,Ab,I,Af]
 by_cases hf:Pd Z.st=0
 ·simp only[hf,not_true_eq_false,decide_false,Ab,if_true,K0]
  refine Ok.st1 g rfl rfl (by show 3<5;decide) ?_
  refine Ok.st1 (Ah _ _ _) rfl rfl (by show 4<5;decide) ?_
  refine .ret ⟨rfl,?_,((A0.refl (S:=fun i=>i=z) h).Az (.inl rfl) lz _).Az (.inl rfl) lz _,(hb.put lz _).put lz _⟩
  exact(zz.put g Z.safe 2 Z.fin).put (Ah _ _ _) Z.safe 2 true
 ·simp only[hf,not_false_eq_true,decide_true,Ab,if_false]
  exact .ret ⟨rfl,zz,A0.refl _,hb⟩
def Zn.fail(Z:Zn)(st:Nat):Zn:=if st=4\/st=3/\¬ Z.st=4 then { Z with st:=st } else Z
theorem Atb {h:Aa}{z q:Nat}{size:Int}{Z:Zn}(zz:Dg h z q size Z)(hb:HB h)(st:Nat):
 Ok (Gq K (.ptr z 0) (I st) h) fun v h'=>Dg h' z q size (Z.fail st)/\A0 (fun i=>i=z) h h'/\HB h':=by
 obtain⟨s,g,r⟩:=zz.Ao
 have lz:=hb _ _ g
 have yes:(st=4\/st=3/\¬ Z.st=4)->Ok (D5 1 (.ptr z 3) (I st) h fun h=>some (.tuple [],h)) fun v h'=>Dg h' z q size (Z.fail st)/\A0 (fun i=>i=z) h h'/\HB h':=by
  intro hc
  refine Ok.st1 g rfl rfl (by show 3<5;decide) ?_
  refine .ret ⟨?_,(A0.refl (S:=fun i=>i=z) h).Az (.inl rfl) lz _,hb.put lz _⟩
  unfold Zn.fail;rw[if_pos hc]
  exact zz.put g Z.safe st Z.fin
 have no:¬ (st=4\/st=3/\¬ Z.st=4)->Ok (some (.tuple [],h)) fun v h'=>Dg h' z q size (Z.fail st)/\A0 (fun i=>i=z) h h'/\HB h':=by
  intro hc
  refine .ret ⟨?_,A0.refl _,hb⟩
  unfold Zn.fail;rw[if_neg hc];exact zz
 simp only[Gq,I,Af,Ab]
 by_cases a:st=4
 ·rw[show decide ((st:Int)=4)=true by simp[a]]
  simp only[Ab,Af,Df,Cn,Cm]
  exact yes (.inl a)
 ·rw[show decide ((st:Int)=4)=false by simp;omega]
  simp only[Ab,Af]
  by_cases b:st=3
  ·rw[show decide ((st:Int)=3)=true by simp[b]]
   simp only[Ab,Af,Df,B8 g rfl,I]
   by_cases c:Z.st=4
   ·rw[show decide (¬ (Z.st:Int)=4)=false by simp[c]]
    simp only[Ab,Af,Cn,Cm]
    exact no (by omega)
   ·rw[show decide (¬ (Z.st:Int)=4)=true by simp;omega]
    simp only[Ab,Af,Cn,Cm]
    exact yes (.inr ⟨b,c⟩)
  ·rw[show decide ((st:Int)=3)=false by simp;omega]
   simp only[Ab,Af,Df,Cn,Cm]
   exact no (by omega)
end Go.Ev

namespace Go.Ev
open Go.Proofs
set_option maxRecDepth 100000
variable {K:Nat}
theorem Bcw(a b:Int)(h:Aa):builtin TT .max #[3,3] [.int .i64 a,.int .i64 b] h=some (I (max a b),h):=by
 show some (EV.int .i64 (As (As true (ltB a b) (ltB b a)) b a),h)=_
 rw[show As true (ltB a b) (ltB b a)=ltB a b from rfl,Ar2,Int.max_def]
 by_cases hc:a<b
 ·rw[decide_eq_true hc,if_pos (by omega)];rfl
 ·by_cases hd:a<=b
  ·have:a=b:=by omega
   subst this;rw[if_pos (by omega)];cases decide (a<a) <;> rfl
  ·rw[decide_eq_false hc,if_neg hd];rfl
theorem Bbw(a b:Int)(h:Aa):builtin TT .min #[3,3] [.int .i64 a,.int .i64 b] h=some (I (min a b),h):=by
 show some (EV.int .i64 (As (As false (ltB a b) (ltB b a)) b a),h)=_
 rw[show As false (ltB a b) (ltB b a)=ltB b a from rfl,Ar2,Int.min_def]
 by_cases hc:a<=b
 ·rw[decide_eq_false (by omega),if_pos hc];rfl
 ·rw[decide_eq_true (by omega),if_neg hc];rfl
theorem A0k(q o n r:Nat)(op:Bool)(k:EV->R):An Fj (bin TT .eql 129) (.slice q o n r op) .Ag k=k (.bool false):=by kernel_rfl
theorem Ax3(k:EV->R):An Fj (bin TT .eql 129) .Ag .Ag k=k (.bool true):=by kernel_rfl
theorem O7 {h:Aa}{b e sz n:Nat}{x:EV}{new:List EV}(hx:lenOf x=some n)(hn':n<=65536)(hc:Kb h sz n x=some new)(hs:new.length=n*sz)(q:Nat):
 Ok (Dt e sz (.slice b 0 0 0 false) x h) fun v h'=>∃ q',B7 h' v q' e sz n new/\Ext h h'/\(0<n->h.next<=q'):=by
 rcases Nat.eq_zero_or_pos n with rfl|hp
 ·have:new = []:=List.length_eq_zero_iff.1 (by omega)
  subst this
  refine⟨.slice b 0 0 0 false,h,?_,q,.empty _ _ _ _ _,A0.refl _,fun y=>by omega⟩
  unfold Dt;simp only[hx,Gl];rfl
 ·obtain⟨h',e1,r,n1,c⟩:=S3 (s:=.slice b 0 0 0 false) (q:=q) (e:=e) (.empty h b q e sz) hx hp hn' (Nat.zero_le _) hc hs
  refine⟨_,h',e1,h.next,?_,c.mono fun i hi=>absurd hi.1 (Nat.lt_irrefl _),fun _=>Nat.le_refl _⟩
  rw[List.nil_append]at r
  simpa only[Nat.zero_add] using r
theorem Agn {h:Aa}{q o n r:Nat}{op:Bool}{new:List EV}(hn:n<=65536)(hc:Kb h 64 n (.slice q o n r op)=some new)(hs:new.length=n*64)(hb:HB h):
 Ok (Bm K (.slice q o n r op) h) fun v h'=>∃ q',B7 h' v q' 103 64 n new/\Ext h h'/\(0<n->h.next<=q'):=by
 simp only[Bm,A0k,Ab,G4]
 rw[show B1 (List.replicate 64 (.int .u8 0)) 103 64 0 [] h=some (.slice h.next 0 0 0 false,h.new (.cells [] 103)) from rfl,A9]
 have x1:Ext h (h.new (.cells [] 103)):=A0.new _ _
 have hc1:Kb (h.new (.cells [] 103)) 64 n (.slice q o n r op)=some new:=by
  rcases Nat.eq_zero_or_pos n with rfl|hp
  ·exact hc
  ·revert hc
   show As (Nat.beq n 0) (some []) (Ph h q o (Nat.mul n 64))=_->As (Nat.beq n 0) (some []) (Ph _ q o (Nat.mul n 64))=_
   have:Nat.beq n 0=false:=by cases n with|zero=>omega|succ n=>rfl
   rw[this,Ax,Ax]
   unfold Ph
   cases hg:h.get q with
   | none=>intro y;cases y
   | some ob=>rw[A4 _ (hb _ _ hg),hg];exact id
 refine(O7 (b:=h.next) (e:=103) rfl hn hc1 hs 0).Aj ?_
 rintro v h2 ⟨q',r,x,l⟩
 refine .ret ⟨q',r,x1.trans x,fun y=>?_⟩
 have:=l y
 have:=x1.next
 omega
theorem A0v {h:Aa}:Bm K .Ag h=some (.Ag,h):=by
 simp only[Bm,Ax3,Ab]
theorem A3d(l:List (List EV))(hw:∀ x ∈ l,x.length=64)(n:Nat)(hn:n<=l.length):(l.take n).flatten.length=n*64/\Of l.flatten 0 (n*64)=some (l.take n).flatten:=by
 have e:∀ l:List (List EV),(∀ x ∈ l,x.length=64)->l.flatten.length=l.length*64:=by
  intro l hw
  induction l with
  | nil=>rfl
  | cons a l ih=>rw[List.flatten_cons,List.length_append,ih fun x hx=>hw x (List.mem_cons_of_mem _ hx),hw a (List.mem_cons_self ..),List.length_cons];omega
 have h1:=e (l.take n) fun x hx=>hw x (List.mem_of_mem_take hx)
 rw[List.length_take,Nat.min_eq_left hn]at h1
 refine⟨h1,?_⟩
 have h2:l.flatten=(l.take n).flatten++(l.drop n).flatten:=by rw[<-List.flatten_append,List.take_append_drop]
 rw[h2,Ff (by rw[List.length_append,h1];omega),List.drop_zero,<-h1,List.take_left]
def Zn.left(Z:Zn)(keep:Int):Nat:=Z.safe+(min (max keep 0) ((Z.l.length:Int)-Z.safe)).toNat
def Zn.Ul(Z:Zn)(size:Nat)(keep:Int):Zn:=⟨Z.l.take (Z.left keep),Z.left keep,if 3<=Z.st then Z.st else if Z.fin=true\/Z.left keep=size then 2 else if Z.left keep=0 then 0 else 1,Z.fin⟩
theorem Ap7 {h:Aa}{z q size:Nat}{Z:Zn}(zz:Dg h z q size Z)(hb:HB h)(hs:Z.safe<=Z.l.length)(hl:Z.l.length<=64)(keep:Int):
 Ok (D1 K (.ptr z 0) (I keep) h) fun v h'=>(∃ q',Dg h' z q' size (Z.Ul size keep)/\((Z.Ul size keep).l ≠ []->h.next<=q'))/\A0 (fun i=>i=z) h h'/\HB h':=by
 obtain⟨s,g,r⟩:=zz.Ao
 simp only[D1,Ab,B8 g rfl,I,Bcw,r.Hg,Af,Bbw]
 have hm:(Z.safe:Int)+min (max keep 0) ((Z.l.length:Int)-Z.safe)=(Z.left keep:Nat):=by unfold Zn.left;omega
 have hle:Z.left keep<=Z.l.length:=by unfold Zn.left;omega
 rw[Cq (n:=(Z.l.length:Int)-Z.safe) (by omega) (by omega),hm,Cq (by omega) (by omega)]
 unfold Zn.Ul
 generalize Z.left keep=n at hle ⊢
 clear hm
 have sl:∀ k:EV->Aa->R,(∀ v h' q',B7 h' v q' 103 64 n (Z.l.take n).flatten->Ext h h'->(0<n->h.next<=q')->Ok (k v h') fun v h'=>(∃ q',Dg h' z q' size ⟨Z.l.take n,n,if 3<=Z.st then Z.st else if Z.fin=true\/n=size then 2 else if n=0 then 0 else 1,Z.fin⟩/\(Z.l.take n ≠ []->h.next<=q'))/\A0 (fun i=>i=z) h h'/\HB h') ->
  Ok (R9 64 s none (some (.int .i64 (n:Int))) none fun v29=>Aj (Bm K v29 h) k) fun v h'=>(∃ q',Dg h' z q' size ⟨Z.l.take n,n,if 3<=Z.st then Z.st else if Z.fin=true\/n=size then 2 else if n=0 then 0 else 1,Z.fin⟩/\(Z.l.take n ≠ []->h.next<=q'))/\A0 (fun i=>i=z) h h'/\HB h':=by
  intro k hk
  obtain⟨ft1,ft2⟩:=A3d Z.l zz.wf n hle
  rcases r with ⟨hlen0,hflat,rfl|⟨b,rfl⟩⟩|⟨hp,rfl,gq,hln⟩
  ·obtain rfl:n=0:=by omega
   rw[show ∀ k:EV->R,R9 64 .Ag none (some (.int .i64 ((0:Nat):Int))) none k=k .Ag from fun _=>rfl,A0v,A9]
   exact hk _ _ 0 (.nil _ _ _ _) (A0.refl _) fun y=>absurd y (Nat.lt_irrefl _)
  ·obtain rfl:n=0:=by omega
   rw[show ∀ k:EV->R,R9 64 (.slice b 0 0 0 false) none (some (.int .i64 ((0:Nat):Int))) none k=k (.slice b 0 0 0 false) from fun _=>rfl]
   refine(Agn (K:=K) (new:=[]) (Nat.zero_le _) rfl rfl hb).Aj ?_
   rintro v h' ⟨q',r',x',l'⟩
   exact hk v h' q' r' x' l'
  ·have hs1:∀ k:EV->R,R9 64 (.slice q 0 Z.l.length Z.l.length true) none (some (.int .i64 (n:Int))) none k=k (.slice q 0 n Z.l.length true):=by
    intro k
    have:slc (.slice q 0 Z.l.length Z.l.length true) 64 none (some (.int .i64 (n:Int))) none=some (.slice q 0 n Z.l.length true):=by
     have hbd:bound (some (.int .i64 (n:Int))) Z.l.length Z.l.length=some n:=by
      show As (Nat.ble n Z.l.length) (some n) none=_
      rw[Nat.ble_eq_true_of_le hle,Ak]
     unfold slc
     simp only[hbd]
     rfl
    unfold R9;rw[this];rfl
   rw[hs1]
   have hc:Kb h 64 n (.slice q 0 n Z.l.length true)=some (Z.l.take n).flatten:=by
    show As (Nat.beq n 0) (some []) (Ph h q 0 (Nat.mul n 64))=_
    cases n with
    | zero=>rfl
    | succ n=>
     rw[show Nat.beq (n+1) 0=false from rfl,Ax]
     unfold Ph V3
     rw[gq]
     exact ft2
   refine(Agn (K:=K) (by omega) hc ft1 hb).Aj ?_
   rintro v h' ⟨q',r',x',l'⟩
   exact hk v h' q' r' x' l'
 refine sl _ ?_
 intro v h1 q' r1 x1 hq
 have hb1:=x1.hb hb
 have g1:=x1.at hb g
 have lz1:=hb1 _ _ g1
 refine Ok.st1 g1 r1.plain.1 r1.plain.2 (by show 0<5;decide) ?_
 refine Ok.st1 (Ah _ _ _) rfl rfl (by show 2<5;decide) ?_
 simp only[List.set]
 have base:∀ (st:Nat) (h3:Aa),h3.get z=some (.cells [v,I size,.int .i64 (n:Int),I st,.bool Z.fin] 240)->(∀ i,i ≠ z->h3.get i=h1.get i)->A0 (fun i=>i=z) h h3->HB h3 ->
  (st=if 3<=Z.st then Z.st else if Z.fin=true\/n=size then 2 else if n=0 then 0 else 1) ->
  (∃ q',Dg h3 z q' size ⟨Z.l.take n,n,if 3<=Z.st then Z.st else if Z.fin=true\/n=size then 2 else if n=0 then 0 else 1,Z.fin⟩/\(Z.l.take n ≠ []->h.next<=q'))/\A0 (fun i=>i=z) h h3/\HB h3:=by
  intro st h3 g3 e3 c3 hb3 hst
  have hln:(Z.l.take n).length=n:=by rw[List.length_take,Nat.min_eq_left hle]
  refine⟨⟨q',⟨⟨v,?_,?_⟩,fun x hx=>zz.wf x (List.mem_of_mem_take hx)⟩,fun hne=>hq ?_⟩,c3,hb3⟩
  ·rw[<-hst];exact g3
  ·rw[hln]
   refine r1.frame fun hl=>e3 _ ?_
   exact(Bo g1 (r1.block hl) (by simp)).symm
  ·rw[<-hln];exact List.length_pos_iff.2 hne
 have c2:∀ o1 o2 o3,A0 (fun i=>i=z) h (((h1.put z o1).put z o2).put z o3):=fun o1 o2 o3=>(((Ext.to (S:=fun i=>i=z) x1).Az (.inl rfl) lz1 o1).Az (.inl rfl) lz1 o2).Az (.inl rfl) lz1 o3
 have c1:∀ o1 o2,A0 (fun i=>i=z) h ((h1.put z o1).put z o2):=fun o1 o2=>((Ext.to (S:=fun i=>i=z) x1).Az (.inl rfl) lz1 o1).Az (.inl rfl) lz1 o2
 have hb2:∀ o1 o2,HB ((h1.put z o1).put z o2):=fun o1 o2=>(hb1.put lz1 o1).put lz1 o2
 have hb3:∀ o1 o2 o3,HB (((h1.put z o1).put z o2).put z o3):=fun o1 o2 o3=>((hb1.put lz1 o1).put lz1 o2).put lz1 o3
 have e2:∀ o1 o2 i,i ≠ z->((h1.put z o1).put z o2).get i=h1.get i:=fun o1 o2 i hi=>by rw[Aq _ (Ne.symm hi),Aq _ (Ne.symm hi)]
 have e3:∀ o1 o2 o3 i,i ≠ z->(((h1.put z o1).put z o2).put z o3).get i=h1.get i:=fun o1 o2 o3 i hi=>by rw[Aq _ (Ne.symm hi),e2 _ _ _ hi]
 rw[B8 (Ah _ _ _) rfl]
 simp only[Ab,I,Af]
 by_cases h3:3<=Z.st
 ·rw[show decide ((3:Int)<=(Z.st:Int))=true by simp;omega]
  simp only[Ab]
  exact .ret (base Z.st _ (Ah _ _ _) (e2 _ _) (c1 _ _) (hb2 _ _) (by rw[if_pos h3]))
 ·rw[show decide ((3:Int)<=(Z.st:Int))=false by simp;omega]
  simp only[Ab]
  rw[B8 (Ah _ _ _) rfl]
  simp only[Ab]
  have st2:(Z.fin=true\/n=size)->Ok (D5 1 (.ptr z 3) (.int .i64 2) ((h1.put z (.cells [v,I size,I Z.safe,I Z.st,.bool Z.fin] 240)).put z (.cells [v,I size,.int .i64 n,I Z.st,.bool Z.fin] 240)) fun h=>some (.tuple [],h)) fun _ h3=>(∃ q',Dg h3 z q' size ⟨Z.l.take n,n,if 3<=Z.st then Z.st else if Z.fin=true\/n=size then 2 else if n=0 then 0 else 1,Z.fin⟩/\(Z.l.take n ≠ []->h.next<=q'))/\A0 (fun i=>i=z) h h3/\HB h3:=by
   intro hc
   refine Ok.st1 (Ah _ _ _) rfl rfl (by show 3<5;decide) ?_
   exact .ret (base 2 _ (Ah _ _ _) (e3 _ _ _) (c2 _ _ _) (hb3 _ _ _) (by rw[if_neg h3,if_pos hc]))
  by_cases hfin:Z.fin=true
  ·rw[show Ay (EV.bool Z.fin) false=false by rw[hfin];rfl]
   simp only[Ab,Es]
   rw[show ∀ (a b:R),As Z.fin a b=a from fun a b=>by rw[hfin];rfl]
   exact st2 (.inl hfin)
  ·rw[show Ay (EV.bool Z.fin) false=true by rw[Bool.eq_false_iff.2 hfin];rfl]
   simp only[Ab]
   rw[B8 (Ah _ _ _) rfl]
   have hpk:∀ (a b:EV) (k:EV->R),Bk (EV.bool Z.fin) a b k=k b:=fun a b k=>by rw[Bool.eq_false_iff.2 hfin];rfl
   simp only[Ab,I,Af,Es]
   rw[show ∀ (a b:R),As Z.fin a b=b from fun a b=>by rw[Bool.eq_false_iff.2 hfin];rfl]
   by_cases hn:n=size
   ·rw[show decide ((n:Int)=(size:Int))=true by simp[hn]]
    simp only[Ab]
    exact st2 (.inr hn)
   ·rw[show decide ((n:Int)=(size:Int))=false by simp;omega]
    simp only[Ab]
    have hnc:¬ (Z.fin=true\/n=size):=by simp[hn,hfin]
    by_cases h0:n=0
    ·rw[show decide ((n:Int)=0)=true by simp[h0]]
     simp only[Ab]
     refine Ok.st1 (Ah _ _ _) rfl rfl (by show 3<5;decide) ?_
     exact .ret (base 0 _ (Ah _ _ _) (e3 _ _ _) (c2 _ _ _) (hb3 _ _ _) (by rw[if_neg h3,if_neg hnc,if_pos h0]))
    ·rw[show decide ((n:Int)=0)=false by simp;omega]
     simp only[Ab]
     refine Ok.st1 (Ah _ _ _) rfl rfl (by show 3<5;decide) ?_
     exact .ret (base 1 _ (Ah _ _ _) (e3 _ _ _) (c2 _ _ _) (hb3 _ _ _) (by rw[if_neg h3,if_neg hnc,if_neg h0]))
end Go.Ev
