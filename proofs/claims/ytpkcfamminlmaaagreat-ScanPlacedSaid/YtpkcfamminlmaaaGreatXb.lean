import Derived.Test.YtpkcfamminlmaaaGreatWa
import Derived.Test.YtpkcfamminlmaaaGreatXa
import Derived.Test.YtpkcfamminlmaaaGreatDb
import Derived.Test.YtpkcfamminlmaaaGreatDc
set_option linter.unusedVariables false
set_option linter.unusedSimpArgs false
set_option linter.unusedSectionVars false
namespace Go.Ev
end Go.Ev

namespace Go.Ev
noncomputable def Bv(T:Ff)(g n i:Nat)(tm:Ac)(st:LoopState)(p:Option Code)(d:Nat):C7:=.loop st p g n tm (Ds T g i).2.1 (Ds T g i).2.2.1 (Ds T g i).2.2.2 d
noncomputable def Dq(T:Ff)(g n i:Nat)(tm:Ac)(h:Aa):Aa:=(h.new (.deferred true)).new (Bv T g n i tm .ready none h.next)
section
variable {T:Ff}{g n i l d:Nat}{tm:Ac}{h:Aa}{st:LoopState}{p:Option Code}{Q:EV->Aa->Prop}
theorem Q8:(Dq T g n i tm h).get (h.next+1)=some (Bv T g n i tm .ready none h.next):=Ag _ _
theorem T9:(Dq T g n i tm h).get h.next=some (.deferred true):=by
 unfold Dq
 rw[Bd _ (Nat.lt_succ_self _)];exact Ag _ _
theorem T3:Ext h (Dq T g n i tm h):=(A9.new _ _).Fp _
theorem Apl:(Dq T g n i tm h).next=h.next+2:=rfl
theorem Alf {kk:Aa->R}(hg:h.get l=some (Bv T g n i tm .ready p d)):Gb l h kk=kk (h.put l (Bv T g n i tm .busy p d)):=by
 unfold Gb;rw[hg];rfl
theorem Akc {b:Bool}{st':LoopState}{j:Option Code}(hg:h.get l=some (Bv T g n i tm st p d)):Arb l b st' j h=some (.bool b,h.put l (Bv T g n i tm st' j d)):=by
 unfold Arb B0;rw[hg];rfl
theorem Ok.range {c:Ae}{q:Nat}{caps:List EV}{ds:List Nat}{k:Aa->List Nat->R}{ex:Nat->Aa->List Nat->R}{ret:Aa->List Nat->R}
 (hc:Ok (c q (.Xg (h.next+1)::caps) (Dq T g n i tm h)) fun _ h'=>
  (h'.get (h.next+1)=some (Bv T g n i tm .ready none h.next)/\Ok (k (h'.put (h.next+1) (Bv T g n i tm .exhausted none h.next)) (h.next::ds)) Q) \/
  (h'.get (h.next+1)=some (Bv T g n i tm .done (some .ret) h.next)/\Ok (ret (h'.put (h.next+1) (Bv T g n i tm .exhausted (some .ret) h.next)) (h.next::ds)) Q)) :
 Ok (Aab c T g n i (.func q [] caps) tm h ds k ex ret) Q:=by
 obtain⟨v,h',e,hh⟩:=hc
 have:Aab c T g n i (.func q [] caps) tm h ds k ex ret=Bbo (h.next+1) (c q (.Xg (h.next+1)::caps) (Dq T g n i tm h)) (fun h'=>k h' (h.next::ds)) (fun id h'=>ex id h' (h.next::ds)) (fun h'=>ret h' (h.next::ds)):=rfl
 rw[this,e]
 unfold Bbo
 simp only
 rcases hh with ⟨a,b⟩|⟨a,b⟩
 ·rw[a];exact b
 ·rw[a];exact b
theorem Ok.unwind:∀ {ds:List Nat} {h:Aa} {k:Aa->R},ds.Nodup->(∀ d ∈ ds,h.get d=some (.deferred true))->HB h->(∀ h',A9 (fun i=>i ∈ ds) h h'->h'.next=h.next->Ok (k h') Q)->Ok (Ej ds h k) Q
 | [],h,k,_,_,_,hk=>hk h (A9.refl _) rfl
 | d::ds,h,k,hn,hd,hb,hk=>by
  obtain⟨hn1,hn2⟩:=List.nodup_cons.1 hn
  have hd0:=hd d List.mem_cons_self
  have ld:=hb _ _ hd0
  have e:Ej (d::ds) h k=Ej ds (h.put d (.deferred false)) k:=by
   show (match h.get d with|some (.deferred true)=>Ej ds (h.put d (.deferred false)) k|_=>none)=_
   rw[hd0]
  rw[e]
  refine Ok.unwind hn2 (fun x hx=>?_) (hb.put ld _) fun h' c n=>hk h' ?_ (by rw[n];rfl)
  ·rw[As _ (fun y=>hn1 (by rw[y];exact hx))];exact hd x (List.mem_cons_of_mem _ hx)
  ·exact((A9.refl h).A5 (S:=fun i=>i ∈ d::ds) (.inl List.mem_cons_self) ld _).trans (c.mono fun i hi=>List.mem_cons_of_mem _ hi)
end
structure Kp(S:Nat->Prop)(h0 h:Aa):Prop where
 chg:A9 S h0 h
 same:∀ i,i<h0.next->h.get i=h0.get i
theorem Ext.kp {S:Nat->Prop}{h0 h:Aa}(x:Ext h0 h):Kp S h0 h:=⟨Ext.to x,fun i hi=>x.get i hi id⟩
theorem Kp.A5 {S:Nat->Prop}{h0 h:Aa}(x:Kp S h0 h){i:Nat}(hi:h0.next<=i)(hn:i<h.next)(o:C7):Kp S h0 (h.put i o):=
 ⟨x.chg.A5 (.inr hi) hn o,fun j hj=>by rw[As _ (by omega)];exact x.same j hj⟩
theorem Kp.at {S:Nat->Prop}{h0 h:Aa}(x:Kp S h0 h)(hb:HB h0){i:Nat}{o:C7}(g:h0.get i=some o):h.get i=some o:=by rw[x.same i (hb _ _ g)];exact g
theorem Kp.Ay9 {S T:Nat->Prop}{a b c:Aa}(x:Kp S a b)(y:A9 T b c)(st:∀ i,T i->a.next<=i):Kp S a c:=
 ⟨x.chg.then y fun i hi hl=>by have:=st i hi;omega,fun i hi=>by rw[y.get i (Nat.lt_of_lt_of_le hi x.chg.next) fun hT=>by have:=st i hT;omega,x.same i hi]⟩
end Go.Ev

namespace Go.Ev
open Go.Proofs
set_option maxRecDepth 10000
variable {K:Nat}
def Akr(ps:Nat->List Int)(n:Nat)(d:Int):Nat:=if 0<=d/\d<n then (ps d.toNat).length else 0
theorem Ajg {h:Aa}{q c cap:Nat}{buf:List EV}(hq:h.get q=some (.cells [.chan c] 218))(hc:h.get c=some (.chan cap buf)):C4 K (.ptr q 0) h=some (I buf.length,h):=by
 simp only[C4,Ab,Ck hq rfl]
 have:Au4 (.chan c) h=some (I buf.length,h):=by
  show (match h.get c with|some (.chan _ buf)=>some (EV.int .i64 (.ofNat (len buf)),h)|_=>none)=_
  rw[hc];simp only;rw[Qg];rfl
 rw[this];rfl
section
variable {h:Aa}{p ql n:Nat}{q c:Nat->Nat}{g:Gm}{ps:Nat->List Int}(P:Ei h p ql n q c g ps)
include P
theorem Ei.rowAt:Bu h (.slice ql 0 n n true) ql 153 1 n ((List.range n).map fun d=>.ptr (q d) 0):=.inr ⟨P.pos,rfl,P.row,by simp⟩
theorem Ei.list(k:EV->R):Av (.ptr p 6) h k=k (.slice ql 0 n n true):=by rw[Ck P.G3 rfl];rfl
theorem Ei.A24(k:EV->R):B4 6 (.ptr p 0) h k=k (gV g):=by rw[Fy P.G3 rfl];rfl
theorem Ei.Awr {d:Nat}(hd:d<n)(k:EV->R):Av (.ptr ql (d*1)) h k=k (.ptr (q d) 0):=by
 rw[Ck P.row rfl,Nat.mul_one,List.getElem?_map,List.getElem?_range hd];rfl
theorem Ei.len {d:Nat}(hd:d<n):C4 K (.ptr (q d) 0) h=some (I (ps d).length,h):=by
 rw[Ajg (P.que d hd) (P.chan d hd),List.length_map]
theorem Ary(d:Int):Mq K (.ptr p 0) (I d) h=some (I (Akr ps n d:Nat),h):=by
 unfold Akr
 simp only[Mq,I,Ai,Ab]
 by_cases h1:d<0
 ·simp only[h1,decide_true,Ab,Ai,L5]
  rw[if_neg (by omega)];rfl
 ·simp only[h1,decide_false,Ab,Ai,P.list,L5]
  by_cases h2:(n:Int)<=d
  ·simp only[h2,decide_true,Ab]
   rw[if_neg (by omega)];rfl
  ·simp only[h2,decide_false,Ab,Yo,P.list]
   have hd:d.toNat<n:=by omega
   have e:d=(d.toNat:Int):=by omega
   rw[e,P.rowAt.ix hd]
   simp only[Ab,P.Awr hd]
   rw[P.len hd,Bg,if_pos (by omega)];rfl
end
def Axp(ps:Nat->List Int)(Ov:Int)(b:Int)(d:Nat):Int:=if ¬ (d:Int)=Ov/\(b<0\/(ps b.toNat).length<(ps d).length) then d else b
def E8(ps:Nat->List Int)(Ov:Int)(n:Nat):Int:=(List.range n).foldl (Axp ps Ov) (-1)
theorem Ait(ps:Nat->List Int)(Ov:Int)(n:Nat):E8 ps Ov (n+1)=Axp ps Ov (E8 ps Ov n) n:=by unfold E8;rw[List.range_succ,List.foldl_append];rfl
theorem Aye(ps:Nat->List Int)(Ov:Int):∀ n,-1<=E8 ps Ov n/\E8 ps Ov n<(n:Int)/\(E8 ps Ov n = -1\/0<=E8 ps Ov n)
 | 0=>by unfold E8;simp
 | n+1=>by
  obtain⟨a,b,c⟩:=Aye ps Ov n
  rw[Ait];unfold Axp
  split <;> omega
def A0a(n:Nat)(ps:Nat->List Int):Prop:=n<=64/\∀ d,d<n->(ps d).length<=4096
theorem At2 {p ql n:Nat}{q c:Nat->Nat}{g:Gm}{ps:Nat->List Int}(Ov:Int)(hn:n<=64):∀ (m i:Nat) (h:Aa),n-i<m->i<=n->HB h->Ei h p ql n q c g ps ->
 Ok (Du K m (.ptr p 0) (I Ov) (I (E8 ps Ov i)) (.slice ql 0 n n true) (I n) (I i) h) fun v h'=>v=I (E8 ps Ov n)/\Ext h h':=by
 intro m
 induction m with
 | zero=>intro i h hm;omega
 | succ m ih=>
  intro i h hm hi hb P
  simp only[Du,I,Ai,Ab]
  by_cases hlt:(i:Int)<n
  ·have hi':i<n:=by omega
   simp only[hlt,decide_true,Ab,Vf]
   rw[P.rowAt.ix hi',P.Awr hi']
   obtain⟨b0,b1,b2⟩:=Aye ps Ov i
   have next:∀ (b:Int) (h1:Aa),b=E8 ps Ov (i+1)->Ext h h1->Ok (Kx K (Du K m) (.ptr p 0) (.int .i64 Ov) (.int .i64 b) (.slice ql 0 n n true) (.int .i64 (n:Int)) (.int .i64 (i:Int)) h1) fun v h'=>v=I (E8 ps Ov n)/\Ext h h':=by
    rintro _ h1 rfl x1
    simp only[Kx,Ai]
    rw[C8 (by omega) (by omega)]
    exact(ih (i+1) h1 (by omega) (by omega) (x1.hb hb) (P.ext fun i o g=>x1.at hb g)).mono fun v h' a=>⟨a.1,x1.trans a.2⟩
   rw[Ait]at next
   unfold Axp at next
   simp only[Ab,Ai]
   by_cases hbut:(i:Int)=Ov
   ·simp only[hbut,not_true_eq_false,decide_false,Ab,Ai,Kc,G7,G8]
    rw[if_neg (fun x=>x.1 hbut)]at next
    rw[hbut]at next
    exact next _ h rfl (A9.refl _)
   ·simp only[hbut,not_false_eq_true,decide_true,Ab,Ai,Kc]
    by_cases hneg:E8 ps Ov i<0
    ·simp only[hneg,decide_true,Ab,Ai,G7,G8]
     rw[if_pos ⟨hbut,.inl hneg⟩]at next
     exact next _ h rfl (A9.refl _)
    ·simp only[hneg,decide_false,Ab,Ai]
     refine Ok.Cs (by kernel_rfl) (by kernel_rfl) (P:=fun v h2=>v=I (ps i).length/\Ext h.lift h2) ⟨_,_,(P.ext (h':=h.lift) fun i o g=>by rw[Di];exact g).len hi',rfl,A9.refl _⟩ (fun _ _ p=>p.2) ?_
     rintro _ h2 h3 ⟨rfl,_⟩ _ x3
     have P3:Ei h3 p ql n q c g ps:=P.ext fun i o g=>x3.at hb g
     have hp:p<h.next:=hb _ _ P.G3
     have hq:ql<h.next:=hb _ _ P.row
     have hfn:(E8 ps Ov i).toNat<n:=by omega
     simp only[Ab,Bz,A4 hp,P3.list]
     rw[show E8 ps Ov i=((E8 ps Ov i).toNat:Int) by omega,P3.rowAt.ix hfn]
     simp only[Ab,Bz,A4 hq,P3.Awr hfn]
     refine Ok.Cs (by kernel_rfl) (by kernel_rfl) (P:=fun v h2=>v=I (ps (E8 ps Ov i).toNat).length/\Ext h3.lift h2) ⟨_,_,(P3.ext (h':=h3.lift) fun i o g=>by rw[Di];exact g).len hfn,rfl,A9.refl _⟩ (fun _ _ p=>p.2) ?_
     rintro _ h4 h5 ⟨rfl,_⟩ _ x5
     rw[show ((E8 ps Ov i).toNat:Int)=E8 ps Ov i by omega]
     simp only[Ai,I]
     by_cases hc:((ps (E8 ps Ov i).toNat).length:Int)<(ps i).length
     ·simp only[hc,decide_true,G7,G8,Ab,Ai]
      rw[if_pos ⟨hbut,.inr (by omega)⟩]at next
      exact next _ h5 rfl (x3.trans x5)
     ·simp only[hc,decide_false,G7,G8,Ab,Ai]
      rw[if_neg (fun x=>by rcases x.2 with a|a <;> omega)]at next
      exact next _ h5 rfl (x3.trans x5)
  ·have:i=n:=by omega
   subst this
   simp only[hlt,decide_false,Ab,Oi]
   exact .ret ⟨rfl,A9.refl _⟩
theorem Aht {h:Aa}{p ql n:Nat}{q c:Nat->Nat}{g:Gm}{ps:Nat->List Int}(P:Ei h p ql n q c g ps)(hb:HB h)(hn:n<=64)(hK:1000<K)(Ov:Int):
 Ok (Hn K (.ptr p 0) (I Ov) h) fun v h'=>v=I (E8 ps Ov n)/\Ext h h':=by
 simp only[Hn,Ab,P.list]
 exact At2 Ov hn K 0 h (by omega) (by omega) hb P
def Afl(ps:Nat->List Int)(n:Nat):Nat:=((List.range n).map fun d=>(ps d).length).sum
theorem Abc(ps:Nat->List Int)(n:Nat):Afl ps (n+1)=Afl ps n+(ps n).length:=by unfold Afl;rw[List.range_succ,List.map_append,List.sum_append];simp
def Vs(ps:Nat->List Int)(n:Nat):Int:=min ((Afl ps n:Int) / 2) (Afl ps n-Akr ps n (E8 ps (-1) n))
theorem Aza {p ql n:Nat}{q c:Nat->Nat}{g:Gm}{ps:Nat->List Int}{h:Aa}(hs:A0a n ps)(hb:HB h)(P:Ei h p ql n q c g ps)(hK:1000<K):∀ (m i:Nat),n-i<m->i<=n->Afl ps i<=4096*i ->
 Ok (Fg K m (.ptr p 0) (I (Afl ps i)) (.slice ql 0 n n true) (I n) (I i) h) fun v h'=>v=I (Vs ps n)/\Ext h h':=by
 obtain⟨hn,hl⟩:=hs
 intro m
 induction m with
 | zero=>intro i hm;omega
 | succ m ih=>
  intro i hm hi hsum
  simp only[Fg,I,Ai,Ab]
  by_cases hlt:(i:Int)<n
  ·have hi':i<n:=by omega
   have:=hl i hi'
   simp only[hlt,decide_true,Ab,X4]
   rw[P.rowAt.ix hi',P.Awr hi',P.len hi',Bg]
   simp only[I,Ai,Yr]
   rw[C8 (by omega) (by omega),C8 (by omega) (by omega)]
   have e:((Afl ps i:Int)+(ps i).length)=(Afl ps (i+1):Nat):=by rw[Abc];omega
   rw[e]
   exact ih (i+1) (by omega) (by omega) (by rw[Abc];omega)
  ·have:i=n:=by omega
   subst this
   simp only[hlt,decide_false,Ab,Qk]
   rw[A7f (by omega) (by omega) (by omega)]
   refine(Aht P hb hn hK (-1)).Al ?_
   rintro _ h1 ⟨rfl,x1⟩
   rw[Ary (P.ext fun i o g=>x1.at hb g),Bg]
   simp only[I,Ai]
   have hle:Akr ps i (E8 ps (-1) i)<=4096:=by
    unfold Akr
    split
    ·exact hl _ (by omega)
    ·omega
   rw[C8 (by omega) (by omega),min2,Bg]
   exact .ret ⟨rfl,x1⟩
theorem A9s {h:Aa}{p ql n:Nat}{q c:Nat->Nat}{g:Gm}{ps:Nat->List Int}(P:Ei h p ql n q c g ps)(hb:HB h)(hs:A0a n ps)(hK:1000<K):
 Ok (Qc K (.ptr p 0) h) fun v h'=>v=I (Vs ps n)/\Ext h h':=by
 simp only[Qc,Ab,P.list]
 exact Aza hs hb P hK K 0 (by obtain⟨a,_⟩:=hs;omega) (by omega) (by unfold Afl;simp)
end Go.Ev

namespace Go.Ev
open Go.Proofs
set_option maxRecDepth 100000
variable {K:Nat}
def U0(D:Nat)(g:Gm)(p bl n:Nat)(a b u:Int):List EV:=[.ptr D 0]++gL g++A8++[.ptr p 0,.slice bl 0 n n false,I a,I b,I u]
theorem Nw:A8.length=256:=by kernel_rfl
section
variable (D:Nat)(g:Gm)(p bl n:Nat)(a b u:Int)
theorem Api:(U0 D g p bl n a b u).length=268:=by unfold U0;simp[Nw,gL]
theorem Ay3:(U0 D g p bl n a b u)[0]? = some (.ptr D 0):=rfl
theorem A49:Nf (U0 D g p bl n a b u) 1 6=some (gL g):=by kernel_rfl
theorem A0n:Nf (U0 D g p bl n a b u) 7 256=some A8:=by kernel_rfl
theorem A5u:(U0 D g p bl n a b u)[263]? = some (.ptr p 0):=by kernel_rfl
theorem A97:(U0 D g p bl n a b u)[264]? = some (.slice bl 0 n n false):=by kernel_rfl
theorem Bfw:(U0 D g p bl n a b u)[265]? = some (I a):=by kernel_rfl
theorem Bh5:(U0 D g p bl n a b u)[266]? = some (I b):=by kernel_rfl
theorem Bg4:(U0 D g p bl n a b u)[267]? = some (I u):=by kernel_rfl
end
theorem Xk {h:Aa}{i t n:Nat}{l:List EV}(hg:h.get i=some (.cells l t))(hs:TT.size t=some n)(ha:TT.agg t=some true)(hl:l.length=n):Ct TT [.c (.ptr i 0) t] h=some (.agg l,h):=by
 have hr:Hh h i 0 n=some l:=by
  unfold Hh;rw[hg];simp only;rw[<-T7];exact A3 hl
 unfold Ct
 simp only[Ao8,hs,hr,ha]
structure V3(h:Aa)(m D p bl n:Nat)(g:Gm)(a b u:Int)(bad:Nat->Int):Prop where
 J4:h.get m=some (.cells (U0 D g p bl n a b u) 149)
 An3:h.get bl=some (.cells ((List.range n).map fun z=>I (bad z)) 3)
section
variable {h:Aa}{m D p bl n:Nat}{g:Gm}{a b u:Int}{bad:Nat->Int}(M:V3 h m D p bl n g a b u bad)
include M
theorem V3.D6(k:EV->R):Av (.ptr m 0) h k=k (.ptr D 0):=by rw[Ck M.J4 rfl,Ay3];rfl
theorem V3.A24(k:EV->R):B4 6 (.ptr m 1) h k=k (gV g):=by rw[Fy M.J4 rfl,A49];rfl
theorem V3.table(k:EV->R):B4 256 (.ptr m 7) h k=k Qv:=by rw[Fy M.J4 rfl,A0n];rfl
theorem V3.G3(k:EV->R):Av (.ptr m 263) h k=k (.ptr p 0):=by rw[Ck M.J4 rfl,A5u];rfl
theorem V3.Bk8(k:EV->R):Av (.ptr m 264) h k=k (.slice bl 0 n n false):=by rw[Ck M.J4 rfl,A97];rfl
theorem V3.oa(k:EV->R):Av (.ptr m 265) h k=k (I a):=by rw[Ck M.J4 rfl,Bfw];rfl
theorem V3.ob(k:EV->R):Av (.ptr m 266) h k=k (I b):=by rw[Ck M.J4 rfl,Bh5];rfl
theorem V3.ou(k:EV->R):Av (.ptr m 267) h k=k (I u):=by rw[Ck M.J4 rfl,Bg4];rfl
theorem V3.ext {h':Aa}(e:∀ i o,h.get i=some o->h'.get i=some o):V3 h' m D p bl n g a b u bad:=⟨e _ _ M.J4,e _ _ M.An3⟩
theorem Ap9:Jq K (.ptr m 0) h=some (.ptr p 0,h):=by simp only[Jq,Ab,M.G3]
theorem P0:Cr K (.ptr m 0) h=some (.ptr D 0,h):=by simp only[Cr,Ab,M.D6]
omit M in
theorem Boc:TT.size 23=some 6/\TT.agg 23=some true:=⟨by kernel_rfl,by kernel_rfl⟩
omit M in
theorem Bpg:TT.size 72=some 256/\TT.agg 72=some true:=⟨by kernel_rfl,by kernel_rfl⟩
theorem Aq1(hb:HB h):Ok (Ic K (.ptr m 0) h) fun v h'=>v=gV g/\Ext h h':=by
 simp only[Ic,Ab]
 have M1:V3 (h.new (.cells [.int .i64 0,.int .i64 0,.int .i64 0,.int .i64 0,.int .i64 0,.int .i64 0] 23)) m D p bl n g a b u bad:=M.ext fun i o g=>Ext.at (A9.new h _) hb g
 rw[M1.A24]
 refine Ok.st (gL g) (Ag _ _) rfl rfl rfl ?_
 rw[Xk (Aj _ _ _) Boc.1 Boc.2 rfl]
 exact .ret ⟨rfl,(A9.new h _:Ext _ _).A5 (.inr (Nat.le_refl _)) (Nat.lt_succ_self _) _⟩
theorem Adl(hb:HB h):Ok (Gd K (.ptr m 0) h) fun v h'=>v=Qv/\Ext h h':=by
 simp only[Gd,Ab]
 have M1:V3 (h.new (.cells (List.replicate 256 (.int .u32 0)) 72)) m D p bl n g a b u bad:=M.ext fun i o g=>Ext.at (A9.new h _) hb g
 rw[M1.table]
 refine Ok.st A8 (Ag _ _) rfl (by rw[show EV.cells Qv=A8 from rfl,B8,Nw]) (by rw[show EV.cells Qv=A8 from rfl];exact Cb (by rw[Nw];simp)) ?_
 rw[Xk (Aj _ _ _) Bpg.1 Bpg.2 Nw]
 exact .ret ⟨rfl,(A9.new h _:Ext _ _).A5 (.inr (Nat.le_refl _)) (Nat.lt_succ_self _) _⟩
end
section
variable {h:Aa}{D V M zl n:Nat}{z q:Nat->Nat}{size op cnt:Int}{down:Bool}{Ip happened:EV}{marks:List (EV × EV)}{Zs:Nat->Zn}
theorem Adq(d:Zl h D V M zl n z q size op cnt down Ip happened marks Zs):C2 K (.ptr D 0) h=some (.ptr V 0,h):=by simp only[C2,Ab,Ck d.D6 rfl]
theorem Ak5(d:Js h V zl n z q size op cnt down Zs):Kt K (.ptr V 0) h=some (I n,h):=by simp only[Kt,Ab,Ck d.dev rfl,I]
theorem Am6(d:Js h V zl n z q size op cnt down Zs):Jn K (.ptr V 0) h=some (I size,h):=by simp only[Jn,Ab,Ck d.dev rfl]
end
theorem Bkv(v:EV):∀ n,rep [v] n=List.replicate n v
 | 0=>rfl
 | n+1=>by show [v]++rep [v] n=_;rw[Bkv v n];rfl
theorem Axq(v:EV)(n:Nat):(List.range n).map (fun _=>v)=List.replicate n v:=by
 rw[List.map_const',List.length_range]
theorem Arh {g:Gm}(hK:1000<K){h:Aa}(hb:HB h){D V M zl n:Nat}{z q:Nat->Nat}{size op cnt:Int}{down:Bool}{Ip happened:EV}{marks:List (EV × EV)}{Zs:Nat->Zn}(dr:Zl h D V M zl n z q size op cnt down Ip happened marks Zs):
 Ok (Ab0 K (.ptr D 0) (gV g) Qv h) fun v h'=>Ext h h'/\HB h'/\if rtB g=true/\g.D*g.Z=n/\g.S=size then
  ∃ m p bl ql q c,v=.tuple [.ptr m 0,I 0]/\V3 h' m D p bl n g (-1) (-1) 0 (fun _=>0)/\Ei h' p ql g.D.toNat q c g (fun _=>[])/\(h.next<=m/\h.next<=bl)/\h.next<=p/\h.next<=ql/\∀ d,d<g.D.toNat->h.next<=q d/\h.next<=c d else v=.tuple [.Bi,I 20]:=by
 have hcv:D8 72 Qv (h.new (.cells (gL g) 23))=fun(k:EV->Aa->R)=>k (.ptr (h.next+1) 0) ((h.new (.cells (gL g) 23)).new (.cells A8 72)):=rfl
 simp only[Ab0,gV,Ab,hcv]
 have g4:((h.new (.cells (gL g) 23)).new (.cells A8 72)).get h.next=some (.cells (gL g) 23):=by rw[Bd _ (Nat.lt_succ_self _)];exact Ag _ _
 have g5:((h.new (.cells (gL g) 23)).new (.cells A8 72)).get (h.next+1)=some (.cells A8 72):=Ag _ _
 have x1:Ext h ((h.new (.cells (gL g) 23)).new (.cells A8 72)):=(A9.new _ _).Fp _
 have n1:((h.new (.cells (gL g) 23)).new (.cells A8 72)).next=h.next+2:=rfl
 generalize (h.new (.cells (gL g) 23)).new (.cells A8 72)=h1 at g4 g5 x1 n1 ⊢
 have hb1:=x1.hb hb
 simp only[Fy g4 rfl,A3 (show (gL g).length=6 from rfl),Ab]
 cases hr:rtB g with
 | false=>
  refine(Ayq hr h1).Al ?_
  rintro _ h2 ⟨rfl,x2⟩
  simp only[Ab,I,Ai,show ¬ ((20:Int)=0) by decide,not_false_eq_true,decide_true,T1,M6]
  exact .ret ⟨x1.trans x2,x2.hb hb1,rfl⟩
 | true=>
  have s:=Al9 hr
  have:=s.d0;have:=s.d1;have:=s.z0;have:=s.z1
  obtain⟨m0,m1⟩:=X2 (a:=g.D) (b:=g.Z) (A:=8) (B:=64) (by omega) (by omega) (by omega) (by omega)
  refine(Aux hr hK hb1).Al ?_
  rintro _ h2 ⟨p,ql,qq,c,rfl,x2,hb2,P,nw⟩
  have k2:∀ i o,h.get i=some o->h2.get i=some o:=fun i o g=>x2.at hb1 (x1.at hb g)
  have l4:h.next<h2.next:=by have:=x2.next;omega
  have l5:h.next+1<h2.next:=by have:=x2.next;omega
  have g42:=x2.at hb1 g4
  have g52:=x2.at hb1 g5
  simp only[Ab,I,Ai,not_true_eq_false,decide_false]
  refine Ok.Cs (by kernel_rfl) (by kernel_rfl) (P:=fun v h3=>v=.ptr V 0/\Ext h2.lift h3) ⟨_,_,Adq ((dr.ext k2).ext fun i o g=>by rw[Di];exact g),rfl,A9.refl _⟩ (fun _ _ p=>p.2) ?_
  rintro _ _ h3 ⟨rfl,_⟩ _ x3
  have hb3:=x3.hb hb2
  have k3:∀ i o,h.get i=some o->h3.get i=some o:=fun i o g=>x3.at hb2 (k2 i o g)
  refine Ok.Cs (by kernel_rfl) (by kernel_rfl) (P:=fun v h4=>v=I n/\Ext h3.lift h4) ⟨_,_,Ak5 ((dr.dev.ext k3).ext fun i o g=>by rw[Di];exact g),rfl,A9.refl _⟩ (fun _ _ p=>p.2) ?_
  rintro _ _ h4 ⟨rfl,_⟩ _ x4
  have hb4:=x4.hb hb3
  have k4:∀ i o,h.get i=some o->h4.get i=some o:=fun i o g=>x4.at hb3 (k3 i o g)
  have x24:Ext h2 h4:=x3.trans x4
  have g44:=x24.at hb2 g42
  simp only[Ab,Bz,A4 l4,Fy g44 rfl,A3 (show (gL g).length=6 from rfl)]
  refine Ok.Cs (by kernel_rfl) (by kernel_rfl) (P:=fun v h5=>v=I (g.D*g.Z)/\Ext h4.lift h5) ⟨_,_,Y9 s _,rfl,A9.new _ _⟩ (fun _ _ p=>p.2) ?_
  rintro _ _ h5 ⟨rfl,_⟩ _ x5
  have hb5:=x5.hb hb4
  have k5:∀ i o,h.get i=some o->h5.get i=some o:=fun i o g=>x5.at hb4 (k4 i o g)
  simp only[I,Ai,T1]
  have x25:Ext h2 h5:=x24.trans x5
  by_cases hn:(n:Int)=g.D*g.Z
  ·simp only[hn,not_true_eq_false,decide_false,Ab,Ai]
   refine Ok.Cs (by kernel_rfl) (by kernel_rfl) (P:=fun v h6=>v=.ptr V 0/\Ext h5.lift h6) ⟨_,_,Adq ((dr.ext k5).ext fun i o g=>by rw[Di];exact g),rfl,A9.refl _⟩ (fun _ _ p=>p.2) ?_
   rintro _ _ h6 ⟨rfl,_⟩ _ x6
   have hb6:=x6.hb hb5
   have k6:∀ i o,h.get i=some o->h6.get i=some o:=fun i o g=>x6.at hb5 (k5 i o g)
   refine Ok.Cs (by kernel_rfl) (by kernel_rfl) (P:=fun v h7=>v=I size/\Ext h6.lift h7) ⟨_,_,Am6 ((dr.dev.ext k6).ext fun i o g=>by rw[Di];exact g),rfl,A9.refl _⟩ (fun _ _ p=>p.2) ?_
   rintro _ _ h7 ⟨rfl,_⟩ _ x7
   have hb7:=x7.hb hb6
   have x27:Ext h2 h7:=x25.trans (x6.trans x7)
   have g47:=x27.at hb2 g42
   simp only[Ab,Bz,A4 l4,Ck g47 rfl,gL,I,Ai]
   by_cases hs:size=g.S
   ·subst hs
    simp only[not_true_eq_false,decide_false,M6,Ag8,Ab]
    have g57:=x27.at hb2 g52
    have l47:h.next<h7.next:=Nat.lt_of_lt_of_le l4 x27.next
    have l57:h.next+1<h7.next:=Nat.lt_of_lt_of_le l5 x27.next
    simp only[Ab,Bz,A4 l47,A4 l57,Fy g47 rfl,Fy g57 rfl,A3 (show (gL g).length=6 from rfl),A3 Nw]
    refine Ok.Cs (by kernel_rfl) (by kernel_rfl) (P:=fun v h8=>v=I (g.D*g.Z)/\Ext h7.lift h8) ⟨_,_,Y9 s _,rfl,A9.new _ _⟩ (fun _ _ p=>p.2) ?_
    rintro _ _ h8 ⟨rfl,_⟩ _ x8
    have hb8:=x8.hb hb7
    have x28:Ext h2 h8:=x27.trans x8
    simp only[Ab,Bz,I]
    rw[<-hn]
    have hmk:Ts [.int .i64 0] 3 (.int .i64 (n:Int)) (.int .i64 (n:Int)) h8=some (.slice h8.next 0 n n false,h8.new (.cells (rep [.int .i64 0] n) 3)):=by
     show Ay (Nat.ble n n) (Ay (Nat.ble n 65536) _ none) none=_
     rw[Nat.ble_eq_true_of_le (Nat.le_refl n),An,Nat.ble_eq_true_of_le (by omega),An]
    rw[hmk,Bg,B6 (l:=U0 D g p h8.next n (-1) (-1) 0) (by kernel_rfl)]
    simp only[Ab,Bz]
    have x8':Ext h8 ((h8.new (.cells (rep [.int .i64 0] n) 3)).new (.cells (U0 D g p h8.next n (-1) (-1) 0) 149)):=(A9.new _ _).Fp _
    have hx:Ext h ((h8.new (.cells (rep [.int .i64 0] n) 3)).new (.cells (U0 D g p h8.next n (-1) (-1) 0) 149)):=(x1.trans x2).trans (x28.trans x8')
    refine .ret ⟨hx,hx.hb hb,?_⟩
    rw[if_pos (by first|exact⟨rfl,hn.symm,rfl⟩|simp[hn]|simp)]
    refine⟨h8.next+1,p,h8.next,ql,qq,c,rfl,⟨Ag _ _,?_⟩,P.ext fun i o g=>Ext.at (x28.trans x8') hb2 g,?_⟩
    ·rw[Bd _ (Nat.lt_succ_self _),Ag,Bkv,Axq]
    ·have t1:=x1.next
     have t2:=x2.next
     have t3:=x28.next
     exact⟨⟨by omega,by omega⟩,by omega,by omega,fun d hd=>by have:=nw.2.2 d hd;omega⟩
   ·have hs':¬ size=g.S:=hs
    simp only[hs',not_false_eq_true,decide_true,M6,Ab]
    have hx:Ext h h7:=(x1.trans x2).trans x27
    refine .ret ⟨hx,hx.hb hb,?_⟩
    rw[if_neg (fun x=>hs' x.2.2.symm)]
  ·simp only[hn,not_false_eq_true,decide_true,Ab,Ai,M6]
   have hx:Ext h h5:=(x1.trans x2).trans x25
   refine .ret ⟨hx,hx.hb hb,?_⟩
   rw[if_neg (fun x=>hn x.2.1.symm)]
end Go.Ev

namespace Go.Ev
open Go.Proofs
set_option maxRecDepth 100000
variable {K:Nat}
end Go.Ev

namespace Go.Ev
open Go.Proofs
set_option maxRecDepth 10000
variable {K:Nat}
section
variable {h:Aa}{q c cap:Nat}{xs:List Int}(hq:h.get q=some (.cells [.chan c] 218))(hc:h.get c=some (.chan cap (xs.map I)))
include hq hc
theorem Avw(x:Int)(hl:xs.length<cap):Fv K (.ptr q 0) (I x) h=some (I 0,h.put c (.chan cap ((xs++[x]).map I))):=by
 have hs:Aqn (.chan c) (I x) h=some (.tuple [.int .i64 0,.bool false],h.put c (.chan cap ((xs++[x]).map I))):=by
  unfold Aqn Ass
  simp only[hc,Qg,List.length_map]
  rw[Nat.ble_eq_true_of_le hl,An,List.map_append];rfl
 simp only[Fv,Ab,Ck hq rfl,hs,Ai,decide_true]
theorem Bgh(x:Int)(hl:cap<=xs.length):Fv K (.ptr q 0) (I x) h=some (I 17,h):=by
 have hs:Aqn (.chan c) (I x) h=some (.tuple [.int .i64 (-1),.bool false],h):=by
  unfold Aqn Ass
  simp only[hc,Qg,List.length_map]
  rw[show Nat.ble (Nat.succ xs.length) cap=false from by
   cases hb:Nat.ble (Nat.succ xs.length) cap with
   | false=>rfl
   | true=>have:=Nat.le_of_ble_eq_true hb;omega,A6]
 simp only[Fv,Ab,Ck hq rfl,hs,Ai,show ¬ ((-1:Int)=0) by decide,decide_false]
theorem take_cons {x:Int}{r:List Int}(hx:xs=x::r):Et K (.ptr q 0) h=some (.tuple [I x,I 0],h.put c (.chan cap (r.map I))):=by
 subst hx
 have hs:Aqs (.int .i64 0) (.chan c) h=some (.tuple [.int .i64 0,.bool true,I x],h.put c (.chan cap (r.map I))):=by
  unfold Aqs Atf
  simp only[hc,List.map_cons]
 simp only[Et,Ab,Ck hq rfl,hs,Ai,decide_true]
theorem take_nil(hx:xs = []):Et K (.ptr q 0) h=some (.tuple [I 0,I 15],h):=by
 subst hx
 have hs:Aqs (.int .i64 0) (.chan c) h=some (.tuple [.int .i64 (-1),.bool false,.int .i64 0],h):=by
  unfold Aqs Atf
  simp only[hc,List.map_nil]
 simp only[Et,Ab,Ck hq rfl,hs,Ai,show ¬ ((-1:Int)=0) by decide,decide_false]
end
structure Listed(h0 h:Aa)(v:EV)(c cap:Nat)(xs:List Int)(q':Nat):Prop where
 row:Bu h v q' 3 1 xs.length (xs.map I)
 new:0<xs.length->h0.next<=q'
 chan:h.get c=some (.chan cap (xs.map I))
 chg:A9 (fun i=>i=c) h0 h
 hb:HB h
theorem A5o {h0:Aa}{q c cap:Nat}{xs:List Int}(hq0:h0.get q=some (.cells [.chan c] 218))(hc0:∃ b,h0.get c=some (.chan cap b))(hcap:xs.length<=cap)(hsm:cap<=4096)(hb0:HB h0):∀ (m j:Nat) (h:Aa) (s:EV) (q':Nat),xs.length-j<m->j<=xs.length ->
 Bu h s q' 3 1 xs.length (xs.map I)->(0<xs.length->h0.next<=q')->h.get c=some (.chan cap ((xs.take j).map I))->A9 (fun i=>i=c) h0 h->HB h ->
 Ok (E1 K m (.ptr q 0) s s (I xs.length) (I j) h) fun v h'=>∃ q',Listed h0 h' v c cap xs q':=by
 obtain⟨b0,hc0⟩:=hc0
 have hqc:q ≠ c:=Bt hq0 hc0 (by simp)
 have lc:=hb0 _ _ hc0
 intro m
 induction m with
 | zero=>intro j h s q' hm;omega
 | succ m ih=>
  intro j h s q' hm hj row new hc x hb
  simp only[E1,I,Ai,Ab]
  by_cases hlt:(j:Int)<xs.length
  ·have hj':j<xs.length:=by omega
   have hq:h.get q=some (.cells [.chan c] 218):=A9.at x hb0 hq0 hqc
   have hbl:=row.block (by omega)
   simp only[hlt,decide_true,Ab,V7]
   rw[row.ix hj',Ck hbl rfl,Nat.mul_one,List.getElem?_map,List.getElem?_eq_getElem hj',Option.map_some,Ls,Avw hq hc xs[j] (by rw[List.length_take];omega),Bg]
   simp only[Wi,Ai]
   rw[C8 (by omega) (by omega)]
   have e:xs.take j++[xs[j]]=xs.take (j+1):=(List.take_succ_eq_append_getElem hj').symm
   rw[e]
   have lc':c<h.next:=Nat.lt_of_lt_of_le lc x.next
   have hne:q' ≠ c:=Bt hbl hc (by simp)
   exact ih (j+1) _ s q' (by omega) (by omega) (row.frame fun _=>As _ (Ne.symm hne)) new (Aj _ _ _) (x.A5 (.inl rfl) lc' _) (hb.put lc' _)
  ·have:j=xs.length:=by omega
   subst this
   simp only[hlt,decide_false,Ab,Pm]
   rw[List.take_length]at hc
   exact .ret ⟨q',row,new,hc,x,hb⟩
theorem A33 {h0:Aa}{q c cap:Nat}{xs:List Int}(hq0:h0.get q=some (.cells [.chan c] 218))(hc0:∃ b,h0.get c=some (.chan cap b))(hcap:xs.length<=cap)(hsm:cap<=4096)(hb0:HB h0)(hK:5000<K):∀ (m j:Nat) (h:Aa) (s:EV) (q':Nat),xs.length-j<m->j<=xs.length ->
 Bu h s q' 3 1 j ((xs.take j).map I)->(0<j->h0.next<=q')->h.get c=some (.chan cap ((xs.drop j).map I))->A9 (fun i=>i=c) h0 h->HB h ->
 Ok (E0 K m (.ptr q 0) s (I xs.length) (I j) h) fun v h'=>∃ q',Listed h0 h' v c cap xs q':=by
 have hc0':=hc0
 obtain⟨b0,hc0⟩:=hc0
 have hqc:q ≠ c:=Bt hq0 hc0 (by simp)
 have lc:=hb0 _ _ hc0
 intro m
 induction m with
 | zero=>intro j h s q' hm;omega
 | succ m ih=>
  intro j h s q' hm hj row new hc x hb
  simp only[E0,I,Ai,Ab]
  by_cases hlt:(j:Int)<xs.length
  ·have hj':j<xs.length:=by omega
   have hq:h.get q=some (.cells [.chan c] 218):=A9.at x hb0 hq0 hqc
   have e:xs.drop j=xs[j]::xs.drop (j+1):=List.drop_eq_getElem_cons hj'
   have lc':c<h.next:=Nat.lt_of_lt_of_le lc x.next
   simp only[hlt,decide_true,Ab,Wa]
   rw[take_cons hq hc e]
   simp only[Ab,I,Ai,decide_true]
   have row':Bu (h.put c (.chan cap ((xs.drop (j+1)).map I))) s q' 3 1 j ((xs.take j).map I):=row.frame fun hl=>As _ (Ne.symm (Bt (row.block hl) hc (by simp)))
   refine Of (z:=[.int .i64 0]) row' (hb.put lc' _) rfl rfl rfl (by omega) (by omega) ?_
   intro h2 row2 n2 c2
   have x2:A9 (fun i=>i=c) h0 (h.put c (.chan cap ((xs.drop (j+1)).map I))):=x.A5 (.inl rfl) lc' _
   have x3:A9 (fun i=>i=c) h0 h2:=x2.then c2 fun i hi hl=>by have:=new hi.1;omega
   simp only[Po,Ai]
   rw[C8 (by omega) (by omega)]
   have e2:(xs.take j).map I++EV.cells (.int .i64 xs[j])=(xs.take (j+1)).map I:=by
    rw[List.take_succ_eq_append_getElem hj',List.map_append];rfl
   rw[e2]at row2
   refine ih (j+1) _ _ _ (by omega) (by omega) row2 (fun _=>by have:=x2.next;omega) ?_ x3 (c2.hb (hb.put lc' _))
   rw[c2.get _ (by rw[Aa.X1];exact lc') (fun hx=>by
    have:=row.block hx.1
    exact Bt this hc (by simp) hx.2.symm)]
   exact Aj _ _ _
  ·have:j=xs.length:=by omega
   subst this
   rw[List.take_length]at row
   simp only[hlt,decide_false,Ab,Pr]
   rw[row.E9]
   rw[List.drop_length]at hc
   exact A5o hq0 hc0' hcap hsm hb0 K 0 h s q' (by omega) (by omega) row new hc x hb
theorem Asm {h0:Aa}{q c cap:Nat}{xs:List Int}(hq0:h0.get q=some (.cells [.chan c] 218))(hc0:h0.get c=some (.chan cap (xs.map I)))(hcap:xs.length<=cap)(hsm:cap<=4096)(hb0:HB h0)(hK:5000<K):
 Ok (Lm K (.ptr q 0) h0) fun v h'=>∃ q',Listed h0 h' v c cap xs q':=by
 simp only[Lm]
 rw[Ajg hq0 hc0,Bg,List.length_map]
 exact A33 hq0 ⟨_,hc0⟩ hcap hsm hb0 hK K 0 h0 .Af 0 (by omega) (by omega) (.nil _ _ _ _) (fun x=>absurd x (Nat.lt_irrefl _)) hc0 (A9.refl _) hb0
theorem Listed.same {h0 h:Aa}{v:EV}{c cap:Nat}{xs:List Int}{q':Nat}(l:Listed h0 h v c cap xs q')(hc:h0.get c=some (.chan cap (xs.map I))):∀ i,i<h0.next->h.get i=h0.get i:=by
 intro i hi
 by_cases e:i=c
 ·subst e;rw[l.chan,hc]
 ·exact l.chg.get i hi e
end Go.Ev

namespace Go.Ev
open Go.Proofs
set_option maxRecDepth 10000
variable {disp:Nat->Option FT}{K:Nat}
theorem Bsg:(Ds TT 49 0).2.1 = [9,10]:=by kernel_rfl
theorem Bj9:(Ds TT 149 0).2.1 = [19,20]:=by kernel_rfl
section
variable (H:Aq disp)
include H
theorem A39 {e:Nat}(he:1<=e){h:Aa}{l0 d0 b3 b4:Nat}{tm:Ac}{z x i:Int}(hg:h.get l0=some (Bv TT 49 14 0 tm .ready none d0))(t3:tmp tm 3=.ptr b3 0)(t4:tmp tm 4=.ptr b4 0)(g3:h.get b3=some (.cells [I z] 3))(g4:h.get b4=some (.cells [.bool false] 4))(hb:HB h):
 ∃ h',Ad TT disp K (e+1) true l0 [I i,I x] h=some (.bool (decide (¬ x=z)),h')/\h'.get l0=some (Bv TT 49 14 0 tm (if x=z then .done else .ready) (if x=z then some .ret else none) d0)/\h'.get b4=some (.cells [.bool (decide (x=z))] 4)/\A9 (fun j=>j=l0\/j=b4) h h'/\HB h':=by
 have hg':=hg
 unfold Bv at hg'
 rw[Bsg]at hg'
 rw[Af0 H he tm h (I i) (I x) hg',t3,t4]
 have l0l:=hb _ _ hg
 have l4l:=hb _ _ g4
 have n03:l0 ≠ b3:=Bt hg g3 (by simp[Bv])
 have n04:l0 ≠ b4:=Bt hg g4 (by simp[Bv])
 simp only[O0,Alf hg,Kk]
 have g3':(h.put l0 (Bv TT 49 14 0 tm .busy none d0)).get b3=some (.cells [I z] 3):=by rw[As _ n03];exact g3
 have g4':(h.put l0 (Bv TT 49 14 0 tm .busy none d0)).get b4=some (.cells [.bool false] 4):=by rw[As _ n04];exact g4
 have g0':(h.put l0 (Bv TT 49 14 0 tm .busy none d0)).get l0=some (Bv TT 49 14 0 tm .busy none d0):=Aj _ _ _
 have x1:A9 (fun j=>j=l0\/j=b4) h (h.put l0 (Bv TT 49 14 0 tm .busy none d0)):=(A9.refl h).A5 (.inl (.inl rfl)) l0l _
 have hb1:HB (h.put l0 (Bv TT 49 14 0 tm .busy none d0)):=hb.put l0l _
 have n1:(h.put l0 (Bv TT 49 14 0 tm .busy none d0)).next=h.next:=rfl
 generalize h.put l0 (Bv TT 49 14 0 tm .busy none d0)=h1 at g3' g4' g0' x1 hb1 n1 ⊢
 simp only[Ck g3' rfl,Ab,I,Ai]
 by_cases hx:x=z
 ·simp only[hx,decide_true,Ab,not_true_eq_false,decide_false,if_true]
  rw[Ayx (o:=0) (n:=1) (v:=.bool true) (l':=[.bool true]) g4' rfl rfl rfl,Akc (by rw[As _ (Ne.symm n04)];exact g0')]
  exact⟨_,rfl,Aj _ _ _,by rw[As _ n04];exact Aj _ _ _,(x1.A5 (.inl (.inr rfl)) (by omega) _).A5 (.inl (.inl rfl)) (by rw[Aa.X1];omega) _,(hb1.put (by omega) _).put (by rw[Aa.X1];omega) _⟩
 ·simp only[hx,decide_false,Ab,not_false_eq_true,decide_true,if_false]
  rw[Akc g0']
  exact⟨_,rfl,Aj _ _ _,by rw[As _ n04];exact g4',x1.A5 (.inl (.inl rfl)) (by omega) _,hb1.put (by omega) _⟩
theorem A4s {e:Nat}(he:2<=e){h:Aa}{l0 d0 b3 b4 l1 d1 b2 b5:Nat}{tm tm1:Ac}{z x i dd:Int}(hg:h.get l0=some (Bv TT 49 14 0 tm .ready none d0))(t3:tmp tm 3=.ptr b3 0)(t4:tmp tm 4=.ptr b4 0)(g3:h.get b3=some (.cells [I z] 3))(g4:h.get b4=some (.cells [.bool false] 4))
 (hg1:h.get l1=some (Bv TT 149 27 0 tm1 .ready none d1)) (u2:tmp tm1 2=.ptr b2 0) (u3:tmp tm1 3=.ptr b5 0) (g2:h.get b2=some (.cells [.Xg l0] 142)) (g5:h.get b5=some (.cells [I dd] 3)) (hb:HB h) :
 ∃ h',Ad TT disp K (e+1) true l1 [I i,I x] h=some (.bool (decide (¬ x=z)),h')/\h'.get l0=some (Bv TT 49 14 0 tm (if x=z then .done else .ready) (if x=z then some .ret else none) d0)/\h'.get l1=some (Bv TT 149 27 0 tm1 (if x=z then .done else .ready) (if x=z then some .ret else none) d1) /\
  h'.get b4=some (.cells [.bool (decide (x=z))] 4)/\A9 (fun j=>j=l0\/j=b4\/j=l1) h h'/\HB h':=by
 obtain⟨e,rfl⟩:∃ k,e=k+1:=⟨e-1,by omega⟩
 have hg':=hg1
 unfold Bv at hg'
 rw[Bj9]at hg'
 rw[Acl H (by omega) tm1 h (I i) (I x) hg',u2,u3]
 have l1l:=hb _ _ hg1
 have n10:l1 ≠ l0:=Bt hg1 hg (by simp[Bv])
 have n1c:∀ b o,h.get b=some o->(∀ st p,o ≠ Bv TT 149 27 0 tm1 st p d1)->(h.put l1 (Bv TT 149 27 0 tm1 .busy none d1)).get b=some o:=fun b o gb hn=>by
  rw[As _ (Bt hg1 gb (fun x=>hn _ _ x.symm))];exact gb
 simp only[L9,Alf hg1,I8]
 have q0:=n1c _ _ hg (by intros;simp[Bv])
 have q2:=n1c _ _ g2 (by intros;simp[Bv])
 have q3:=n1c _ _ g3 (by intros;simp[Bv])
 have q4:=n1c _ _ g4 (by intros;simp[Bv])
 have q5:=n1c _ _ g5 (by intros;simp[Bv])
 have q1:(h.put l1 (Bv TT 149 27 0 tm1 .busy none d1)).get l1=some (Bv TT 149 27 0 tm1 .busy none d1):=Aj _ _ _
 have x1:A9 (fun j=>j=l0\/j=b4\/j=l1) h (h.put l1 (Bv TT 149 27 0 tm1 .busy none d1)):=(A9.refl h).A5 (.inl (.inr (.inr rfl))) l1l _
 have hb1:HB (h.put l1 (Bv TT 149 27 0 tm1 .busy none d1)):=hb.put l1l _
 have n1:(h.put l1 (Bv TT 149 27 0 tm1 .busy none d1)).next=h.next:=rfl
 generalize h.put l1 (Bv TT 149 27 0 tm1 .busy none d1)=h1 at q0 q1 q2 q3 q4 q5 x1 hb1 n1 ⊢
 simp only[Ck q2 rfl,Ck q5 rfl,Ab]
 have hc:U3 (Ad TT disp K (e+1) false) (Ad TT disp K (e+1) true) (.Xg l0) [I dd,I x] h1=Ad TT disp K (e+1) true l0 [I dd,I x] h1:=rfl
 rw[hc]
 obtain⟨h2,r1,r2,r3,r4,r5⟩:=A39 (K:=K) H (e:=e) (by omega) (i:=dd) (x:=x) q0 t3 t4 q3 q4 hb1
 rw[r1,Bg]
 have q12:h2.get l1=some (Bv TT 149 27 0 tm1 .busy none d1):=A9.at r4 hb1 q1 (fun y=>by
  rcases y with y|y
  ·exact n10 y
  ·exact Bt q1 q4 (by simp[Bv]) y)
 have n2:=r4.next
 have x2:A9 (fun j=>j=l0\/j=b4\/j=l1) h h2:=x1.trans (r4.mono fun j hj=>hj.elim .inl (fun y=>.inr (.inl y)))
 by_cases hx:x=z
 ·simp only[hx,not_true_eq_false,decide_false,decide_true,if_true]at r2 r3 ⊢
  simp only[Ab]
  rw[Akc q12]
  refine⟨_,rfl,?_,Aj _ _ _,?_,x2.A5 (.inl (.inr (.inr rfl))) (by omega) _,r5.put (by omega) _⟩
  ·rw[As _ n10];exact r2
  ·rw[As _ (Bt q12 r3 (by simp[Bv]))];exact r3
 ·simp only[hx,not_false_eq_true,decide_false,decide_true,if_false]at r2 r3 ⊢
  simp only[Ab]
  rw[Akc q12]
  refine⟨_,rfl,?_,Aj _ _ _,?_,x2.A5 (.inl (.inr (.inr rfl))) (by omega) _,r5.put (by omega) _⟩
  ·rw[As _ n10];exact r2
  ·rw[As _ (Bt q12 r3 (by simp[Bv]))];exact r3
end
end Go.Ev

namespace Go.Ev
open Go.Proofs
set_option maxRecDepth 10000
variable {disp:Nat->Option FT}{K:Nat}
structure Aze(h:Aa)(l0 d0:Nat)(tm:Ac)(b3 b4:Nat)(z:Int)(b2:Nat)(found:Bool):Prop where
 lp:h.get l0=some (Bv TT 49 14 0 tm (if found then .done else .ready) (if found then some .ret else none) d0)
 c3:h.get b3=some (.cells [I z] 3)
 c4:h.get b4=some (.cells [.bool found] 4)
 c2:h.get b2=some (.cells [.Xg l0] 142)
 hb:HB h
structure A8b(tm:Ac)(b3 b4:Nat):Prop where
 t3:tmp tm 3=.ptr b3 0
 t4:tmp tm 4=.ptr b4 0
section
variable (H:Aq disp){l0 d0:Nat}{tm:Ac}{b3 b4:Nat}{z:Int}{b2:Nat}(T0:A8b tm b3 b4){l1 d1:Nat}{tm1:Ac}{b5:Nat}{dd:Int}(u2:tmp tm1 2=.ptr b2 0)(u3:tmp tm1 3=.ptr b5 0)
include H T0 u2 u3
theorem A3e {e:Nat}(he:3<=e){xs:List Int}(hn:xs.length<=4096):∀ (m i:Nat) (h:Aa) (s:EV) (q':Nat),xs.length-i<m->i<=xs.length->Aze h l0 d0 tm b3 b4 z b2 false->h.get l1=some (Bv TT 149 27 0 tm1 .ready none d1)->h.get b5=some (.cells [I dd] 3) ->
 Bu h s q' 3 1 xs.length (xs.map I)->(xs.take i).contains z=false ->
 Ok (Eg (Ad TT disp K e false) (Ad TT disp K e true) K m (.Xg l1) s (I xs.length) (I i) h) fun v h'=>v=.tuple []/\Aze h' l0 d0 tm b3 b4 z b2 (xs.contains z)/\h'.get l1=some (Bv TT 149 27 0 tm1 (if xs.contains z then .done else .ready) (if xs.contains z then some .ret else none) d1)/\A9 (fun j=>j=l0\/j=b4\/j=l1) h h':=by
 intro m
 induction m with
 | zero=>intro i h s q' hm;omega
 | succ m ih=>
  intro i h s q' hm hi L g1 g5 row hno
  simp only[Eg,I,Ai,Ab]
  by_cases hlt:(i:Int)<xs.length
  ·have hi':i<xs.length:=by omega
   have hbl:=row.block (by omega)
   simp only[hlt,decide_true,Ab,Vg]
   rw[row.ix hi',Ck hbl rfl,Nat.mul_one,List.getElem?_map,List.getElem?_eq_getElem hi',Option.map_some,Ls]
   obtain⟨e,rfl⟩:∃ k,e=k+1:=⟨e-1,by omega⟩
   have hc:U3 (Ad TT disp K (e+1) false) (Ad TT disp K (e+1) true) (.Xg l1) [I i,I xs[i]] h=Ad TT disp K (e+1) true l1 [I i,I xs[i]] h:=rfl
   obtain⟨h2,r1,r2,r3,r4,r5,r6⟩:=A4s (K:=K) H (e:=e) (by omega) (i:=i) (x:=xs[i]) L.lp T0.t3 T0.t4 L.c3 L.c4 g1 u2 u3 L.c2 g5 L.hb
   have hgo:∀ k:EV->Aa->R,Al (U3 (Ad TT disp K (e+1) false) (Ad TT disp K (e+1) true) (.Xg l1) [.int .i64 (i:Int),I xs[i]] h) k=k (.bool (decide (¬ xs[i]=z))) h2:=fun k=>by
    have:U3 (Ad TT disp K (e+1) false) (Ad TT disp K (e+1) true) (.Xg l1) [.int .i64 (i:Int),I xs[i]] h=some (.bool (decide (¬ xs[i]=z)),h2):=hc.trans r1
    rw[this,Bg]
   rw[hgo]
   have keep:∀ b o,h.get b=some o->(∀ st p,o ≠ Bv TT 49 14 0 tm st p d0)->(∀ st p,o ≠ Bv TT 149 27 0 tm1 st p d1)->(∀ v,o ≠ .cells [v] 4)->h2.get b=some o:=fun b o gb n0 n1 n4=>A9.at r5 L.hb gb fun y=>by
    rcases y with rfl|rfl|rfl
    ·rw[L.lp]at gb;cases gb;exact n0 _ _ rfl
    ·rw[L.c4]at gb;cases gb;exact n4 _ rfl
    ·rw[g1]at gb;cases gb;exact n1 _ _ rfl
   have k3:=keep _ _ L.c3 (by intros;simp[Bv]) (by intros;simp[Bv]) (by intros;simp)
   have k2:=keep _ _ L.c2 (by intros;simp[Bv]) (by intros;simp[Bv]) (by intros;simp)
   have k5:=keep _ _ g5 (by intros;simp[Bv]) (by intros;simp[Bv]) (by intros;simp)
   by_cases hx:xs[i]=z
   ·have hct:xs.contains z=true:=by
     rw[List.contains_iff_mem,<-hx];exact List.getElem_mem hi'
    simp only[hx,if_true,decide_true]at r2 r3 r4
    simp only[hx,not_true_eq_false,decide_false,Ab]
    exact .ret ⟨rfl,by rw[hct];exact⟨r2,k3,r4,k2,r6⟩,by rw[hct];exact r3,r5⟩
   ·simp only[hx,if_false,decide_false]at r2 r3 r4
    simp only[hx,not_false_eq_true,decide_true,Ab,Uz,Ai]
    rw[C8 (by omega) (by omega)]
    have hrow2:Bu h2 s q' 3 1 xs.length (xs.map I):=row.frame fun _=>by
     rw[keep _ _ hbl (by intros;simp[Bv]) (by intros;simp[Bv]) (by intros;simp),hbl]
    have hno2:(xs.take (i+1)).contains z=false:=by
     rw[List.take_succ_eq_append_getElem hi']
     simp only[List.contains_eq_mem,List.mem_append,List.mem_singleton,decide_eq_false_iff_not]at hno ⊢
     intro y
     rcases y with y|y
     ·exact hno y
     ·exact hx y.symm
    refine(ih (i+1) h2 s q' (by omega) (by omega) ⟨r2,k3,r4,k2,r6⟩ r3 k5 hrow2 hno2).mono ?_
    rintro v h' ⟨a1,a2,a3,a4⟩
    exact⟨a1,a2,a3,r5.trans a4⟩
  ·have:i=xs.length:=by omega
   subst this
   simp only[hlt,decide_false,Ab]
   rw[List.take_length]at hno
   exact .ret ⟨rfl,by rw[hno];exact L,by rw[hno];exact g1,A9.refl _⟩
theorem Bcf {e:Nat}(he:3<=e)(hK:5000<K){h:Aa}{b6 q c cap:Nat}{xs:List Int}(g6:h.get b6=some (.cells [.ptr q 0] 153))(hq:h.get q=some (.cells [.chan c] 218))(hc:h.get c=some (.chan cap (xs.map I)))(hcap:xs.length<=cap)(hsm:cap<=4096)
 (L:Aze h l0 d0 tm b3 b4 z b2 false) (g1:h.get l1=some (Bv TT 149 27 0 tm1 .ready none d1)) (g5:h.get b5=some (.cells [I dd] 3)) :
 Ok (Ad TT disp K (e+1) false 190 [.Xg l1,.ptr b6 0] h) fun v h'=>Aze h' l0 d0 tm b3 b4 z b2 (xs.contains z)/\h'.get l1=some (Bv TT 149 27 0 tm1 (if xs.contains z then .done else .ready) (if xs.contains z then some .ret else none) d1) /\
  (∀ i,i<h.next->¬ (i=l0\/i=b4\/i=l1)->h'.get i=h.get i)/\A9 (fun j=>j=c\/j=l0\/j=b4\/j=l1) h h':=by
 rw[Ad5 H (by omega)]
 simp only[Zr,Ck g6 rfl,Ab]
 refine(Asm hq hc hcap hsm L.hb hK).Al ?_
 rintro s h1 ⟨q',Li⟩
 rw[Li.row.E9]
 have same:=Li.same hc
 have at1:∀ i o,h.get i=some o->h1.get i=some o:=fun i o g=>by rw[same i (L.hb _ _ g)];exact g
 have L1:Aze h1 l0 d0 tm b3 b4 z b2 false:=⟨at1 _ _ L.lp,at1 _ _ L.c3,at1 _ _ L.c4,at1 _ _ L.c2,Li.hb⟩
 refine(A3e (K:=K) H T0 u2 u3 he (by omega) K 0 h1 s q' (by omega) (by omega) L1 (at1 _ _ g1) (at1 _ _ g5) Li.row (by simp)).mono ?_
 rintro v h' ⟨_,a2,a3,a4⟩
 refine⟨a2,a3,fun i hi hn=>by rw[a4.get i (Nat.lt_of_lt_of_le hi Li.chg.next) hn,same i hi],?_⟩
 exact(Li.chg.mono fun i hi=>.inl hi).trans (a4.mono fun i hi=>.inr hi)
end
end Go.Ev

namespace Go.Ev
open Go.Proofs
set_option maxRecDepth 10000
variable {disp:Nat->Option FT}{K:Nat}
def hasB(ps:Nat->List Int)(n:Nat)(z:Int):Bool:=(List.range n).any fun d=>(ps d).contains z
theorem A5i(ps:Nat->List Int)(n:Nat)(z:Int):hasB ps (n+1) z=(hasB ps n z || (ps n).contains z):=by
 unfold hasB;rw[List.range_succ,List.any_append];simp
theorem Atr {ps:Nat->List Int}{n:Nat}{z:Int}:hasB ps n z=true ↔ ∃ d,d<n/\z ∈ ps d:=by
 unfold hasB;simp
theorem Bbi {ps:Nat->List Int}{n d:Nat}{z:Int}(hd:d<n)(h:(ps d).contains z=true):hasB ps n z=true:=Atr.2 ⟨d,hd,List.contains_iff_mem.1 h⟩
structure Mid(h0 h:Aa)(C:Nat->Prop)(l0 d0:Nat)(tm:Ac)(b3 b4:Nat)(z:Int)(b2:Nat)(found:Bool):Prop where
 kp:Kp C h0 h
 look:Aze h l0 d0 tm b3 b4 z b2 found
 cd:h.get d0=some (.deferred true)
 n0:h0.next<=l0
 n4:h0.next<=b4
 nd:h0.next<=d0
section
variable (H:Aq disp){h0:Aa}{p ql n:Nat}{q c:Nat->Nat}{g:Gm}{ps:Nat->List Int}(P:Ei h0 p ql n q c g ps)(hb0:HB h0)(hps:∀ d,d<n->(ps d).length<=g.Z.toNat)(hZ:g.Z<=4096)(hn:n<=64)
variable {l0 d0:Nat}{tm:Ac}{b3 b4:Nat}{z:Int}{b2:Nat}(T0:A8b tm b3 b4)
include H P hb0 hps hZ hn T0
theorem A9g {e:Nat}(he:4<=e)(hK:5000<K):∀ (m i:Nat) (h:Aa) (t1:Ac) (ds:List Nat),n-i<m->i<=n->Mid h0 h (fun x=>∃ d,d<n/\x=c d) l0 d0 tm b3 b4 z b2 false->tmp t1 2=.ptr b2 0 ->
 ds.Nodup->(∀ d ∈ ds,h.get d=some (.deferred true)/\h0.next<=d/\d ≠ d0)->hasB ps i z=false ->
 Ok (H8 (Ad TT disp K e false) (Ad TT disp K e true) K m t1 (.slice ql 0 n n true) (I n) (I i) h ds) fun v h'=>Mid h0 h' (fun x=>∃ d,d<n/\x=c d) l0 d0 tm b3 b4 z b2 (hasB ps n z):=by
 intro m
 induction m with
 | zero=>intro i h t1 ds hm;omega
 | succ m ih=>
  intro i h t1 ds hm hi M u2 hnd hds hno
  have fin:∀ (h2:Aa) (dl:List Nat) (found:Bool),found=hasB ps n z->Mid h0 h2 (fun x=>∃ d,d<n/\x=c d) l0 d0 tm b3 b4 z b2 found->dl.Nodup->(∀ d ∈ dl,h2.get d=some (.deferred true)/\h0.next<=d/\d ≠ d0) ->
   Ok (Ej dl h2 fun h=>some (EV.tuple [],h)) fun v h'=>Mid h0 h' (fun x=>∃ d,d<n/\x=c d) l0 d0 tm b3 b4 z b2 (hasB ps n z):=by
   rintro h2 dl found rfl M2 hd1 hd2
   refine Ok.unwind hd1 (fun d hd=>(hd2 d hd).1) M2.look.hb fun h3 ch hn3=>.ret ?_
   have nk:∀ b o,h2.get b=some o->o ≠ .deferred true->¬ (b ∈ dl):=fun b o gb hne hb=>by rw[(hd2 b hb).1]at gb;cases gb;exact hne rfl
   have a:∀ b o,h2.get b=some o->o ≠ .deferred true->h3.get b=some o:=fun b o gb hne=>A9.at ch M2.look.hb gb (nk b o gb hne)
   refine⟨M2.kp.Ay9 ch fun i hi=>(hd2 i hi).2.1,⟨a _ _ M2.look.lp (by simp[Bv]),a _ _ M2.look.c3 (by simp),a _ _ M2.look.c4 (by simp),a _ _ M2.look.c2 (by simp),ch.hb M2.look.hb⟩,A9.at ch M2.look.hb M2.cd (fun y=>(hd2 _ y).2.2 rfl),M2.n0,M2.n4,M2.nd⟩
  simp only[H8,I,Ai,Ab]
  by_cases hlt:(i:Int)<n
  ·have hi':i<n:=by omega
   have at0:∀ b o,h0.get b=some o->h.get b=some o:=fun b o gb=>M.kp.at hb0 gb
   have P1:=P.ext at0
   simp only[hlt,decide_true,Ab,Ml]
   rw[P1.rowAt.ix hi',P1.Awr hi']
   try simp only[Ab]
   refine Ok.st1 (Ag _ _) rfl rfl (by show 0<1;decide) ?_
   have hnx:=M.kp.chg.next
   have x1:Ext h ((h.new (.cells [.int .i64 0] 3)).put h.next (.cells [EV.int .i64 (i:Int)] 3)):=(A9.new _ _:Ext h _).A5 (.inr (Nat.le_refl _)) (Nat.lt_succ_self _) _
   have g5:((h.new (.cells [.int .i64 0] 3)).put h.next (.cells [EV.int .i64 (i:Int)] 3)).get h.next=some (.cells [I i] 3):=Aj _ _ _
   simp only[List.set]
   generalize (h.new (.cells [.int .i64 0] 3)).put h.next (.cells [EV.int .i64 (i:Int)] 3)=h1 at x1 g5 ⊢
   have hb1:=x1.hb M.look.hb
   have hn1:=x1.next
   simp only[Vi,Ab]
   have x2:Ext h (h1.new (.cells [.ptr (q i) 0] 153)):=x1.Fp _
   have g6:(h1.new (.cells [.ptr (q i) 0] 153)).get h1.next=some (.cells [.ptr (q i) 0] 153):=Ag _ _
   have g52:(h1.new (.cells [.ptr (q i) 0] 153)).get h.next=some (.cells [I i] 3):=by rw[Bd _ (hb1 _ _ g5)];exact g5
   have n2:h1.next<(h1.new (.cells [.ptr (q i) 0] 153)).next:=Nat.lt_succ_self _
   generalize h1.new (.cells [.ptr (q i) 0] 153)=h2 at x2 g6 g52 n2 ⊢
   have hb2:=x2.hb M.look.hb
   generalize htm:(((((((t1.put 13 (some (EV.bool true))).put 14 (some (EV.int .i64 (i:Int)))).put 15 (some (EV.ptr ql (i*1)))).put 16 (some (EV.ptr (q i) 0))).put 3 (some (EV.ptr h.next 0))).put 4 (some (EV.ptr (q i) 0))).put 17 (some (EV.ptr (q i) 0))).put 18 (some (EV.func 190 [] [EV.ptr h1.next 0]))=t2
   have v2:tmp t2 2=.ptr b2 0:=by rw[<-htm];simp only[Ga,reduceIte,Nat.reduceEqDiff,u2]
   have v3:tmp t2 3=.ptr h.next 0:=by rw[<-htm];simp only[Ga,reduceIte,Nat.reduceEqDiff]
   have v2':∀ w,tmp ((t2.put 26 (some w)).put 12 (some w)) 2=.ptr b2 0:=fun w=>by simp only[Ga,reduceIte,Nat.reduceEqDiff,v2]
   clear htm
   refine Ok.range ?_
   have x3:Ext h (Dq TT 149 27 0 t2 h2):=x2.trans T3
   have hb3:=x3.hb M.look.hb
   have at3:∀ b o,h.get b=some o->(Dq TT 149 27 0 t2 h2).get b=some o:=fun b o gb=>x3.at M.look.hb gb
   have at23:∀ b o,h2.get b=some o->(Dq TT 149 27 0 t2 h2).get b=some o:=fun b o gb=>Ext.at T3 hb2 gb
   have L3:Aze (Dq TT 149 27 0 t2 h2) l0 d0 tm b3 b4 z b2 false:=⟨at3 _ _ M.look.lp,at3 _ _ M.look.c3,at3 _ _ M.look.c4,at3 _ _ M.look.c2,hb3⟩
   have P3:=P1.ext at3
   obtain⟨e,rfl⟩:∃ k,e=k+1:=⟨e-1,by omega⟩
   refine(Bcf (K:=K) H T0 (l1:=h2.next+1) (d1:=h2.next) v2 v3 (e:=e) (by omega) hK (at23 _ _ g6) (P3.que i hi') (P3.chan i hi') (hps i hi') (by omega) L3 Q8 (at23 _ _ g52)).mono ?_
   rintro v h4 ⟨L4,gl4,same4,ch4⟩
   have hn4:=ch4.next
   have hl1:h2.next+1<(Dq TT 149 27 0 t2 h2).next:=by rw[Apl];omega
   have hk4:Kp (fun x=>∃ d,d<n/\x=c d) h0 h4:=by
    refine⟨(M.kp.chg.trans (Ext.to x3)).then ch4 ?_,fun j hj=>?_⟩
    ·rintro j (rfl|rfl|rfl|rfl) hl
     ·exact⟨i,hi',rfl⟩
     ·have:=M.n0;omega
     ·have:=M.n4;omega
     ·have:=x2.next;omega
    ·have hj3:j<(Dq TT 149 27 0 t2 h2).next:=by have:=x3.next;omega
     rw[same4 j hj3 (by rintro(rfl|rfl|rfl) <;> (have:=M.n0;have:=M.n4;have:=x2.next;omega)),x3.get j (by omega) id]
     exact M.kp.same j hj
   have gd4:h4.get h2.next=some (.deferred true):=by
    rw[same4 _ (by omega) ?_]
    ·exact T9
    ·rintro(y|y|y)
     ·have:=M.look.hb _ _ M.look.lp;omega
     ·have:=M.look.hb _ _ M.look.c4;omega
     ·omega
   have keep4:∀ d,h.get d=some (.deferred true)->h4.get d=some (.deferred true):=fun d gd=>by
    have gd3:=at3 _ _ gd
    rw[same4 d (hb3 _ _ gd3) ?_]
    ·exact gd3
    ·rintro(rfl|rfl|rfl)
     ·rw[M.look.lp]at gd;cases gd
     ·rw[M.look.c4]at gd;cases gd
     ·have:=M.look.hb _ _ gd;omega
   have hnl:∀ o,h4.get (h2.next+1)=some o->∀ b o',h4.get b=some o'->(∀ st p,o' ≠ Bv TT 149 27 0 t2 st p h2.next)->b ≠ h2.next+1:=by
    intro o ho b o' hb' hne e'
    subst e'
    rw[gl4]at hb';cases hb';exact hne _ _ rfl
   have mid:∀ (p5:Option Code),Mid h0 (h4.put (h2.next+1) (Bv TT 149 27 0 t2 .exhausted p5 h2.next)) (fun x=>∃ d,d<n/\x=c d) l0 d0 tm b3 b4 z b2 ((ps i).contains z):=by
    intro p5
    have lt1:h2.next+1<h4.next:=by omega
    have pn:∀ b o',h4.get b=some o'->(∀ st p,o' ≠ Bv TT 149 27 0 t2 st p h2.next)->(h4.put (h2.next+1) (Bv TT 149 27 0 t2 .exhausted p5 h2.next)).get b=some o':=fun b o' hb' hne=>by
     rw[As _ (Ne.symm (hnl _ gl4 b o' hb' hne))];exact hb'
    refine⟨hk4.A5 (by have:=x2.next;omega) lt1 _,⟨pn _ _ L4.lp (by intros;simp[Bv]),pn _ _ L4.c3 (by intros;simp[Bv]),pn _ _ L4.c4 (by intros;simp[Bv]),pn _ _ L4.c2 (by intros;simp[Bv]),L4.hb.put lt1 _⟩,pn _ _ (keep4 _ M.cd) (by intros;simp[Bv]),M.n0,M.n4,M.nd⟩
   have dsok:∀ (p5:Option Code),∀ d ∈ h2.next::ds,(h4.put (h2.next+1) (Bv TT 149 27 0 t2 .exhausted p5 h2.next)).get d=some (.deferred true)/\h0.next<=d/\d ≠ d0:=by
    intro p5 d hd
    rcases List.mem_cons.1 hd with rfl|hd
    ·exact⟨by rw[As _ (by omega)];exact gd4,by have:=x2.next;omega,by have:=M.look.hb _ _ M.cd;omega⟩
    ·obtain⟨a,b,c'⟩:=hds d hd
     exact⟨by rw[As _ (by have:=M.look.hb _ _ a;omega)];exact keep4 _ a,b,c'⟩
   have nd2:(h2.next::ds).Nodup:=List.nodup_cons.2 ⟨fun hd=>by have:=M.look.hb _ _ (hds _ hd).1;omega,hnd⟩
   cases hct:(ps i).contains z with
   | true=>
    rw[hct]at gl4 mid
    refine .inr ⟨gl4,?_⟩
    exact fin _ _ true (Bbi hi' hct).symm (mid _) nd2 (dsok _)
   | false=>
    rw[hct]at gl4 mid
    refine .inl ⟨gl4,?_⟩
    simp only[Ig,Ai]
    rw[C8 (by omega) (by omega)]
    exact ih (i+1) _ _ _ (by omega) (by omega) (mid _) (v2' _) nd2 (dsok _) (by rw[A5i,hno,hct];rfl)
  ·have:i=n:=by omega
   subst this
   simp only[hlt,decide_false,Ab]
   exact fin h ds false hno.symm M hnd hds
end
section
variable (H:Aq disp){h0:Aa}{p ql n:Nat}{q c:Nat->Nat}{g:Gm}{ps:Nat->List Int}(P:Ei h0 p ql n q c g ps)(hb0:HB h0)(hps:∀ d,d<n->(ps d).length<=g.Z.toNat)(hZ:g.Z<=4096)(hn:n<=64)
include H P hb0 hps hZ hn
theorem Bf5 {d:Nat}(hd:7<=d)(hK:5000<K)(z:Int):Ok (Ad TT disp K d false 49 [.ptr p 0,I z] h0) fun v h'=>v=.bool (hasB ps n z)/\Kp (fun x=>∃ d,d<n/\x=c d) h0 h'/\HB h':=by
 obtain⟨e,rfl⟩:∃ k,d=k+2:=⟨d-2,by omega⟩
 rw[Akm H (by omega)]
 simp only[Aaq,I,Ab,Aar]
 have x1:Ext h0 (((h0.new (.cells [.int .i64 z] 3)).new (.cells [.bool false] 4)).new (.cells [.ptr p 0] 49)):=((A9.new _ _).Fp _).Fp _
 have n1:(((h0.new (.cells [.int .i64 z] 3)).new (.cells [.bool false] 4)).new (.cells [.ptr p 0] 49)).next=h0.next+3:=rfl
 have gb:(((h0.new (.cells [.int .i64 z] 3)).new (.cells [.bool false] 4)).new (.cells [.ptr p 0] 49)).get (h0.next+2)=some (.cells [.ptr p 0] 49):=Ag _ _
 have g4:(((h0.new (.cells [.int .i64 z] 3)).new (.cells [.bool false] 4)).new (.cells [.ptr p 0] 49)).get (h0.next+1)=some (.cells [.bool false] 4):=by
  rw[Bd _ (Nat.lt_succ_self _)];exact Ag _ _
 have g3:(((h0.new (.cells [.int .i64 z] 3)).new (.cells [.bool false] 4)).new (.cells [.ptr p 0] 49)).get h0.next=some (.cells [I z] 3):=by
  rw[Bd _ (show h0.next<h0.next+2 by omega),Bd _ (show h0.next<h0.next+1 by omega)];exact Ag _ _
 have hnn:((h0.new (.cells [.int .i64 z] 3)).new (.cells [.bool false] 4)).next=h0.next+2:=rfl
 have hn3:(h0.new (.cells [.int .i64 z] 3)).next=h0.next+1:=rfl
 rw[hnn,hn3]
 generalize ((h0.new (.cells [.int .i64 z] 3)).new (.cells [.bool false] 4)).new (.cells [.ptr p 0] 49)=h1 at x1 n1 gb g4 g3 ⊢
 have hb1:=x1.hb hb0
 generalize htm:(((((Tr.nil.put 0 (some (EV.ptr p 0))).put 1 (some (EV.int .i64 z))).put 3 (some (EV.ptr h0.next 0))).put 4 (some (EV.ptr (h0.next+1) 0))).put 7 (some (EV.ptr p 0))).put 8 (some (EV.func 149 [] [EV.ptr (h0.next+2) 0]))=tm
 have T0:A8b tm h0.next (h0.next+1):=⟨by rw[<-htm];simp only[Ga,reduceIte,Nat.reduceEqDiff],by rw[<-htm];simp only[Ga,reduceIte,Nat.reduceEqDiff]⟩
 clear htm
 refine Ok.range ?_
 rw[Ag5 H (by omega)]
 simp only[Vq,Ab]
 have x2:Ext h1 (Dq TT 49 14 0 tm h1):=T3
 have hb2:=x2.hb hb1
 have hbx:D8 142 (.Xg (h1.next+1)) (Dq TT 49 14 0 tm h1)=fun(k:EV->Aa->R)=>k (.ptr (h1.next+2) 0) ((Dq TT 49 14 0 tm h1).new (.cells [.Xg (h1.next+1)] 142)):=rfl
 rw[hbx]
 have x3:Ext h1 ((Dq TT 49 14 0 tm h1).new (.cells [.Xg (h1.next+1)] 142)):=x2.Fp _
 have k2:((Dq TT 49 14 0 tm h1).new (.cells [.Xg (h1.next+1)] 142)).get (h1.next+2)=some (.cells [.Xg (h1.next+1)] 142):=Ag _ _
 have kl:((Dq TT 49 14 0 tm h1).new (.cells [.Xg (h1.next+1)] 142)).get (h1.next+1)=some (Bv TT 49 14 0 tm .ready none h1.next):=by rw[Bd _ (hb2 _ _ Q8)];exact Q8
 have kd:((Dq TT 49 14 0 tm h1).new (.cells [.Xg (h1.next+1)] 142)).get h1.next=some (.deferred true):=by rw[Bd _ (hb2 _ _ T9)];exact T9
 generalize (Dq TT 49 14 0 tm h1).new (.cells [.Xg (h1.next+1)] 142)=h3 at x3 k2 kl kd ⊢
 have hb3:=x3.hb hb1
 have at3:∀ b o,h1.get b=some o->h3.get b=some o:=fun b o gb=>x3.at hb1 gb
 have P3:Ei h3 p ql n q c g ps:=P.ext fun b o gb=>at3 _ _ (x1.at hb0 gb)
 simp only[Ck (at3 _ _ gb) rfl,Ab,P3.list]
 have M3:Mid h0 h3 (fun x=>∃ d,d<n/\x=c d) (h1.next+1) h1.next tm h0.next (h0.next+1) z (h1.next+2) false:=
  ⟨Ext.kp (x1.trans x3),⟨kl,at3 _ _ g3,at3 _ _ g4,k2,hb3⟩,kd,by omega,by omega,by omega⟩
 refine(A9g (K:=K) H P hb0 hps hZ hn T0 (e:=e) (by omega) hK K 0 h3 _ [] (by omega) (by omega) M3 (by simp only[Ga,reduceIte,Nat.reduceEqDiff]) List.nodup_nil (fun d hd=>by cases hd) rfl).mono ?_
 rintro v h4 M4
 have lt1:=M4.look.hb _ _ M4.look.lp
 have nl:∀ b o st p',h4.get b=some o->(∀ st p,o ≠ Bv TT 49 14 0 tm st p h1.next)->(h4.put (h1.next+1) (Bv TT 49 14 0 tm st p' h1.next)).get b=some o:=fun b o st p' gb hne=>by
  rw[As _ (Bt M4.look.lp gb (fun y=>hne _ _ y.symm))];exact gb
 have kend:∀ st p',Kp (fun x=>∃ d,d<n/\x=c d) h0 (h4.put (h1.next+1) (Bv TT 49 14 0 tm st p' h1.next)):=fun st p'=>M4.kp.A5 (by omega) lt1 _
 have hbe:∀ st p',HB (h4.put (h1.next+1) (Bv TT 49 14 0 tm st p' h1.next)):=fun st p'=>M4.look.hb.put lt1 _
 have cellres:∀ (h5:Aa) (b:Bool),h5.get (h0.next+1)=some (.cells [.bool b] 4)->Ct TT [.c (.ptr (h0.next+1) 0) 4] h5=some (.bool b,h5):=by
  intro h5 b hg
  have hr:Hh h5 (h0.next+1) 0 1=some [.bool b]:=by unfold Hh;rw[hg];rfl
  unfold Ct
  simp only[Ao8,show TT.size 4=some 1 by kernel_rfl,show TT.agg 4=some false by kernel_rfl,hr]
 cases hf:hasB ps n z with
 | true=>
  rw[hf]at M4
  refine .inr ⟨M4.look.lp,?_⟩
  refine Ok.unwind (List.nodup_cons.2 ⟨by simp,List.nodup_nil⟩) (fun d hd=>by rw[List.mem_singleton]at hd;subst hd;exact nl _ _ _ _ M4.cd (by intros;simp[Bv])) (hbe _ _) fun h5 ch hn5=>?_
  have g45:h5.get (h0.next+1)=some (.cells [.bool true] 4):=A9.at ch (hbe _ _) (nl _ _ _ _ M4.look.c4 (by intros;simp[Bv])) (by simp;omega)
  rw[cellres h5 true g45]
  exact .ret ⟨rfl,(kend _ _).Ay9 ch fun i hi=>by rw[List.mem_singleton]at hi;omega,ch.hb (hbe _ _)⟩
 | false=>
  rw[hf]at M4
  refine .inl ⟨M4.look.lp,?_⟩
  simp only[Lk]
  refine Ok.st1 (nl _ _ _ _ M4.look.c4 (by intros;simp[Bv])) rfl rfl (by show 0<1;decide) ?_
  have lt4:h0.next+1<(h4.put (h1.next+1) (Bv TT 49 14 0 tm .exhausted none h1.next)).next:=M4.look.hb _ _ M4.look.c4
  have hb5:HB ((h4.put (h1.next+1) (Bv TT 49 14 0 tm .exhausted none h1.next)).put (h0.next+1) (.cells ([EV.bool false].set 0 (.bool false)) 4)):=(hbe _ _).put lt4 _
  refine Ok.unwind (List.nodup_cons.2 ⟨by simp,List.nodup_nil⟩) (fun d hd=>by rw[List.mem_singleton]at hd;subst hd;rw[As _ (by omega)];exact nl _ _ _ _ M4.cd (by intros;simp[Bv])) hb5 fun h5 ch hn5=>?_
  have g45:h5.get (h0.next+1)=some (.cells [.bool false] 4):=A9.at ch hb5 (Aj _ _ _) (by simp;omega)
  rw[cellres h5 false g45]
  exact .ret ⟨rfl,((kend _ _).A5 (by omega) lt4 _).Ay9 ch fun i hi=>by rw[List.mem_singleton]at hi;omega,ch.hb hb5⟩
end
end Go.Ev

namespace Go.Ev
open Go.Proofs
set_option maxRecDepth 10000
variable {disp:Nat->Option FT}{K:Nat}
def E6(g:Gm)(z:Int):Int:=if z<0\/g.D*g.Z<=z then -1 else z / g.Z
theorem R8 {g:Gm}(s:Sm g)(z:Int)(hz : -9223372036854775808<=z/\z<=9223372036854775807)(h:Aa):Ok (F2 K (gV g) (I z) h) fun v h'=>v=I (E6 g z)/\Ext h h':=by
 have:=s.d0;have:=s.d1;have:=s.z0;have:=s.z1
 obtain⟨m0,m1⟩:=X2 (a:=g.D) (b:=g.Z) (A:=8) (B:=64) (by omega) (by omega) (by omega) (by omega)
 simp only[F2,gV,Ab,I,Ai]
 have hg:(h.new (.cells (gL g) 23)).get h.next=some (.cells (gL g) 23):=Ag _ _
 have hn:h.next<(h.new (.cells (gL g) 23)).next:=Nat.lt_succ_self _
 have hx:Ext h (h.new (.cells (gL g) 23)):=A9.new _ _
 generalize h.new (.cells (gL g) 23)=ha at hg hn hx ⊢
 unfold E6
 by_cases h1:z<0
 ·simp only[h1,decide_true,Ab,Ai,K8]
  exact .ret ⟨by rw[if_pos (.inl trivial)],hx⟩
 ·simp only[h1,decide_false,Ab,Ai,Fy hg rfl,A3 (show (gL g).length=6 from rfl)]
  rw[show EV.agg (gL g)=gV g from rfl,Y9 s,Bg]
  simp only[I,Ai,K8]
  by_cases h2:g.D*g.Z<=z
  ·simp only[h2,decide_true,Ab]
   exact .ret ⟨by rw[if_pos (.inr trivial)],hx.Fp _⟩
  ·have hg2:(ha.new (.cells (gL g) 23)).get h.next=some (.cells (gL g) 23):=by rw[Bd _ hn];exact hg
   have hx2:Ext h (ha.new (.cells (gL g) 23)):=hx.Fp _
   generalize ha.new (.cells (gL g) 23)=hc at hg2 hx2 ⊢
   simp only[h2,decide_false,Ab,V1,Ck hg2 rfl,gL,I]
   rw[A7f (by omega) (by omega) (by omega)]
   exact .ret ⟨by rw[if_neg (by rintro(x|x) <;> exact x)],hx2⟩
def upd(ps:Nat->List Int)(d:Nat)(l:List Int):Nat->List Int:=fun e=>if e=d then l else ps e
def Akz(n:Nat)(c:Nat->Nat):Nat->Prop:=fun x=>∃ d,d<n/\x=c d
def Au2:C7->Prop
 | .chan ..=>False
 | _=>True
theorem Ei.Bar {h:Aa}{p ql n:Nat}{q c:Nat->Nat}{g:Gm}{ps:Nat->List Int}(P:Ei h p ql n q c g ps){b:Nat}{o:C7}(gb:h.get b=some o)(ho:Au2 o):¬ Akz n c b:=by
 rintro⟨d,hd,rfl⟩
 rw[P.chan d hd]at gb;cases gb;exact ho
theorem Ei.put {h:Aa}{p ql n:Nat}{q c:Nat->Nat}{g:Gm}{ps:Nat->List Int}(P:Ei h p ql n q c g ps){d:Nat}(hd:d<n)(l:List Int):Ei (h.put (c d) (.chan g.Z.toNat (l.map I))) p ql n q c g (upd ps d l):=by
 have ne:∀ b o,h.get b=some o->Au2 o->(h.put (c d) (.chan g.Z.toNat (l.map I))).get b=some o:=fun b o gb ho=>by
  rw[As _ (fun e=>P.Bar gb ho ⟨d,hd,e.symm⟩)];exact gb
 refine⟨P.pos,ne _ _ P.G3 trivial,ne _ _ P.row trivial,fun e he=>ne _ _ (P.que e he) trivial,fun e he=>?_,P.inj⟩
 unfold upd
 by_cases hed:e=d
 ·subst hed;rw[if_pos rfl];exact Aj _ _ _
 ·rw[if_neg hed,As _ (fun x=>hed (P.inj _ _ he hd x.symm))];exact P.chan e he
theorem Ei.kp {h h':Aa}{S:Nat->Prop}{p ql n:Nat}{q c:Nat->Nat}{g:Gm}{ps:Nat->List Int}(P:Ei h p ql n q c g ps)(hb:HB h)(k:Kp S h h'):Ei h' p ql n q c g ps:=P.ext fun i o g=>k.at hb g
structure Om(n:Nat)(g:Gm)(ps:Nat->List Int):Prop where
 nd:n=g.D.toNat
 sm:Sm g
 cap:∀ d,d<n->(ps d).length<=g.Z.toNat
theorem Om.bd {n:Nat}{g:Gm}{ps:Nat->List Int}(z:Om n g ps):n<=8/\g.Z<=64/\(n:Int)=g.D:=by
 have:=z.nd;have:=z.sm.d0;have:=z.sm.d1;have:=z.sm.z1;omega
theorem Om.small {n:Nat}{g:Gm}{ps:Nat->List Int}(z:Om n g ps):A0a n ps:=by
 obtain⟨a,b,_⟩:=z.bd
 exact⟨by omega,fun d hd=>by have:=z.cap d hd;omega⟩
theorem Om.upd {n:Nat}{g:Gm}{ps:Nat->List Int}(z:Om n g ps){d:Nat}{l:List Int}(hl:l.length<=g.Z.toNat):Om n g (upd ps d l):=
 ⟨z.nd,z.sm,fun e he=>by unfold Ev.upd;split;exact hl;exact z.cap e he⟩
def Adr(g:Gm)(n:Nat)(ps:Nat->List Int)(z:Int):Int × (Nat->List Int):=
 if E6 g z<0 then (13,ps) else if hasB ps n z then (16,ps) else
  if (ps (E6 g z).toNat).length<g.Z.toNat then (0,upd ps (E6 g z).toNat (ps (E6 g z).toNat++[z])) else (17,ps)
theorem Y5 {g:Gm}(s:Sm g)(z:Int):E6 g z = -1\/(0<=E6 g z/\E6 g z<g.D/\E6 g z=z / g.Z/\0<=z/\z<g.D*g.Z):=by
 have:=s.z0
 unfold E6
 split
 ·exact .inl rfl
 ·refine .inr ⟨Int.ediv_nonneg (by omega) (by omega),Int.ediv_lt_of_lt_mul (by omega) (by omega),rfl,by omega,by omega⟩
section
variable (H:Aq disp){h:Aa}{p ql n:Nat}{q c:Nat->Nat}{g:Gm}{ps:Nat->List Int}(P:Ei h p ql n q c g ps)(hb:HB h)(Z:Om n g ps)(hK:5000<K)
include P hb Z hK
theorem A2e(d:Int):Ok (Oc K (.ptr p 0) (I d) h) fun v h'=>A9 (Akz n c) h h'/\HB h'/\∃ x e ps',v=.tuple [I x,I e]/\Ei h' p ql n q c g ps'/\Om n g ps' /\
 ((d<0\/(n:Int)<=d)/\x=0/\e=13/\ps'=ps\/(0<=d/\d<n/\ps d.toNat = []/\x=0/\e=15/\ps'=ps)\/(0<=d/\d<n/\e=0/\∃ r,ps d.toNat=x::r/\ps'=upd ps d.toNat r)):=by
 simp only[Oc,I,Ai,Ab]
 by_cases h1:d<0
 ·simp only[h1,decide_true,Ab,Ai,Nx]
  exact .ret ⟨A9.refl _,hb,0,13,ps,rfl,P,Z,.inl ⟨.inl trivial,rfl,rfl,rfl⟩⟩
 ·simp only[h1,decide_false,Ab,Ai,P.list,Nx]
  by_cases h2:(n:Int)<=d
  ·simp only[h2,decide_true,Ab]
   exact .ret ⟨A9.refl _,hb,0,13,ps,rfl,P,Z,.inl ⟨.inr trivial,rfl,rfl,rfl⟩⟩
  ·obtain⟨d,rfl⟩:=Int.eq_ofNat_of_zero_le (show 0<=d by omega)
   have hd:d<n:=by omega
   simp only[h2,decide_false,Ab,Zx,P.list]
   rw[P.rowAt.ix hd]
   simp only[P.Awr hd]
   cases hl:ps d with
   | nil=>
    rw[take_nil (P.que _ hd) (P.chan _ hd) hl]
    simp only[Ab]
    exact .ret ⟨A9.refl _,hb,0,15,ps,rfl,P,Z,.inr (.inl ⟨by omega,by omega,hl,rfl,rfl,rfl⟩)⟩
   | cons x r=>
    rw[take_cons (P.que _ hd) (P.chan _ hd) hl]
    simp only[Ab]
    have lt:=hb _ _ (P.chan _ hd)
    refine .ret ⟨(A9.refl h).A5 (.inl ⟨_,hd,rfl⟩) lt _,hb.put lt _,x,0,upd ps d r,rfl,P.put hd r,Z.upd ?_,.inr (.inr ⟨by omega,by omega,rfl,r,hl,rfl⟩)⟩
    have:=Z.cap _ hd;rw[hl]at this;simp at this;omega
include H
theorem A1l {d:Nat}(hd:8<=d)(z:Int)(hz : -9223372036854775808<=z/\z<=9223372036854775807):Ok (Ad TT disp K d false 15 [.ptr p 0,I z] h) fun v h'=>A9 (Akz n c) h h'/\HB h'/\v=I (Adr g n ps z).1/\Ei h' p ql n q c g (Adr g n ps z).2/\Om n g (Adr g n ps z).2:=by
 obtain⟨e,rfl⟩:∃ k,d=k+1:=⟨d-1,by omega⟩
 obtain⟨b1,b2,b3⟩:=Z.bd
 rw[Ah7 H (by omega)]
 simp only[Afa,Ab,P.A24]
 refine(R8 Z.sm z hz h).Al ?_
 rintro _ h1 ⟨rfl,x1⟩
 have hb1:=x1.hb hb
 have P1:=P.ext fun i o g=>x1.at hb g
 simp only[I,Ai]
 unfold Adr
 rcases Y5 Z.sm z with hdm|⟨d0,d1,d2,d3,d4⟩
 ·rw[hdm]
  simp only[show (-1:Int)<0 by decide,decide_true,Ab,if_true]
  exact .ret ⟨Ext.to x1,hb1,rfl,P1,Z⟩
 ·have hnn:¬ E6 g z<0:=by omega
  simp only[hnn,decide_false,Ab,if_false]
  refine(Bf5 (K:=K) H P1 hb1 Z.cap (by omega) (by omega) (d:=e) (by omega) hK z).Al ?_
  rintro _ h2 ⟨rfl,k2,hb2⟩
  have P2:=P1.kp hb1 k2
  have ch2:A9 (Akz n c) h h2:=(Ext.to x1).trans k2.chg
  cases hf:hasB ps n z with
  | true=>
   simp only[Ab,if_true]
   exact .ret ⟨ch2,hb2,rfl,P2,Z⟩
  | false=>
   have hdn:(E6 g z).toNat<n:=by omega
   simp only[Ab,Zz,P2.list]
   rw[show E6 g z=((E6 g z).toNat:Int) by omega,P2.rowAt.ix hdn]
   simp only[P2.Awr hdn,Int.toNat_natCast]
   have lt:=hb2 _ _ (P2.chan _ hdn)
   by_cases hl:(ps (E6 g z).toNat).length<g.Z.toNat
   ·rw[Avw (P2.que _ hdn) (P2.chan _ hdn) z hl,Bg]
    rw[if_pos hl]
    refine .ret ⟨ch2.A5 (.inl ⟨_,hdn,rfl⟩) lt _,hb2.put lt _,rfl,P2.put hdn _,Z.upd ?_⟩
    rw[List.length_append];simp;omega
   ·rw[Bgh (P2.que _ hdn) (P2.chan _ hdn) z (by omega),Bg]
    rw[if_neg hl]
    exact .ret ⟨ch2,hb2,rfl,P2,Z⟩
end
end Go.Ev

namespace Go.Ev
open Go.Proofs
set_option maxRecDepth 10000
variable {disp:Nat->Option FT}{K:Nat}
def Ov(z:Int)(xs:List Int):List Int:=xs.filter fun x=>decide (¬ x=z)
theorem A7d(z x:Int)(r:List Int):Ov z (x::r)=(if x=z then [] else [x])++Ov z r:=by
 unfold Ov;rw[List.filter_cons];by_cases h:x=z <;> simp[h]
theorem A0g(z:Int)(a b:List Int):Ov z (a++b)=Ov z a++Ov z b:=List.filter_append ..
theorem A14(z:Int)(xs:List Int):(Ov z xs).length<=xs.length:=List.length_filter_le _ _
section
variable (H:Aq disp)(hK:5000<K)
include H hK
theorem A36 {e:Nat}(he:1<=e){h0:Aa}{q c cap b3:Nat}{z:Int}{xs:List Int}(hq0:h0.get q=some (.cells [.chan c] 218))(hc0:∃ b,h0.get c=some (.chan cap b))(h30:h0.get b3=some (.cells [I z] 3))(hcap:xs.length<=cap)(hsm:cap<=4096)(hb0:HB h0):∀ (m i:Nat) (h:Aa),xs.length-i<m->i<=xs.length ->
 h.get c=some (.chan cap ((xs.drop i++Ov z (xs.take i)).map I))->A9 (fun j=>j=c) h0 h->HB h ->
 Ok (Ey (Ad TT disp K e false) (Ad TT disp K e true) K m (.ptr q 0) (.func 122 [] [.ptr b3 0]) (I ((i:Int)-(Ov z (xs.take i)).length)) (I xs.length) (I i) h) fun v h'=>v=I ((xs.length:Int)-(Ov z xs).length)/\h'.get c=some (.chan cap ((Ov z xs).map I))/\A9 (fun j=>j=c) h0 h'/\HB h':=by
 obtain⟨b0,hc0⟩:=hc0
 have hqc:q ≠ c:=Bt hq0 hc0 (by simp)
 have h3c:b3 ≠ c:=Bt h30 hc0 (by simp)
 have lc:=hb0 _ _ hc0
 intro m
 induction m with
 | zero=>intro i h hm;omega
 | succ m ih=>
  intro i h hm hi hc x hb
  simp only[Ey,I,Ai,Ab]
  by_cases hlt:(i:Int)<xs.length
  ·have hi':i<xs.length:=by omega
   have hq:h.get q=some (.cells [.chan c] 218):=A9.at x hb0 hq0 hqc
   have lc':c<h.next:=Nat.lt_of_lt_of_le lc x.next
   have ed:xs.drop i=xs[i]::xs.drop (i+1):=List.drop_eq_getElem_cons hi'
   have et:Ov z (xs.take (i+1))=Ov z (xs.take i)++(if xs[i]=z then [] else [xs[i]]):=by
    rw[List.take_succ_eq_append_getElem hi',A0g,A7d];simp[Ov]
   rw[ed,List.cons_append]at hc
   have bl:=A14 z (xs.take i)
   rw[List.length_take]at bl
   simp only[hlt,decide_true,Ab,Wt]
   rw[take_cons hq hc rfl]
   simp only[Ab,I,Ai,not_true_eq_false,decide_false,Vw]
   have x2:A9 (fun j=>j=c) h0 (h.put c (.chan cap ((xs.drop (i+1)++Ov z (xs.take i)).map I))):=x.A5 (.inl rfl) lc' _
   have hb2:HB (h.put c (.chan cap ((xs.drop (i+1)++Ov z (xs.take i)).map I))):=hb.put lc' _
   have hc2:(h.put c (.chan cap ((xs.drop (i+1)++Ov z (xs.take i)).map I))).get c=some (.chan cap ((xs.drop (i+1)++Ov z (xs.take i)).map I)):=Aj _ _ _
   have hn2:(h.put c (.chan cap ((xs.drop (i+1)++Ov z (xs.take i)).map I))).next=h.next:=rfl
   generalize h.put c (.chan cap ((xs.drop (i+1)++Ov z (xs.take i)).map I))=h2 at x2 hb2 hc2 hn2 ⊢
   have g3:h2.get b3=some (.cells [I z] 3):=A9.at x2 hb0 h30 h3c
   have hcall:U3 (Ad TT disp K e false) (Ad TT disp K e true) (.func 122 [] [.ptr b3 0]) [.int .i64 xs[i]] h2=some (.bool (decide (¬ xs[i]=z)),h2):=by
    show Ad TT disp K e false 122 [.int .i64 xs[i],.ptr b3 0] h2=_
    rw[Af3 H he]
    simp only[Abe,Ck g3 rfl,Ab,I,Ai]
   rw[hcall,Bg]
   by_cases hz:xs[i]=z
   ·rw[if_pos hz,List.append_nil]at et
    simp only[hz,not_true_eq_false,decide_false,Ab,Ai,K5]
    rw[C8 (n:=(i:Int)-(Ov z (xs.take i)).length+1) (by omega) (by omega),C8 (n:=(i:Int)+1) (by omega) (by omega)]
    have:=ih (i+1) h2 (by omega) (by omega) (by rw[et];exact hc2) x2 hb2
    rw[et]at this
    have e3:(i:Int)-(Ov z (xs.take i)).length+1=((i+1:Nat):Int)-(Ov z (xs.take i)).length:=by omega
    rw[e3];exact this
   ·rw[if_neg hz]at et
    simp only[hz,not_false_eq_true,decide_true,Ab,Ai,Wo]
    have hq2:h2.get q=some (.cells [.chan c] 218):=A9.at x2 hb0 hq0 hqc
    rw[show EV.int .i64 xs[i]=I xs[i] from rfl,Avw hq2 hc2 xs[i] (by rw[List.length_append,List.length_drop];omega),Bg]
    simp only[K5,Ai]
    rw[C8 (n:=(i:Int)+1) (by omega) (by omega)]
    have:=ih (i+1) (h2.put c (.chan cap ((xs.drop (i+1)++Ov z (xs.take i)++[xs[i]]).map I))) (by omega) (by omega) (by rw[et,<-List.append_assoc];exact Aj _ _ _) (x2.A5 (.inl rfl) (by omega) _) (hb2.put (by omega) _)
    rw[et,List.length_append]at this
    have e3:(i:Int)-(Ov z (xs.take i)).length=((i+1:Nat):Int)-((Ov z (xs.take i)).length+[xs[i]].length:Nat):=by simp;omega
    rw[e3];exact this
  ·have:i=xs.length:=by omega
   subst this
   rw[List.drop_length,List.nil_append,List.take_length]at hc
   rw[List.take_length]
   simp only[hlt,decide_false,Ab,K7]
   exact .ret ⟨rfl,hc,x,hb⟩
theorem Bcr {h:Aa}{p ql n:Nat}{q c:Nat->Nat}{g:Gm}{ps:Nat->List Int}(P:Ei h p ql n q c g ps)(hb:HB h)(Z:Om n g ps){d:Nat}(hd:4<=d)(z:Int)(hz : -9223372036854775808<=z/\z<=9223372036854775807):
 Ok (Ad TT disp K d false 69 [.ptr p 0,I z] h) fun v h'=>(∃ e,v=I e)/\A9 (Akz n c) h h'/\HB h'/\Ei h' p ql n q c g (if E6 g z<0 then ps else upd ps (E6 g z).toNat (Ov z (ps (E6 g z).toNat)))/\Om n g (if E6 g z<0 then ps else upd ps (E6 g z).toNat (Ov z (ps (E6 g z).toNat))):=by
 obtain⟨e,rfl⟩:∃ k,d=k+2:=⟨d-2,by omega⟩
 obtain⟨b1,b2,b3⟩:=Z.bd
 rw[Aik H (by omega)]
 simp only[Afh,I,Ab]
 have x1:Ext h (h.new (.cells [.int .i64 z] 3)):=A9.new _ _
 have g3:(h.new (.cells [.int .i64 z] 3)).get h.next=some (.cells [I z] 3):=Ag _ _
 have n1:(h.new (.cells [.int .i64 z] 3)).next=h.next+1:=rfl
 generalize h.new (.cells [.int .i64 z] 3)=h1 at x1 g3 n1 ⊢
 have hb1:=x1.hb hb
 have P1:=P.ext fun i o g=>x1.at hb g
 have lp:=hb1 _ _ P1.G3
 have l3:=hb1 _ _ g3
 simp only[Ab,Bz,A4 lp,A4 l3,P1.A24,Ck g3 rfl]
 refine Ok.Cs (by kernel_rfl) (by kernel_rfl) (R8 Z.sm z hz _) (fun _ _ p=>p.2) ?_
 rintro _ _ h2 ⟨rfl,_⟩ _ x2
 have hb2:=x2.hb hb1
 have P2:=P1.ext fun i o g=>x2.at hb1 g
 have x02:=x1.trans x2
 simp only[I,Ai]
 rcases Y5 Z.sm z with hdm|⟨d0,d1,d2,d3,d4⟩
 ·rw[hdm]
  simp only[show (-1:Int)<0 by decide,decide_true,Ab,Ai,if_true,Kq]
  exact .ret ⟨⟨15,rfl⟩,Ext.to x02,hb2,P2,Z⟩
 ·have hnn:¬ E6 g z<0:=by omega
  simp only[hnn,decide_false,Ab,Ai,if_false,P2.list]
  generalize hdd:E6 g z=dm at d0 d1 hnn
  obtain⟨dn,rfl⟩:=Int.eq_ofNat_of_zero_le d0
  have hdn:dn<n:=by omega
  rw[P2.rowAt.ix hdn]
  simp only[P2.Awr hdn,Int.toNat_natCast]
  rw[Afz H (by omega)]
  simp only[Abo]
  rw[P2.len hdn,Bg]
  have hcc:=P2.chan _ hdn
  have:=A36 (K:=K) H hK (e:=e) (by omega) (z:=z) (xs:=ps dn) (P2.que _ hdn) ⟨_,hcc⟩ (x2.at hb1 g3) (Z.cap _ hdn) (by omega) hb2 K 0 h2 (by have:=Z.cap _ hdn;omega) (by omega) (by rw[List.drop_zero,List.take_zero,show Ov z [] = [] from rfl,List.append_nil];exact hcc) (A9.refl _) hb2
  refine Ok.Al (P:=fun v h'=>v=I (((ps dn).length:Int)-(Ov z (ps dn)).length)/\h'.get (c dn)=some (.chan g.Z.toNat ((Ov z (ps dn)).map I))/\A9 (fun j=>j=c dn) h2 h'/\HB h') this ?_
  rintro _ h3 ⟨rfl,hc3,x3,hb3⟩
  simp only[Ai,I]
  have ch:A9 (Akz n c) h h3:=(Ext.to x02).trans (x3.mono fun i hi=>⟨dn,hdn,hi⟩)
  have P3:Ei h3 p ql n q c g (upd ps dn (Ov z (ps dn))):=by
   have ne:∀ b o,h2.get b=some o->Au2 o->h3.get b=some o:=fun b o gb ho=>A9.at x3 hb2 gb fun e=>P2.Bar gb ho ⟨dn,hdn,e⟩
   refine⟨P2.pos,ne _ _ P2.G3 trivial,ne _ _ P2.row trivial,fun e he=>ne _ _ (P2.que e he) trivial,fun e he=>?_,P2.inj⟩
   unfold upd
   by_cases hed:e=dn
   ·subst hed;rw[if_pos rfl];exact hc3
   ·rw[if_neg hed];exact A9.at x3 hb2 (P2.chan e he) fun y=>hed (P2.inj _ _ he hdn y)
  have Z3:Om n g (upd ps dn (Ov z (ps dn))):=Z.upd (Nat.le_trans (A14 _ _) (Z.cap _ hdn))
  by_cases h0:((ps dn).length:Int)-(Ov z (ps dn)).length=0
  ·simp only[h0,decide_true,Kq,Ab]
   exact .ret ⟨⟨15,rfl⟩,ch,hb3,P3,Z3⟩
  ·simp only[h0,decide_false,Kq,Ab,Zu]
   exact .ret ⟨⟨0,rfl⟩,ch,hb3,P3,Z3⟩
end
theorem Al4(ps:Nat->List Int)(b:Int):∀ n,(E8 ps b n = -1/\∀ d:Nat,d<n->(d:Int)=b)\/(0<=E8 ps b n/\E8 ps b n<n/\¬ E8 ps b n=b/\∀ d:Nat,d<n->(d:Int)=b\/(ps d).length<=(ps (E8 ps b n).toNat).length)
 | 0=>.inl ⟨rfl,fun d hd=>absurd hd (Nat.not_lt_zero _)⟩
 | n+1=>by
  have ih:=Al4 ps b n
  rw[Ait]
  unfold Axp
  rcases ih with ⟨a1,a2⟩|⟨a1,a2,a3,a4⟩
  ·by_cases hb:(n:Int)=b
   ·rw[if_neg (fun x=>x.1 hb)]
    exact .inl ⟨a1,fun d hd=>by rcases Nat.lt_succ_iff_lt_or_eq.1 hd with h|h;exact a2 d h;subst h;exact hb⟩
   ·rw[if_pos ⟨hb,.inl (by omega)⟩]
    refine .inr ⟨by omega,by omega,hb,fun d hd=>?_⟩
    rcases Nat.lt_succ_iff_lt_or_eq.1 hd with h|h
    ·exact .inl (a2 d h)
    ·subst h;exact .inr (by simp)
  ·by_cases hc:¬ (n:Int)=b/\(E8 ps b n<0\/(ps (E8 ps b n).toNat).length<(ps n).length)
   ·rw[if_pos hc]
    refine .inr ⟨by omega,by omega,hc.1,fun d hd=>?_⟩
    rcases Nat.lt_succ_iff_lt_or_eq.1 hd with h|h
    ·rcases a4 d h with y|y
     ·exact .inl y
     ·refine .inr ?_
      rcases hc.2 with z|z
      ·omega
      ·simp only[Int.toNat_natCast];omega
    ·subst h;exact .inr (by simp)
   ·rw[if_neg hc]
    refine .inr ⟨a1,by omega,a3,fun d hd=>?_⟩
    rcases Nat.lt_succ_iff_lt_or_eq.1 hd with h|h
    ·exact a4 d h
    ·subst h
     by_cases hb:(d:Int)=b
     ·exact .inl hb
     ·exact .inr (by have:¬ (ps (E8 ps b d).toNat).length<(ps d).length:=fun y=>hc ⟨hb,.inr y⟩;omega)
theorem A2h {ps:Nat->List Int}{a:Nat}:∀ n,(∀ d,d<n->d=a\/ps d = [])->Afl ps n<=(ps a).length
 | 0,_=>by unfold Afl;simp
 | n+1,h=>by
  rw[Abc]
  rcases h n (Nat.lt_succ_self _) with e|e
  ·subst e
   have:Afl ps n=0:=by
    have:∀ k,k<=n->Afl ps k=0:=by
     intro k hk
     induction k with
     | zero=>rfl
     | succ k ih=>
      rw[Abc,ih (by omega)]
      rcases h k (by omega) with e|e
      ·omega
      ·rw[e];rfl
    exact this n (Nat.le_refl _)
   omega
  ·rw[e];have:=A2h (a:=a) n fun d hd=>h d (Nat.lt_succ_of_lt hd);simp;omega
theorem As7 {ps:Nat->List Int}{n:Nat}(h:Vs ps n ≠ 0)(hp:0<=Vs ps n):∃ a b:Nat,E8 ps (-1) n=a/\E8 ps a n=b/\a<n/\b<n/\a ≠ b/\ps a ≠ []/\ps b ≠ []:=by
 have hpos:0<Vs ps n:=by omega
 unfold Vs at hpos
 rw[Int.lt_min]at hpos
 obtain⟨p1,p2⟩:=hpos
 rcases Al4 ps (-1) n with ⟨a1,a2⟩|⟨a1,a2,_,a4⟩
 ·have:n=0:=by
   cases n with
   | zero=>rfl
   | succ n=>have:=a2 0 (by omega);omega
  subst this
  unfold Afl at p1;simp at p1
 ·obtain⟨a,ha⟩:=Int.eq_ofNat_of_zero_le a1
  rw[ha]at a2 a4 p2
  have han:a<n:=by omega
  have e1:Akr ps n a=(ps a).length:=by unfold Akr;rw[if_pos (by omega)];rfl
  rw[e1]at p2
  have hex:∃ d,d<n/\d ≠ a/\ps d ≠ []:=by
   apply Classical.byContradiction
   intro hno
   have:=A2h (ps:=ps) (a:=a) n fun d hd=>by
    by_cases hda:d=a
    ·exact .inl hda
    ·refine .inr (Classical.byContradiction fun hne=>hno ⟨d,hd,hda,hne⟩)
   omega
  obtain⟨d,hd,hda,hne⟩:=hex
  have ha0:ps a ≠ []:=fun e=>by
   rcases a4 d hd with y|y
   ·omega
   ·rw[Int.toNat_natCast,e]at y;exact hne (List.length_eq_zero_iff.1 (by simpa using y))
  rcases Al4 ps a n with ⟨b1,b2⟩|⟨b1,b2,b3,b4⟩
  ·have:=b2 d hd;omega
  ·obtain⟨b,hbb⟩:=Int.eq_ofNat_of_zero_le b1
   rw[hbb]at b2 b3 b4
   refine⟨a,b,ha,hbb,han,by omega,by omega,ha0,fun e=>?_⟩
   rcases b4 d hd with y|y
   ·omega
   ·rw[Int.toNat_natCast,e]at y;exact hne (List.length_eq_zero_iff.1 (by simpa using y))
theorem Ahl {ps:Nat->List Int}{n:Nat}:0<=Vs ps n:=by
 unfold Vs
 have:Akr ps n (E8 ps (-1) n)<=Afl ps n:=by
  unfold Akr
  split
  ·rename_i h
   have:∀ m d,d<m->(ps d).length<=Afl ps m:=by
    intro m
    induction m with
    | zero=>intro d hd;omega
    | succ m ih=>
     intro d hd
     rw[Abc]
     rcases Nat.lt_succ_iff_lt_or_eq.1 hd with h|h
     ·have:=ih d h;omega
     ·subst h;omega
   exact this n _ (by omega)
  ·omega
 omega
section
variable {h:Aa}{p ql n:Nat}{q c:Nat->Nat}{g:Gm}{ps:Nat->List Int}(P:Ei h p ql n q c g ps)(hb:HB h)(Z:Om n g ps)(hK:5000<K)
include P hb Z hK
theorem Bay:Ok (R6 K (.ptr p 0) h) fun v h'=>A9 (Akz n c) h h'/\HB h'/\((Vs ps n=0/\v=.tuple [I 0,I 0,I 15]/\Ei h' p ql n q c g ps) \/
 ∃ (a b:Nat) (x y:Int) (r s:List Int),¬ Vs ps n=0/\E8 ps (-1) n=a/\E8 ps a n=b/\a<n/\b<n/\a ≠ b/\ps a=x::r/\ps b=y::s/\v=.tuple [I x,I y,I 0]/\Ei h' p ql n q c g (upd (upd ps a r) b s)/\Om n g (upd (upd ps a r) b s)):=by
 obtain⟨b1,b2,b3⟩:=Z.bd
 simp only[R6]
 refine(A9s P hb Z.small (by omega)).Al ?_
 rintro _ h1 ⟨rfl,x1⟩
 have hb1:=x1.hb hb
 have P1:=P.ext fun i o g=>x1.at hb g
 simp only[I,Ai]
 by_cases hp:Vs ps n=0
 ·simp only[hp,decide_true,Ab]
  exact .ret ⟨Ext.to x1,hb1,.inl ⟨trivial,rfl,P1⟩⟩
 ·simp only[hp,decide_false,Ab,Z6]
  obtain⟨a,b,ha,hbb,han,hbn,hab,ha0,hb0⟩:=As7 hp Ahl
  refine(Aht P1 hb1 (by omega) (by omega) (-1)).Al ?_
  rintro _ h2 ⟨rfl,x2⟩
  have hb2:=x2.hb hb1
  have P2:=P1.ext fun i o g=>x2.at hb1 g
  rw[ha]
  refine(Aht P2 hb2 (by omega) (by omega) a).Al ?_
  rintro _ h3 ⟨rfl,x3⟩
  have hb3:=x3.hb hb2
  have P3:=P2.ext fun i o g=>x3.at hb2 g
  rw[hbb]
  refine(A2e P3 hb3 Z hK a).Al ?_
  rintro _ h4 ⟨c4,hb4,x,e,ps',rfl,P4,Z4,hh⟩
  have hx:e=0/\∃ r,ps a=x::r/\ps'=upd ps a r:=by
   rcases hh with ⟨y,_⟩|⟨_,_,y,_⟩|⟨_,_,y,z⟩
   ·omega
   ·rw[Int.toNat_natCast]at y;exact absurd y ha0
   ·rw[Int.toNat_natCast]at z;exact⟨y,z⟩
  obtain⟨rfl,r,har,rfl⟩:=hx
  simp only[Ab]
  refine(A2e P4 hb4 Z4 hK b).Al ?_
  rintro _ h5 ⟨c5,hb5,y,e,ps',rfl,P5,Z5,hh⟩
  have eb:upd ps a r b=ps b:=by unfold upd;rw[if_neg (Ne.symm hab)]
  have hy:e=0/\∃ s,ps b=y::s/\ps'=upd (upd ps a r) b s:=by
   rcases hh with ⟨w,_⟩|⟨_,_,w,_⟩|⟨_,_,w,z⟩
   ·omega
   ·rw[Int.toNat_natCast,eb]at w;exact absurd w hb0
   ·rw[Int.toNat_natCast,eb]at z;exact⟨w,z⟩
  obtain⟨rfl,s,hbs,rfl⟩:=hy
  simp only[Ab,I,Ai,not_true_eq_false,decide_false,Y7]
  refine .ret ⟨(Ext.to (x1.trans (x2.trans x3))).trans (c4.trans c5),hb5,.inr ⟨a,b,x,y,r,s,not_false,rfl,hbb,han,hbn,hab,har,hbs,rfl,P5,Z5⟩⟩
end
end Go.Ev

namespace Go.Ev
open Go.Proofs
set_option maxRecDepth 100000
variable {K:Nat}
def Ju(st:Nat):Int:=if st=4 then 32 else if st=3 then 30 else 0
theorem Aaf {h:Aa}{z q:Nat}{size:Int}{Z:Zn}(zz:Eo h z q size Z):Cn K (.ptr z 0) h=some (I Z.st,h):=by
 obtain⟨s,g,_⟩:=zz.A7
 simp only[Cn,Ab,Ck g rfl]
theorem Awx {h:Aa}{z q:Nat}{size:Int}{Z:Zn}(zz:Eo h z q size Z):Hp K (.ptr z 0) h=some (I Z.l.length,h):=by
 obtain⟨s,g,r⟩:=zz.A7
 simp only[Hp,Ab,Ck g rfl,r.E9]
theorem Rm {h:Aa}{z q:Nat}{size:Int}{Z:Zn}(zz:Eo h z q size Z):Dd K (.ptr z 0) h=some (I (Ju Z.st),h):=by
 obtain⟨s,g,_⟩:=zz.A7
 simp only[Dd,Ab,Ck g rfl,I,Ai]
 unfold Ju
 by_cases h4:Z.st=4
 ·have:decide ((Z.st:Int)=4)=true:=by simp[h4]
  rw[this,if_pos h4];simp only[Ab]
 ·have a:decide ((Z.st:Int)=4)=false:=by simp;omega
  rw[a,if_neg h4];simp only[Ab,Ai]
  by_cases h3:Z.st=3
  ·have:decide ((Z.st:Int)=3)=true:=by simp[h3]
   rw[this,if_pos h3];simp only[Ab]
  ·have b:decide ((Z.st:Int)=3)=false:=by simp;omega
   rw[b,if_neg h3];simp only[Ab,Ai,Ku]
theorem Eo.ext {h h':Aa}{z q:Nat}{size:Int}{Z:Zn}(d:Eo h z q size Z)(g:∀ i o,h.get i=some o->h'.get i=some o):Eo h' z q size Z:=by
 obtain⟨s,a,b⟩:=d.A7
 exact⟨⟨s,g _ _ a,b.frame fun hl=>by rw[g _ _ (b.block hl),b.block hl]⟩,d.wf⟩
def Zn.app(Z:Zn)(size:Nat)(x:List EV):Zn:=⟨Z.l++[x],Z.safe,if Z.l.length+1=size then 2 else 1,Z.fin⟩
theorem Ap5 {h:Aa}{z q size:Nat}{Z:Zn}(zz:Eo h z q size Z)(hb:HB h)(hst:Z.st<2)(hl:Z.l.length<=64){x:List EV}(hx:x.length=64):
 Ok (Df K (.ptr z 0) (.agg x) h) fun v h'=>v=.tuple [I Z.l.length,I 0]/\(∃ q',Eo h' z q' size (Z.app size x)/\h.next<=q')/\A9 (fun i=>i=z\/(0<Z.l.length/\i=q)) h h'/\HB h':=by
 obtain⟨s,g,r⟩:=zz.A7
 simp only[Df,Ab]
 have x1:Ext h (h.new (.cells x 103)):=A9.new _ _
 have g3:(h.new (.cells x 103)).get h.next=some (.cells x 103):=Ag _ _
 have n1:(h.new (.cells x 103)).next=h.next+1:=rfl
 generalize h.new (.cells x 103)=h1 at x1 g3 n1 ⊢
 have hb1:=x1.hb hb
 have z1:Eo h1 z q size Z:=zz.ext fun i o g=>x1.at hb g
 have g1:=x1.at hb g
 have r1:Bu h1 s q 103 64 Z.l.length Z.l.flatten:=r.frame fun hl=>by rw[x1.at hb (r.block hl),r.block hl]
 rw[Rm z1,Bg]
 have hf:Ju Z.st=0:=by unfold Ju;rw[if_neg (by omega),if_neg (by omega)]
 rw[hf]
 have h2:¬ (Z.st:Int)=2:=by omega
 simp only[Ai,I,not_true_eq_false,decide_false,Ab,Ho,Ck g1 rfl,h2,Ko]
 have lz:=hb1 _ _ g1
 have l3:=hb1 _ _ g3
 simp only[Ab,Bz,A4 lz,A4 l3,Ck g1 rfl,Fy g3 rfl,A3 hx]
 rw[Zg (z:=List.replicate 64 (.int .u8 0)) rfl (by simp) (by exact hx) (by omega),Bg]
 have x2:Ext h1 (h1.new (.cells (EV.cells (.agg x)) 103)):=A9.new _ _
 have gx:(h1.new (.cells (EV.cells (.agg x)) 103)).get h1.next=some (.cells x 103):=Ag _ _
 have n2:(h1.new (.cells (EV.cells (.agg x)) 103)).next=h1.next+1:=rfl
 generalize h1.new (.cells (EV.cells (.agg x)) 103)=h2' at x2 gx n2 ⊢
 have hb2:=x2.hb hb1
 have g2:=x2.at hb1 g1
 have r2:Bu h2'.lift s q 103 64 Z.l.length Z.l.flatten:=(r1.frame (h':=h2') fun hl=>by rw[x2.at hb1 (r1.block hl),r1.block hl]).frame fun _=>Di _ _
 obtain⟨h3,e3,r3,n3,c3⟩:=Qe (x:=.slice h1.next 0 1 1 false) (n:=1) r2 rfl (by omega) (by omega) (by omega) (Xd (b:=h1.next) (by rw[Di];exact gx) hx) (by rw[hx])
 refine Ok.Anz (S:=fun i=>0<Z.l.length/\i=q) (by kernel_rfl) (by kernel_rfl) (fun _=>by kernel_rfl) (P:=fun v h'=>v=.slice h2'.lift.next 0 (Z.l.length+1) (Z.l.length+1) true/\h'=h3) ⟨_,_,e3,rfl,rfl⟩ (fun _ _ p=>by rw[p.2];exact c3) ?_
 rintro _ _ h4 s' ⟨rfl,rfl⟩ sm x4 hs'
 have hb4:=x4.hb hb2
 rw[Abf]at r3 n3
 rw[Abf]
 have hnz:¬ (0<Z.l.length/\z=q):=fun y=>by
  have:=r1.block y.1;exact Bt g1 this (by simp) y.2
 have g4:h4.get z=some (.cells [s,I size,I Z.safe,I Z.st,.bool Z.fin] 240):=A9.at x4 hb2 g2 hnz
 have r4:Bu h4 (.slice h2'.next 0 (Z.l.length+1) (Z.l.length+1) true) h2'.next 103 64 (Z.l.length+1) (Z.l.flatten++x):=r3.frame fun _=>sm.get _
 have lz4:z<h4.next:=hb4 _ _ g4
 try simp only[Ab]
 rw[O4 (by rcases hs' with rfl|⟨w,rfl,_⟩ <;> kernel_rfl)]
 refine Ok.st1 g4 rfl rfl (by show 0<5;decide) ?_
 refine Ok.st1 (Aj _ _ _) rfl rfl (by show 3<5;decide) ?_
 simp only[List.set,Ab]
 have hne:h2'.next ≠ z:=by have:=hb2 _ _ g2;omega
 have lz5:z<((h4.put z (.cells [EV.slice h2'.next 0 (Z.l.length+1) (Z.l.length+1) true,I size,I Z.safe,I Z.st,.bool Z.fin] 240)).put z (.cells [EV.slice h2'.next 0 (Z.l.length+1) (Z.l.length+1) true,I size,I Z.safe,.int .i64 1,.bool Z.fin] 240)).next:=lz4
 have hq:h.next<=h2'.next:=by omega
 have r5:∀ o1 o2,Bu ((h4.put z o1).put z o2) (.slice h2'.next 0 (Z.l.length+1) (Z.l.length+1) true) h2'.next 103 64 (Z.l.length+1) (Z.l.flatten++x):=fun o1 o2=>r4.frame fun _=>by rw[As _ (Ne.symm hne),As _ (Ne.symm hne)]
 have ch:∀ o1 o2,A9 (fun i=>i=z\/(0<Z.l.length/\i=q)) h ((h4.put z o1).put z o2):=fun o1 o2=>((((Ext.to (x1.trans x2)).trans (x4.mono fun i hi=>.inr hi)).A5 (.inl (.inl rfl)) lz4 _).A5 (.inl (.inl rfl)) lz4 _)
 have hbz:∀ o1 o2,HB ((h4.put z o1).put z o2):=fun o1 o2=>(hb4.put lz4 _).put lz4 _
 have gz:((h4.put z (.cells [EV.slice h2'.next 0 (Z.l.length+1) (Z.l.length+1) true,I size,I Z.safe,I Z.st,.bool Z.fin] 240)).put z (.cells [EV.slice h2'.next 0 (Z.l.length+1) (Z.l.length+1) true,I size,I Z.safe,.int .i64 1,.bool Z.fin] 240)).get z=some (.cells [EV.slice h2'.next 0 (Z.l.length+1) (Z.l.length+1) true,I size,I Z.safe,.int .i64 1,.bool Z.fin] 240):=Aj _ _ _
 have r5':=r5 (.cells [EV.slice h2'.next 0 (Z.l.length+1) (Z.l.length+1) true,I size,I Z.safe,I Z.st,.bool Z.fin] 240) (.cells [EV.slice h2'.next 0 (Z.l.length+1) (Z.l.length+1) true,I size,I Z.safe,.int .i64 1,.bool Z.fin] 240)
 have ch':=ch (.cells [EV.slice h2'.next 0 (Z.l.length+1) (Z.l.length+1) true,I size,I Z.safe,I Z.st,.bool Z.fin] 240) (.cells [EV.slice h2'.next 0 (Z.l.length+1) (Z.l.length+1) true,I size,I Z.safe,.int .i64 1,.bool Z.fin] 240)
 have hb5:=hbz (.cells [EV.slice h2'.next 0 (Z.l.length+1) (Z.l.length+1) true,I size,I Z.safe,I Z.st,.bool Z.fin] 240) (.cells [EV.slice h2'.next 0 (Z.l.length+1) (Z.l.length+1) true,I size,I Z.safe,.int .i64 1,.bool Z.fin] 240)
 generalize (h4.put z (.cells [EV.slice h2'.next 0 (Z.l.length+1) (Z.l.length+1) true,I size,I Z.safe,I Z.st,.bool Z.fin] 240)).put z (.cells [EV.slice h2'.next 0 (Z.l.length+1) (Z.l.length+1) true,I size,I Z.safe,.int .i64 1,.bool Z.fin] 240)=h5 at gz r5' ch' hb5 lz5 ⊢
 simp only[Ck gz rfl,Ab,I,Ai]
 have fin:∀ (st:Nat) (h6:Aa),st=(Z.app size x).st->h6.get z=some (.cells [EV.slice h2'.next 0 (Z.l.length+1) (Z.l.length+1) true,I size,I Z.safe,I st,.bool Z.fin] 240)->Bu h6 (.slice h2'.next 0 (Z.l.length+1) (Z.l.length+1) true) h2'.next 103 64 (Z.l.length+1) (Z.l.flatten++x)->A9 (fun i=>i=z\/(0<Z.l.length/\i=q)) h h6->HB h6 ->
  Ok (E2 K (.ptr z 0) h6) fun v h'=>v=.tuple [I Z.l.length,I 0]/\(∃ q',Eo h' z q' size (Z.app size x)/\h.next<=q')/\A9 (fun i=>i=z\/(0<Z.l.length/\i=q)) h h'/\HB h':=by
  rintro st h6 rfl g6 r6 c6 hb6
  simp only[E2,Ab,Ck g6 rfl,I,Ai]
  rw[C8 (by omega) (by omega),show ((Z.l.length+1:Nat):Int)-1=(Z.l.length:Int) by omega]
  refine .ret ⟨rfl,⟨h2'.next,⟨⟨_,g6,?_⟩,fun y hy=>by
   rcases List.mem_append.1 hy with hy|hy
   ·exact zz.wf y hy
   ·rw[List.mem_singleton.1 hy];exact hx⟩,hq⟩,c6,hb6⟩
  have e1:(Z.app size x).l.length=Z.l.length+1:=by simp[Zn.app]
  have e2:(Z.app size x).l.flatten=Z.l.flatten++x:=by simp[Zn.app]
  rw[e1,e2];exact r6
 by_cases hs:Z.l.length+1=size
 ·have:((Z.l.length+1:Nat):Int)=(size:Int):=by omega
  simp only[this,decide_true,Ab]
  refine Ok.st1 gz rfl rfl (by show 3<5;decide) ?_
  refine fin 2 _ (by simp[Zn.app,hs]) (Aj _ _ _) (r5'.frame fun _=>As _ (Ne.symm hne)) (ch'.A5 (.inl (.inl rfl)) lz5 _) (hb5.put lz5 _)
 ·have:¬ ((Z.l.length+1:Nat):Int)=(size:Int):=by omega
  simp only[this,decide_false,Ab]
  exact fin 1 _ (by simp[Zn.app,hs]) gz r5' ch' hb5
theorem Apv {h:Aa}{z q:Nat}{size:Int}{Z:Zn}(zz:Eo h z q size Z)(hb:HB h)(hst:2<=Z.st)(h4:Z.st<=4)(x:List EV):
 Ok (Df K (.ptr z 0) (.agg x) h) fun v h'=>v=.tuple [I 0,I (if Z.st=2 then 17 else Ju Z.st)]/\Ext h h':=by
 simp only[Df,Ab]
 have x1:Ext h (h.new (.cells x 103)):=A9.new _ _
 generalize h.new (.cells x 103)=h1 at x1 ⊢
 have z1:Eo h1 z q size Z:=zz.ext fun i o g=>x1.at hb g
 rw[Rm z1,Bg]
 obtain⟨s,g,_⟩:=z1.A7
 by_cases h2:Z.st=2
 ·have hf:Ju Z.st=0:=by unfold Ju;rw[if_neg (by omega),if_neg (by omega)]
  have h2':(Z.st:Int)=2:=by omega
  rw[hf]
  simp only[Ai,I,not_true_eq_false,decide_false,Ab,Ho,Ck g rfl,h2',decide_true,h2,if_true]
  exact .ret ⟨rfl,x1⟩
 ·have hf:¬ Ju Z.st=0:=by
   unfold Ju
   split
   ·decide
   ·split
    ·decide
    ·omega
  simp only[Ai,I,hf,not_false_eq_true,decide_true,Ab,h2,if_false]
  exact .ret ⟨rfl,x1⟩
end Go.Ev

namespace Go.Ev
open Go.Proofs
set_option maxRecDepth 100000
variable {K:Nat}
theorem Hs {h:Aa}{i t n:Nat}{l:List EV}{v:EV}(hg:h.get i=some (.cells l t))(hs:TT.size t=some n)(ha:TT.agg t=some true)(hl:l.length=n):Ct TT [.c (.ptr i 0) t,.v v] h=some (.tuple [.agg l,v],h):=by
 have hr:Hh h i 0 n=some l:=by
  unfold Hh;rw[hg];simp only;rw[<-T7];exact A3 hl
 unfold Ct
 simp only[Ao8,hs,hr,ha]
theorem Adg:TT.size 103=some 64/\TT.agg 103=some true:=⟨by kernel_rfl,by kernel_rfl⟩
def Pu:List EV:=List.replicate 64 (.int .u8 0)
theorem I6:Pu.length=64:=by simp[Pu]
theorem A90:∀ (l:List (List EV)) (j:Nat),(∀ x ∈ l,x.length=64)->j<l.length->∃ x,l[j]? = some x/\x.length=64/\Nf l.flatten (j*64) 64=some x:=by
 intro l
 induction l with
 | nil=>intro j _ hj;cases hj
 | cons y l ih=>
  intro j hw hj
  have hy:=hw y (List.mem_cons_self ..)
  cases j with
  | zero=>
   refine⟨y,rfl,hy,?_⟩
   rw[List.flatten_cons,Hx (by simp[hy]),Nat.zero_mul,List.drop_zero,List.take_append_of_le_length (by omega),List.take_of_length_le (by omega)]
  | succ j=>
   obtain⟨x,e1,e2,e3⟩:=ih j (fun x hx=>hw x (List.mem_cons_of_mem _ hx)) (by simpa using hj)
   refine⟨x,by simpa using e1,e2,?_⟩
   have hl:j*64+64<=l.flatten.length:=by
    rcases Nat.lt_or_ge l.flatten.length (j*64+64) with hlt|hge
    ·rw[T7]at e3
     exfalso
     have:(l.flatten.drop (j*64)).length<64:=by rw[List.length_drop];omega
     revert e3
     have hlen:l.flatten.length=l.length*64:=by
      clear ih hj e1 hlt this
      have hw':∀ x ∈ l,x.length=64:=fun x hx=>hw x (List.mem_cons_of_mem _ hx)
      clear hw
      induction l with
      | nil=>rfl
      | cons a l ih=>rw[List.flatten_cons,List.length_append,ih fun x hx=>hw' x (List.mem_cons_of_mem _ hx),hw' a (List.mem_cons_self ..),List.length_cons];omega
     have:j+1<=l.length:=by simp at hj;omega
     omega
    ·exact hge
   rw[Hx hl]at e3
   rw[List.flatten_cons,Hx (by rw[List.length_append];omega),show (j+1)*64=y.length+j*64 by omega,List.drop_append,<-e3,List.drop_of_length_le (by omega),List.nil_append]
   simp
def Zp(Z:Zn)(off:Int):List EV × Int:=if Z.st=4 then (Pu,32) else if 0<=off/\off<Z.l.length then ((Z.l[off.toNat]?).getD Pu,0) else (Pu,31)
theorem A3j {Z:Zn}(wf:∀ x ∈ Z.l,x.length=64)(off:Int):(Zp Z off).1.length=64:=by
 unfold Zp
 split
 ·exact I6
 ·split
  ·rename_i hc
   have:off.toNat<Z.l.length:=by omega
   rw[List.getElem?_eq_getElem this]
   exact wf _ (List.getElem_mem _)
  ·exact I6
theorem Aty {h:Aa}{z q:Nat}{size:Int}{Z:Zn}(zz:Eo h z q size Z)(hb:HB h)(off:Int):
 Ok (Hf K (.ptr z 0) (I off) h) fun v h'=>v=.tuple [.agg (Zp Z off).1,I (Zp Z off).2]/\Ext h h':=by
 simp only[Hf,Ab]
 have x1:Ext h ((h.new (.cells (List.replicate 64 (.int .u8 0)) 103)).new (.cells (List.replicate 64 (.int .u8 0)) 103)):=(A9.new _ _).Fp _
 have g4:((h.new (.cells (List.replicate 64 (.int .u8 0)) 103)).new (.cells (List.replicate 64 (.int .u8 0)) 103)).get h.next=some (.cells Pu 103):=by
  rw[Bd _ (Nat.lt_succ_self _)];exact Ag _ _
 have g6:((h.new (.cells (List.replicate 64 (.int .u8 0)) 103)).new (.cells (List.replicate 64 (.int .u8 0)) 103)).get (h.new (.cells (List.replicate 64 (.int .u8 0)) 103)).next=some (.cells Pu 103):=Ag _ _
 generalize hx6:(h.new (.cells (List.replicate 64 (.int .u8 0)) 103)).next=n6 at g6 ⊢
 generalize (h.new (.cells (List.replicate 64 (.int .u8 0)) 103)).new (.cells (List.replicate 64 (.int .u8 0)) 103)=h1 at x1 g4 g6 ⊢
 have hb1:=x1.hb hb
 have z1:Eo h1 z q size Z:=zz.ext fun i o g=>x1.at hb g
 obtain⟨s,g,r⟩:=z1.A7
 have l4:=hb1 _ _ g4
 have fin:∀ (l:List EV) (e:Int),l.length=64->(l,e)=Zp Z off->Ok (Dw 64 (.ptr h.next 0) (.agg l) h1 fun h=>Ct TT [.c (.ptr h.next 0) 103,.v (I e)] h) (fun v h'=>True)->True:=fun _ _ _ _ _=>trivial
 clear fin
 have fin:∀ (l:List EV) (e:Int) (kk:Aa->R),(∀ h',kk h'=Ct TT [.c (.ptr h.next 0) 103,.v (I e)] h')->l.length=64->(l,e)=Zp Z off->Ok (Dw 64 (.ptr h.next 0) (.agg l) h1 kk) fun v h'=>v=.tuple [.agg (Zp Z off).1,I (Zp Z off).2]/\Ext h h':=by
  intro l e kk hkk hl he
  refine Ok.st l g4 rfl (by rw[show EV.cells (.agg l)=l from rfl,B8,hl]) (Cb (by rw[I6];exact hl.symm)) ?_
  rw[hkk,Hs (Aj _ _ _) Adg.1 Adg.2 hl,<-he]
  exact .ret ⟨rfl,x1.A5 (.inr (Nat.le_refl _)) l4 _⟩
 simp only[Ck g rfl,Ab,I,Ai,Fy g6 rfl,A3 I6]
 by_cases h4:Z.st=4
 ·rw[show decide ((Z.st:Int)=4)=true by simp[h4]]
  simp only[Ab]
  exact fin Pu 32 _ (fun _=>rfl) I6 (by unfold Zp;rw[if_pos h4])
 ·rw[show decide ((Z.st:Int)=4)=false by simp;omega]
  simp only[Ab]
  by_cases h0:off<0
  ·simp only[h0,decide_true,Ab,F1,Fy g6 rfl,A3 I6]
   exact fin Pu 31 _ (fun _=>rfl) I6 (by unfold Zp;rw[if_neg h4,if_neg (by omega)])
  ·simp only[h0,decide_false,Ab,r.E9,Ai,F1]
   by_cases h5:(Z.l.length:Int)<=off
   ·simp only[h5,decide_true,Ab,Fy g6 rfl,A3 I6]
    exact fin Pu 31 _ (fun _=>rfl) I6 (by unfold Zp;rw[if_neg h4,if_neg (by omega)])
   ·simp only[h5,decide_false,Ab,Lr,Ck g rfl]
    have hj:off.toNat<Z.l.length:=by omega
    obtain⟨j,rfl⟩:∃ j:Nat,off=j:=⟨off.toNat,by omega⟩
    rw[show (j:Int).toNat=j from rfl]at hj
    obtain⟨x,f1,f2,f3⟩:=A90 Z.l j zz.wf hj
    rw[r.ix hj]
    simp only[Fy (r.block (by omega)) rfl,f3,Ab]
    refine fin x 0 _ (fun _=>rfl) f2 ?_
    unfold Zp;rw[if_neg h4,if_pos (by omega),show (j:Int).toNat=j from rfl,f1];rfl
theorem Eo.put {h:Aa}{z q:Nat}{size:Int}{Z:Zn}(zz:Eo h z q size Z){s:EV}(g:h.get z=some (.cells [s,I size,I Z.safe,I Z.st,.bool Z.fin] 240))(safe st:Nat)(fin:Bool):
 Eo (h.put z (.cells [s,I size,I safe,I st,.bool fin] 240)) z q size ⟨Z.l,safe,st,fin⟩:=by
 obtain⟨s',g',r⟩:=zz.A7
 rw[g]at g'
 have:s=s':=by
  have:=Option.some.inj g'
  injection this with a _
  exact(List.cons.inj a).1
 subst this
 refine⟨⟨s,Aj _ _ _,r.frame fun hl=>As _ ?_⟩,zz.wf⟩
 exact Bt g (r.block hl) (by simp)
def Zn.flush(Z:Zn):Zn:={ Z with safe:=Z.l.length }
theorem Ash {h:Aa}{z q:Nat}{size:Int}{Z:Zn}(zz:Eo h z q size Z)(hb:HB h):
 Ok (Em K (.ptr z 0) h) fun v h'=>Eo h' z q size Z.flush/\A9 (fun i=>i=z) h h'/\HB h':=by
 obtain⟨s,g,r⟩:=zz.A7
 have lz:=hb _ _ g
 simp only[Em,Ab,Ck g rfl,r.E9]
 refine Ok.st1 g rfl rfl (by show 2<5;decide) ?_
 refine .ret ⟨?_,(A9.refl (S:=fun i=>i=z) h).A5 (.inl rfl) lz _,hb.put lz _⟩
 exact zz.put g Z.l.length Z.st Z.fin
def Zn.finish(Z:Zn):Zn:={ Z with st:=2,fin:=true }
theorem Apf {h:Aa}{z q:Nat}{size:Int}{Z:Zn}(zz:Eo h z q size Z)(hb:HB h):
 Ok (Gi K (.ptr z 0) h) fun v h'=>v=I (Ju Z.st)/\Eo h' z q size (if Ju Z.st=0 then Z.finish else Z)/\A9 (fun i=>i=z) h h'/\HB h':=by
 obtain⟨s,g,r⟩:=zz.A7
 have lz:=hb _ _ g
 simp only[Gi,Rm zz,Ab,I,Ai]
 by_cases hf:Ju Z.st=0
 ·simp only[hf,not_true_eq_false,decide_false,Ab,if_true,J5]
  refine Ok.st1 g rfl rfl (by show 3<5;decide) ?_
  refine Ok.st1 (Aj _ _ _) rfl rfl (by show 4<5;decide) ?_
  refine .ret ⟨rfl,?_,((A9.refl (S:=fun i=>i=z) h).A5 (.inl rfl) lz _).A5 (.inl rfl) lz _,(hb.put lz _).put lz _⟩
  exact(zz.put g Z.safe 2 Z.fin).put (Aj _ _ _) Z.safe 2 true
 ·simp only[hf,not_false_eq_true,decide_true,Ab,if_false]
  exact .ret ⟨rfl,zz,A9.refl _,hb⟩
def Zn.fail(Z:Zn)(st:Nat):Zn:=if st=4\/st=3/\¬ Z.st=4 then { Z with st:=st } else Z
theorem Aue {h:Aa}{z q:Nat}{size:Int}{Z:Zn}(zz:Eo h z q size Z)(hb:HB h)(st:Nat):
 Ok (Hd K (.ptr z 0) (I st) h) fun v h'=>Eo h' z q size (Z.fail st)/\A9 (fun i=>i=z) h h'/\HB h':=by
 obtain⟨s,g,r⟩:=zz.A7
 have lz:=hb _ _ g
 have yes:(st=4\/st=3/\¬ Z.st=4)->Ok (Dw 1 (.ptr z 3) (I st) h fun h=>some (.tuple [],h)) fun v h'=>Eo h' z q size (Z.fail st)/\A9 (fun i=>i=z) h h'/\HB h':=by
  intro hc
  refine Ok.st1 g rfl rfl (by show 3<5;decide) ?_
  refine .ret ⟨?_,(A9.refl (S:=fun i=>i=z) h).A5 (.inl rfl) lz _,hb.put lz _⟩
  unfold Zn.fail;rw[if_pos hc]
  exact zz.put g Z.safe st Z.fin
 have no:¬ (st=4\/st=3/\¬ Z.st=4)->Ok (some (.tuple [],h)) fun v h'=>Eo h' z q size (Z.fail st)/\A9 (fun i=>i=z) h h'/\HB h':=by
  intro hc
  refine .ret ⟨?_,A9.refl _,hb⟩
  unfold Zn.fail;rw[if_neg hc];exact zz
 simp only[Hd,I,Ai,Ab]
 by_cases a:st=4
 ·rw[show decide ((st:Int)=4)=true by simp[a]]
  simp only[Ab,Ai,D7,C0,Cz]
  exact yes (.inl a)
 ·rw[show decide ((st:Int)=4)=false by simp;omega]
  simp only[Ab,Ai]
  by_cases b:st=3
  ·rw[show decide ((st:Int)=3)=true by simp[b]]
   simp only[Ab,Ai,D7,Ck g rfl,I]
   by_cases c:Z.st=4
   ·rw[show decide (¬ (Z.st:Int)=4)=false by simp[c]]
    simp only[Ab,Ai,C0,Cz]
    exact no (by omega)
   ·rw[show decide (¬ (Z.st:Int)=4)=true by simp;omega]
    simp only[Ab,Ai,C0,Cz]
    exact yes (.inr ⟨b,c⟩)
  ·rw[show decide ((st:Int)=3)=false by simp;omega]
   simp only[Ab,Ai,D7,C0,Cz]
   exact no (by omega)
end Go.Ev

namespace Go.Ev
open Go.Proofs
set_option maxRecDepth 100000
variable {K:Nat}
theorem Brh(a b:Int)(h:Aa):builtin TT .max #[3,3] [.int .i64 a,.int .i64 b] h=some (I (max a b),h):=by
 show some (EV.int .i64 (Ay (Ay true (ltB a b) (ltB b a)) b a),h)=_
 rw[show Ay true (ltB a b) (ltB b a)=ltB a b from rfl,A1g,Int.max_def]
 by_cases hc:a<b
 ·rw[decide_eq_true hc,if_pos (by omega)];rfl
 ·by_cases hd:a<=b
  ·have:a=b:=by omega
   subst this;rw[if_pos (by omega)];cases decide (a<a) <;> rfl
  ·rw[decide_eq_false hc,if_neg hd];rfl
theorem R4 {h:Aa}{b e sz n:Nat}{x:EV}{new:List EV}(hx:lenOf x=some n)(hn':n<=65536)(hc:Ni h sz n x=some new)(hs:new.length=n*sz)(q:Nat):
 Ok (Dy e sz (.slice b 0 0 0 false) x h) fun v h'=>∃ q',Bu h' v q' e sz n new/\Ext h h'/\(0<n->h.next<=q'):=by
 rcases Nat.eq_zero_or_pos n with rfl|hp
 ·have:new = []:=List.length_eq_zero_iff.1 (by omega)
  subst this
  refine⟨.slice b 0 0 0 false,h,?_,q,.empty _ _ _ _ _,A9.refl _,fun y=>by omega⟩
  unfold Dy;simp only[hx,Ls];rfl
 ·obtain⟨h',e1,r,n1,c⟩:=Qe (s:=.slice b 0 0 0 false) (q:=q) (e:=e) (.empty h b q e sz) hx hp hn' (Nat.zero_le _) hc hs
  refine⟨_,h',e1,h.next,?_,c.mono fun i hi=>absurd hi.1 (Nat.lt_irrefl _),fun _=>Nat.le_refl _⟩
  rw[List.nil_append]at r
  simpa only[Nat.zero_add] using r
end Go.Ev
