import Derived.Test.YtpkcfamminlmaaaGreatWa
import Derived.Test.YtpkcfamminlmaaaGreatXa
import Derived.Test.YtpkcfamminlmaaaGreatDb
import Derived.Test.YtpkcfamminlmaaaGreatDc
set_option linter.unusedVariables false
set_option linter.unusedSimpArgs false
set_option linter.unusedSectionVars false
namespace Go.Ev
theorem Aso {P:Program}{g:Nat}{args:List EV}{vs:List Value}(ha:∀ f,A7 f args=vs)(ho:∀ p,EV.Mx p args){v:EV}{V:Value}(hv:∀ f,Bt f v=V){h':Aa}(G:Good P g args ⟨.nil,1,1⟩ v h')(w:World):
 Calls P g vs.toArray w fun e w'=>e=.returned V/\RowKit.Below w.heap.size w w':=by
 intro cs
 obtain⟨fr,f',w',hs,hfr,hl,hm,Th,hvo⟩:=G.run (fun _=>False) ⟨fun _=>0,fun _=>0⟩ w (Ap7 1 1) (Apm _ _ 1 1) (ho _) cs
 rw[ha]at hs
 rw[hv]at hl
 exact⟨.returned V,w',fr,⟨rfl,hm.os,hm.tape,hm.output,hm.size,fun k hk=>hm.kept k hk (fun i o hi=>(by cases hi))⟩,hs,hfr,hl⟩
theorem A3o:HB ⟨.nil,1,1⟩:=fun q o e=>by cases e
end Go.Ev

namespace Go.Ev
noncomputable def Ba(T:D1)(g n i:Nat)(tm:Ag)(st:LoopState)(p:Option Code)(d:Nat):Cx:=.loop st p g n tm (Cs T g i).2.1 (Cs T g i).2.2.1 (Cs T g i).2.2.2 d
noncomputable def Co(T:D1)(g n i:Nat)(tm:Ag)(h:Aa):Aa:=(h.new (.deferred true)).new (Ba T g n i tm .ready none h.next)
section
variable {T:D1}{g n i l d:Nat}{tm:Ag}{h:Aa}{st:LoopState}{p:Option Code}{Q:EV->Aa->Prop}
theorem Pd:(Co T g n i tm h).get (h.next+1)=some (Ba T g n i tm .ready none h.next):=Ae _ _
theorem Qm:(Co T g n i tm h).get h.next=some (.deferred true):=by
 unfold Co
 rw[Bn _ (Nat.lt_succ_self _)];exact Ae _ _
theorem Qk:Ext h (Co T g n i tm h):=(A6.new _ _).Gw _
theorem Ajl:(Co T g n i tm h).next=h.next+2:=rfl
theorem Agn {kk:Aa->R}(hg:h.get l=some (Ba T g n i tm .ready p d)):Fj l h kk=kk (h.put l (Ba T g n i tm .busy p d)):=by
 unfold Fj;rw[hg];rfl
theorem Aen {b:Bool}{st':LoopState}{j:Option Code}(hg:h.get l=some (Ba T g n i tm st p d)):Ajt l b st' j h=some (.bool b,h.put l (Ba T g n i tm st' j d)):=by
 unfold Ajt Bi;rw[hg];rfl
theorem Ok.range {c:Ac}{q:Nat}{caps:List EV}{ds:List Nat}{k:Aa->List Nat->R}{ex:Nat->Aa->List Nat->R}{ret:Aa->List Nat->R}
 (hc:Ok (c q (.Ug (h.next+1)::caps) (Co T g n i tm h)) fun _ h'=>
  (h'.get (h.next+1)=some (Ba T g n i tm .ready none h.next)/\Ok (k (h'.put (h.next+1) (Ba T g n i tm .exhausted none h.next)) (h.next::ds)) Q) \/
  (h'.get (h.next+1)=some (Ba T g n i tm .done (some .ret) h.next)/\Ok (ret (h'.put (h.next+1) (Ba T g n i tm .exhausted (some .ret) h.next)) (h.next::ds)) Q)) :
 Ok (Xd c T g n i (.func q [] caps) tm h ds k ex ret) Q:=by
 obtain⟨v,h',e,hh⟩:=hc
 have:Xd c T g n i (.func q [] caps) tm h ds k ex ret=A1x (h.next+1) (c q (.Ug (h.next+1)::caps) (Co T g n i tm h)) (fun h'=>k h' (h.next::ds)) (fun id h'=>ex id h' (h.next::ds)) (fun h'=>ret h' (h.next::ds)):=rfl
 rw[this,e]
 unfold A1x
 simp only
 rcases hh with ⟨a,b⟩|⟨a,b⟩
 ·rw[a];exact b
 ·rw[a];exact b
theorem Ok.unwind:∀ {ds:List Nat} {h:Aa} {k:Aa->R},ds.Nodup->(∀ d ∈ ds,h.get d=some (.deferred true))->HB h->(∀ h',A6 (fun i=>i ∈ ds) h h'->h'.next=h.next->Ok (k h') Q)->Ok (Eh ds h k) Q
 | [],h,k,_,_,_,hk=>hk h (A6.refl _) rfl
 | d::ds,h,k,hn,hd,hb,hk=>by
  obtain⟨hn1,hn2⟩:=List.nodup_cons.1 hn
  have hd0:=hd d List.mem_cons_self
  have ld:=hb _ _ hd0
  have e:Eh (d::ds) h k=Eh ds (h.put d (.deferred false)) k:=by
   show (match h.get d with|some (.deferred true)=>Eh ds (h.put d (.deferred false)) k|_=>none)=_
   rw[hd0]
  rw[e]
  refine Ok.unwind hn2 (fun x hx=>?_) (hb.put ld _) fun h' c n=>hk h' ?_ (by rw[n];rfl)
  ·rw[Am _ (fun y=>hn1 (by rw[y];exact hx))];exact hd x (List.mem_cons_of_mem _ hx)
  ·exact((A6.refl h).A3 (S:=fun i=>i ∈ d::ds) (.inl List.mem_cons_self) ld _).trans (c.mono fun i hi=>List.mem_cons_of_mem _ hi)
end
structure Kp(S:Nat->Prop)(h0 h:Aa):Prop where
 chg:A6 S h0 h
 same:∀ i,i<h0.next->h.get i=h0.get i
theorem Ext.kp {S:Nat->Prop}{h0 h:Aa}(x:Ext h0 h):Kp S h0 h:=⟨Ext.to x,fun i hi=>x.get i hi id⟩
theorem Kp.A3 {S:Nat->Prop}{h0 h:Aa}(x:Kp S h0 h){i:Nat}(hi:h0.next<=i)(hn:i<h.next)(o:Cx):Kp S h0 (h.put i o):=
 ⟨x.chg.A3 (.inr hi) hn o,fun j hj=>by rw[Am _ (by omega)];exact x.same j hj⟩
theorem Kp.at {S:Nat->Prop}{h0 h:Aa}(x:Kp S h0 h)(hb:HB h0){i:Nat}{o:Cx}(g:h0.get i=some o):h.get i=some o:=by rw[x.same i (hb _ _ g)];exact g
theorem Kp.Arp {S T:Nat->Prop}{a b c:Aa}(x:Kp S a b)(y:A6 T b c)(st:∀ i,T i->a.next<=i):Kp S a c:=
 ⟨x.chg.then y fun i hi hl=>by have:=st i hi;omega,fun i hi=>by rw[y.get i (Nat.lt_of_lt_of_le hi x.chg.next) fun hT=>by have:=st i hT;omega,x.same i hi]⟩
end Go.Ev

namespace Go.Ev
open Go.Proofs
set_option maxRecDepth 10000
variable {K:Nat}
theorem Ae5 {h:Aa}{q c cap:Nat}{buf:List EV}(hq:h.get q=some (.cells [.chan c] 218))(hc:h.get c=some (.chan cap buf)):Ie K (.ptr q 0) h=some (I buf.length,h):=by
 simp only[Ie,Ab,Cn hq rfl]
 have:Anq (.chan c) h=some (I buf.length,h):=by
  show (match h.get c with|some (.chan _ buf)=>some (EV.int .i64 (.ofNat (len buf)),h)|_=>none)=_
  rw[hc];simp only;rw[Qd];rfl
 rw[this];rfl
section
variable {h:Aa}{p ql n:Nat}{q c:Nat->Nat}{g:Gm}{ps:Nat->List Int}(P:Fu h p ql n q c g ps)
include P
theorem Fu.rowAt:Bx h (.slice ql 0 n n true) ql 153 1 n ((List.range n).map fun d=>.ptr (q d) 0):=.inr ⟨P.pos,rfl,P.row,by simp⟩
theorem Fu.list(k:EV->R):Aq (.ptr p 6) h k=k (.slice ql 0 n n true):=by rw[Cn P.Js rfl];rfl
theorem Fu.A1k(k:EV->R):Cm 6 (.ptr p 0) h k=k (gV g):=by rw[F2 P.Js rfl];rfl
theorem Fu.A3w {d:Nat}(hd:d<n)(k:EV->R):Aq (.ptr ql (d*1)) h k=k (.ptr (q d) 0):=by
 rw[Cn P.row rfl,Nat.mul_one,List.getElem?_map,List.getElem?_range hd];rfl
theorem Fu.len {d:Nat}(hd:d<n):Ie K (.ptr (q d) 0) h=some (I (ps d).length,h):=by
 rw[Ae5 (P.que d hd) (P.chan d hd),List.length_map]
end
end Go.Ev

namespace Go.Ev
open Go.Proofs
set_option maxRecDepth 100000
variable {K:Nat}
def Aou(D:Nat)(g:Gm)(p bl n:Nat)(a b u:Int):List EV:=[.ptr D 0]++gL g++Bc++[.ptr p 0,.slice bl 0 n n false,I a,I b,I u]
theorem Uo:Bc.length=256:=by kernel_rfl
section
variable (D:Nat)(g:Gm)(p bl n:Nat)(a b u:Int)
theorem Arz:(Aou D g p bl n a b u)[0]? = some (.ptr D 0):=rfl
theorem Aw8:N0 (Aou D g p bl n a b u) 1 6=some (gL g):=by kernel_rfl
theorem Ash:N0 (Aou D g p bl n a b u) 7 256=some Bc:=by kernel_rfl
theorem Awu:(Aou D g p bl n a b u)[263]? = some (.ptr p 0):=by kernel_rfl
theorem Azd:(Aou D g p bl n a b u)[264]? = some (.slice bl 0 n n false):=by kernel_rfl
end
theorem K1 {h:Aa}{i t n:Nat}{l:List EV}(hg:h.get i=some (.cells l t))(hs:TT.size t=some n)(ha:TT.agg t=some true)(hl:l.length=n):Jh TT [.c (.ptr i 0) t] h=some (.agg l,h):=by
 have hr:F3 h i 0 n=some l:=by
  unfold F3;rw[hg];simp only;rw[<-Vc];exact Aw hl
 unfold Jh
 simp only[Alu,hs,hr,ha]
structure Wd(h:Aa)(m D p bl n:Nat)(g:Gm)(a b u:Int)(bad:Nat->Int):Prop where
 mir:h.get m=some (.cells (Aou D g p bl n a b u) 149)
 Anm:h.get bl=some (.cells ((List.range n).map fun z=>I (bad z)) 3)
section
variable {h:Aa}{m D p bl n:Nat}{g:Gm}{a b u:Int}{bad:Nat->Int}(M:Wd h m D p bl n g a b u bad)
include M
theorem Wd.C1(k:EV->R):Aq (.ptr m 0) h k=k (.ptr D 0):=by rw[Cn M.mir rfl,Arz];rfl
theorem Wd.A1k(k:EV->R):Cm 6 (.ptr m 1) h k=k (gV g):=by rw[F2 M.mir rfl,Aw8];rfl
theorem Wd.table(k:EV->R):Cm 256 (.ptr m 7) h k=k Ss:=by rw[F2 M.mir rfl,Ash];rfl
theorem Wd.Js(k:EV->R):Aq (.ptr m 263) h k=k (.ptr p 0):=by rw[Cn M.mir rfl,Awu];rfl
theorem Wd.A65(k:EV->R):Aq (.ptr m 264) h k=k (.slice bl 0 n n false):=by rw[Cn M.mir rfl,Azd];rfl
theorem Wd.ext {h':Aa}(e:∀ i o,h.get i=some o->h'.get i=some o):Wd h' m D p bl n g a b u bad:=⟨e _ _ M.mir,e _ _ M.Anm⟩
theorem Abh:D4 K (.ptr m 0) h=some (.ptr p 0,h):=by simp only[D4,Ab,M.Js]
theorem Yp:Bv K (.ptr m 0) h=some (.ptr D 0,h):=by simp only[Bv,Ab,M.C1]
omit M in
theorem A1q:TT.size 23=some 6/\TT.agg 23=some true:=⟨by kernel_rfl,by kernel_rfl⟩
omit M in
theorem A53:TT.size 72=some 256/\TT.agg 72=some true:=⟨by kernel_rfl,by kernel_rfl⟩
theorem Ajm(hb:HB h):Ok (E4 K (.ptr m 0) h) fun v h'=>v=gV g/\Ext h h':=by
 simp only[E4,Ab]
 have M1:Wd (h.new (.cells [.int .i64 0,.int .i64 0,.int .i64 0,.int .i64 0,.int .i64 0,.int .i64 0] 23)) m D p bl n g a b u bad:=M.ext fun i o g=>Ext.at (A6.new h _) hb g
 rw[M1.A1k]
 refine Ok.st (gL g) (Ae _ _) rfl rfl rfl ?_
 rw[K1 (Ai _ _ _) A1q.1 A1q.2 rfl]
 exact .ret ⟨rfl,(A6.new h _:Ext _ _).A3 (.inr (Nat.le_refl _)) (Nat.lt_succ_self _) _⟩
theorem Aid(hb:HB h):Ok (Fx K (.ptr m 0) h) fun v h'=>v=Ss/\Ext h h':=by
 simp only[Fx,Ab]
 have M1:Wd (h.new (.cells (List.replicate 256 (.int .u32 0)) 72)) m D p bl n g a b u bad:=M.ext fun i o g=>Ext.at (A6.new h _) hb g
 rw[M1.table]
 refine Ok.st Bc (Ae _ _) rfl (by rw[show EV.cells Ss=Bc from rfl,Dq,Uo]) (by rw[show EV.cells Ss=Bc from rfl];exact Fy (by rw[Uo];simp)) ?_
 rw[K1 (Ai _ _ _) A53.1 A53.2 Uo]
 exact .ret ⟨rfl,(A6.new h _:Ext _ _).A3 (.inr (Nat.le_refl _)) (Nat.lt_succ_self _) _⟩
end
section
variable {h:Aa}{D V M zl n:Nat}{z q:Nat->Nat}{size op cnt:Int}{down:Bool}{Gu happened:EV}{marks:List (EV × EV)}{Zs:Nat->Zn}
theorem Yn(d:Up h D V M zl n z q size op cnt down Gu happened marks Zs):Cq K (.ptr D 0) h=some (.ptr V 0,h):=by simp only[Cq,Ab,Cn d.C1 rfl]
theorem Aey(d:H2 h V zl n z q size op cnt down Zs):Ih K (.ptr V 0) h=some (I n,h):=by simp only[Ih,Ab,Cn d.dev rfl,I]
theorem Aho(d:H2 h V zl n z q size op cnt down Zs):Hs K (.ptr V 0) h=some (I size,h):=by simp only[Hs,Ab,Cn d.dev rfl]
end
theorem A5f(v:EV):∀ n,rep [v] n=List.replicate n v
 | 0=>rfl
 | n+1=>by show [v]++rep [v] n=_;rw[A5f v n];rfl
theorem Aqv(v:EV)(n:Nat):(List.range n).map (fun _=>v)=List.replicate n v:=by
 rw[List.map_const',List.length_range]
theorem Alf {g:Gm}(hK:1000<K){h:Aa}(hb:HB h){D V M zl n:Nat}{z q:Nat->Nat}{size op cnt:Int}{down:Bool}{Gu happened:EV}{marks:List (EV × EV)}{Zs:Nat->Zn}(dr:Up h D V M zl n z q size op cnt down Gu happened marks Zs):
 Ok (Xj K (.ptr D 0) (gV g) Ss h) fun v h'=>Ext h h'/\HB h'/\if rtB g=true/\g.D*g.Z=n/\g.S=size then
  ∃ m p bl ql q c,v=.tuple [.ptr m 0,I 0]/\Wd h' m D p bl n g (-1) (-1) 0 (fun _=>0)/\Fu h' p ql g.D.toNat q c g (fun _=>[])/\(h.next<=m/\h.next<=bl)/\h.next<=p/\h.next<=ql/\∀ d,d<g.D.toNat->h.next<=q d/\h.next<=c d else v=.tuple [.Da,I 20]:=by
 have hcv:Dx 72 Ss (h.new (.cells (gL g) 23))=fun(k:EV->Aa->R)=>k (.ptr (h.next+1) 0) ((h.new (.cells (gL g) 23)).new (.cells Bc 72)):=rfl
 simp only[Xj,gV,Ab,hcv]
 have g4:((h.new (.cells (gL g) 23)).new (.cells Bc 72)).get h.next=some (.cells (gL g) 23):=by rw[Bn _ (Nat.lt_succ_self _)];exact Ae _ _
 have g5:((h.new (.cells (gL g) 23)).new (.cells Bc 72)).get (h.next+1)=some (.cells Bc 72):=Ae _ _
 have x1:Ext h ((h.new (.cells (gL g) 23)).new (.cells Bc 72)):=(A6.new _ _).Gw _
 have n1:((h.new (.cells (gL g) 23)).new (.cells Bc 72)).next=h.next+2:=rfl
 generalize (h.new (.cells (gL g) 23)).new (.cells Bc 72)=h1 at g4 g5 x1 n1 ⊢
 have hb1:=x1.hb hb
 simp only[F2 g4 rfl,Aw (show (gL g).length=6 from rfl),Ab]
 cases hr:rtB g with
 | false=>
  refine(Ap9 hr h1).Aj ?_
  rintro _ h2 ⟨rfl,x2⟩
  simp only[Ab,I,Ah,show ¬ ((20:Int)=0) by decide,not_false_eq_true,decide_true,Qh,K6]
  exact .ret ⟨x1.trans x2,x2.hb hb1,rfl⟩
 | true=>
  have s:=N1 hr
  have:=s.d0;have:=s.d1;have:=s.z0;have:=s.z1
  obtain⟨m0,m1⟩:=Rv (a:=g.D) (b:=g.Z) (A:=8) (B:=64) (by omega) (by omega) (by omega) (by omega)
  refine(Ank hr hK hb1).Aj ?_
  rintro _ h2 ⟨p,ql,qq,c,rfl,x2,hb2,P,nw⟩
  have k2:∀ i o,h.get i=some o->h2.get i=some o:=fun i o g=>x2.at hb1 (x1.at hb g)
  have l4:h.next<h2.next:=by have:=x2.next;omega
  have l5:h.next+1<h2.next:=by have:=x2.next;omega
  have g42:=x2.at hb1 g4
  have g52:=x2.at hb1 g5
  simp only[Ab,I,Ah,not_true_eq_false,decide_false]
  refine Ok.Ct (by kernel_rfl) (by kernel_rfl) (P:=fun v h3=>v=.ptr V 0/\Ext h2.lift h3) ⟨_,_,Yn ((dr.ext k2).ext fun i o g=>by rw[Cj];exact g),rfl,A6.refl _⟩ (fun _ _ p=>p.2) ?_
  rintro _ _ h3 ⟨rfl,_⟩ _ x3
  have hb3:=x3.hb hb2
  have k3:∀ i o,h.get i=some o->h3.get i=some o:=fun i o g=>x3.at hb2 (k2 i o g)
  refine Ok.Ct (by kernel_rfl) (by kernel_rfl) (P:=fun v h4=>v=I n/\Ext h3.lift h4) ⟨_,_,Aey ((dr.dev.ext k3).ext fun i o g=>by rw[Cj];exact g),rfl,A6.refl _⟩ (fun _ _ p=>p.2) ?_
  rintro _ _ h4 ⟨rfl,_⟩ _ x4
  have hb4:=x4.hb hb3
  have k4:∀ i o,h.get i=some o->h4.get i=some o:=fun i o g=>x4.at hb3 (k3 i o g)
  have x24:Ext h2 h4:=x3.trans x4
  have g44:=x24.at hb2 g42
  simp only[Ab,Bh,As l4,F2 g44 rfl,Aw (show (gL g).length=6 from rfl)]
  refine Ok.Ct (by kernel_rfl) (by kernel_rfl) (P:=fun v h5=>v=I (g.D*g.Z)/\Ext h4.lift h5) ⟨_,_,Q8 s _,rfl,A6.new _ _⟩ (fun _ _ p=>p.2) ?_
  rintro _ _ h5 ⟨rfl,_⟩ _ x5
  have hb5:=x5.hb hb4
  have k5:∀ i o,h.get i=some o->h5.get i=some o:=fun i o g=>x5.at hb4 (k4 i o g)
  simp only[I,Ah,Qh]
  have x25:Ext h2 h5:=x24.trans x5
  by_cases hn:(n:Int)=g.D*g.Z
  ·simp only[hn,not_true_eq_false,decide_false,Ab,Ah]
   refine Ok.Ct (by kernel_rfl) (by kernel_rfl) (P:=fun v h6=>v=.ptr V 0/\Ext h5.lift h6) ⟨_,_,Yn ((dr.ext k5).ext fun i o g=>by rw[Cj];exact g),rfl,A6.refl _⟩ (fun _ _ p=>p.2) ?_
   rintro _ _ h6 ⟨rfl,_⟩ _ x6
   have hb6:=x6.hb hb5
   have k6:∀ i o,h.get i=some o->h6.get i=some o:=fun i o g=>x6.at hb5 (k5 i o g)
   refine Ok.Ct (by kernel_rfl) (by kernel_rfl) (P:=fun v h7=>v=I size/\Ext h6.lift h7) ⟨_,_,Aho ((dr.dev.ext k6).ext fun i o g=>by rw[Cj];exact g),rfl,A6.refl _⟩ (fun _ _ p=>p.2) ?_
   rintro _ _ h7 ⟨rfl,_⟩ _ x7
   have hb7:=x7.hb hb6
   have x27:Ext h2 h7:=x25.trans (x6.trans x7)
   have g47:=x27.at hb2 g42
   simp only[Ab,Bh,As l4,Cn g47 rfl,gL,I,Ah]
   by_cases hs:size=g.S
   ·subst hs
    simp only[not_true_eq_false,decide_false,K6,Acl,Ab]
    have g57:=x27.at hb2 g52
    have l47:h.next<h7.next:=Nat.lt_of_lt_of_le l4 x27.next
    have l57:h.next+1<h7.next:=Nat.lt_of_lt_of_le l5 x27.next
    simp only[Ab,Bh,As l47,As l57,F2 g47 rfl,F2 g57 rfl,Aw (show (gL g).length=6 from rfl),Aw Uo]
    refine Ok.Ct (by kernel_rfl) (by kernel_rfl) (P:=fun v h8=>v=I (g.D*g.Z)/\Ext h7.lift h8) ⟨_,_,Q8 s _,rfl,A6.new _ _⟩ (fun _ _ p=>p.2) ?_
    rintro _ _ h8 ⟨rfl,_⟩ _ x8
    have hb8:=x8.hb hb7
    have x28:Ext h2 h8:=x27.trans x8
    simp only[Ab,Bh,I]
    rw[<-hn]
    have hmk:Ny [.int .i64 0] 3 (.int .i64 (n:Int)) (.int .i64 (n:Int)) h8=some (.slice h8.next 0 n n false,h8.new (.cells (rep [.int .i64 0] n) 3)):=by
     show An (Nat.ble n n) (An (Nat.ble n 65536) _ none) none=_
     rw[Nat.ble_eq_true_of_le (Nat.le_refl n),Ak,Nat.ble_eq_true_of_le (by omega),Ak]
    rw[hmk,A2,Ca (l:=Aou D g p h8.next n (-1) (-1) 0) (by kernel_rfl)]
    simp only[Ab,Bh]
    have x8':Ext h8 ((h8.new (.cells (rep [.int .i64 0] n) 3)).new (.cells (Aou D g p h8.next n (-1) (-1) 0) 149)):=(A6.new _ _).Gw _
    have hx:Ext h ((h8.new (.cells (rep [.int .i64 0] n) 3)).new (.cells (Aou D g p h8.next n (-1) (-1) 0) 149)):=(x1.trans x2).trans (x28.trans x8')
    refine .ret ⟨hx,hx.hb hb,?_⟩
    rw[if_pos (by first|exact⟨rfl,hn.symm,rfl⟩|simp[hn]|simp)]
    refine⟨h8.next+1,p,h8.next,ql,qq,c,rfl,⟨Ae _ _,?_⟩,P.ext fun i o g=>Ext.at (x28.trans x8') hb2 g,?_⟩
    ·rw[Bn _ (Nat.lt_succ_self _),Ae,A5f,Aqv]
    ·have t1:=x1.next
     have t2:=x2.next
     have t3:=x28.next
     exact⟨⟨by omega,by omega⟩,by omega,by omega,fun d hd=>by have:=nw.2.2 d hd;omega⟩
   ·have hs':¬ size=g.S:=hs
    simp only[hs',not_false_eq_true,decide_true,K6,Ab]
    have hx:Ext h h7:=(x1.trans x2).trans x27
    refine .ret ⟨hx,hx.hb hb,?_⟩
    rw[if_neg (fun x=>hs' x.2.2.symm)]
  ·simp only[hn,not_false_eq_true,decide_true,Ab,Ah,K6]
   have hx:Ext h h5:=(x1.trans x2).trans x25
   refine .ret ⟨hx,hx.hb hb,?_⟩
   rw[if_neg (fun x=>hn x.2.1.symm)]
end Go.Ev

namespace Go.Ev
open Go.Proofs
set_option maxRecDepth 100000
variable {K:Nat}
theorem Ar9 {g:IG}{f:EV->EV->Option EV}{x y v:EV}{k:EV->R}(hx:∀ c n,x ≠ .int c n)(hf:f x y=some v):Ar g f x y k=k v:=by
 unfold Ar
 cases x <;> first|(exact absurd rfl (hx _ _))|(simp only[hf,Su])
end Go.Ev

namespace Go.Ev
open Go.Proofs
set_option maxRecDepth 10000
variable {K:Nat}
section
variable {h:Aa}{q c cap:Nat}{xs:List Int}(hq:h.get q=some (.cells [.chan c] 218))(hc:h.get c=some (.chan cap (xs.map I)))
include hq hc
theorem Atv(x:Int)(hl:xs.length<cap):Fz K (.ptr q 0) (I x) h=some (I 0,h.put c (.chan cap ((xs++[x]).map I))):=by
 have hs:Akq (.chan c) (I x) h=some (.tuple [.int .i64 0,.bool false],h.put c (.chan cap ((xs++[x]).map I))):=by
  unfold Akq Amb
  simp only[hc,Qd,List.length_map]
  rw[Nat.ble_eq_true_of_le hl,Ak,List.map_append];rfl
 simp only[Fz,Ab,Cn hq rfl,hs,Ah,decide_true]
theorem A3i(x:Int)(hl:cap<=xs.length):Fz K (.ptr q 0) (I x) h=some (I 17,h):=by
 have hs:Akq (.chan c) (I x) h=some (.tuple [.int .i64 (-1),.bool false],h):=by
  unfold Akq Amb
  simp only[hc,Qd,List.length_map]
  rw[show Nat.ble (Nat.succ xs.length) cap=false from by
   cases hb:Nat.ble (Nat.succ xs.length) cap with
   | false=>rfl
   | true=>have:=Nat.le_of_ble_eq_true hb;omega,Ax]
 simp only[Fz,Ab,Cn hq rfl,hs,Ah,show ¬ ((-1:Int)=0) by decide,decide_false]
theorem take_cons {x:Int}{r:List Int}(hx:xs=x::r):E5 K (.ptr q 0) h=some (.tuple [I x,I 0],h.put c (.chan cap (r.map I))):=by
 subst hx
 have hs:Ajg (.int .i64 0) (.chan c) h=some (.tuple [.int .i64 0,.bool true,I x],h.put c (.chan cap (r.map I))):=by
  unfold Ajg Al1
  simp only[hc,List.map_cons]
 simp only[E5,Ab,Cn hq rfl,hs,Ah,decide_true]
theorem take_nil(hx:xs = []):E5 K (.ptr q 0) h=some (.tuple [I 0,I 15],h):=by
 subst hx
 have hs:Ajg (.int .i64 0) (.chan c) h=some (.tuple [.int .i64 (-1),.bool false,.int .i64 0],h):=by
  unfold Ajg Al1
  simp only[hc,List.map_nil]
 simp only[E5,Ab,Cn hq rfl,hs,Ah,show ¬ ((-1:Int)=0) by decide,decide_false]
end
structure Listed(h0 h:Aa)(v:EV)(c cap:Nat)(xs:List Int)(q':Nat):Prop where
 row:Bx h v q' 3 1 xs.length (xs.map I)
 new:0<xs.length->h0.next<=q'
 chan:h.get c=some (.chan cap (xs.map I))
 chg:A6 (fun i=>i=c) h0 h
 hb:HB h
theorem Ava {h0:Aa}{q c cap:Nat}{xs:List Int}(hq0:h0.get q=some (.cells [.chan c] 218))(hc0:∃ b,h0.get c=some (.chan cap b))(hcap:xs.length<=cap)(hsm:cap<=4096)(hb0:HB h0):∀ (m j:Nat) (h:Aa) (s:EV) (q':Nat),xs.length-j<m->j<=xs.length ->
 Bx h s q' 3 1 xs.length (xs.map I)->(0<xs.length->h0.next<=q')->h.get c=some (.chan cap ((xs.take j).map I))->A6 (fun i=>i=c) h0 h->HB h ->
 Ok (Dl K m (.ptr q 0) s s (I xs.length) (I j) h) fun v h'=>∃ q',Listed h0 h' v c cap xs q':=by
 obtain⟨b0,hc0⟩:=hc0
 have hqc:q ≠ c:=Bf hq0 hc0 (by simp)
 have lc:=hb0 _ _ hc0
 intro m
 induction m with
 | zero=>intro j h s q' hm;omega
 | succ m ih=>
  intro j h s q' hm hj row new hc x hb
  simp only[Dl,I,Ah,Ab]
  by_cases hlt:(j:Int)<xs.length
  ·have hj':j<xs.length:=by omega
   have hq:h.get q=some (.cells [.chan c] 218):=A6.at x hb0 hq0 hqc
   have hbl:=row.block (by omega)
   simp only[hlt,decide_true,Ab,R6]
   rw[row.ix hj',Cn hbl rfl,Nat.mul_one,List.getElem?_map,List.getElem?_eq_getElem hj',Option.map_some,Su,Atv hq hc xs[j] (by rw[List.length_take];omega),A2]
   simp only[Sj,Ah]
   rw[Cu (by omega) (by omega)]
   have e:xs.take j++[xs[j]]=xs.take (j+1):=(List.take_succ_eq_append_getElem hj').symm
   rw[e]
   have lc':c<h.next:=Nat.lt_of_lt_of_le lc x.next
   have hne:q' ≠ c:=Bf hbl hc (by simp)
   exact ih (j+1) _ s q' (by omega) (by omega) (row.frame fun _=>Am _ (Ne.symm hne)) new (Ai _ _ _) (x.A3 (.inl rfl) lc' _) (hb.put lc' _)
  ·have:j=xs.length:=by omega
   subst this
   simp only[hlt,decide_false,Ab,M6]
   rw[List.take_length]at hc
   exact .ret ⟨q',row,new,hc,x,hb⟩
theorem Avr {h0:Aa}{q c cap:Nat}{xs:List Int}(hq0:h0.get q=some (.cells [.chan c] 218))(hc0:∃ b,h0.get c=some (.chan cap b))(hcap:xs.length<=cap)(hsm:cap<=4096)(hb0:HB h0)(hK:5000<K):∀ (m j:Nat) (h:Aa) (s:EV) (q':Nat),xs.length-j<m->j<=xs.length ->
 Bx h s q' 3 1 j ((xs.take j).map I)->(0<j->h0.next<=q')->h.get c=some (.chan cap ((xs.drop j).map I))->A6 (fun i=>i=c) h0 h->HB h ->
 Ok (Dm K m (.ptr q 0) s (I xs.length) (I j) h) fun v h'=>∃ q',Listed h0 h' v c cap xs q':=by
 have hc0':=hc0
 obtain⟨b0,hc0⟩:=hc0
 have hqc:q ≠ c:=Bf hq0 hc0 (by simp)
 have lc:=hb0 _ _ hc0
 intro m
 induction m with
 | zero=>intro j h s q' hm;omega
 | succ m ih=>
  intro j h s q' hm hj row new hc x hb
  simp only[Dm,I,Ah,Ab]
  by_cases hlt:(j:Int)<xs.length
  ·have hj':j<xs.length:=by omega
   have hq:h.get q=some (.cells [.chan c] 218):=A6.at x hb0 hq0 hqc
   have e:xs.drop j=xs[j]::xs.drop (j+1):=List.drop_eq_getElem_cons hj'
   have lc':c<h.next:=Nat.lt_of_lt_of_le lc x.next
   simp only[hlt,decide_true,Ab,Sk]
   rw[take_cons hq hc e]
   simp only[Ab,I,Ah,decide_true]
   have row':Bx (h.put c (.chan cap ((xs.drop (j+1)).map I))) s q' 3 1 j ((xs.take j).map I):=row.frame fun hl=>Am _ (Ne.symm (Bf (row.block hl) hc (by simp)))
   refine Mc (z:=[.int .i64 0]) row' (hb.put lc' _) rfl rfl rfl (by omega) (by omega) ?_
   intro h2 row2 n2 c2
   have x2:A6 (fun i=>i=c) h0 (h.put c (.chan cap ((xs.drop (j+1)).map I))):=x.A3 (.inl rfl) lc' _
   have x3:A6 (fun i=>i=c) h0 h2:=x2.then c2 fun i hi hl=>by have:=new hi.1;omega
   simp only[Ni,Ah]
   rw[Cu (by omega) (by omega)]
   have e2:(xs.take j).map I++EV.cells (.int .i64 xs[j])=(xs.take (j+1)).map I:=by
    rw[List.take_succ_eq_append_getElem hj',List.map_append];rfl
   rw[e2]at row2
   refine ih (j+1) _ _ _ (by omega) (by omega) row2 (fun _=>by have:=x2.next;omega) ?_ x3 (c2.hb (hb.put lc' _))
   rw[c2.get _ (by rw[Aa.Aa8];exact lc') (fun hx=>by
    have:=row.block hx.1
    exact Bf this hc (by simp) hx.2.symm)]
   exact Ai _ _ _
  ·have:j=xs.length:=by omega
   subst this
   rw[List.take_length]at row
   simp only[hlt,decide_false,Ab,Nb]
   rw[row.I4]
   rw[List.drop_length]at hc
   exact Ava hq0 hc0' hcap hsm hb0 K 0 h s q' (by omega) (by omega) row new hc x hb
theorem Alh {h0:Aa}{q c cap:Nat}{xs:List Int}(hq0:h0.get q=some (.cells [.chan c] 218))(hc0:h0.get c=some (.chan cap (xs.map I)))(hcap:xs.length<=cap)(hsm:cap<=4096)(hb0:HB h0)(hK:5000<K):
 Ok (Ji K (.ptr q 0) h0) fun v h'=>∃ q',Listed h0 h' v c cap xs q':=by
 simp only[Ji]
 rw[Ae5 hq0 hc0,A2,List.length_map]
 exact Avr hq0 ⟨_,hc0⟩ hcap hsm hb0 hK K 0 h0 .Af 0 (by omega) (by omega) (.nil _ _ _ _) (fun x=>absurd x (Nat.lt_irrefl _)) hc0 (A6.refl _) hb0
theorem Listed.same {h0 h:Aa}{v:EV}{c cap:Nat}{xs:List Int}{q':Nat}(l:Listed h0 h v c cap xs q')(hc:h0.get c=some (.chan cap (xs.map I))):∀ i,i<h0.next->h.get i=h0.get i:=by
 intro i hi
 by_cases e:i=c
 ·subst e;rw[l.chan,hc]
 ·exact l.chg.get i hi e
end Go.Ev

namespace Go.Ev
open Go.Proofs
set_option maxRecDepth 10000
variable {disp:Nat->Option FT}{K:Nat}
theorem A7g:(Cs TT 49 0).2.1 = [9,10]:=by kernel_rfl
theorem A4h:(Cs TT 149 0).2.1 = [19,20]:=by kernel_rfl
section
variable (H:Ap disp)
include H
theorem Axp {e:Nat}(he:1<=e){h:Aa}{l0 d0 b3 b4:Nat}{tm:Ag}{z x i:Int}(hg:h.get l0=some (Ba TT 49 14 0 tm .ready none d0))(t3:tmp tm 3=.ptr b3 0)(t4:tmp tm 4=.ptr b4 0)(g3:h.get b3=some (.cells [I z] 3))(g4:h.get b4=some (.cells [.bool false] 4))(hb:HB h):
 ∃ h',Ad TT disp K (e+1) true l0 [I i,I x] h=some (.bool (decide (¬ x=z)),h')/\h'.get l0=some (Ba TT 49 14 0 tm (if x=z then .done else .ready) (if x=z then some .ret else none) d0)/\h'.get b4=some (.cells [.bool (decide (x=z))] 4)/\A6 (fun j=>j=l0\/j=b4) h h'/\HB h':=by
 have hg':=hg
 unfold Ba at hg'
 rw[A7g]at hg'
 rw[Aau H he tm h (I i) (I x) hg',t3,t4]
 have l0l:=hb _ _ hg
 have l4l:=hb _ _ g4
 have n03:l0 ≠ b3:=Bf hg g3 (by simp[Ba])
 have n04:l0 ≠ b4:=Bf hg g4 (by simp[Ba])
 simp only[Mk,Agn hg,Iq]
 have g3':(h.put l0 (Ba TT 49 14 0 tm .busy none d0)).get b3=some (.cells [I z] 3):=by rw[Am _ n03];exact g3
 have g4':(h.put l0 (Ba TT 49 14 0 tm .busy none d0)).get b4=some (.cells [.bool false] 4):=by rw[Am _ n04];exact g4
 have g0':(h.put l0 (Ba TT 49 14 0 tm .busy none d0)).get l0=some (Ba TT 49 14 0 tm .busy none d0):=Ai _ _ _
 have x1:A6 (fun j=>j=l0\/j=b4) h (h.put l0 (Ba TT 49 14 0 tm .busy none d0)):=(A6.refl h).A3 (.inl (.inl rfl)) l0l _
 have hb1:HB (h.put l0 (Ba TT 49 14 0 tm .busy none d0)):=hb.put l0l _
 have n1:(h.put l0 (Ba TT 49 14 0 tm .busy none d0)).next=h.next:=rfl
 generalize h.put l0 (Ba TT 49 14 0 tm .busy none d0)=h1 at g3' g4' g0' x1 hb1 n1 ⊢
 simp only[Cn g3' rfl,Ab,I,Ah]
 by_cases hx:x=z
 ·simp only[hx,decide_true,Ab,not_true_eq_false,decide_false,if_true]
  rw[Ar7 (o:=0) (n:=1) (v:=.bool true) (l':=[.bool true]) g4' rfl rfl rfl,Aen (by rw[Am _ (Ne.symm n04)];exact g0')]
  exact⟨_,rfl,Ai _ _ _,by rw[Am _ n04];exact Ai _ _ _,(x1.A3 (.inl (.inr rfl)) (by omega) _).A3 (.inl (.inl rfl)) (by rw[Aa.Aa8];omega) _,(hb1.put (by omega) _).put (by rw[Aa.Aa8];omega) _⟩
 ·simp only[hx,decide_false,Ab,not_false_eq_true,decide_true,if_false]
  rw[Aen g0']
  exact⟨_,rfl,Ai _ _ _,by rw[Am _ n04];exact g4',x1.A3 (.inl (.inl rfl)) (by omega) _,hb1.put (by omega) _⟩
theorem Awl {e:Nat}(he:2<=e){h:Aa}{l0 d0 b3 b4 l1 d1 b2 b5:Nat}{tm tm1:Ag}{z x i dd:Int}(hg:h.get l0=some (Ba TT 49 14 0 tm .ready none d0))(t3:tmp tm 3=.ptr b3 0)(t4:tmp tm 4=.ptr b4 0)(g3:h.get b3=some (.cells [I z] 3))(g4:h.get b4=some (.cells [.bool false] 4))
 (hg1:h.get l1=some (Ba TT 149 27 0 tm1 .ready none d1)) (u2:tmp tm1 2=.ptr b2 0) (u3:tmp tm1 3=.ptr b5 0) (g2:h.get b2=some (.cells [.Ug l0] 142)) (g5:h.get b5=some (.cells [I dd] 3)) (hb:HB h) :
 ∃ h',Ad TT disp K (e+1) true l1 [I i,I x] h=some (.bool (decide (¬ x=z)),h')/\h'.get l0=some (Ba TT 49 14 0 tm (if x=z then .done else .ready) (if x=z then some .ret else none) d0)/\h'.get l1=some (Ba TT 149 27 0 tm1 (if x=z then .done else .ready) (if x=z then some .ret else none) d1) /\
  h'.get b4=some (.cells [.bool (decide (x=z))] 4)/\A6 (fun j=>j=l0\/j=b4\/j=l1) h h'/\HB h':=by
 obtain⟨e,rfl⟩:∃ k,e=k+1:=⟨e-1,by omega⟩
 have hg':=hg1
 unfold Ba at hg'
 rw[A4h]at hg'
 rw[Xh H (by omega) tm1 h (I i) (I x) hg',u2,u3]
 have l1l:=hb _ _ hg1
 have n10:l1 ≠ l0:=Bf hg1 hg (by simp[Ba])
 have n1c:∀ b o,h.get b=some o->(∀ st p,o ≠ Ba TT 149 27 0 tm1 st p d1)->(h.put l1 (Ba TT 149 27 0 tm1 .busy none d1)).get b=some o:=fun b o gb hn=>by
  rw[Am _ (Bf hg1 gb (fun x=>hn _ _ x.symm))];exact gb
 simp only[J7,Agn hg1,Hb]
 have q0:=n1c _ _ hg (by intros;simp[Ba])
 have q2:=n1c _ _ g2 (by intros;simp[Ba])
 have q3:=n1c _ _ g3 (by intros;simp[Ba])
 have q4:=n1c _ _ g4 (by intros;simp[Ba])
 have q5:=n1c _ _ g5 (by intros;simp[Ba])
 have q1:(h.put l1 (Ba TT 149 27 0 tm1 .busy none d1)).get l1=some (Ba TT 149 27 0 tm1 .busy none d1):=Ai _ _ _
 have x1:A6 (fun j=>j=l0\/j=b4\/j=l1) h (h.put l1 (Ba TT 149 27 0 tm1 .busy none d1)):=(A6.refl h).A3 (.inl (.inr (.inr rfl))) l1l _
 have hb1:HB (h.put l1 (Ba TT 149 27 0 tm1 .busy none d1)):=hb.put l1l _
 have n1:(h.put l1 (Ba TT 149 27 0 tm1 .busy none d1)).next=h.next:=rfl
 generalize h.put l1 (Ba TT 149 27 0 tm1 .busy none d1)=h1 at q0 q1 q2 q3 q4 q5 x1 hb1 n1 ⊢
 simp only[Cn q2 rfl,Cn q5 rfl,Ab]
 have hc:Uq (Ad TT disp K (e+1) false) (Ad TT disp K (e+1) true) (.Ug l0) [I dd,I x] h1=Ad TT disp K (e+1) true l0 [I dd,I x] h1:=rfl
 rw[hc]
 obtain⟨h2,r1,r2,r3,r4,r5⟩:=Axp (K:=K) H (e:=e) (by omega) (i:=dd) (x:=x) q0 t3 t4 q3 q4 hb1
 rw[r1,A2]
 have q12:h2.get l1=some (Ba TT 149 27 0 tm1 .busy none d1):=A6.at r4 hb1 q1 (fun y=>by
  rcases y with y|y
  ·exact n10 y
  ·exact Bf q1 q4 (by simp[Ba]) y)
 have n2:=r4.next
 have x2:A6 (fun j=>j=l0\/j=b4\/j=l1) h h2:=x1.trans (r4.mono fun j hj=>hj.elim .inl (fun y=>.inr (.inl y)))
 by_cases hx:x=z
 ·simp only[hx,not_true_eq_false,decide_false,decide_true,if_true]at r2 r3 ⊢
  simp only[Ab]
  rw[Aen q12]
  refine⟨_,rfl,?_,Ai _ _ _,?_,x2.A3 (.inl (.inr (.inr rfl))) (by omega) _,r5.put (by omega) _⟩
  ·rw[Am _ n10];exact r2
  ·rw[Am _ (Bf q12 r3 (by simp[Ba]))];exact r3
 ·simp only[hx,not_false_eq_true,decide_false,decide_true,if_false]at r2 r3 ⊢
  simp only[Ab]
  rw[Aen q12]
  refine⟨_,rfl,?_,Ai _ _ _,?_,x2.A3 (.inl (.inr (.inr rfl))) (by omega) _,r5.put (by omega) _⟩
  ·rw[Am _ n10];exact r2
  ·rw[Am _ (Bf q12 r3 (by simp[Ba]))];exact r3
end
end Go.Ev

namespace Go.Ev
open Go.Proofs
set_option maxRecDepth 10000
variable {disp:Nat->Option FT}{K:Nat}
structure Asv(h:Aa)(l0 d0:Nat)(tm:Ag)(b3 b4:Nat)(z:Int)(b2:Nat)(found:Bool):Prop where
 lp:h.get l0=some (Ba TT 49 14 0 tm (if found then .done else .ready) (if found then some .ret else none) d0)
 c3:h.get b3=some (.cells [I z] 3)
 c4:h.get b4=some (.cells [.bool found] 4)
 c2:h.get b2=some (.cells [.Ug l0] 142)
 hb:HB h
structure Aym(tm:Ag)(b3 b4:Nat):Prop where
 t3:tmp tm 3=.ptr b3 0
 t4:tmp tm 4=.ptr b4 0
section
variable (H:Ap disp){l0 d0:Nat}{tm:Ag}{b3 b4:Nat}{z:Int}{b2:Nat}(T0:Aym tm b3 b4){l1 d1:Nat}{tm1:Ag}{b5:Nat}{dd:Int}(u2:tmp tm1 2=.ptr b2 0)(u3:tmp tm1 3=.ptr b5 0)
include H T0 u2 u3
theorem Avm {e:Nat}(he:3<=e){xs:List Int}(hn:xs.length<=4096):∀ (m i:Nat) (h:Aa) (s:EV) (q':Nat),xs.length-i<m->i<=xs.length->Asv h l0 d0 tm b3 b4 z b2 false->h.get l1=some (Ba TT 149 27 0 tm1 .ready none d1)->h.get b5=some (.cells [I dd] 3) ->
 Bx h s q' 3 1 xs.length (xs.map I)->(xs.take i).contains z=false ->
 Ok (Dg (Ad TT disp K e false) (Ad TT disp K e true) K m (.Ug l1) s (I xs.length) (I i) h) fun v h'=>v=.tuple []/\Asv h' l0 d0 tm b3 b4 z b2 (xs.contains z)/\h'.get l1=some (Ba TT 149 27 0 tm1 (if xs.contains z then .done else .ready) (if xs.contains z then some .ret else none) d1)/\A6 (fun j=>j=l0\/j=b4\/j=l1) h h':=by
 intro m
 induction m with
 | zero=>intro i h s q' hm;omega
 | succ m ih=>
  intro i h s q' hm hi L g1 g5 row hno
  simp only[Dg,I,Ah,Ab]
  by_cases hlt:(i:Int)<xs.length
  ·have hi':i<xs.length:=by omega
   have hbl:=row.block (by omega)
   simp only[hlt,decide_true,Ab,Rl]
   rw[row.ix hi',Cn hbl rfl,Nat.mul_one,List.getElem?_map,List.getElem?_eq_getElem hi',Option.map_some,Su]
   obtain⟨e,rfl⟩:∃ k,e=k+1:=⟨e-1,by omega⟩
   have hc:Uq (Ad TT disp K (e+1) false) (Ad TT disp K (e+1) true) (.Ug l1) [I i,I xs[i]] h=Ad TT disp K (e+1) true l1 [I i,I xs[i]] h:=rfl
   obtain⟨h2,r1,r2,r3,r4,r5,r6⟩:=Awl (K:=K) H (e:=e) (by omega) (i:=i) (x:=xs[i]) L.lp T0.t3 T0.t4 L.c3 L.c4 g1 u2 u3 L.c2 g5 L.hb
   have hgo:∀ k:EV->Aa->R,Aj (Uq (Ad TT disp K (e+1) false) (Ad TT disp K (e+1) true) (.Ug l1) [.int .i64 (i:Int),I xs[i]] h) k=k (.bool (decide (¬ xs[i]=z))) h2:=fun k=>by
    have:Uq (Ad TT disp K (e+1) false) (Ad TT disp K (e+1) true) (.Ug l1) [.int .i64 (i:Int),I xs[i]] h=some (.bool (decide (¬ xs[i]=z)),h2):=hc.trans r1
    rw[this,A2]
   rw[hgo]
   have keep:∀ b o,h.get b=some o->(∀ st p,o ≠ Ba TT 49 14 0 tm st p d0)->(∀ st p,o ≠ Ba TT 149 27 0 tm1 st p d1)->(∀ v,o ≠ .cells [v] 4)->h2.get b=some o:=fun b o gb n0 n1 n4=>A6.at r5 L.hb gb fun y=>by
    rcases y with rfl|rfl|rfl
    ·rw[L.lp]at gb;cases gb;exact n0 _ _ rfl
    ·rw[L.c4]at gb;cases gb;exact n4 _ rfl
    ·rw[g1]at gb;cases gb;exact n1 _ _ rfl
   have k3:=keep _ _ L.c3 (by intros;simp[Ba]) (by intros;simp[Ba]) (by intros;simp)
   have k2:=keep _ _ L.c2 (by intros;simp[Ba]) (by intros;simp[Ba]) (by intros;simp)
   have k5:=keep _ _ g5 (by intros;simp[Ba]) (by intros;simp[Ba]) (by intros;simp)
   by_cases hx:xs[i]=z
   ·have hct:xs.contains z=true:=by
     rw[List.contains_iff_mem,<-hx];exact List.getElem_mem hi'
    simp only[hx,if_true,decide_true]at r2 r3 r4
    simp only[hx,not_true_eq_false,decide_false,Ab]
    exact .ret ⟨rfl,by rw[hct];exact⟨r2,k3,r4,k2,r6⟩,by rw[hct];exact r3,r5⟩
   ·simp only[hx,if_false,decide_false]at r2 r3 r4
    simp only[hx,not_false_eq_true,decide_true,Ab,Rm,Ah]
    rw[Cu (by omega) (by omega)]
    have hrow2:Bx h2 s q' 3 1 xs.length (xs.map I):=row.frame fun _=>by
     rw[keep _ _ hbl (by intros;simp[Ba]) (by intros;simp[Ba]) (by intros;simp),hbl]
    have hno2:(xs.take (i+1)).contains z=false:=by
     rw[List.take_succ_eq_append_getElem hi']
     simp only[List.contains_eq_mem,List.mem_append,List.mem_singleton,decide_eq_false_iff_not]at hno ⊢
     intro y
     rcases y with y|y
     ·exact hno y
     ·exact hx y.symm
    refine(ih (i+1) h2 s q' (by omega) (by omega) ⟨r2,k3,r4,k2,r6⟩ r3 k5 hrow2 hno2).mono ?_
    rintro v h' ⟨a1,a2,a3,a4⟩
    exact⟨a1,a2,a3,r5.trans a4⟩
  ·have:i=xs.length:=by omega
   subst this
   simp only[hlt,decide_false,Ab]
   rw[List.take_length]at hno
   exact .ret ⟨rfl,by rw[hno];exact L,by rw[hno];exact g1,A6.refl _⟩
theorem A09 {e:Nat}(he:3<=e)(hK:5000<K){h:Aa}{b6 q c cap:Nat}{xs:List Int}(g6:h.get b6=some (.cells [.ptr q 0] 153))(hq:h.get q=some (.cells [.chan c] 218))(hc:h.get c=some (.chan cap (xs.map I)))(hcap:xs.length<=cap)(hsm:cap<=4096)
 (L:Asv h l0 d0 tm b3 b4 z b2 false) (g1:h.get l1=some (Ba TT 149 27 0 tm1 .ready none d1)) (g5:h.get b5=some (.cells [I dd] 3)) :
 Ok (Ad TT disp K (e+1) false 190 [.Ug l1,.ptr b6 0] h) fun v h'=>Asv h' l0 d0 tm b3 b4 z b2 (xs.contains z)/\h'.get l1=some (Ba TT 149 27 0 tm1 (if xs.contains z then .done else .ready) (if xs.contains z then some .ret else none) d1) /\
  (∀ i,i<h.next->¬ (i=l0\/i=b4\/i=l1)->h'.get i=h.get i)/\A6 (fun j=>j=c\/j=l0\/j=b4\/j=l1) h h':=by
 rw[Y9 H (by omega)]
 simp only[Ux,Cn g6 rfl,Ab]
 refine(Alh hq hc hcap hsm L.hb hK).Aj ?_
 rintro s h1 ⟨q',Li⟩
 rw[Li.row.I4]
 have same:=Li.same hc
 have at1:∀ i o,h.get i=some o->h1.get i=some o:=fun i o g=>by rw[same i (L.hb _ _ g)];exact g
 have L1:Asv h1 l0 d0 tm b3 b4 z b2 false:=⟨at1 _ _ L.lp,at1 _ _ L.c3,at1 _ _ L.c4,at1 _ _ L.c2,Li.hb⟩
 refine(Avm (K:=K) H T0 u2 u3 he (by omega) K 0 h1 s q' (by omega) (by omega) L1 (at1 _ _ g1) (at1 _ _ g5) Li.row (by simp)).mono ?_
 rintro v h' ⟨_,a2,a3,a4⟩
 refine⟨a2,a3,fun i hi hn=>by rw[a4.get i (Nat.lt_of_lt_of_le hi Li.chg.next) hn,same i hi],?_⟩
 exact(Li.chg.mono fun i hi=>.inl hi).trans (a4.mono fun i hi=>.inr hi)
end
end Go.Ev

namespace Go.Ev
open Go.Proofs
set_option maxRecDepth 10000
variable {disp:Nat->Option FT}{K:Nat}
def hasB(ps:Nat->List Int)(n:Nat)(z:Int):Bool:=(List.range n).any fun d=>(ps d).contains z
theorem Avb(ps:Nat->List Int)(n:Nat)(z:Int):hasB ps (n+1) z=(hasB ps n z || (ps n).contains z):=by
 unfold hasB;rw[List.range_succ,List.any_append];simp
theorem Al7 {ps:Nat->List Int}{n:Nat}{z:Int}:hasB ps n z=true ↔ ∃ d,d<n/\z ∈ ps d:=by
 unfold hasB;simp
theorem A1j {ps:Nat->List Int}{n d:Nat}{z:Int}(hd:d<n)(h:(ps d).contains z=true):hasB ps n z=true:=Al7.2 ⟨d,hd,List.contains_iff_mem.1 h⟩
structure Mid(h0 h:Aa)(C:Nat->Prop)(l0 d0:Nat)(tm:Ag)(b3 b4:Nat)(z:Int)(b2:Nat)(found:Bool):Prop where
 kp:Kp C h0 h
 look:Asv h l0 d0 tm b3 b4 z b2 found
 cd:h.get d0=some (.deferred true)
 n0:h0.next<=l0
 n4:h0.next<=b4
 nd:h0.next<=d0
section
variable (H:Ap disp){h0:Aa}{p ql n:Nat}{q c:Nat->Nat}{g:Gm}{ps:Nat->List Int}(P:Fu h0 p ql n q c g ps)(hb0:HB h0)(hps:∀ d,d<n->(ps d).length<=g.Z.toNat)(hZ:g.Z<=4096)(hn:n<=64)
variable {l0 d0:Nat}{tm:Ag}{b3 b4:Nat}{z:Int}{b2:Nat}(T0:Aym tm b3 b4)
include H P hb0 hps hZ hn T0
theorem A0g {e:Nat}(he:4<=e)(hK:5000<K):∀ (m i:Nat) (h:Aa) (t1:Ag) (ds:List Nat),n-i<m->i<=n->Mid h0 h (fun x=>∃ d,d<n/\x=c d) l0 d0 tm b3 b4 z b2 false->tmp t1 2=.ptr b2 0 ->
 ds.Nodup->(∀ d ∈ ds,h.get d=some (.deferred true)/\h0.next<=d/\d ≠ d0)->hasB ps i z=false ->
 Ok (Gb (Ad TT disp K e false) (Ad TT disp K e true) K m t1 (.slice ql 0 n n true) (I n) (I i) h ds) fun v h'=>Mid h0 h' (fun x=>∃ d,d<n/\x=c d) l0 d0 tm b3 b4 z b2 (hasB ps n z):=by
 intro m
 induction m with
 | zero=>intro i h t1 ds hm;omega
 | succ m ih=>
  intro i h t1 ds hm hi M u2 hnd hds hno
  have fin:∀ (h2:Aa) (dl:List Nat) (found:Bool),found=hasB ps n z->Mid h0 h2 (fun x=>∃ d,d<n/\x=c d) l0 d0 tm b3 b4 z b2 found->dl.Nodup->(∀ d ∈ dl,h2.get d=some (.deferred true)/\h0.next<=d/\d ≠ d0) ->
   Ok (Eh dl h2 fun h=>some (EV.tuple [],h)) fun v h'=>Mid h0 h' (fun x=>∃ d,d<n/\x=c d) l0 d0 tm b3 b4 z b2 (hasB ps n z):=by
   rintro h2 dl found rfl M2 hd1 hd2
   refine Ok.unwind hd1 (fun d hd=>(hd2 d hd).1) M2.look.hb fun h3 ch hn3=>.ret ?_
   have nk:∀ b o,h2.get b=some o->o ≠ .deferred true->¬ (b ∈ dl):=fun b o gb hne hb=>by rw[(hd2 b hb).1]at gb;cases gb;exact hne rfl
   have a:∀ b o,h2.get b=some o->o ≠ .deferred true->h3.get b=some o:=fun b o gb hne=>A6.at ch M2.look.hb gb (nk b o gb hne)
   refine⟨M2.kp.Arp ch fun i hi=>(hd2 i hi).2.1,⟨a _ _ M2.look.lp (by simp[Ba]),a _ _ M2.look.c3 (by simp),a _ _ M2.look.c4 (by simp),a _ _ M2.look.c2 (by simp),ch.hb M2.look.hb⟩,A6.at ch M2.look.hb M2.cd (fun y=>(hd2 _ y).2.2 rfl),M2.n0,M2.n4,M2.nd⟩
  simp only[Gb,I,Ah,Ab]
  by_cases hlt:(i:Int)<n
  ·have hi':i<n:=by omega
   have at0:∀ b o,h0.get b=some o->h.get b=some o:=fun b o gb=>M.kp.at hb0 gb
   have P1:=P.ext at0
   simp only[hlt,decide_true,Ab,J3]
   rw[P1.rowAt.ix hi',P1.A3w hi']
   try simp only[Ab]
   refine Ok.st1 (Ae _ _) rfl rfl (by show 0<1;decide) ?_
   have hnx:=M.kp.chg.next
   have x1:Ext h ((h.new (.cells [.int .i64 0] 3)).put h.next (.cells [EV.int .i64 (i:Int)] 3)):=(A6.new _ _:Ext h _).A3 (.inr (Nat.le_refl _)) (Nat.lt_succ_self _) _
   have g5:((h.new (.cells [.int .i64 0] 3)).put h.next (.cells [EV.int .i64 (i:Int)] 3)).get h.next=some (.cells [I i] 3):=Ai _ _ _
   simp only[List.set]
   generalize (h.new (.cells [.int .i64 0] 3)).put h.next (.cells [EV.int .i64 (i:Int)] 3)=h1 at x1 g5 ⊢
   have hb1:=x1.hb M.look.hb
   have hn1:=x1.next
   simp only[R2,Ab]
   have x2:Ext h (h1.new (.cells [.ptr (q i) 0] 153)):=x1.Gw _
   have g6:(h1.new (.cells [.ptr (q i) 0] 153)).get h1.next=some (.cells [.ptr (q i) 0] 153):=Ae _ _
   have g52:(h1.new (.cells [.ptr (q i) 0] 153)).get h.next=some (.cells [I i] 3):=by rw[Bn _ (hb1 _ _ g5)];exact g5
   have n2:h1.next<(h1.new (.cells [.ptr (q i) 0] 153)).next:=Nat.lt_succ_self _
   generalize h1.new (.cells [.ptr (q i) 0] 153)=h2 at x2 g6 g52 n2 ⊢
   have hb2:=x2.hb M.look.hb
   generalize htm:(((((((t1.put 13 (some (EV.bool true))).put 14 (some (EV.int .i64 (i:Int)))).put 15 (some (EV.ptr ql (i*1)))).put 16 (some (EV.ptr (q i) 0))).put 3 (some (EV.ptr h.next 0))).put 4 (some (EV.ptr (q i) 0))).put 17 (some (EV.ptr (q i) 0))).put 18 (some (EV.func 190 [] [EV.ptr h1.next 0]))=t2
   have v2:tmp t2 2=.ptr b2 0:=by rw[<-htm];simp only[Kl,reduceIte,Nat.reduceEqDiff,u2]
   have v3:tmp t2 3=.ptr h.next 0:=by rw[<-htm];simp only[Kl,reduceIte,Nat.reduceEqDiff]
   have v2':∀ w,tmp ((t2.put 26 (some w)).put 12 (some w)) 2=.ptr b2 0:=fun w=>by simp only[Kl,reduceIte,Nat.reduceEqDiff,v2]
   clear htm
   refine Ok.range ?_
   have x3:Ext h (Co TT 149 27 0 t2 h2):=x2.trans Qk
   have hb3:=x3.hb M.look.hb
   have at3:∀ b o,h.get b=some o->(Co TT 149 27 0 t2 h2).get b=some o:=fun b o gb=>x3.at M.look.hb gb
   have at23:∀ b o,h2.get b=some o->(Co TT 149 27 0 t2 h2).get b=some o:=fun b o gb=>Ext.at Qk hb2 gb
   have L3:Asv (Co TT 149 27 0 t2 h2) l0 d0 tm b3 b4 z b2 false:=⟨at3 _ _ M.look.lp,at3 _ _ M.look.c3,at3 _ _ M.look.c4,at3 _ _ M.look.c2,hb3⟩
   have P3:=P1.ext at3
   obtain⟨e,rfl⟩:∃ k,e=k+1:=⟨e-1,by omega⟩
   refine(A09 (K:=K) H T0 (l1:=h2.next+1) (d1:=h2.next) v2 v3 (e:=e) (by omega) hK (at23 _ _ g6) (P3.que i hi') (P3.chan i hi') (hps i hi') (by omega) L3 Pd (at23 _ _ g52)).mono ?_
   rintro v h4 ⟨L4,gl4,same4,ch4⟩
   have hn4:=ch4.next
   have hl1:h2.next+1<(Co TT 149 27 0 t2 h2).next:=by rw[Ajl];omega
   have hk4:Kp (fun x=>∃ d,d<n/\x=c d) h0 h4:=by
    refine⟨(M.kp.chg.trans (Ext.to x3)).then ch4 ?_,fun j hj=>?_⟩
    ·rintro j (rfl|rfl|rfl|rfl) hl
     ·exact⟨i,hi',rfl⟩
     ·have:=M.n0;omega
     ·have:=M.n4;omega
     ·have:=x2.next;omega
    ·have hj3:j<(Co TT 149 27 0 t2 h2).next:=by have:=x3.next;omega
     rw[same4 j hj3 (by rintro(rfl|rfl|rfl) <;> (have:=M.n0;have:=M.n4;have:=x2.next;omega)),x3.get j (by omega) id]
     exact M.kp.same j hj
   have gd4:h4.get h2.next=some (.deferred true):=by
    rw[same4 _ (by omega) ?_]
    ·exact Qm
    ·rintro(y|y|y)
     ·have:=M.look.hb _ _ M.look.lp;omega
     ·have:=M.look.hb _ _ M.look.c4;omega
     ·omega
   have keep4:∀ d,h.get d=some (.deferred true)->h4.get d=some (.deferred true):=fun d gd=>by
    have gd3:=at3 _ _ gd
    rw[same4 d (hb3 _ _ gd3) ?_]
    ·exact gd3
    ·rintro(rfl|rfl|rfl)
     ·rw[M.look.lp]at gd;cases gd
     ·rw[M.look.c4]at gd;cases gd
     ·have:=M.look.hb _ _ gd;omega
   have hnl:∀ o,h4.get (h2.next+1)=some o->∀ b o',h4.get b=some o'->(∀ st p,o' ≠ Ba TT 149 27 0 t2 st p h2.next)->b ≠ h2.next+1:=by
    intro o ho b o' hb' hne e'
    subst e'
    rw[gl4]at hb';cases hb';exact hne _ _ rfl
   have mid:∀ (p5:Option Code),Mid h0 (h4.put (h2.next+1) (Ba TT 149 27 0 t2 .exhausted p5 h2.next)) (fun x=>∃ d,d<n/\x=c d) l0 d0 tm b3 b4 z b2 ((ps i).contains z):=by
    intro p5
    have lt1:h2.next+1<h4.next:=by omega
    have pn:∀ b o',h4.get b=some o'->(∀ st p,o' ≠ Ba TT 149 27 0 t2 st p h2.next)->(h4.put (h2.next+1) (Ba TT 149 27 0 t2 .exhausted p5 h2.next)).get b=some o':=fun b o' hb' hne=>by
     rw[Am _ (Ne.symm (hnl _ gl4 b o' hb' hne))];exact hb'
    refine⟨hk4.A3 (by have:=x2.next;omega) lt1 _,⟨pn _ _ L4.lp (by intros;simp[Ba]),pn _ _ L4.c3 (by intros;simp[Ba]),pn _ _ L4.c4 (by intros;simp[Ba]),pn _ _ L4.c2 (by intros;simp[Ba]),L4.hb.put lt1 _⟩,pn _ _ (keep4 _ M.cd) (by intros;simp[Ba]),M.n0,M.n4,M.nd⟩
   have dsok:∀ (p5:Option Code),∀ d ∈ h2.next::ds,(h4.put (h2.next+1) (Ba TT 149 27 0 t2 .exhausted p5 h2.next)).get d=some (.deferred true)/\h0.next<=d/\d ≠ d0:=by
    intro p5 d hd
    rcases List.mem_cons.1 hd with rfl|hd
    ·exact⟨by rw[Am _ (by omega)];exact gd4,by have:=x2.next;omega,by have:=M.look.hb _ _ M.cd;omega⟩
    ·obtain⟨a,b,c'⟩:=hds d hd
     exact⟨by rw[Am _ (by have:=M.look.hb _ _ a;omega)];exact keep4 _ a,b,c'⟩
   have nd2:(h2.next::ds).Nodup:=List.nodup_cons.2 ⟨fun hd=>by have:=M.look.hb _ _ (hds _ hd).1;omega,hnd⟩
   cases hct:(ps i).contains z with
   | true=>
    rw[hct]at gl4 mid
    refine .inr ⟨gl4,?_⟩
    exact fin _ _ true (A1j hi' hct).symm (mid _) nd2 (dsok _)
   | false=>
    rw[hct]at gl4 mid
    refine .inl ⟨gl4,?_⟩
    simp only[Gc,Ah]
    rw[Cu (by omega) (by omega)]
    exact ih (i+1) _ _ _ (by omega) (by omega) (mid _) (v2' _) nd2 (dsok _) (by rw[Avb,hno,hct];rfl)
  ·have:i=n:=by omega
   subst this
   simp only[hlt,decide_false,Ab]
   exact fin h ds false hno.symm M hnd hds
end
section
variable (H:Ap disp){h0:Aa}{p ql n:Nat}{q c:Nat->Nat}{g:Gm}{ps:Nat->List Int}(P:Fu h0 p ql n q c g ps)(hb0:HB h0)(hps:∀ d,d<n->(ps d).length<=g.Z.toNat)(hZ:g.Z<=4096)(hn:n<=64)
include H P hb0 hps hZ hn
theorem A3m {d:Nat}(hd:7<=d)(hK:5000<K)(z:Int):Ok (Ad TT disp K d false 49 [.ptr p 0,I z] h0) fun v h'=>v=.bool (hasB ps n z)/\Kp (fun x=>∃ d,d<n/\x=c d) h0 h'/\HB h':=by
 obtain⟨e,rfl⟩:∃ k,d=k+2:=⟨d-2,by omega⟩
 rw[Afc H (by omega)]
 simp only[Vo,I,Ab,Vi]
 have x1:Ext h0 (((h0.new (.cells [.int .i64 z] 3)).new (.cells [.bool false] 4)).new (.cells [.ptr p 0] 49)):=((A6.new _ _).Gw _).Gw _
 have n1:(((h0.new (.cells [.int .i64 z] 3)).new (.cells [.bool false] 4)).new (.cells [.ptr p 0] 49)).next=h0.next+3:=rfl
 have gb:(((h0.new (.cells [.int .i64 z] 3)).new (.cells [.bool false] 4)).new (.cells [.ptr p 0] 49)).get (h0.next+2)=some (.cells [.ptr p 0] 49):=Ae _ _
 have g4:(((h0.new (.cells [.int .i64 z] 3)).new (.cells [.bool false] 4)).new (.cells [.ptr p 0] 49)).get (h0.next+1)=some (.cells [.bool false] 4):=by
  rw[Bn _ (Nat.lt_succ_self _)];exact Ae _ _
 have g3:(((h0.new (.cells [.int .i64 z] 3)).new (.cells [.bool false] 4)).new (.cells [.ptr p 0] 49)).get h0.next=some (.cells [I z] 3):=by
  rw[Bn _ (show h0.next<h0.next+2 by omega),Bn _ (show h0.next<h0.next+1 by omega)];exact Ae _ _
 have hnn:((h0.new (.cells [.int .i64 z] 3)).new (.cells [.bool false] 4)).next=h0.next+2:=rfl
 have hn3:(h0.new (.cells [.int .i64 z] 3)).next=h0.next+1:=rfl
 rw[hnn,hn3]
 generalize ((h0.new (.cells [.int .i64 z] 3)).new (.cells [.bool false] 4)).new (.cells [.ptr p 0] 49)=h1 at x1 n1 gb g4 g3 ⊢
 have hb1:=x1.hb hb0
 generalize htm:(((((Tr.nil.put 0 (some (EV.ptr p 0))).put 1 (some (EV.int .i64 z))).put 3 (some (EV.ptr h0.next 0))).put 4 (some (EV.ptr (h0.next+1) 0))).put 7 (some (EV.ptr p 0))).put 8 (some (EV.func 149 [] [EV.ptr (h0.next+2) 0]))=tm
 have T0:Aym tm h0.next (h0.next+1):=⟨by rw[<-htm];simp only[Kl,reduceIte,Nat.reduceEqDiff],by rw[<-htm];simp only[Kl,reduceIte,Nat.reduceEqDiff]⟩
 clear htm
 refine Ok.range ?_
 rw[Ab4 H (by omega)]
 simp only[R0,Ab]
 have x2:Ext h1 (Co TT 49 14 0 tm h1):=Qk
 have hb2:=x2.hb hb1
 have hbx:Dx 142 (.Ug (h1.next+1)) (Co TT 49 14 0 tm h1)=fun(k:EV->Aa->R)=>k (.ptr (h1.next+2) 0) ((Co TT 49 14 0 tm h1).new (.cells [.Ug (h1.next+1)] 142)):=rfl
 rw[hbx]
 have x3:Ext h1 ((Co TT 49 14 0 tm h1).new (.cells [.Ug (h1.next+1)] 142)):=x2.Gw _
 have k2:((Co TT 49 14 0 tm h1).new (.cells [.Ug (h1.next+1)] 142)).get (h1.next+2)=some (.cells [.Ug (h1.next+1)] 142):=Ae _ _
 have kl:((Co TT 49 14 0 tm h1).new (.cells [.Ug (h1.next+1)] 142)).get (h1.next+1)=some (Ba TT 49 14 0 tm .ready none h1.next):=by rw[Bn _ (hb2 _ _ Pd)];exact Pd
 have kd:((Co TT 49 14 0 tm h1).new (.cells [.Ug (h1.next+1)] 142)).get h1.next=some (.deferred true):=by rw[Bn _ (hb2 _ _ Qm)];exact Qm
 generalize (Co TT 49 14 0 tm h1).new (.cells [.Ug (h1.next+1)] 142)=h3 at x3 k2 kl kd ⊢
 have hb3:=x3.hb hb1
 have at3:∀ b o,h1.get b=some o->h3.get b=some o:=fun b o gb=>x3.at hb1 gb
 have P3:Fu h3 p ql n q c g ps:=P.ext fun b o gb=>at3 _ _ (x1.at hb0 gb)
 simp only[Cn (at3 _ _ gb) rfl,Ab,P3.list]
 have M3:Mid h0 h3 (fun x=>∃ d,d<n/\x=c d) (h1.next+1) h1.next tm h0.next (h0.next+1) z (h1.next+2) false:=
  ⟨Ext.kp (x1.trans x3),⟨kl,at3 _ _ g3,at3 _ _ g4,k2,hb3⟩,kd,by omega,by omega,by omega⟩
 refine(A0g (K:=K) H P hb0 hps hZ hn T0 (e:=e) (by omega) hK K 0 h3 _ [] (by omega) (by omega) M3 (by simp only[Kl,reduceIte,Nat.reduceEqDiff]) List.nodup_nil (fun d hd=>by cases hd) rfl).mono ?_
 rintro v h4 M4
 have lt1:=M4.look.hb _ _ M4.look.lp
 have nl:∀ b o st p',h4.get b=some o->(∀ st p,o ≠ Ba TT 49 14 0 tm st p h1.next)->(h4.put (h1.next+1) (Ba TT 49 14 0 tm st p' h1.next)).get b=some o:=fun b o st p' gb hne=>by
  rw[Am _ (Bf M4.look.lp gb (fun y=>hne _ _ y.symm))];exact gb
 have kend:∀ st p',Kp (fun x=>∃ d,d<n/\x=c d) h0 (h4.put (h1.next+1) (Ba TT 49 14 0 tm st p' h1.next)):=fun st p'=>M4.kp.A3 (by omega) lt1 _
 have hbe:∀ st p',HB (h4.put (h1.next+1) (Ba TT 49 14 0 tm st p' h1.next)):=fun st p'=>M4.look.hb.put lt1 _
 have cellres:∀ (h5:Aa) (b:Bool),h5.get (h0.next+1)=some (.cells [.bool b] 4)->Jh TT [.c (.ptr (h0.next+1) 0) 4] h5=some (.bool b,h5):=by
  intro h5 b hg
  have hr:F3 h5 (h0.next+1) 0 1=some [.bool b]:=by unfold F3;rw[hg];rfl
  unfold Jh
  simp only[Alu,show TT.size 4=some 1 by kernel_rfl,show TT.agg 4=some false by kernel_rfl,hr]
 cases hf:hasB ps n z with
 | true=>
  rw[hf]at M4
  refine .inr ⟨M4.look.lp,?_⟩
  refine Ok.unwind (List.nodup_cons.2 ⟨by simp,List.nodup_nil⟩) (fun d hd=>by rw[List.mem_singleton]at hd;subst hd;exact nl _ _ _ _ M4.cd (by intros;simp[Ba])) (hbe _ _) fun h5 ch hn5=>?_
  have g45:h5.get (h0.next+1)=some (.cells [.bool true] 4):=A6.at ch (hbe _ _) (nl _ _ _ _ M4.look.c4 (by intros;simp[Ba])) (by simp;omega)
  rw[cellres h5 true g45]
  exact .ret ⟨rfl,(kend _ _).Arp ch fun i hi=>by rw[List.mem_singleton]at hi;omega,ch.hb (hbe _ _)⟩
 | false=>
  rw[hf]at M4
  refine .inl ⟨M4.look.lp,?_⟩
  simp only[Jm]
  refine Ok.st1 (nl _ _ _ _ M4.look.c4 (by intros;simp[Ba])) rfl rfl (by show 0<1;decide) ?_
  have lt4:h0.next+1<(h4.put (h1.next+1) (Ba TT 49 14 0 tm .exhausted none h1.next)).next:=M4.look.hb _ _ M4.look.c4
  have hb5:HB ((h4.put (h1.next+1) (Ba TT 49 14 0 tm .exhausted none h1.next)).put (h0.next+1) (.cells ([EV.bool false].set 0 (.bool false)) 4)):=(hbe _ _).put lt4 _
  refine Ok.unwind (List.nodup_cons.2 ⟨by simp,List.nodup_nil⟩) (fun d hd=>by rw[List.mem_singleton]at hd;subst hd;rw[Am _ (by omega)];exact nl _ _ _ _ M4.cd (by intros;simp[Ba])) hb5 fun h5 ch hn5=>?_
  have g45:h5.get (h0.next+1)=some (.cells [.bool false] 4):=A6.at ch hb5 (Ai _ _ _) (by simp;omega)
  rw[cellres h5 false g45]
  exact .ret ⟨rfl,((kend _ _).A3 (by omega) lt4 _).Arp ch fun i hi=>by rw[List.mem_singleton]at hi;omega,ch.hb hb5⟩
end
end Go.Ev

namespace Go.Ev
open Go.Proofs
set_option maxRecDepth 10000
variable {disp:Nat->Option FT}{K:Nat}
def La(g:Gm)(z:Int):Int:=if z<0\/g.D*g.Z<=z then -1 else z / g.Z
theorem To {g:Gm}(s:Sm g)(z:Int)(hz : -9223372036854775808<=z/\z<=9223372036854775807)(h:Aa):Ok (Hv K (gV g) (I z) h) fun v h'=>v=I (La g z)/\Ext h h':=by
 have:=s.d0;have:=s.d1;have:=s.z0;have:=s.z1
 obtain⟨m0,m1⟩:=Rv (a:=g.D) (b:=g.Z) (A:=8) (B:=64) (by omega) (by omega) (by omega) (by omega)
 simp only[Hv,gV,Ab,I,Ah]
 have hg:(h.new (.cells (gL g) 23)).get h.next=some (.cells (gL g) 23):=Ae _ _
 have hn:h.next<(h.new (.cells (gL g) 23)).next:=Nat.lt_succ_self _
 have hx:Ext h (h.new (.cells (gL g) 23)):=A6.new _ _
 generalize h.new (.cells (gL g) 23)=ha at hg hn hx ⊢
 unfold La
 by_cases h1:z<0
 ·simp only[h1,decide_true,Ab,Ah,Jb]
  exact .ret ⟨by rw[if_pos (.inl trivial)],hx⟩
 ·simp only[h1,decide_false,Ab,Ah,F2 hg rfl,Aw (show (gL g).length=6 from rfl)]
  rw[show EV.agg (gL g)=gV g from rfl,Q8 s,A2]
  simp only[I,Ah,Jb]
  by_cases h2:g.D*g.Z<=z
  ·simp only[h2,decide_true,Ab]
   exact .ret ⟨by rw[if_pos (.inr trivial)],hx.Gw _⟩
  ·have hg2:(ha.new (.cells (gL g) 23)).get h.next=some (.cells (gL g) 23):=by rw[Bn _ hn];exact hg
   have hx2:Ext h (ha.new (.cells (gL g) 23)):=hx.Gw _
   generalize ha.new (.cells (gL g) 23)=hc at hg2 hx2 ⊢
   simp only[h2,decide_false,Ab,Sn,Cn hg2 rfl,gL,I]
   rw[A1g (by omega) (by omega) (by omega)]
   exact .ret ⟨by rw[if_neg (by rintro(x|x) <;> exact x)],hx2⟩
def upd(ps:Nat->List Int)(d:Nat)(l:List Int):Nat->List Int:=fun e=>if e=d then l else ps e
def Amv(n:Nat)(c:Nat->Nat):Nat->Prop:=fun x=>∃ d,d<n/\x=c d
def Auv:Cx->Prop
 | .chan ..=>False
 | _=>True
theorem Fu.A3k {h:Aa}{p ql n:Nat}{q c:Nat->Nat}{g:Gm}{ps:Nat->List Int}(P:Fu h p ql n q c g ps){b:Nat}{o:Cx}(gb:h.get b=some o)(ho:Auv o):¬ Amv n c b:=by
 rintro⟨d,hd,rfl⟩
 rw[P.chan d hd]at gb;cases gb;exact ho
theorem Fu.put {h:Aa}{p ql n:Nat}{q c:Nat->Nat}{g:Gm}{ps:Nat->List Int}(P:Fu h p ql n q c g ps){d:Nat}(hd:d<n)(l:List Int):Fu (h.put (c d) (.chan g.Z.toNat (l.map I))) p ql n q c g (upd ps d l):=by
 have ne:∀ b o,h.get b=some o->Auv o->(h.put (c d) (.chan g.Z.toNat (l.map I))).get b=some o:=fun b o gb ho=>by
  rw[Am _ (fun e=>P.A3k gb ho ⟨d,hd,e.symm⟩)];exact gb
 refine⟨P.pos,ne _ _ P.Js trivial,ne _ _ P.row trivial,fun e he=>ne _ _ (P.que e he) trivial,fun e he=>?_,P.inj⟩
 unfold upd
 by_cases hed:e=d
 ·subst hed;rw[if_pos rfl];exact Ai _ _ _
 ·rw[if_neg hed,Am _ (fun x=>hed (P.inj _ _ he hd x.symm))];exact P.chan e he
theorem Fu.kp {h h':Aa}{S:Nat->Prop}{p ql n:Nat}{q c:Nat->Nat}{g:Gm}{ps:Nat->List Int}(P:Fu h p ql n q c g ps)(hb:HB h)(k:Kp S h h'):Fu h' p ql n q c g ps:=P.ext fun i o g=>k.at hb g
structure Tk(n:Nat)(g:Gm)(ps:Nat->List Int):Prop where
 nd:n=g.D.toNat
 sm:Sm g
 cap:∀ d,d<n->(ps d).length<=g.Z.toNat
theorem Tk.bd {n:Nat}{g:Gm}{ps:Nat->List Int}(z:Tk n g ps):n<=8/\g.Z<=64/\(n:Int)=g.D:=by
 have:=z.nd;have:=z.sm.d0;have:=z.sm.d1;have:=z.sm.z1;omega
theorem Tk.upd {n:Nat}{g:Gm}{ps:Nat->List Int}(z:Tk n g ps){d:Nat}{l:List Int}(hl:l.length<=g.Z.toNat):Tk n g (upd ps d l):=
 ⟨z.nd,z.sm,fun e he=>by unfold Ev.upd;split;exact hl;exact z.cap e he⟩
def Acp(g:Gm)(n:Nat)(ps:Nat->List Int)(z:Int):Int × (Nat->List Int):=
 if La g z<0 then (13,ps) else if hasB ps n z then (16,ps) else
  if (ps (La g z).toNat).length<g.Z.toNat then (0,upd ps (La g z).toNat (ps (La g z).toNat++[z])) else (17,ps)
theorem Air {g:Gm}(s:Sm g)(z:Int):La g z = -1\/(0<=La g z/\La g z<g.D/\La g z=z / g.Z/\0<=z/\z<g.D*g.Z):=by
 have:=s.z0
 unfold La
 split
 ·exact .inl rfl
 ·refine .inr ⟨Int.ediv_nonneg (by omega) (by omega),Int.ediv_lt_of_lt_mul (by omega) (by omega),rfl,by omega,by omega⟩
section
variable (H:Ap disp){h:Aa}{p ql n:Nat}{q c:Nat->Nat}{g:Gm}{ps:Nat->List Int}(P:Fu h p ql n q c g ps)(hb:HB h)(Z:Tk n g ps)(hK:5000<K)
include P hb Z hK
theorem A12(d:Int):Ok (L6 K (.ptr p 0) (I d) h) fun v h'=>A6 (Amv n c) h h'/\HB h'/\∃ x e ps',v=.tuple [I x,I e]/\Fu h' p ql n q c g ps'/\Tk n g ps' /\
 ((d<0\/(n:Int)<=d)/\x=0/\e=13/\ps'=ps\/(0<=d/\d<n/\ps d.toNat = []/\x=0/\e=15/\ps'=ps)\/(0<=d/\d<n/\e=0/\∃ r,ps d.toNat=x::r/\ps'=upd ps d.toNat r)):=by
 simp only[L6,I,Ah,Ab]
 by_cases h1:d<0
 ·simp only[h1,decide_true,Ab,Ah,Lh]
  exact .ret ⟨A6.refl _,hb,0,13,ps,rfl,P,Z,.inl ⟨.inl trivial,rfl,rfl,rfl⟩⟩
 ·simp only[h1,decide_false,Ab,Ah,P.list,Lh]
  by_cases h2:(n:Int)<=d
  ·simp only[h2,decide_true,Ab]
   exact .ret ⟨A6.refl _,hb,0,13,ps,rfl,P,Z,.inl ⟨.inr trivial,rfl,rfl,rfl⟩⟩
  ·obtain⟨d,rfl⟩:=Int.eq_ofNat_of_zero_le (show 0<=d by omega)
   have hd:d<n:=by omega
   simp only[h2,decide_false,Ab,Um,P.list]
   rw[P.rowAt.ix hd]
   simp only[P.A3w hd]
   cases hl:ps d with
   | nil=>
    rw[take_nil (P.que _ hd) (P.chan _ hd) hl]
    simp only[Ab]
    exact .ret ⟨A6.refl _,hb,0,15,ps,rfl,P,Z,.inr (.inl ⟨by omega,by omega,hl,rfl,rfl,rfl⟩)⟩
   | cons x r=>
    rw[take_cons (P.que _ hd) (P.chan _ hd) hl]
    simp only[Ab]
    have lt:=hb _ _ (P.chan _ hd)
    refine .ret ⟨(A6.refl h).A3 (.inl ⟨_,hd,rfl⟩) lt _,hb.put lt _,x,0,upd ps d r,rfl,P.put hd r,Z.upd ?_,.inr (.inr ⟨by omega,by omega,rfl,r,hl,rfl⟩)⟩
    have:=Z.cap _ hd;rw[hl]at this;simp at this;omega
include H
theorem A01 {d:Nat}(hd:8<=d)(z:Int)(hz : -9223372036854775808<=z/\z<=9223372036854775807):Ok (Ad TT disp K d false 15 [.ptr p 0,I z] h) fun v h'=>A6 (Amv n c) h h'/\HB h'/\v=I (Acp g n ps z).1/\Fu h' p ql n q c g (Acp g n ps z).2/\Tk n g (Acp g n ps z).2:=by
 obtain⟨e,rfl⟩:∃ k,d=k+1:=⟨d-1,by omega⟩
 obtain⟨b1,b2,b3⟩:=Z.bd
 rw[Ad1 H (by omega)]
 simp only[Aa7,Ab,P.A1k]
 refine(To Z.sm z hz h).Aj ?_
 rintro _ h1 ⟨rfl,x1⟩
 have hb1:=x1.hb hb
 have P1:=P.ext fun i o g=>x1.at hb g
 simp only[I,Ah]
 unfold Acp
 rcases Air Z.sm z with hdm|⟨d0,d1,d2,d3,d4⟩
 ·rw[hdm]
  simp only[show (-1:Int)<0 by decide,decide_true,Ab,if_true]
  exact .ret ⟨Ext.to x1,hb1,rfl,P1,Z⟩
 ·have hnn:¬ La g z<0:=by omega
  simp only[hnn,decide_false,Ab,if_false]
  refine(A3m (K:=K) H P1 hb1 Z.cap (by omega) (by omega) (d:=e) (by omega) hK z).Aj ?_
  rintro _ h2 ⟨rfl,k2,hb2⟩
  have P2:=P1.kp hb1 k2
  have ch2:A6 (Amv n c) h h2:=(Ext.to x1).trans k2.chg
  cases hf:hasB ps n z with
  | true=>
   simp only[Ab,if_true]
   exact .ret ⟨ch2,hb2,rfl,P2,Z⟩
  | false=>
   have hdn:(La g z).toNat<n:=by omega
   simp only[Ab,Uu,P2.list]
   rw[show La g z=((La g z).toNat:Int) by omega,P2.rowAt.ix hdn]
   simp only[P2.A3w hdn,Int.toNat_natCast]
   have lt:=hb2 _ _ (P2.chan _ hdn)
   by_cases hl:(ps (La g z).toNat).length<g.Z.toNat
   ·rw[Atv (P2.que _ hdn) (P2.chan _ hdn) z hl,A2]
    rw[if_pos hl]
    refine .ret ⟨ch2.A3 (.inl ⟨_,hdn,rfl⟩) lt _,hb2.put lt _,rfl,P2.put hdn _,Z.upd ?_⟩
    rw[List.length_append];simp;omega
   ·rw[A3i (P2.que _ hdn) (P2.chan _ hdn) z (by omega),A2]
    rw[if_neg hl]
    exact .ret ⟨ch2,hb2,rfl,P2,Z⟩
end
end Go.Ev

namespace Go.Ev
open Go.Proofs
set_option maxRecDepth 10000
variable {disp:Nat->Option FT}{K:Nat}
section
variable (H:Ap disp)(hK:5000<K)
include H hK
end
section
variable {h:Aa}{p ql n:Nat}{q c:Nat->Nat}{g:Gm}{ps:Nat->List Int}(P:Fu h p ql n q c g ps)(hb:HB h)(Z:Tk n g ps)(hK:5000<K)
include P hb Z hK
end
end Go.Ev

namespace Go.Ev
open Go.Proofs
set_option maxRecDepth 100000
variable {K:Nat}
def Ha(st:Nat):Int:=if st=4 then 32 else if st=3 then 30 else 0
theorem Vr {h:Aa}{z q:Nat}{size:Int}{Z:Zn}(zz:D3 h z q size Z):B7 K (.ptr z 0) h=some (I Z.st,h):=by
 obtain⟨s,g,_⟩:=zz.B5
 simp only[B7,Ab,Cn g rfl]
theorem O5 {h:Aa}{z q:Nat}{size:Int}{Z:Zn}(zz:D3 h z q size Z):Ci K (.ptr z 0) h=some (I (Ha Z.st),h):=by
 obtain⟨s,g,_⟩:=zz.B5
 simp only[Ci,Ab,Cn g rfl,I,Ah]
 unfold Ha
 by_cases h4:Z.st=4
 ·have:decide ((Z.st:Int)=4)=true:=by simp[h4]
  rw[this,if_pos h4];simp only[Ab]
 ·have a:decide ((Z.st:Int)=4)=false:=by simp;omega
  rw[a,if_neg h4];simp only[Ab,Ah]
  by_cases h3:Z.st=3
  ·have:decide ((Z.st:Int)=3)=true:=by simp[h3]
   rw[this,if_pos h3];simp only[Ab]
  ·have b:decide ((Z.st:Int)=3)=false:=by simp;omega
   rw[b,if_neg h3];simp only[Ab,Ah,Is]
theorem D3.ext {h h':Aa}{z q:Nat}{size:Int}{Z:Zn}(d:D3 h z q size Z)(g:∀ i o,h.get i=some o->h'.get i=some o):D3 h' z q size Z:=by
 obtain⟨s,a,b⟩:=d.B5
 exact⟨⟨s,g _ _ a,b.frame fun hl=>by rw[g _ _ (b.block hl),b.block hl]⟩,d.wf⟩
def Zn.app(Z:Zn)(size:Nat)(x:List EV):Zn:=⟨Z.l++[x],Z.safe,if Z.l.length+1=size then 2 else 1,Z.fin⟩
theorem Akd {h:Aa}{z q size:Nat}{Z:Zn}(zz:D3 h z q size Z)(hb:HB h)(hst:Z.st<2)(hl:Z.l.length<=64){x:List EV}(hx:x.length=64):
 Ok (Ch K (.ptr z 0) (.agg x) h) fun v h'=>v=.tuple [I Z.l.length,I 0]/\(∃ q',D3 h' z q' size (Z.app size x)/\h.next<=q')/\A6 (fun i=>i=z\/(0<Z.l.length/\i=q)) h h'/\HB h':=by
 obtain⟨s,g,r⟩:=zz.B5
 simp only[Ch,Ab]
 have x1:Ext h (h.new (.cells x 103)):=A6.new _ _
 have g3:(h.new (.cells x 103)).get h.next=some (.cells x 103):=Ae _ _
 have n1:(h.new (.cells x 103)).next=h.next+1:=rfl
 generalize h.new (.cells x 103)=h1 at x1 g3 n1 ⊢
 have hb1:=x1.hb hb
 have z1:D3 h1 z q size Z:=zz.ext fun i o g=>x1.at hb g
 have g1:=x1.at hb g
 have r1:Bx h1 s q 103 64 Z.l.length Z.l.flatten:=r.frame fun hl=>by rw[x1.at hb (r.block hl),r.block hl]
 rw[O5 z1,A2]
 have hf:Ha Z.st=0:=by unfold Ha;rw[if_neg (by omega),if_neg (by omega)]
 rw[hf]
 have h2:¬ (Z.st:Int)=2:=by omega
 simp only[Ah,I,not_true_eq_false,decide_false,Ab,Fq,Cn g1 rfl,h2,Ir]
 have lz:=hb1 _ _ g1
 have l3:=hb1 _ _ g3
 simp only[Ab,Bh,As lz,As l3,Cn g1 rfl,F2 g3 rfl,Aw hx]
 rw[Qw (z:=List.replicate 64 (.int .u8 0)) rfl (by simp) (by exact hx) (by omega),A2]
 have x2:Ext h1 (h1.new (.cells (EV.cells (.agg x)) 103)):=A6.new _ _
 have gx:(h1.new (.cells (EV.cells (.agg x)) 103)).get h1.next=some (.cells x 103):=Ae _ _
 have n2:(h1.new (.cells (EV.cells (.agg x)) 103)).next=h1.next+1:=rfl
 generalize h1.new (.cells (EV.cells (.agg x)) 103)=h2' at x2 gx n2 ⊢
 have hb2:=x2.hb hb1
 have g2:=x2.at hb1 g1
 have r2:Bx h2'.lift s q 103 64 Z.l.length Z.l.flatten:=(r1.frame (h':=h2') fun hl=>by rw[x2.at hb1 (r1.block hl),r1.block hl]).frame fun _=>Cj _ _
 obtain⟨h3,e3,r3,n3,c3⟩:=Qb (x:=.slice h1.next 0 1 1 false) (n:=1) r2 rfl (by omega) (by omega) (by omega) (O1 (b:=h1.next) (by rw[Cj];exact gx) hx) (by rw[hx])
 refine Ok.Ak5 (S:=fun i=>0<Z.l.length/\i=q) (by kernel_rfl) (by kernel_rfl) (fun _=>by kernel_rfl) (P:=fun v h'=>v=.slice h2'.lift.next 0 (Z.l.length+1) (Z.l.length+1) true/\h'=h3) ⟨_,_,e3,rfl,rfl⟩ (fun _ _ p=>by rw[p.2];exact c3) ?_
 rintro _ _ h4 s' ⟨rfl,rfl⟩ sm x4 hs'
 have hb4:=x4.hb hb2
 rw[Wk]at r3 n3
 rw[Wk]
 have hnz:¬ (0<Z.l.length/\z=q):=fun y=>by
  have:=r1.block y.1;exact Bf g1 this (by simp) y.2
 have g4:h4.get z=some (.cells [s,I size,I Z.safe,I Z.st,.bool Z.fin] 240):=A6.at x4 hb2 g2 hnz
 have r4:Bx h4 (.slice h2'.next 0 (Z.l.length+1) (Z.l.length+1) true) h2'.next 103 64 (Z.l.length+1) (Z.l.flatten++x):=r3.frame fun _=>sm.get _
 have lz4:z<h4.next:=hb4 _ _ g4
 try simp only[Ab]
 rw[U9 (by rcases hs' with rfl|⟨w,rfl,_⟩ <;> kernel_rfl)]
 refine Ok.st1 g4 rfl rfl (by show 0<5;decide) ?_
 refine Ok.st1 (Ai _ _ _) rfl rfl (by show 3<5;decide) ?_
 simp only[List.set,Ab]
 have hne:h2'.next ≠ z:=by have:=hb2 _ _ g2;omega
 have lz5:z<((h4.put z (.cells [EV.slice h2'.next 0 (Z.l.length+1) (Z.l.length+1) true,I size,I Z.safe,I Z.st,.bool Z.fin] 240)).put z (.cells [EV.slice h2'.next 0 (Z.l.length+1) (Z.l.length+1) true,I size,I Z.safe,.int .i64 1,.bool Z.fin] 240)).next:=lz4
 have hq:h.next<=h2'.next:=by omega
 have r5:∀ o1 o2,Bx ((h4.put z o1).put z o2) (.slice h2'.next 0 (Z.l.length+1) (Z.l.length+1) true) h2'.next 103 64 (Z.l.length+1) (Z.l.flatten++x):=fun o1 o2=>r4.frame fun _=>by rw[Am _ (Ne.symm hne),Am _ (Ne.symm hne)]
 have ch:∀ o1 o2,A6 (fun i=>i=z\/(0<Z.l.length/\i=q)) h ((h4.put z o1).put z o2):=fun o1 o2=>((((Ext.to (x1.trans x2)).trans (x4.mono fun i hi=>.inr hi)).A3 (.inl (.inl rfl)) lz4 _).A3 (.inl (.inl rfl)) lz4 _)
 have hbz:∀ o1 o2,HB ((h4.put z o1).put z o2):=fun o1 o2=>(hb4.put lz4 _).put lz4 _
 have gz:((h4.put z (.cells [EV.slice h2'.next 0 (Z.l.length+1) (Z.l.length+1) true,I size,I Z.safe,I Z.st,.bool Z.fin] 240)).put z (.cells [EV.slice h2'.next 0 (Z.l.length+1) (Z.l.length+1) true,I size,I Z.safe,.int .i64 1,.bool Z.fin] 240)).get z=some (.cells [EV.slice h2'.next 0 (Z.l.length+1) (Z.l.length+1) true,I size,I Z.safe,.int .i64 1,.bool Z.fin] 240):=Ai _ _ _
 have r5':=r5 (.cells [EV.slice h2'.next 0 (Z.l.length+1) (Z.l.length+1) true,I size,I Z.safe,I Z.st,.bool Z.fin] 240) (.cells [EV.slice h2'.next 0 (Z.l.length+1) (Z.l.length+1) true,I size,I Z.safe,.int .i64 1,.bool Z.fin] 240)
 have ch':=ch (.cells [EV.slice h2'.next 0 (Z.l.length+1) (Z.l.length+1) true,I size,I Z.safe,I Z.st,.bool Z.fin] 240) (.cells [EV.slice h2'.next 0 (Z.l.length+1) (Z.l.length+1) true,I size,I Z.safe,.int .i64 1,.bool Z.fin] 240)
 have hb5:=hbz (.cells [EV.slice h2'.next 0 (Z.l.length+1) (Z.l.length+1) true,I size,I Z.safe,I Z.st,.bool Z.fin] 240) (.cells [EV.slice h2'.next 0 (Z.l.length+1) (Z.l.length+1) true,I size,I Z.safe,.int .i64 1,.bool Z.fin] 240)
 generalize (h4.put z (.cells [EV.slice h2'.next 0 (Z.l.length+1) (Z.l.length+1) true,I size,I Z.safe,I Z.st,.bool Z.fin] 240)).put z (.cells [EV.slice h2'.next 0 (Z.l.length+1) (Z.l.length+1) true,I size,I Z.safe,.int .i64 1,.bool Z.fin] 240)=h5 at gz r5' ch' hb5 lz5 ⊢
 simp only[Cn gz rfl,Ab,I,Ah]
 have fin:∀ (st:Nat) (h6:Aa),st=(Z.app size x).st->h6.get z=some (.cells [EV.slice h2'.next 0 (Z.l.length+1) (Z.l.length+1) true,I size,I Z.safe,I st,.bool Z.fin] 240)->Bx h6 (.slice h2'.next 0 (Z.l.length+1) (Z.l.length+1) true) h2'.next 103 64 (Z.l.length+1) (Z.l.flatten++x)->A6 (fun i=>i=z\/(0<Z.l.length/\i=q)) h h6->HB h6 ->
  Ok (Dr K (.ptr z 0) h6) fun v h'=>v=.tuple [I Z.l.length,I 0]/\(∃ q',D3 h' z q' size (Z.app size x)/\h.next<=q')/\A6 (fun i=>i=z\/(0<Z.l.length/\i=q)) h h'/\HB h':=by
  rintro st h6 rfl g6 r6 c6 hb6
  simp only[Dr,Ab,Cn g6 rfl,I,Ah]
  rw[Cu (by omega) (by omega),show ((Z.l.length+1:Nat):Int)-1=(Z.l.length:Int) by omega]
  refine .ret ⟨rfl,⟨h2'.next,⟨⟨_,g6,?_⟩,fun y hy=>by
   rcases List.mem_append.1 hy with hy|hy
   ·exact zz.wf y hy
   ·rw[List.mem_singleton.1 hy];exact hx⟩,hq⟩,c6,hb6⟩
  have e1:(Z.app size x).l.length=Z.l.length+1:=by simp[Zn.app]
  have e2:(Z.app size x).l.flatten=Z.l.flatten++x:=by simp[Zn.app]
  rw[e1,e2];exact r6
 by_cases hs:Z.l.length+1=size
 ·have:((Z.l.length+1:Nat):Int)=(size:Int):=by omega
  simp only[this,decide_true,Ab]
  refine Ok.st1 gz rfl rfl (by show 3<5;decide) ?_
  refine fin 2 _ (by simp[Zn.app,hs]) (Ai _ _ _) (r5'.frame fun _=>Am _ (Ne.symm hne)) (ch'.A3 (.inl (.inl rfl)) lz5 _) (hb5.put lz5 _)
 ·have:¬ ((Z.l.length+1:Nat):Int)=(size:Int):=by omega
  simp only[this,decide_false,Ab]
  exact fin 1 _ (by simp[Zn.app,hs]) gz r5' ch' hb5
theorem Akc {h:Aa}{z q:Nat}{size:Int}{Z:Zn}(zz:D3 h z q size Z)(hb:HB h)(hst:2<=Z.st)(h4:Z.st<=4)(x:List EV):
 Ok (Ch K (.ptr z 0) (.agg x) h) fun v h'=>v=.tuple [I 0,I (if Z.st=2 then 17 else Ha Z.st)]/\Ext h h':=by
 simp only[Ch,Ab]
 have x1:Ext h (h.new (.cells x 103)):=A6.new _ _
 generalize h.new (.cells x 103)=h1 at x1 ⊢
 have z1:D3 h1 z q size Z:=zz.ext fun i o g=>x1.at hb g
 rw[O5 z1,A2]
 obtain⟨s,g,_⟩:=z1.B5
 by_cases h2:Z.st=2
 ·have hf:Ha Z.st=0:=by unfold Ha;rw[if_neg (by omega),if_neg (by omega)]
  have h2':(Z.st:Int)=2:=by omega
  rw[hf]
  simp only[Ah,I,not_true_eq_false,decide_false,Ab,Fq,Cn g rfl,h2',decide_true,h2,if_true]
  exact .ret ⟨rfl,x1⟩
 ·have hf:¬ Ha Z.st=0:=by
   unfold Ha
   split
   ·decide
   ·split
    ·decide
    ·omega
  simp only[Ah,I,hf,not_false_eq_true,decide_true,Ab,h2,if_false]
  exact .ret ⟨rfl,x1⟩
end Go.Ev

namespace Go.Ev
open Go.Proofs
set_option maxRecDepth 100000
variable {K:Nat}
theorem Ai2 {h:Aa}{i t n:Nat}{l:List EV}{v:EV}(hg:h.get i=some (.cells l t))(hs:TT.size t=some n)(ha:TT.agg t=some true)(hl:l.length=n):Jh TT [.c (.ptr i 0) t,.v v] h=some (.tuple [.agg l,v],h):=by
 have hr:F3 h i 0 n=some l:=by
  unfold F3;rw[hg];simp only;rw[<-Vc];exact Aw hl
 unfold Jh
 simp only[Alu,hs,hr,ha]
theorem Al4:TT.size 103=some 64/\TT.agg 103=some true:=⟨by kernel_rfl,by kernel_rfl⟩
def Y5:List EV:=List.replicate 64 (.int .u8 0)
theorem Af5:Y5.length=64:=by simp[Y5]
theorem D3.put {h:Aa}{z q:Nat}{size:Int}{Z:Zn}(zz:D3 h z q size Z){s:EV}(g:h.get z=some (.cells [s,I size,I Z.safe,I Z.st,.bool Z.fin] 240))(safe st:Nat)(fin:Bool):
 D3 (h.put z (.cells [s,I size,I safe,I st,.bool fin] 240)) z q size ⟨Z.l,safe,st,fin⟩:=by
 obtain⟨s',g',r⟩:=zz.B5
 rw[g]at g'
 have:s=s':=by
  have:=Option.some.inj g'
  injection this with a _
  exact(List.cons.inj a).1
 subst this
 refine⟨⟨s,Ai _ _ _,r.frame fun hl=>Am _ ?_⟩,zz.wf⟩
 exact Bf g (r.block hl) (by simp)
def Zn.flush(Z:Zn):Zn:={ Z with safe:=Z.l.length }
theorem Ak1 {h:Aa}{z q:Nat}{size:Int}{Z:Zn}(zz:D3 h z q size Z)(hb:HB h):
 Ok (Di K (.ptr z 0) h) fun v h'=>D3 h' z q size Z.flush/\A6 (fun i=>i=z) h h'/\HB h':=by
 obtain⟨s,g,r⟩:=zz.B5
 have lz:=hb _ _ g
 simp only[Di,Ab,Cn g rfl,r.I4]
 refine Ok.st1 g rfl rfl (by show 2<5;decide) ?_
 refine .ret ⟨?_,(A6.refl (S:=fun i=>i=z) h).A3 (.inl rfl) lz _,hb.put lz _⟩
 exact zz.put g Z.l.length Z.st Z.fin
def Zn.finish(Z:Zn):Zn:={ Z with st:=2,fin:=true }
theorem Ajs {h:Aa}{z q:Nat}{size:Int}{Z:Zn}(zz:D3 h z q size Z)(hb:HB h):
 Ok (Ep K (.ptr z 0) h) fun v h'=>v=I (Ha Z.st)/\D3 h' z q size (if Ha Z.st=0 then Z.finish else Z)/\A6 (fun i=>i=z) h h'/\HB h':=by
 obtain⟨s,g,r⟩:=zz.B5
 have lz:=hb _ _ g
 simp only[Ep,O5 zz,Ab,I,Ah]
 by_cases hf:Ha Z.st=0
 ·simp only[hf,not_true_eq_false,decide_false,Ab,if_true,Iu]
  refine Ok.st1 g rfl rfl (by show 3<5;decide) ?_
  refine Ok.st1 (Ai _ _ _) rfl rfl (by show 4<5;decide) ?_
  refine .ret ⟨rfl,?_,((A6.refl (S:=fun i=>i=z) h).A3 (.inl rfl) lz _).A3 (.inl rfl) lz _,(hb.put lz _).put lz _⟩
  exact(zz.put g Z.safe 2 Z.fin).put (Ai _ _ _) Z.safe 2 true
 ·simp only[hf,not_false_eq_true,decide_true,Ab,if_false]
  exact .ret ⟨rfl,zz,A6.refl _,hb⟩
def Zn.fail(Z:Zn)(st:Nat):Zn:=if st=4\/st=3/\¬ Z.st=4 then { Z with st:=st } else Z
theorem Aof {h:Aa}{z q:Nat}{size:Int}{Z:Zn}(zz:D3 h z q size Z)(hb:HB h)(st:Nat):
 Ok (E9 K (.ptr z 0) (I st) h) fun v h'=>D3 h' z q size (Z.fail st)/\A6 (fun i=>i=z) h h'/\HB h':=by
 obtain⟨s,g,r⟩:=zz.B5
 have lz:=hb _ _ g
 have yes:(st=4\/st=3/\¬ Z.st=4)->Ok (Jq 1 (.ptr z 3) (I st) h fun h=>some (.tuple [],h)) fun v h'=>D3 h' z q size (Z.fail st)/\A6 (fun i=>i=z) h h'/\HB h':=by
  intro hc
  refine Ok.st1 g rfl rfl (by show 3<5;decide) ?_
  refine .ret ⟨?_,(A6.refl (S:=fun i=>i=z) h).A3 (.inl rfl) lz _,hb.put lz _⟩
  unfold Zn.fail;rw[if_pos hc]
  exact zz.put g Z.safe st Z.fin
 have no:¬ (st=4\/st=3/\¬ Z.st=4)->Ok (some (.tuple [],h)) fun v h'=>D3 h' z q size (Z.fail st)/\A6 (fun i=>i=z) h h'/\HB h':=by
  intro hc
  refine .ret ⟨?_,A6.refl _,hb⟩
  unfold Zn.fail;rw[if_neg hc];exact zz
 simp only[E9,I,Ah,Ab]
 by_cases a:st=4
 ·rw[show decide ((st:Int)=4)=true by simp[a]]
  simp only[Ab,Ah,C5,Cd,Ce]
  exact yes (.inl a)
 ·rw[show decide ((st:Int)=4)=false by simp;omega]
  simp only[Ab,Ah]
  by_cases b:st=3
  ·rw[show decide ((st:Int)=3)=true by simp[b]]
   simp only[Ab,Ah,C5,Cn g rfl,I]
   by_cases c:Z.st=4
   ·rw[show decide (¬ (Z.st:Int)=4)=false by simp[c]]
    simp only[Ab,Ah,Cd,Ce]
    exact no (by omega)
   ·rw[show decide (¬ (Z.st:Int)=4)=true by simp;omega]
    simp only[Ab,Ah,Cd,Ce]
    exact yes (.inr ⟨b,c⟩)
  ·rw[show decide ((st:Int)=3)=false by simp;omega]
   simp only[Ab,Ah,C5,Cd,Ce]
   exact no (by omega)
end Go.Ev

namespace Go.Ev
open Go.Proofs
set_option maxRecDepth 100000
variable {K:Nat}
theorem Wy {h:Aa}{b e sz n:Nat}{x:EV}{new:List EV}(hx:lenOf x=some n)(hn':n<=65536)(hc:M0 h sz n x=some new)(hs:new.length=n*sz)(q:Nat):
 Ok (C8 e sz (.slice b 0 0 0 false) x h) fun v h'=>∃ q',Bx h' v q' e sz n new/\Ext h h'/\(0<n->h.next<=q'):=by
 rcases Nat.eq_zero_or_pos n with rfl|hp
 ·have:new = []:=List.length_eq_zero_iff.1 (by omega)
  subst this
  refine⟨.slice b 0 0 0 false,h,?_,q,.empty _ _ _ _ _,A6.refl _,fun y=>by omega⟩
  unfold C8;simp only[hx,Su];rfl
 ·obtain⟨h',e1,r,n1,c⟩:=Qb (s:=.slice b 0 0 0 false) (q:=q) (e:=e) (.empty h b q e sz) hx hp hn' (Nat.zero_le _) hc hs
  refine⟨_,h',e1,h.next,?_,c.mono fun i hi=>absurd hi.1 (Nat.lt_irrefl _),fun _=>Nat.le_refl _⟩
  rw[List.nil_append]at r
  simpa only[Nat.zero_add] using r
end Go.Ev
