import Derived.Test.YtpkcfamminlmaaaGreatQa
import Derived.Test.YtpkcfamminlmaaaGreatDd
set_option linter.unusedVariables false
set_option linter.unusedSimpArgs false
set_option linter.unusedSectionVars false
namespace Go.Ev
open Go.Proofs
set_option maxRecDepth 100000
variable {K:Nat}{disp:Nat->Option FT}
structure Ai7(S:Mi)(x y z:Int):Prop where
 rt:rtB S.g=true
 x0:1<=x
 x1:x<=281474976710655
 y0:1<=y
 y1:y<=4294967295
 z0:1<=z
 z1:z<=281474976710655
def Ahq(S:Mi):Prop:=Ack S.dr S.g.S.toNat (S.g.D*S.g.Z).toNat
section
variable (A:An disp)(hK:10000<K){h:Aa}{ar m b ml ll:Nat}{cur B2:Nat->Int}{S:Mi}{F:Nat->Prop}(M:Er h m S F)(hb:HB h)(hA:h.get ar=some (.cells (Pz m cur B2) 147))(fA:F ar)(mp:Oi h b ml ll S.g){x y z:Int}(o:Ai7 S x y z){zn:Int}(n0:0<=zn)(n1:zn<S.g.D*S.g.Z)
include A hK M hb hA fA mp o n0 n1
theorem A38 {d:Nat}(hd:17<=d)(c:Ahq S):Ok (Ad TT disp K d false 117 [.ptr ar 0,.agg [I x,I y,I z,.ptr b 0],I zn] h) fun v h'=>v=I 0/\(∃ D',Er h' m { S with dr:=D' } F/\Ahq { S with dr:=D' })/\Kf F h h'/\HB h':=by
 have s:=Qs o.rt
 have hp:S.g.parts<=S.g.S:=by
  have:=o.rt
  unfold rtB at this
  simp only[Bool.and_eq_true,decide_eq_true_eq]at this
  exact this.2.1
 have:=s.s0;have:=s.s1;have:=s.b0
 have hp1:1<=S.g.parts:=by unfold Gm.parts;omega
 obtain⟨e,rfl⟩:∃ k,d=k+1:=⟨d-1,by omega⟩
 rw[Aee A (by omega)]
 simp only[Aav,Ab]
 have x1:Ext h (h.new (.cells [I x,I y,I z,.ptr b 0] 60)):=A1.new _ _
 have g1:(h.new (.cells [I x,I y,I z,.ptr b 0] 60)).get h.next=some (.cells [I x,I y,I z,.ptr b 0] 60):=Ae _ _
 have n1':(h.new (.cells [I x,I y,I z,.ptr b 0] 60)).next=h.next+1:=rfl
 generalize h.new (.cells [I x,I y,I z,.ptr b 0] 60)=h1 at x1 g1 n1' ⊢
 have hb1:=x1.hb hb
 have hA1:=x1.at hb hA
 have M1:=(M.ext hb x1).less fun j (hj:F j)=>Or.inl hj
 have l1:=hb1 _ _ hA1
 obtain⟨D,V,dr⟩:=Ah1 A hK M1 hb1
 rw[As l1 (by kernel_rfl),A3 hA1 rfl (v:=.ptr m 0) rfl]
 try simp only[Ab,Bh]
 refine Ok.Ct (by kernel_rfl) (by kernel_rfl) dr.table (fun _ _ p=>p.2) ?_
 rintro _ h2' h2 ⟨rfl,_⟩ _ x2
 have hb2:=x2.hb hb1
 have g2:=x2.at hb1 g1
 have l2:=hb2 _ _ g2
 have l12:h.next<h1.next:=by omega
 try simp only[Ab,Bh]
 rw[As l12 (by kernel_rfl),Gf g2 rfl,Ax (n:=4) rfl]
 try simp only[Ab,Bh]
 have x12:Ext h h2:=x1.trans x2
 have mpL:Oi h2.lift b ml ll S.g:=(mp.frame (x12.get _ (hb _ _ mp.map) id) (x12.get _ (hb _ _ mp.row) id)).frame (Cq _ _) (Cq _ _)
 refine Ok.Ct (by kernel_rfl) (by kernel_rfl) (Avu (K:=K) A (d:=e) (by omega) hK o.rt mpL (Fh hb2) o.x0 o.x1 o.y0 o.y1 o.z0 o.z1 n0 n1) (fun _ _ p=>by obtain⟨_,_,_,_,_,_,_,_,p,_⟩:=p;exact p) ?_
 rintro _ h3' h3 ⟨v,q,X,rfl,row,lq,hL,hX,_,_⟩ sm x3
 have hb3:=x3.hb hb2
 have row3:Bz h3 v q 103 64 X.length X.flatten:=row.frame fun _=>sm.get _
 have hq:h2.next<=q:=lq (by omega)
 simp only[Ab,I,Ah,not_true_eq_false,decide_false,Vp]
 have x13:Ext h h3:=x12.trans x3
 have hA3:=x13.at hb hA
 have M3:Er h3 m S (fun i=>F i\/i=q):=(M.ext hb x13).less fun j hj=>by
  rcases hj with hj|hj
  ·exact .inl hj
  ·subst hj
   have:=hb3 _ _ (row3.block (by omega))
   have:=x12.next
   exact .inr ⟨by omega,by omega⟩
 have hz:0<S.g.S.toNat:=by omega
 refine(A0x (K:=K) A hK M3 hb3 hA3 hz n0 (n:=(S.g.D*S.g.Z).toNat) (by omega) (d:=e) (by omega) c).Aj ?_
 rintro _ h4 ⟨rfl,⟨D',M4,c4⟩,k4,hb4⟩
 simp only[Ab,I,Ah,not_true_eq_false,decide_false,U9]
 have row4:=row3.frame (h':=h4) fun y=>k4.get _ (hb3 _ _ (row3.block y)) fun w=>w (.inr rfl)
 rw[row4.H8]
 refine(Ayz (K:=K) A hK (d:=e) (by omega) hX (size:=S.g.S.toNat) (n:=(S.g.D*S.g.Z).toNat) (by omega) (by omega) (by omega) n0 (by omega) K 0 h4 _ (by omega) (by omega) M4 hb4 (k4.at hb3 hA3 (.inl fA)) (.inl fA) (.inr rfl) row4 c4).mono ?_
 rintro _ h5 ⟨rfl,⟨D2,M5,c5⟩,k5,hb5⟩
 exact⟨rfl,⟨D2,M5.less fun j hj=>.inl hj,c5⟩,((Ext.kf x13).trans (k4.less fun j hj=>.inl hj)).trans (k5.less fun j hj=>.inl hj),hb5⟩
end
end Go.Ev

namespace Go.Ev
open Go.Proofs
set_option maxRecDepth 100000
variable {K:Nat}{disp:Nat->Option FT}
def Ih(f:Nat->Int)(i:Nat)(v:Int):Nat->Int:=fun j=>if j=i then v else f j
theorem A61 {m:Nat}{cur B2:Nat->Int}{i:Nat}(hi:i<3):(Pz m cur B2)[1+i*2+1]? = some (I (B2 i)):=by
 rcases i with _|_|_|i <;> first|rfl|omega
theorem A6c {m:Nat}{cur B2:Nat->Int}{i:Nat}(hi:i<3):(Pz m cur B2)[1+i*2]? = some (I (cur i)):=by
 rcases i with _|_|_|i <;> first|rfl|omega
theorem Ay8 {m:Nat}{cur B2:Nat->Int}{i:Nat}(hi:i<3)(v:Int):(Pz m cur B2).set (1+i*2+1) (I v)=Pz m cur (Ih B2 i v):=by
 rcases i with _|_|_|i <;> first|rfl|omega
theorem Avf {m:Nat}{cur B2:Nat->Int}{i:Nat}(hi:i<3)(v w:Int):Kl (Pz m cur B2) (1+i*2) [I v,I w]=some (Pz m (Ih cur i v) (Ih B2 i w)):=by
 rcases i with _|_|_|i <;> first|rfl|omega
noncomputable def tgt(S:Mi)(o:Int)(i:Nat):Int × Mi:=
 if ¬ o = -1/\S.U2 o=false then (o,S) else match S.ps i with
 | []=>(-1,S)
 | z::r=>(z,{ S with ps:=upd S.ps i r })
section
variable (A:An disp)(hK:10000<K){h:Aa}{ar m:Nat}{cur B2:Nat->Int}{S:Mi}{F:Nat->Prop}(M:Er h m S F)(hb:HB h)(hA:h.get ar=some (.cells (Pz m cur B2) 147))(fA:F ar){i:Nat}(hi:i<3)
include hK M hb
theorem A0u(hi:i<S.g.D.toNat){k:EV->Aa->R}{Q:EV->Aa->Prop}
 (hk:∀ h',(S.ps i = []->Er h' m S F->Kf F h h'->HB h'->Ok (k (.tuple [I 0,I 15]) h') Q)/\(∀ z r,S.ps i=z::r->Er h' m { S with ps:=upd S.ps i r } F->Kf F h h'->HB h'->Ok (k (.tuple [I z,I 0]) h') Q)) :
 Ok (Aj (Cy K (.ptr m 0) h) fun v h=>Aj (Mw K v (I i) h) k) Q:=by
 obtain⟨lt,D,p,bl,ql,np,q,c,G,a⟩:=M.s
 rw[Vb a.Pp,A0]
 have hnp:=a.psz.nd
 subst hnp
 refine(A4g (K:=K) a.Fe hb a.psz (by omega) i).Aj ?_
 rintro _ h' ⟨c3,hb3,x,e,ps',rfl,P3,Z3,alt⟩
 obtain⟨a3,cH⟩:=a.Akt hb P3 Z3 c3
 have wf:∀ {ps'},(∀ d,d<S.g.D.toNat->∀ x ∈ ps' d,x ∈ S.ps d)->Mi.Wf { S with ps:=ps' }:=fun sub=>{ toWp:=⟨M.wf.sm,fun d hd x hx=>M.wf.ps d hd x (sub d hd x hx)⟩,op:=M.wf.op }
 rcases alt with ⟨y,_⟩|⟨_,_,y,rfl,rfl,rfl⟩|⟨_,_,rfl,r,y,rfl⟩
 ·omega
 ·obtain⟨M3,k3⟩:=M.made (Qm.mono (H:=Out F h) ⟨fun i hi=>Nat.lt_of_lt_of_le hi.1 cH.next,D,p,bl,ql,_,q,c,G,a3⟩ (fun _=>.inl) (Bo.lt lt cH.next)) cH (wf fun d hd x hx=>hx)
  exact(hk h').1 y M3 k3 hb3
 ·have y:S.ps i=x::r:=y
  obtain⟨M3,k3⟩:=M.made (Qm.mono (H:=Out F h) ⟨fun i hi=>Nat.lt_of_lt_of_le hi.1 cH.next,D,p,bl,ql,_,q,c,G,a3⟩ (fun _=>.inl) (Bo.lt lt cH.next)) cH (wf fun d hd x' hx=>by
   unfold upd at hx
   split at hx
   ·rename_i e
    have e:d=i:=e
    subst e;rw[y];exact List.mem_cons_of_mem _ hx
   ·exact hx)
  exact(hk h').2 x r y M3 k3 hb3
include hA fA hi
theorem Ayb(ho:Rng (B2 i)):Ok (Jj K (.ptr ar 0) (I i) h) fun v h'=>v=I (tgt S (B2 i) i).1/\Er h' m (tgt S (B2 i) i).2 F/\h'.get ar=some (.cells (Pz m cur (Ih B2 i (-1))) 147)/\A1 (fun j=>¬ F j\/j=ar) h h'/\HB h':=by
 have la:=hb _ _ hA
 have sm:=M.wf.sm
 have:=sm.d0
 simp only[Jj,Ab]
 unfold I
 rw[Wu hi]
 try simp only[Ab]
 rw[A3 hA rfl (A61 hi),Wu hi]
 try simp only[Ab]
 refine Ok.st1 hA rfl rfl (by show _<7;omega) ?_
 rw[show (Pz m cur B2).set (1+i*2+1) (.int .i64 (-1))=Pz m cur (Ih B2 i (-1)) from Ay8 hi (-1)]
 have c1:A1 (fun j=>j=ar) h (h.put ar (.cells (Pz m cur (Ih B2 i (-1))) 147)):=(A1.refl (S:=fun j=>j=ar) h).Az (.inl rfl) la _
 have hA1:(h.put ar (.cells (Pz m cur (Ih B2 i (-1))) 147)).get ar=some (.cells (Pz m cur (Ih B2 i (-1))) 147):=Ai _ _ _
 generalize h.put ar (.cells (Pz m cur (Ih B2 i (-1))) 147)=h1 at c1 hA1 ⊢
 have hb1:=c1.hb hb
 have M1:=M.Ast c1 fun j hj _=>hj ▸ fA
 have c1':A1 (fun j=>¬ F j\/j=ar) h h1:=c1.mono fun j hj=>.inr hj
 have take:∀ h1,Er h1 m S F->HB h1->h1.get ar=some (.cells (Pz m cur (Ih B2 i (-1))) 147)->A1 (fun j=>¬ F j\/j=ar) h h1->Ok (M0 K (.ptr ar 0) (.int .i64 (i:Int)) h1) fun v h'=>v=I (match S.ps i with | []=>(-1,S)|z::r=>(z,{ S with ps:=upd S.ps i r }):Int × Mi).1/\Er h' m (match S.ps i with | []=>(-1,S)|z::r=>(z,{ S with ps:=upd S.ps i r }):Int × Mi).2 F/\h'.get ar=some (.cells (Pz m cur (Ih B2 i (-1))) 147)/\A1 (fun j=>¬ F j\/j=ar) h h'/\HB h':=by
  intro h1 M1 hb1 hA1 c1'
  simp only[M0,Ab]
  rw[A3 hA1 rfl (v:=.ptr m 0) rfl]
  refine A0u hK M1 hb1 (i:=i) (by omega) fun h'=>⟨fun e M2 k2 hb2=>?_,fun z r e M2 k2 hb2=>?_⟩
  ·rw[e]
   simp only[Ab,I,Ah]
   exact .ret ⟨rfl,M2,k2.at hb1 hA1 fA,c1'.trans (k2.mono fun j hj=>.inl hj),hb2⟩
  ·rw[e]
   simp only[Ab,I,Ah,not_true_eq_false,decide_false,R8]
   exact .ret ⟨rfl,M2,k2.at hb1 hA1 fA,c1'.trans (k2.mono fun j hj=>.inl hj),hb2⟩
 simp only[I,Ah]
 unfold tgt
 by_cases ho1:B2 i = -1
 ·rw[if_neg (fun y=>y.1 ho1)]
  simp only[ho1,not_true_eq_false,decide_false,Ab,Ah,Hi]
  exact take _ M1 hb1 hA1 c1'
 ·simp only[ho1,not_false_eq_true,decide_true,Ab,Ah,true_and]
  rw[A3 hA1 rfl (v:=.ptr m 0) rfl]
  refine(Rq (K:=K) M1.s hb1 ho).Aj ?_
  rintro _ h2 ⟨rfl,x2⟩
  have hb2:=x2.hb hb1
  cases hbad:S.U2 (B2 i) with
  | true=>
   rw[if_neg (by simp)]
   simp only[Ab,Hi]
   exact take _ ((M1.ext hb1 x2).less fun j (hj:F j)=>Or.inl hj) hb2 (x2.at hb1 hA1) (c1'.trans (Ext.to x2))
  | false=>
   rw[if_pos rfl]
   simp only[Ab,Hi]
   exact .ret ⟨rfl,(M1.ext hb1 x2).less fun j (hj:F j)=>Or.inl hj,x2.at hb1 hA1,c1'.trans (Ext.to x2),hb2⟩
end
end Go.Ev

namespace Go.Ev
open Go.Proofs
set_option maxRecDepth 100000
variable {K:Nat}{disp:Nat->Option FT}
theorem A2y(S:Mi)(o:Int)(i:Nat):(tgt S o i).2.g=S.g/\(tgt S o i).2.dr=S.dr/\(tgt S o i).2.bad=S.bad:=by
 unfold tgt
 split
 ·exact⟨rfl,rfl,rfl⟩
 ·split <;> exact⟨rfl,rfl,rfl⟩
def Axa(S:Mi)(cur B2:Nat->Int)(i:Nat)(S':Mi)(cur' old':Nat->Int)(ok:Bool):Prop:=
 (∃ D',S' = { (tgt S (B2 i) i).2 with dr:=D' })/\Ahq S'/\ok=decide (¬ (tgt S (B2 i) i).1 = -1) /\
 (cur',old')=if (tgt S (B2 i) i).1 = -1 then (cur,Ih B2 i (-1)) else (Ih cur i (tgt S (B2 i) i).1,Ih (Ih B2 i (-1)) i (cur i))
section
variable (A:An disp)(hK:10000<K){h:Aa}{ar m b ml ll:Nat}{cur B2:Nat->Int}{S:Mi}{F:Nat->Prop}(M:Er h m S F)(hb:HB h)(hA:h.get ar=some (.cells (Pz m cur B2) 147))(fA:F ar){i:Nat}(hi:i<3)
 (mp:Oi h b ml ll S.g) (fb:F b/\F ml/\b ≠ ar/\ml ≠ ar) {x y z:Int} (o:Ai7 S x y z)
include A hK M hb hA fA hi mp fb o
theorem A22 {d:Nat}(hd:18<=d)(c:Ahq S)(ho:Rng (B2 i))(hv:(tgt S (B2 i) i).1 = -1\/(0<=(tgt S (B2 i) i).1/\(tgt S (B2 i) i).1<S.g.D*S.g.Z)):
 Ok (Ad TT disp K d false 66 [.ptr ar 0,I i,.agg [I x,I y,I z,.ptr b 0]] h) fun v h'=>∃ S' cur' old' ok,v=.tuple [.bool ok,I 0]/\Axa S cur B2 i S' cur' old' ok/\Er h' m S' F/\h'.get ar=some (.cells (Pz m cur' old') 147)/\A1 (fun j=>¬ F j\/j=ar) h h'/\HB h':=by
 obtain⟨e,rfl⟩:∃ k,d=k+1:=⟨d-1,by omega⟩
 rw[Abo A (by omega)]
 simp only[X5,Ab]
 have x1:Ext h (h.new (.cells [I x,I y,I z,.ptr b 0] 60)):=A1.new _ _
 have g1:(h.new (.cells [I x,I y,I z,.ptr b 0] 60)).get h.next=some (.cells [I x,I y,I z,.ptr b 0] 60):=Ae _ _
 have n1':(h.new (.cells [I x,I y,I z,.ptr b 0] 60)).next=h.next+1:=rfl
 generalize h.new (.cells [I x,I y,I z,.ptr b 0] 60)=h1 at x1 g1 n1' ⊢
 have hb1:=x1.hb hb
 have hA1:=x1.at hb hA
 have M1:Er h1 m S (fun j=>F j\/j=h.next):=(M.ext hb x1).less fun j hj=>by
  rcases hj with hj|hj
  ·exact .inl hj
  ·exact .inr ⟨by omega,by omega⟩
 obtain⟨K',rfl⟩:∃ k,K=k+1:=⟨K-1,by omega⟩
 rw[Ez]
 refine(Ayb (K:=K'+1) hK M1 hb1 hA1 (.inl fA) hi ho).Aj ?_
 rintro _ h2 ⟨rfl,M2,hA2,c2,hb2⟩
 have la:=hb _ _ hA
 have c12:A1 (fun j=>¬ F j\/j=ar) h h2:=(Ext.to x1).trans (c2.mono fun j hj=>hj.elim (fun y=>.inl fun w=>y (.inl w)) .inr)
 have g2:h2.get h.next=some (.cells [I x,I y,I z,.ptr b 0] 60):=c2.at hb1 g1 fun w=>w.elim (fun w=>w (.inr rfl)) fun w=>by omega
 obtain⟨tg,td,tb⟩:=A2y S (B2 i) i
 unfold Axa
 generalize tgt S (B2 i) i=t at hv M2 tg td tb ⊢
 obtain⟨tz,T⟩:=t
 simp only at hv M2 tg td tb ⊢
 simp only[I,Ah]
 have sh:∀ D',Ack D' S.g.S.toNat (S.g.D*S.g.Z).toNat->Ahq { T with dr:=D' }:=fun D' w=>by
  show Ack D' T.g.S.toNat (T.g.D*T.g.Z).toNat
  rw[tg];exact w
 by_cases hm:tz = -1
 ·subst hm
  simp only[decide_true,Ab]
  refine .ret ⟨T,cur,Ih B2 i (-1),false,rfl,⟨⟨T.dr,rfl⟩,sh T.dr (by rw[td];exact c),rfl,rfl⟩,M2.less fun j hj=>.inl hj,hA2,c12,hb2⟩
 ·simp only[hm,decide_false,Ab,Tk]
  rw[Gf g2 rfl,Ax (n:=4) rfl]
  simp only[Ab]
  have hz:0<=tz/\tz<T.g.D*T.g.Z:=by rw[tg];exact hv.resolve_left hm
  have oT:Ai7 T x y z:=⟨by rw[tg];exact o.rt,o.x0,o.x1,o.y0,o.y1,o.z0,o.z1⟩
  have mT:Oi h2 b ml ll T.g:=by
   rw[tg]
   exact mp.frame (c12.get _ (hb _ _ mp.map) fun w=>w.elim (fun w=>w fb.1) fb.2.2.1) (c12.get _ (hb _ _ mp.row) fun w=>w.elim (fun w=>w fb.2.1) fb.2.2.2)
  have cT:Ahq T:=sh T.dr (by rw[td];exact c)
  have fl:=A38 (K:=K'+1) A hK M2 hb2 hA2 (.inl fA) mT oT hz.1 hz.2 (d:=e) (by omega) cT
  simp only[I]at fl
  refine fl.Aj ?_
  rintro _ h3 ⟨rfl,⟨D',M3,c3⟩,k3,hb3⟩
  have hA3:=k3.at hb2 hA2 (.inl fA)
  have l3:=hb3 _ _ hA3
  simp only[Ah,decide_true,Ab]
  rw[Wu hi]
  try simp only[Ab]
  rw[Nat.add_zero,As l3 (by kernel_rfl),A3 hA3 rfl (A6c hi)]
  try simp only[Ab,Bh]
  rw[Ca (l:=[.int .i64 tz,I (cur i)]) rfl]
  try simp only[Ab,Bh]
  rw[Wu hi]
  try simp only[Ab,Bh]
  rw[Wd (by kernel_rfl)]
  refine Ok.st (Pz m (Ih cur i tz) (Ih (Ih B2 i (-1)) i (cur i))) hA3 rfl rfl (Avf hi tz (cur i)) ?_
  refine .ret ⟨{ T with dr:=D' },_,_,true,rfl,⟨⟨D',rfl⟩,c3,by simp,by simp⟩,(M3.Ast (T:=fun j=>j=ar) ((A1.refl (S:=fun j=>j=ar) _).Az (.inl rfl) l3 _) fun j hj _=>.inl (hj ▸ fA)).less fun j hj=>.inl hj,Ai _ _ _,(c12.trans (k3.mono fun j hj=>.inl fun w=>hj (.inl w))).Az (.inl (.inr rfl)) l3 _,hb3.put l3 _⟩
end
end Go.Ev

namespace Go.Ev
open Go.Proofs
set_option maxRecDepth 100000
variable {K:Nat}{disp:Nat->Option FT}
theorem A3s:TT.eqs 23=some [0,0,0,0,0,0]:=by kernel_rfl
theorem A2h(a:Int):eqB a a=true:=by rw[<-Au9,Apv];simp
theorem A6w(g:Gm)(k:EV->R):Aq Ka (bin TT .neq 23) (gV g) (gV g) k=k (.bool false):=by
 have h1:Avs TT 23 (gV g) (gV g)=some true:=by
  unfold Avs gV
  rw[A3s]
  simp only[gL,shaped,I]
  rw[show Nat.beq 0 0=true from rfl]
  simp only[Ak,Fu,Ach,show Nat.beq (Le .i64) (Le .i64)=true from rfl,A2h]
 show oB k (match Avs TT 23 (gV g) (gV g) with|some b=>some (EV.bool (Ar b false true))|none=>none)=_
 rw[h1];rfl
structure Aki(S:Mi)(cur B2:Nat->Int):Prop where
 cur:∀ i,i<3->cur i = -1\/Fs S.g (cur i)=i
 B2:∀ i,i<3->B2 i = -1\/Fs S.g (B2 i)=i
theorem Aki.tgt {S:Mi}{cur B2:Nat->Int}(a:Aki S cur B2)(w:S.Wf){i:Nat}(hi:i<3):(tgt S (B2 i) i).1 = -1\/Fs S.g (tgt S (B2 i) i).1=i:=by
 have:=w.sm.d0
 unfold Ev.tgt
 split
 ·exact a.B2 i hi
 ·split
  ·exact .inl rfl
  ·rename_i z r e
   exact .inr (w.ps i (by omega) z (by rw[e];exact List.mem_cons_self ..)).1
theorem A2w {g:Gm}(s:Sm g){z:Int}{i:Nat}(h:Fs g z=i):0<=z/\z<g.D*g.Z:=by
 rcases Z0 s z with y|⟨_,_,_,a,b⟩
 ·omega
 ·exact⟨a,b⟩
theorem Aki.wrote {S S':Mi}{cur B2 cur' old':Nat->Int}{i:Nat}{ok:Bool}(a:Aki S cur B2)(w:S.Wf)(hi:i<3)(r:Axa S cur B2 i S' cur' old' ok):Aki S' cur' old'/\S'.g=S.g:=by
 obtain⟨⟨D',rfl⟩,_,_,e⟩:=r
 obtain⟨g,_,_⟩:=A2y S (B2 i) i
 have t:=a.tgt w hi
 have dn:∀ j,j<3->Ih B2 i (-1) j = -1\/Fs S.g (Ih B2 i (-1) j)=j:=fun j hj=>by
  unfold Ih;split
  ·exact .inl rfl
  ·exact a.B2 j hj
 refine⟨?_,g⟩
 have gg:({ (Ev.tgt S (B2 i) i).2 with dr:=D' }:Mi).g=S.g:=g
 split at e
 ·cases e
  exact⟨fun j hj=>by rw[gg];exact a.cur j hj,fun j hj=>by rw[gg];exact dn j hj⟩
 ·rename_i hn
  cases e
  refine⟨fun j hj=>?_,fun j hj=>?_⟩
  ·rw[gg]
   unfold Ih;split
   ·rename_i e;subst e;exact t
   ·exact a.cur j hj
  ·rw[gg]
   show Ih (Ih B2 i (-1)) i (cur i) j = -1\/Fs S.g (Ih (Ih B2 i (-1)) i (cur i) j)=j
   by_cases e:j=i
   ·subst e
    have:Ih (Ih B2 j (-1)) j (cur j) j=cur j:=by unfold Ih;rw[if_pos rfl]
    rw[this];exact a.cur j hj
   ·have:Ih (Ih B2 i (-1)) i (cur i) j=Ih B2 i (-1) j:=by unfold Ih;rw[if_neg e]
    rw[this];exact dn j hj
def Afp(S:Mi)(cur B2:Nat->Int):Nat->Mi->(Nat->Int)->(Nat->Int)->Nat->Prop
 | 0,S',cur',old',n=>S'=S/\cur'=cur/\old'=B2/\n=0
 | k+1,S',cur',old',n=>∃ S1 c1 o1 n1 ok,Afp S cur B2 k S1 c1 o1 n1/\Axa S1 c1 o1 k S' cur' old' ok/\n=n1+(if ok=true then 1 else 0)
section
variable (A:An disp)(hK:10000<K){ar m b ml ll:Nat}{F:Nat->Prop}(fA:F ar)(fb:F b/\F ml/\b ≠ ar/\ml ≠ ar)
include A hK fA fb
theorem Auk {d:Nat}(hd:18<=d){x y z:Int}{S0:Mi}{cur0 old0:Nat->Int}(o:Ai7 S0 x y z){t:Nat}(ft:F t)(ta:t ≠ ar):∀ (f i n:Nat) (h:Aa) (S:Mi) (cur B2:Nat->Int),3-i<f->i<=3->n<=i->Er h m S F->HB h->h.get ar=some (.cells (Pz m cur B2) 147)->Oi h b ml ll S.g->h.get t=some (.cells [I x,I y,I z,.ptr b 0] 60)->Ahq S->Aki S cur B2->S.g=S0.g->Afp S0 cur0 old0 i S cur B2 n ->
 Ok (C4 (Ad TT disp K d false) (Ad TT disp K d true) K f (.ptr ar 0) (.ptr t 0) (I n) (I i) h) fun v h'=>∃ S' cur' old' n' D',v=.tuple [I (n':Nat),I (if n'<2 then 40 else 0)]/\Afp S0 cur0 old0 3 S' cur' old' n'/\n'<=3/\Er h' m { S' with dr:=D' } F/\Ahq { S' with dr:=D' }/\h'.get ar=some (.cells (Pz m cur' old') 147)/\Aki S' cur' old'/\S'.g=S0.g/\A1 (fun j=>¬ F j\/j=ar) h h'/\HB h':=by
 intro f
 induction f with
 | zero=>intro i n h S cur B2 hf;omega
 | succ f ih=>
  intro i n h S cur B2 hf hi hn M hb hA mp gt c a gS W
  rw[C4]
  simp only[I,Ah]
  by_cases hlt:i<3
  ·have:decide ((i:Int)<3)=true:=by simp;omega
   simp only[this,Ab,Tq]
   rw[Gf gt rfl,Ax (n:=4) rfl]
   simp only[Ab]
   have sm:=M.wf.sm
   have oS:Ai7 S x y z:=⟨by rw[gS];exact o.rt,o.x0,o.x1,o.y0,o.y1,o.z0,o.z1⟩
   have ro:Rng (B2 i):=by
    rcases a.B2 i hlt with w|w
    ·rw[w];exact⟨by omega,by omega⟩
    ·exact Ahn sm (by omega)
   have w66:=A22 (K:=K) A hK M hb hA fA hlt mp fb oS hd c ro ((a.tgt M.wf hlt).imp id fun w=>A2w sm w)
   simp only[I]at w66
   refine w66.Aj ?_
   rintro _ h2 ⟨S2,cur2,old2,ok,rfl,wr,M2,hA2,c2,hb2⟩
   obtain⟨a2,g2⟩:=a.wrote M.wf hlt wr
   simp only[Ab,Ah,not_true_eq_false,decide_false,Tx]
   have mp2:Oi h2 b ml ll S2.g:=by
    rw[g2]
    exact mp.frame (c2.get _ (hb _ _ mp.map) fun w=>w.elim (fun w=>w fb.1) fb.2.2.1) (c2.get _ (hb _ _ mp.row) fun w=>w.elim (fun w=>w fb.2.1) fb.2.2.2)
   have gt2:=c2.at hb gt fun w=>w.elim (fun w=>w ft) ta
   have nx:∀ n',n'=n+(if ok=true then 1 else 0)->Ok (J4 (Ad TT disp K d false) (Ad TT disp K d true) K (C4 (Ad TT disp K d false) (Ad TT disp K d true) K f) (.ptr ar 0) (.ptr t 0) (I (n':Nat)) (.int .i64 (i:Int)) h2) fun v h'=>∃ S' cur' old' n' D',v=.tuple [I (n':Nat),I (if n'<2 then 40 else 0)]/\Afp S0 cur0 old0 3 S' cur' old' n'/\n'<=3/\Er h' m { S' with dr:=D' } F/\Ahq { S' with dr:=D' }/\h'.get ar=some (.cells (Pz m cur' old') 147)/\Aki S' cur' old'/\S'.g=S0.g/\A1 (fun j=>¬ F j\/j=ar) h h'/\HB h':=by
    intro n' hn'
    simp only[J4,Ah]
    rw[Cx (by omega) (by omega),show ((i:Nat):Int)+1=((i+1:Nat):Int) by omega]
    refine(ih (i+1) n' h2 S2 cur2 old2 (by omega) (by omega) (by rw[hn'];split <;> omega) M2 hb2 hA2 mp2 gt2 wr.2.1 a2 (g2.trans gS) ⟨S,cur,B2,n,ok,W,wr,hn'⟩).mono ?_
    rintro _ h3 ⟨S',cur',old',n',D',r1,r2,r3,r4,r5,r6,r7,r8,r9,r10⟩
    exact⟨S',cur',old',n',D',r1,r2,r3,r4,r5,r6,r7,r8,c2.trans r9,r10⟩
   cases ok with
   | true=>
    simp only[Ab,Ah]
    rw[Cx (by omega) (by omega),show ((n:Nat):Int)+1=((n+1:Nat):Int) by omega]
    exact nx (n+1) rfl
   | false=>
    simp only[Ab]
    exact nx n rfl
  ·have:i=3:=by omega
   subst this
   have:decide (((3:Nat):Int)<3)=false:=rfl
   simp only[this,Ab,N5]
   rw[A3 hA rfl (v:=.ptr m 0) rfl]
   obtain⟨D,V,dr⟩:=Ah1 A hK M hb
   rw[dr.Cz]
   obtain⟨r1,r2⟩:=Au7 c
   refine(dr.flush (d:=d) (by omega)).Aj ?_
   rintro _ h2 ⟨rfl,M2,k2,hb2⟩
   rw[r1]
   simp only[I,Ah,not_true_eq_false,decide_false,Ab,Ub]
   have fin:Ok (some (EV.tuple [.int .i64 (n:Int),.int .i64 (if n<2 then 40 else 0)],h2)) fun v h'=>∃ S' cur' old' n' D',v=.tuple [I (n':Nat),I (if n'<2 then 40 else 0)]/\Afp S0 cur0 old0 3 S' cur' old' n'/\n'<=3/\Er h' m { S' with dr:=D' } F/\Ahq { S' with dr:=D' }/\h'.get ar=some (.cells (Pz m cur' old') 147)/\Aki S' cur' old'/\S'.g=S0.g/\A1 (fun j=>¬ F j\/j=ar) h h'/\HB h':=
    .ret ⟨S,cur,B2,n,_,rfl,W,hn,M2,r2,k2.at hb hA fA,a,gS,k2.mono fun j hj=>.inl hj,hb2⟩
   by_cases h2':n<2
   ·have e:decide ((n:Int)<2)=true:=by simp;omega
    simp only[e,Ab]
    rw[if_pos h2']at fin
    exact fin
   ·have e:decide ((n:Int)<2)=false:=by simp;omega
    simp only[e,Ab,T5]
    rw[if_neg h2']at fin
    exact fin
end
end Go.Ev

namespace Go.Ev
open Go.Proofs
set_option maxRecDepth 100000
variable {K:Nat}{disp:Nat->Option FT}
section
variable (A:An disp)(hK:10000<K){ar m b ml ll:Nat}{F:Nat->Prop}(fA:F ar)(fb:F b/\F ml/\b ≠ ar/\ml ≠ ar)
include A hK fA fb
theorem A25 {d:Nat}(hd:19<=d){x y z:Int}{h:Aa}{S:Mi}{cur B2:Nat->Int}(M:Er h m S F)(hb:HB h)(hA:h.get ar=some (.cells (Pz m cur B2) 147))(mp:Oi h b ml ll S.g)(o:Ai7 S x y z)(c:Ahq S)(a:Aki S cur B2):
 Ok (Ad TT disp K d false 18 [.ptr ar 0,.agg [I x,I y,I z,.ptr b 0]] h) fun v h'=>∃ S' cur' old' n' D',v=.tuple [I (n':Nat),I (if n'<2 then 40 else 0)]/\Afp S cur B2 3 S' cur' old' n'/\n'<=3/\Er h' m { S' with dr:=D' } F/\Ahq { S' with dr:=D' }/\h'.get ar=some (.cells (Pz m cur' old') 147)/\Aki S' cur' old'/\S'.g=S.g/\A1 (fun j=>¬ F j\/j=ar) h h'/\HB h':=by
 obtain⟨e,rfl⟩:∃ k,d=k+1:=⟨d-1,by omega⟩
 have s:=Qs o.rt
 rw[Ac8 A (by omega)]
 simp only[X0,Ab]
 have x1:Ext h (h.new (.cells [I x,I y,I z,.ptr b 0] 60)):=A1.new _ _
 have g1:(h.new (.cells [I x,I y,I z,.ptr b 0] 60)).get h.next=some (.cells [I x,I y,I z,.ptr b 0] 60):=Ae _ _
 have n1':(h.new (.cells [I x,I y,I z,.ptr b 0] 60)).next=h.next+1:=rfl
 generalize h.new (.cells [I x,I y,I z,.ptr b 0] 60)=h1 at x1 g1 n1' ⊢
 have hb1:=x1.hb hb
 have l1:=hb1 _ _ g1
 have la:=hb1 _ _ (x1.at hb hA)
 rw[As l1 (by kernel_rfl),Gf g1 rfl,Ax (n:=4) rfl]
 try simp only[Ab,Bh]
 have mp1:=mp.frame (x1.get _ (hb _ _ mp.map) id) (x1.get _ (hb _ _ mp.row) id)
 refine Ok.Ct (by kernel_rfl) (by kernel_rfl) ((Aez (K:=K) A (d:=e) (by omega) (by omega) s (mp1.frame (Cq _ _) (Cq _ _)) (Fh hb1) o.x0 o.x1 o.y0 o.y1 o.z0 o.z1)) (fun _ _ p=>p.2.1) ?_
 rintro _ h2' h2 ⟨rfl,_⟩ _ x2
 have hb2:=x2.hb hb1
 have g2:=x2.at hb1 g1
 simp only[Ab,Ah,Bh]
 rw[As l1 (by kernel_rfl),A3 g2 rfl (v:=.ptr b 0) rfl]
 try simp only[Ab,Bh]
 have mp2:=mp1.frame (x2.get _ (hb1 _ _ mp1.map) id) (x2.get _ (hb1 _ _ mp1.row) id)
 refine Ok.Ct (by kernel_rfl) (by kernel_rfl) ((Up (K:=K) (mp2.frame (Cq _ _) (Cq _ _)) (Fh hb2)).mono fun _ _ a=>(⟨a.1,a.2.1⟩:_/\_)) (fun _ _ p=>p.2) ?_
 rintro _ h3' h3 ⟨rfl,_⟩ _ x3
 have hb3:=x3.hb hb2
 have x13:Ext h h3:=(x1.trans x2).trans x3
 have hA3:=x13.at hb hA
 try simp only[Ab,Bh]
 rw[As la (by kernel_rfl),A3 hA3 rfl (v:=.ptr m 0) rfl]
 try simp only[Ab,Bh]
 have M3:=(M.ext hb x13).less fun j (hj:F j)=>Or.inl hj
 refine Ok.Ct (by kernel_rfl) (by kernel_rfl) (Aj7 (K:=K) (M3.same (Af8.lift _)) (Fh hb3)) (fun _ _ p=>p.2) ?_
 rintro _ h4' h4 ⟨rfl,_⟩ _ x4
 have hb4:=x4.hb hb3
 try simp only[Ab,Bh]
 rw[A6w]
 simp only[Og,Ab,Ts]
 have x14:Ext h h4:=x13.trans x4
 have x24:Ext h1 h4:=(x2.trans x3).trans x4
 have M4:Er h4 m S (fun j=>F j\/j=h.next):=(M.ext hb x14).less fun j hj=>by
  rcases hj with hj|hj
  ·exact .inl hj
  ·have:=x24.next
   exact .inr ⟨by omega,by omega⟩
 have lA:=hb _ _ hA
 have mp4:=mp.frame (x14.get _ (hb _ _ mp.map) id) (x14.get _ (hb _ _ mp.row) id)
 refine(Auk (K:=K) (F:=fun j=>F j\/j=h.next) A hK (.inl fA) ⟨.inl fb.1,.inl fb.2.1,fb.2.2⟩ (d:=e) (by omega) o (t:=h.next) (.inr rfl) (by omega) K 0 0 h4 S cur B2 (by omega) (by omega) (by omega) M4 hb4 (x14.at hb hA) mp4 (x24.at hb1 g1) c a rfl ⟨rfl,rfl,rfl,rfl⟩).mono ?_
 rintro _ h5 ⟨S',cur',old',n',D',r1,r2,r3,r4,r5,r6,r7,r8,r9,r10⟩
 exact⟨S',cur',old',n',D',r1,r2,r3,r4.less fun j hj=>.inl hj,r5,r6,r7,r8,(Ext.to x14).trans (r9.mono fun j hj=>hj.elim (fun w=>.inl fun q=>w (.inl q)) .inr),r10⟩
end
theorem A6x {i:Nat}(hi:i<3)(h:Aa):Aim K (I i) h=some (.bool true,h):=by
 simp only[Aim,Adg,I,Ah]
 have e1:decide (0<=(i:Int))=true:=by simp
 have e2:decide ((i:Int)<3)=true:=by simp;omega
 simp only[e1,e2,Ab,Ah]
section
variable {ar m:Nat}{F:Nat->Prop}{h:Aa}{S:Mi}{cur B2:Nat->Int}(M:Er h m S F)(hb:HB h)(hA:h.get ar=some (.cells (Pz m cur B2) 147))
include M hb hA
theorem Axi {i:Nat}{z:Int}(hz:z = -1\/Fs S.g z=i):Ok (Lg K (.ptr ar 0) (I i) (I z) h) fun v h'=>v=.bool true/\Ext h h':=by
 simp only[Lg,I,Ah]
 have sm:=M.wf.sm
 by_cases h1:z = -1
 ·simp only[h1,decide_true,Ab,Ah,Kv]
  exact .ret ⟨rfl,A1.refl _⟩
 ·simp only[h1,decide_false,Ab,Ah,Kv]
  rw[A3 hA rfl (v:=.ptr m 0) rfl]
  refine(Aj7 (K:=K) M hb).Aj ?_
  rintro _ h2 ⟨rfl,x2⟩
  have hd:=hz.resolve_left h1
  refine(Mu (K:=K) sm z (Ahn sm (by omega)) h2).Aj ?_
  rintro _ h3 ⟨rfl,x3⟩
  simp only[I,Ah,hd,decide_true,Ab]
  exact .ret ⟨rfl,x2.trans x3⟩
theorem A6p(fA:F ar){i:Nat}(hi:i<3){v w:Int}(hv:v = -1\/Fs S.g v=i)(hw:w = -1\/Fs S.g w=i)(hn:¬ v=w):Ok (Mt K (.ptr ar 0) (I i) (I v) (I w) h) fun r h'=>r=I 0/\Er h' m S F/\h'.get ar=some (.cells (Pz m (Ih cur i v) (Ih B2 i w)) 147)/\A1 (fun j=>j=ar) h h'/\HB h':=by
 simp only[Mt,A6x hi,Ab,Ah]
 refine(Axi (K:=K) M hb hA hv).Aj ?_
 rintro _ h2 ⟨rfl,x2⟩
 have hb2:=x2.hb hb
 have M2:=(M.ext hb x2).less fun j (hj:F j)=>Or.inl hj
 simp only[Ab,Ah,Qu]
 refine(Axi (K:=K) M2 hb2 (x2.at hb hA) hw).Aj ?_
 rintro _ h3 ⟨rfl,x3⟩
 have hb3:=x3.hb hb2
 have x:Ext h h3:=x2.trans x3
 have M3:=(M.ext hb x).less fun j (hj:F j)=>Or.inl hj
 have hA3:=x.at hb hA
 have l3:=hb3 _ _ hA3
 simp only[Ab,Ah,Pq,I,hn,decide_false,P7,Qd,P6,Wo]
 rw[Ca (l:=[I v,I w]) rfl]
 try simp only[Ab]
 rw[Wu hi]
 refine Ok.st (Pz m (Ih cur i v) (Ih B2 i w)) hA3 rfl rfl (Avf hi v w) ?_
 have c:A1 (fun j=>j=ar) h3 (h3.put ar (.cells (Pz m (Ih cur i v) (Ih B2 i w)) 147)):=(A1.refl (S:=fun j=>j=ar) h3).Az (.inl rfl) l3 _
 exact .ret ⟨rfl,M3.Ast c fun j hj _=>hj ▸ fA,Ai _ _ _,(Ext.to x).trans c,hb3.put l3 _⟩
end
end Go.Ev

namespace Go.Ev
open Go.Proofs
set_option maxRecDepth 100000
variable {K:Nat}{disp:Nat->Option FT}
theorem Asx(hK:1000<K){h:Aa}(hb:HB h)(m:Nat):Ok (Ahy K (.ptr m 0) h) fun v h'=>v=.ptr h.next 0/\h'.get h.next=some (.cells (Pz m (fun _=>-1) fun _=>-1) 147)/\Ext h h'/\HB h':=by
 obtain⟨K',rfl⟩:∃ k,K=k+4:=⟨K-4,by omega⟩
 simp only[Ahy]
 rw[Ca (l:=Pz m (fun _=>0) fun _=>0) rfl]
 simp only[Ab]
 have x1:Ext h (h.new (.cells (Pz m (fun _=>0) fun _=>0) 147)):=A1.new _ _
 have g1:(h.new (.cells (Pz m (fun _=>0) fun _=>0) 147)).get h.next=some (.cells (Pz m (fun _=>0) fun _=>0) 147):=Ae _ _
 have l1:h.next<(h.new (.cells (Pz m (fun _=>0) fun _=>0) 147)).next:=Nat.lt_succ_self _
 generalize h.new (.cells (Pz m (fun _=>0) fun _=>0) 147)=h1 at x1 g1 l1 ⊢
 have st:∀ (i:Nat) (h2:Aa) (c o:Nat->Int) (n:Nat),i<3->h2.get h.next=some (.cells (Pz m c o) 147)->Ext h h2->h.next<h2.next->(∀ h3,h3.get h.next=some (.cells (Pz m (Ih c i (-1)) (Ih o i (-1))) 147)->Ext h h3->h.next<h3.next->Ok (H6 (K'+4) n (.ptr h.next 0) (I (i+1:Nat)) h3) fun v h'=>v=.ptr h.next 0/\h'.get h.next=some (.cells (Pz m (fun _=>-1) fun _=>-1) 147)/\Ext h h'/\HB h')->Ok (H6 (K'+4) (n+1) (.ptr h.next 0) (I i) h2) fun v h'=>v=.ptr h.next 0/\h'.get h.next=some (.cells (Pz m (fun _=>-1) fun _=>-1) 147)/\Ext h h'/\HB h':=by
  intro i h2 c o n hi g2 x2 l2 hk
  rw[H6]
  simp only[I,Ah]
  have:decide ((i:Int)<3)=true:=by simp;omega
  simp only[this,Ab,Ajr]
  rw[Ca (l:=[I (-1),I (-1)]) rfl]
  try simp only[Ab]
  rw[Wu hi]
  refine Ok.st _ g2 rfl rfl (Avf hi (-1) (-1)) ?_
  simp only[Ajt,Ah]
  rw[Cx (by omega) (by omega),show ((i:Nat):Int)+1=((i+1:Nat):Int) by omega]
  exact hk _ (Ai _ _ _) (x2.Az (.inr (Nat.le_refl _)) l2 _) l2
 refine st 0 h1 _ _ _ (by omega) g1 x1 l1 fun h2 g2 x2 l2=>st 1 h2 _ _ _ (by omega) g2 x2 l2 fun h3 g3 x3 l3=>st 2 h3 _ _ _ (by omega) g3 x3 l3 fun h4 g4 x4 l4=>?_
 rw[H6]
 simp only[I,Ah]
 simp only[show decide (((2+1:Nat):Int)<3)=false from rfl,Ab,Acq]
 exact .ret ⟨rfl,g4,x4,x4.hb hb⟩
theorem A78:TT.size 45=some 26/\TT.agg 45=some true:=⟨by kernel_rfl,by kernel_rfl⟩
def Y3(s:EV)(size op:Int)(g:Gm):List EV:=Nc s size op g++List.replicate 6 (I (-1))
theorem Apo {s:EV}{size op:Int}{g:Gm}{h:Aa}(hb:HB h):Ok (Kw K (.agg (Nc s size op g)) h) fun v h'=>v=.agg (Y3 s size op g)/\Ext h h'/\HB h':=by
 simp only[Kw,Ab]
 generalize hz:([EV.Af]++List.replicate 3 (EV.int .i64 0)++[EV.bool false]++List.replicate 2 EV.Af++List.replicate 8 (EV.int .i64 0)++List.replicate 2 EV.Af++List.replicate 9 (EV.int .i64 0))=z26
 rw[show (h.new (.cells (Nc s size op g) 42)).next=h.next+1 from rfl]
 have x1:Ext h ((h.new (.cells (Nc s size op g) 42)).new (.cells z26 45)):=(A1.new _ _).Gg _
 have g1:((h.new (.cells (Nc s size op g) 42)).new (.cells z26 45)).get h.next=some (.cells (Nc s size op g) 42):=by rw[Bj _ (Nat.lt_succ_self _)];exact Ae _ _
 have g2:((h.new (.cells (Nc s size op g) 42)).new (.cells z26 45)).get (h.next+1)=some (.cells z26 45):=Ae _ _
 generalize (h.new (.cells (Nc s size op g) 42)).new (.cells z26 45)=h1 at x1 g1 g2 ⊢
 have hb1:=x1.hb hb
 have l2:=hb1 _ _ g2
 rw[Gf g1 rfl,Ax (n:=20) rfl]
 try simp only[Ab]
 rw[Ca (l:=[I (-1),I (-1),I (-1)]) rfl,Ca (l:=[I (-1),I (-1),I (-1)]) rfl]
 subst hz
 rw[Ca (l:=Y3 s size op g) rfl]
 refine Ok.st (Y3 s size op g) g2 rfl rfl (Gc rfl) ?_
 rw[Ls (Ai _ _ _) A78.1 A78.2 rfl]
 exact .ret ⟨rfl,x1.Az (.inr (Nat.le_succ _)) l2 _,hb1.put l2 _⟩
theorem Arb(hK:2000<K)(g:Gm){h:Aa}(hb:HB h):Ok (F5 K (gV g) h) fun v h'=>Ext h h'/\HB h' /\
 if rtB g=true/\g.D*g.Z<=64 then ∃ w m ar l,v=.tuple [.ptr w 0,.bool true]/\h'.get w=some (.cells l 47)/\l[6]? = some (.ptr m 0)/\l[7]? = some (.ptr ar 0)/\h'.get ar=some (.cells (Pz m (fun _=>-1) fun _=>-1) 147)/\Er h' m (Mi.new g) (fun i=>i<h.next\/i=w\/i=ar)/\h.next<=w/\h.next<=ar/\w ≠ ar else v=.tuple [.Db,.bool false]:=by
 simp only[F5,gV,Ab]
 have x1:Ext h (h.new (.cells (gL g) 23)):=A1.new _ _
 have g1:(h.new (.cells (gL g) 23)).get h.next=some (.cells (gL g) 23):=Ae _ _
 have n1:(h.new (.cells (gL g) 23)).next=h.next+1:=rfl
 generalize h.new (.cells (gL g) 23)=h1 at x1 g1 n1 ⊢
 have hb1:=x1.hb hb
 rw[Gf g1 rfl,Ax (n:=6) rfl]
 try simp only[Ab]
 refine Ok.st (gL g) (Ae _ _) rfl rfl (Gc rfl) ?_
 have x2:Ext h1 ((h1.new (.cells [EV.int .i64 0,.int .i64 0,.int .i64 0,.int .i64 0,.int .i64 0,.int .i64 0] 37)).put h1.next (.cells (gL g) 37)):=(A1.new h1 _:Ext _ _).Az (.inr (Nat.le_refl _)) (Nat.lt_succ_self _) _
 have g5:((h1.new (.cells [EV.int .i64 0,.int .i64 0,.int .i64 0,.int .i64 0,.int .i64 0,.int .i64 0] 37)).put h1.next (.cells (gL g) 37)).get h1.next=some (.cells (gL g) 37):=Ai _ _ _
 generalize (h1.new (.cells [EV.int .i64 0,.int .i64 0,.int .i64 0,.int .i64 0,.int .i64 0,.int .i64 0] 37)).put h1.next (.cells (gL g) 37)=h2 at x2 g5 ⊢
 have hb2:=x2.hb hb1
 rw[Gf g5 rfl,Ax (n:=6) rfl]
 try simp only[Ab]
 rw[show EV.agg (gL g)=gV g from rfl]
 refine(Ay2 g (by omega) h2).Aj ?_
 rintro _ h3 ⟨rfl,x3⟩
 have hb3:=x3.hb hb2
 have x03:Ext h h3:=(x1.trans x2).trans x3
 have x13:Ext h1 h3:=x2.trans x3
 cases hr:rtB g with
 | false=>
  simp only[Ab,Ah,Eu]
  exact .ret ⟨x03,hb3,by rw[if_neg (fun y=>by cases y.1)]⟩
 | true=>
  have s:=Qs hr
  have:=s.d0;have:=s.d1;have:=s.z0;have:=s.z1;have:=s.s0;have:=s.s1;have:=s.o0;have:=s.o1
  obtain⟨m0,m1⟩:=S7 (a:=g.D) (b:=g.Z) (A:=8) (B:=64) (by omega) (by omega) (by omega) (by omega)
  have m2:3<=g.D*g.Z:=by
   have:3*1<=g.D*g.Z:=Int.mul_le_mul (by omega) (by omega) (by omega) (by omega)
   omega
  have g13:=x13.at hb1 g1
  simp only[Ab,Ah,Cl g13 rfl,gL,I]
  rw[Cx (by omega) (by omega)]
  by_cases h64:64<g.D*g.Z
  ·simp only[h64,decide_true,Ab,Eu]
   exact .ret ⟨x03,hb3,by rw[if_neg (fun y=>by omega)]⟩
  ·simp only[h64,decide_false,Ab,Eu,N0,Cl g13 rfl,gL,I,Ah]
   rw[Cx (by omega) (by omega)]
   have hd:Acx (g.D*g.Z) g.S g.O=true:=by
    unfold Acx
    rw[Tf.2 ⟨by omega,by omega⟩,Tf.2 ⟨by omega,by omega⟩,Tf.2 ⟨by omega,by omega⟩];rfl
   refine(Ap1 (K:=K) hd (by omega) hb3).Aj ?_
   rintro _ h4 ⟨D,V,M,zl',z,rfl,x4,hb4,dr,nd⟩
   have g14:=x4.at hb3 g13
   have g54:=x4.at hb3 (x3.at hb2 g5)
   simp only[Ab,I,Ah,not_true_eq_false,decide_false,N1,Bh]
   have l14:=hb4 _ _ g14
   rw[As l14 (by kernel_rfl),Gf g14 rfl,Ax (n:=6) rfl]
   try simp only[Ab,Bh]
   rw[Nq (v:=Ug) (by kernel_rfl) (by kernel_rfl) rfl]
   have dr':Wm h4.lift D V M zl' (g.D*g.Z).toNat z (fun _=>0) g.S g.O 0 false .Af .Af [] (fun _=>Zn.empty):=dr.ext fun i o g=>by rw[Cq];exact g
   refine Ok.Ct (by kernel_rfl) (by kernel_rfl) (An4 (K:=K) (g:=g) (by omega) (Fh hb4) dr') (fun _ _ p=>p.1) ?_
   rintro v h5' h5 ⟨_,hb5',hv⟩ sm x5
   have hb5:=x5.hb hb4
   rw[if_pos ⟨hr,by omega,rfl⟩]at hv
   obtain⟨m,p,bl,ql,q,c,rfl,MA,PA,nm⟩:=hv
   have k5:∀ i o,h5'.get i=some o->h5.get i=some o:=fun i o g=>by rw[sm.get];exact g
   have MA:=MA.ext k5
   have PA:=PA.ext k5
   have M5:=A4i s (h0:=h3) hb5 (dr.ext fun i o g=>x5.at hb4 g) nd MA PA (by
    have t2:=x4.next
    have t3:h4.lift.next=h4.next:=rfl
    exact⟨⟨by omega,by omega⟩,by omega,by omega,fun d hd=>by have:=nm.2.2.2 d hd;omega⟩) (by have:=x4.next;have:=x5.next;omega)
   have g15:=x5.at hb4 g14
   have g55:=x5.at hb4 g54
   have l15:=hb5 _ _ g15
   have l55:=hb5 _ _ g55
   simp only[Ab,I,Ah,not_true_eq_false,decide_false]
   simp only[Ab,Nz,Bh]
   rw[As l15 (by kernel_rfl),A3 g15 rfl (v:=I g.D) rfl]
   try simp only[Ab,Bh]
   rw[As l15 (by kernel_rfl),A3 g15 rfl (v:=I g.Z) rfl]
   simp only[Ab,Bh,I,Ah]
   rw[As l15 (by kernel_rfl),A3 g15 rfl (v:=I g.S) rfl]
   try simp only[Ab,Bh]
   rw[As l15 (by kernel_rfl),A3 g15 rfl (v:=I g.O) rfl]
   try simp only[Ab,Bh]
   rw[Cx (by omega) (by omega)]
   have hn:(EV.int .i64 (g.D*g.Z))=I (((g.D*g.Z).toNat:Nat):Int):=by unfold I;congr 1;omega
   rw[hn]
   refine Ok.Ct (by kernel_rfl) (by kernel_rfl) (Aqb (K:=K) (n:=(g.D*g.Z).toNat) (size:=g.S) (op:=g.O) (by omega) hK (Fh hb5)) (fun _ _ p=>by obtain⟨_,_,x,_⟩:=p;exact x) ?_
   rintro _ h6' h6 ⟨sl,rfl,_,_⟩ _ x6
   have hb6:=x6.hb hb5
   rw[Ca (l:=[sl,I g.S,I g.O,I 0,.bool false,.Af,.Af]) rfl]
   have g56:=x6.at hb5 g55
   try simp only[Ab,Bh]
   rw[As l55 (by kernel_rfl),Gf g56 rfl,Ax (n:=6) rfl]
   try simp only[Ab,Bh]
   refine Ok.Ct (by kernel_rfl) (by kernel_rfl) (Are (K:=K) (s:=sl) (size:=g.S) (op:=g.O) (g:=g) (Fh hb6)) (fun _ _ p=>p.2.1) ?_
   rintro _ h7' h7 ⟨rfl,_,_⟩ _ x7
   have hb7:=x7.hb hb6
   have x57:Ext h5 h7:=x6.trans x7
   try simp only[Ab,Bh]
   rw[Wd (by kernel_rfl)]
   refine Ok.stW (xs:=Nc sl g.S g.O g) (Ae _ _) rfl rfl ?_
   generalize hz:([EV.Af]++List.replicate 3 (EV.int .i64 0)++[EV.bool false]++List.replicate 2 EV.Af++List.replicate 8 (EV.int .i64 0)++List.replicate 2 EV.Af++List.replicate 3 (EV.int .i64 0))=z20
   have x8:Ext h7 ((h7.new (.cells z20 42)).put h7.next (.cells (Nc sl g.S g.O g) 42)):=(A1.new h7 _:Ext _ _).Az (.inr (Nat.le_refl _)) (Nat.lt_succ_self _) _
   have g8:((h7.new (.cells z20 42)).put h7.next (.cells (Nc sl g.S g.O g) 42)).get h7.next=some (.cells (Nc sl g.S g.O g) 42):=Ai _ _ _
   have n8:((h7.new (.cells z20 42)).put h7.next (.cells (Nc sl g.S g.O g) 42)).next=h7.next+1:=rfl
   generalize (h7.new (.cells z20 42)).put h7.next (.cells (Nc sl g.S g.O g) 42)=h8 at x8 g8 n8 ⊢
   have hb8:=x8.hb hb7
   have x58:Ext h5 h8:=x57.trans x8
   have g18:=x58.at hb5 g15
   have l18:=hb8 _ _ g18
   rw[As l18 (by kernel_rfl),Gf g18 rfl,Ax (n:=6) rfl]
   try simp only[Ab,Bh]
   refine Ok.Ct (by kernel_rfl) (by kernel_rfl) (Asx (K:=K) (by omega) (Fh hb8) m) (fun _ _ p=>p.2.2.1) ?_
   rintro _ h9' h9 ⟨rfl,ga,_,_⟩ sm9 x9
   have hb9:=x9.hb hb8
   have ga:h9.get h8.next=some (.cells (Pz m (fun _=>-1) fun _=>-1) 147):=by rw[sm9.get];exact ga
   have g89:=x9.at hb8 g8
   try simp only[Ab,Bh]
   rw[As (show h7.next<h8.next by omega) (by kernel_rfl),Gf g89 rfl,Ax (n:=20) rfl]
   try simp only[Ab,Bh]
   refine Ok.Ct (by kernel_rfl) (by kernel_rfl) (Apo (K:=K) (s:=sl) (size:=g.S) (op:=g.O) (g:=g) (Fh hb9)) (fun _ _ p=>p.2.1) ?_
   rintro _ ha' ha ⟨rfl,_,_⟩ _ xa
   have hba:=xa.hb hb9
   rw[show h8.lift.next=h8.next from rfl,Ca (l:=gL g++[.ptr m 0,.ptr h8.next 0]++Y3 sl g.S g.O g) rfl]
   try simp only[Ab,Bh]
   have xb:Ext ha (ha.new (.cells (gL g++[.ptr m 0,.ptr h8.next 0]++Y3 sl g.S g.O g) 47)):=A1.new _ _
   have gb:(ha.new (.cells (gL g++[.ptr m 0,.ptr h8.next 0]++Y3 sl g.S g.O g) 47)).get ha.next=some (.cells (gL g++[.ptr m 0,.ptr h8.next 0]++Y3 sl g.S g.O g) 47):=Ae _ _
   have nb:(ha.new (.cells (gL g++[.ptr m 0,.ptr h8.next 0]++Y3 sl g.S g.O g) 47)).next=ha.next+1:=rfl
   generalize ha.new (.cells (gL g++[.ptr m 0,.ptr h8.next 0]++Y3 sl g.S g.O g) 47)=hh at xb gb nb ⊢
   have x8b:Ext h8 hh:=(x9.trans xa).trans xb
   have x9b:Ext h9 hh:=xa.trans xb
   have x5b:Ext h5 hh:=x58.trans x8b
   have x3b:Ext h3 hh:=(x4.trans x5).trans x5b
   have t1:=x03.next
   have t5:=x58.next
   have t3:h3.next<=h5.next:=(x4.trans x5:Ext h3 h5).next
   have t8:h8.next<=ha.next:=(x9.trans xa:Ext h8 ha).next
   have la:=hb9 _ _ ga
   have t9:=xa.next
   refine .ret ⟨x03.trans x3b,x5b.hb hb5,?_⟩
   rw[if_pos ⟨trivial,by omega⟩]
   refine⟨ha.next,m,h8.next,_,rfl,gb,rfl,rfl,x9b.at hb9 ga,(M5.ext hb5 x5b).less fun i hi=>?_,by omega,by omega,by omega⟩
   rcases hi with hi|hi|hi
   ·exact .inl (show i<h3.next by omega)
   ·exact .inr ⟨by omega,by omega⟩
   ·exact .inr ⟨by omega,by omega⟩
end Go.Ev

namespace Go.Ev
open Go.Proofs
set_option maxRecDepth 100000
theorem A4c {g:Gm}(hr:rtB g=true):3<=g.Z:=by
 have s:=Qs hr
 have:=s.d0;have:=s.d1;have:=s.z0;have:=s.z1;have:=s.p0;have:=s.p1;have:=s.s0;have:=s.s1;have:=s.b0
 have h2:2*g.B<=g.S*g.segments:=by
  unfold rtB at hr
  simp only[Bool.and_eq_true,decide_eq_true_eq]at hr
  exact hr.2.2
 have h3:1<=g.segments:=by
  rcases Int.lt_or_le g.segments 1 with y|y
  ·have:=(Ahm (a:=g.S) (b:=g.segments) (A:=64) (B:=0) (by omega) (by omega))
   have e:g.S*g.segments<=g.S*0:=Int.mul_le_mul_of_nonneg_left (by omega) (by omega)
   rw[Int.mul_zero]at e
   omega
  ·exact y
 obtain⟨q0,q1⟩:=S7 (a:=g.D) (b:=g.P) (A:=8) (B:=4) (by omega) (by omega) (by omega) (by omega)
 rcases Int.lt_or_le g.Z 3 with y|y
 ·have e:(g.D-1)*(g.Z-g.P-2)<=(g.D-1)*0:=Int.mul_le_mul_of_nonneg_left (by omega) (by omega)
  rw[Int.mul_zero]at e
  unfold Gm.segments Gm.least Gm.Ad0 at h3
  omega
 ·exact y
theorem A1e {g:Gm}(hr:rtB g=true){i:Nat}(hi:i<3){x:Int}(h0:0<=x)(h1:x<=1):Fs g ((i:Int)*g.Z+x)=i:=by
 have s:=Qs hr
 have hz:=A4c hr
 have:=s.d0
 have m1:((i:Int)+1)*g.Z<=g.D*g.Z:=Int.mul_le_mul_of_nonneg_right (by omega) (by omega)
 have m0:0<=(i:Int)*g.Z:=Int.mul_nonneg (by omega) (by omega)
 rw[Int.add_mul,Int.one_mul]at m1
 unfold Fs
 rw[if_neg (by omega),Int.add_comm,Int.add_mul_ediv_right _ _ (by omega),Int.ediv_eq_zero_of_lt h0 (by omega),Int.zero_add]
def A5v(S:Mi):Prop:=∀ i,¬ S.bad i=1
theorem Aw9(f:Nat->Int)(i:Nat)(v:Int):Ih f i v i=v:=by unfold Ih;rw[if_pos rfl]
theorem Ahf(f:Nat->Int){i j:Nat}(v:Int)(h:j ≠ i):Ih f i v j=f j:=by unfold Ih;rw[if_neg h]
structure Aet(h:Aa)(g:Gm)(w m ar a2:Nat)(l:List EV):Prop where
 st:h.get w=some (.cells l 47)
 geo:h.get a2=some (.cells (gL g) 23)
theorem Aet.frame {h h':Aa}{g:Gm}{w m ar a2:Nat}{l:List EV}(a:Aet h g w m ar a2 l)(e1:h'.get w=h.get w)(e2:h'.get a2=h.get a2):Aet h' g w m ar a2 l:=⟨by rw[e1];exact a.st,by rw[e2];exact a.geo⟩
theorem As4 {g:Gm}(hr:rtB g=true):Ahq (Mi.new g):=by
 have s:=Qs hr
 have:=s.o0
 exact⟨rfl,rfl,rfl,rfl,this,fun i _ _=>.inl ⟨rfl,rfl⟩,fun y=>by omega⟩
end Go.Ev

namespace Go.Ev
open Go.Proofs
set_option maxRecDepth 100000
variable {K:Nat}{disp:Nat->Option FT}
theorem Baq:(B8 TT 19 0).2.1 = [8]:=by kernel_rfl
theorem A8u {a b:EV}{j:Nat}(hj:j<2)(k:EV->R):Ari 2 1 false 1 (.agg [a,b]) (I j) k=k (if j=0 then a else b):=by
 rcases j with _|_|j <;> first|rfl|omega
theorem A7q {a:Nat->Int}{o:Nat->Int}{i:Nat}(hi:i<3)(k:EV->R):Ari 3 2 true 2 (.agg [I (a 0),I (o 0),I (a 1),I (o 1),I (a 2),I (o 2)]) (I i) k=k (.agg [I (a i),I (o i)]):=by
 rcases i with _|_|_|i <;> first|rfl|omega
structure Ag7(h:Aa)(l0 d0:Nat)(tm:Ag)(b3 b4:Nat)(z:Int)(found:Bool):Prop where
 lp:h.get l0=some (A2 TT 19 12 0 tm (if found then .done else .ready) (if found then some .ret else none) d0)
 c3:h.get b3=some (.cells [I z] 3)
 c4:h.get b4=some (.cells [.bool found] 4)
 hb:HB h
section
variable (H:An disp){l0 d0 b3 b4:Nat}{tm:Ag}{z:Int}(t3:tmp tm 3=.ptr b3 0)(t4:tmp tm 4=.ptr b4 0)
include H t3 t4
theorem Au5 {e:Nat}(he:1<=e){h:Aa}{x:Int}(I0:Ag7 h l0 d0 tm b3 b4 z false):
 ∃ h',Ad TT disp K (e+1) true l0 [I x] h=some (.bool (decide (¬ x=z)),h')/\Ag7 h' l0 d0 tm b3 b4 z (decide (x=z))/\A1 (fun j=>j=l0\/j=b4) h h':=by
 have hg:=I0.lp
 simp only[Bool.false_eq_true,if_false]at hg
 have hg':=hg
 have g3:=I0.c3
 have g4:=I0.c4
 have hb:=I0.hb
 unfold A2 at hg'
 rw[Baq]at hg'
 rw[Aay H he tm h (I x) hg',t3,t4]
 have l0l:=hb _ _ hg
 have l4l:=hb _ _ g4
 have n03:l0 ≠ b3:=Ba hg g3 (by simp[A2])
 have n04:l0 ≠ b4:=Ba hg g4 (by simp[A2])
 have n34:b3 ≠ b4:=Ba g3 g4 (by simp[I])
 simp only[Mg,Ad6 hg,Iv]
 have g3':(h.put l0 (A2 TT 19 12 0 tm .busy none d0)).get b3=some (.cells [I z] 3):=by rw[Al _ n03];exact g3
 have g4':(h.put l0 (A2 TT 19 12 0 tm .busy none d0)).get b4=some (.cells [.bool false] 4):=by rw[Al _ n04];exact g4
 have g0':(h.put l0 (A2 TT 19 12 0 tm .busy none d0)).get l0=some (A2 TT 19 12 0 tm .busy none d0):=Ai _ _ _
 have x1:A1 (fun j=>j=l0\/j=b4) h (h.put l0 (A2 TT 19 12 0 tm .busy none d0)):=(A1.refl h).Az (.inl (.inl rfl)) l0l _
 have hb1:HB (h.put l0 (A2 TT 19 12 0 tm .busy none d0)):=hb.put l0l _
 have n1:(h.put l0 (A2 TT 19 12 0 tm .busy none d0)).next=h.next:=rfl
 generalize h.put l0 (A2 TT 19 12 0 tm .busy none d0)=h1 at g3' g4' g0' x1 hb1 n1 ⊢
 simp only[Cl g3' rfl,Ab,I,Ah]
 by_cases hx:x=z
 ·simp only[hx,decide_true,Ab,not_true_eq_false,decide_false]
  rw[Aps (o:=0) (n:=1) (v:=.bool true) (l':=[.bool true]) g4' rfl rfl rfl,Zm (by rw[Al _ (Ne.symm n04)];exact g0')]
  exact⟨_,rfl,⟨Ai _ _ _,by rw[Al _ n03,Al _ (Ne.symm n34)];exact g3',by rw[Al _ n04];exact Ai _ _ _,(hb1.put (by omega) _).put (by rw[Aa.Vd];omega) _⟩,(x1.Az (.inl (.inr rfl)) (by omega) _).Az (.inl (.inl rfl)) (by rw[Aa.Vd];omega) _⟩
 ·simp only[hx,decide_false,Ab,not_false_eq_true,decide_true]
  rw[Zm g0']
  exact⟨_,rfl,⟨Ai _ _ _,by rw[Al _ n03];exact g3',by rw[Al _ n04];exact g4',hb1.put (by omega) _⟩,x1.Az (.inl (.inl rfl)) (by omega) _⟩
def Amf(h:Aa)(l0 d0:Nat)(tm:Ag)(b3 b4:Nat)(z:Int):EV->Aa->Prop:=fun _ h'=>∃ b,Ag7 h' l0 d0 tm b3 b4 z b/\A1 (fun j=>j=l0\/j=b4) h h'
theorem Azg {e:Nat}(he:2<=e){ih0:EV->EV->EV->Aa->R}{v10 v11:EV}{x y:Int}{h0:Aa}
 (hk:∀ h,Ag7 h l0 d0 tm b3 b4 z false->A1 (fun j=>j=l0\/j=b4) h0 h->Ok (Hu (Ad TT disp K e false) (Ad TT disp K e true) K ih0 (.Rm l0) v10 v11 h) (Amf h0 l0 d0 tm b3 b4 z)) :
 ∀ (m j:Nat) (h:Aa),2-j<m->j<=2->Ag7 h l0 d0 tm b3 b4 z false->A1 (fun j=>j=l0\/j=b4) h0 h ->
  Ok (Ce (Ad TT disp K e false) (Ad TT disp K e true) K ih0 m (.Rm l0) v10 v11 (.agg [I x,I y]) (I j) h) (Amf h0 l0 d0 tm b3 b4 z):=by
 intro m
 induction m with
 | zero=>intro j h hm;omega
 | succ m ih=>
  intro j h hm hj I0 c0
  rw[Ce]
  simp only[I,Ah]
  by_cases hlt:j<2
  ·have e3:decide ((j:Int)<2)=true:=by simp;omega
   simp only[e3,Ab,To]
   have pv:=fun k=>A8u (a:=I x) (b:=I y) hlt k
   simp only[I]at pv
   rw[pv]
   have go:∀ v:Int,Ok (Aq Ka (bin TT .neq 3) (.int .i64 v) (.int .i64 (-1)) fun v23=>Ar (Au v23 true)
    (Aj (P0 (Ad TT disp K e false) (Ad TT disp K e true) (.Rm l0) [.int .i64 v] h) fun v27 h=>Lf v27 fun v28=>Ey (Ad TT disp K e false) (Ad TT disp K e true) K ih0 (Ce (Ad TT disp K e false) (Ad TT disp K e true) K ih0 m) (.Rm l0) v10 v11 (.agg [.int .i64 x,.int .i64 y]) (.int .i64 (j:Int)) v23 v28 h)
    (Ey (Ad TT disp K e false) (Ad TT disp K e true) K ih0 (Ce (Ad TT disp K e false) (Ad TT disp K e true) K ih0 m) (.Rm l0) v10 v11 (.agg [.int .i64 x,.int .i64 y]) (.int .i64 (j:Int)) v23 (.tuple []) h)) (Amf h0 l0 d0 tm b3 b4 z):=by
    intro v
    have nx:∀ h2,Ag7 h2 l0 d0 tm b3 b4 z false->A1 (fun j=>j=l0\/j=b4) h0 h2->Ok (Of (Ad TT disp K e false) (Ad TT disp K e true) K ih0 (Ce (Ad TT disp K e false) (Ad TT disp K e true) K ih0 m) (.Rm l0) v10 v11 (.agg [.int .i64 x,.int .i64 y]) (.int .i64 (j:Int)) h2) (Amf h0 l0 d0 tm b3 b4 z):=by
     intro h2 I2 c2
     simp only[Of,Ah]
     rw[Cx (by omega) (by omega),show ((j:Nat):Int)+1=((j+1:Nat):Int) by omega]
     exact ih (j+1) h2 (by omega) (by omega) I2 c2
    simp only[Ah]
    by_cases h1:v = -1
    ·simp only[h1,not_true_eq_false,decide_false,Ab,Ah,Ey]
     exact nx h I0 c0
    ·simp only[h1,not_false_eq_true,decide_true,Ab,Ah]
     obtain⟨e,rfl⟩:∃ k,e=k+1:=⟨e-1,by omega⟩
     obtain⟨h2,r1,I2,c2⟩:=Au5 (K:=K) H t3 t4 (e:=e) (by omega) (x:=v) I0
     have hc:P0 (Ad TT disp K (e+1) false) (Ad TT disp K (e+1) true) (.Rm l0) [.int .i64 v] h=some (.bool (decide (¬ v=z)),h2):=r1
     rw[hc,A0]
     by_cases hx:v=z
     ·simp only[hx,decide_true]at I2
      simp only[hx,not_true_eq_false,decide_false,Ab,Ey]
      exact .ret ⟨true,I2,c0.trans c2⟩
     ·simp only[hx,decide_false]at I2
      simp only[hx,not_false_eq_true,decide_true,Ab,Ey]
      exact nx h2 I2 (c0.trans c2)
   rcases j with _|_|j
   ·exact go x
   ·exact go y
   ·omega
  ·have:j=2:=by omega
   subst this
   simp only[show decide (((2:Nat):Int)<2)=false from rfl,Ab]
   exact hk h I0 c0
theorem Azy {e:Nat}(hK:5<K)(he:2<=e){cur B2:Nat->Int}{h0:Aa}:∀ (m i:Nat) (h:Aa),3-i<m->i<=3->Ag7 h l0 d0 tm b3 b4 z false->A1 (fun j=>j=l0\/j=b4) h0 h ->
 Ok (C5 (Ad TT disp K e false) (Ad TT disp K e true) K m (.Rm l0) (.agg [I (cur 0),I (B2 0),I (cur 1),I (B2 1),I (cur 2),I (B2 2)]) (I i) h) (Amf h0 l0 d0 tm b3 b4 z):=by
 intro m
 induction m with
 | zero=>intro i h hm;omega
 | succ m ih=>
  intro i h hm hi I0 c0
  rw[C5]
  unfold I
  simp only[Ah]
  by_cases hlt:i<3
  ·have e3:decide ((i:Int)<3)=true:=by simp;omega
   simp only[e3,Ab,Tv]
   have pa:=fun k=>A7q (a:=cur) (o:=B2) hlt k
   simp only[I]at pa
   rw[pa]
   try simp only[Ab]
   refine Ok.stW (Ae _ _) rfl rfl ?_
   have x2:Ext h ((h.new (.cells [EV.int .i64 0,.int .i64 0] 144)).put h.next (.cells [.int .i64 (cur i),.int .i64 (B2 i)] 144)):=(A1.new h _:Ext _ _).Az (.inr (Nat.le_refl _)) (Nat.lt_succ_self _) _
   have g2:((h.new (.cells [EV.int .i64 0,.int .i64 0] 144)).put h.next (.cells [.int .i64 (cur i),.int .i64 (B2 i)] 144)).get h.next=some (.cells [.int .i64 (cur i),.int .i64 (B2 i)] 144):=Ai _ _ _
   generalize (h.new (.cells [EV.int .i64 0,.int .i64 0] 144)).put h.next (.cells [.int .i64 (cur i),.int .i64 (B2 i)] 144)=h2 at x2 g2 ⊢
   have I2:Ag7 h2 l0 d0 tm b3 b4 z false:=⟨x2.at I0.hb I0.lp,x2.at I0.hb I0.c3,x2.at I0.hb I0.c4,x2.hb I0.hb⟩
   rw[A3 g2 rfl (v:=I (cur i)) rfl,A3 g2 rfl (v:=I (B2 i)) rfl,Ca (l:=[I (cur i),I (B2 i)]) rfl]
   refine Azg (K:=K) H t3 t4 he ?_ K 0 h2 (by omega) (by omega) I2 (c0.trans (Ext.to x2))
   intro h3 I3 c3
   simp only[Hu,Ah]
   rw[Cx (by omega) (by omega),show ((i:Nat):Int)+1=((i+1:Nat):Int) by omega]
   exact ih (i+1) h3 (by omega) (by omega) I3 c3
  ·have:i=3:=by omega
   subst this
   simp only[show decide (((3:Nat):Int)<3)=false from rfl,Ab]
   exact .ret ⟨false,I0,c0⟩
end
section
variable (H:An disp)
include H
theorem A4h {d:Nat}(hd:5<=d)(hK:1000<K){h:Aa}{ar m:Nat}{cur B2:Nat->Int}(hA:h.get ar=some (.cells (Pz m cur B2) 147))(hb:HB h)(z:Int):
 Ok (Ad TT disp K d false 19 [.ptr ar 0,I z] h) fun v h'=>(∃ b,v=.bool b)/\Ext h h'/\HB h':=by
 obtain⟨e,rfl⟩:∃ k,d=k+2:=⟨d-2,by omega⟩
 rw[Af5 H (by omega)]
 simp only[U4,I,Ab,V2]
 have x1:Ext h (((h.new (.cells [.int .i64 z] 3)).new (.cells [.bool false] 4)).new (.cells [.ptr ar 0] 30)):=((A1.new _ _).Gg _).Gg _
 have n1:(((h.new (.cells [.int .i64 z] 3)).new (.cells [.bool false] 4)).new (.cells [.ptr ar 0] 30)).next=h.next+3:=rfl
 have gb:(((h.new (.cells [.int .i64 z] 3)).new (.cells [.bool false] 4)).new (.cells [.ptr ar 0] 30)).get (h.next+2)=some (.cells [.ptr ar 0] 30):=Ae _ _
 have g4:(((h.new (.cells [.int .i64 z] 3)).new (.cells [.bool false] 4)).new (.cells [.ptr ar 0] 30)).get (h.next+1)=some (.cells [.bool false] 4):=by
  rw[Bj _ (Nat.lt_succ_self _)];exact Ae _ _
 have g3:(((h.new (.cells [.int .i64 z] 3)).new (.cells [.bool false] 4)).new (.cells [.ptr ar 0] 30)).get h.next=some (.cells [I z] 3):=by
  rw[Bj _ (show h.next<h.next+2 by omega),Bj _ (show h.next<h.next+1 by omega)];exact Ae _ _
 rw[show ((h.new (.cells [.int .i64 z] 3)).new (.cells [.bool false] 4)).next=h.next+2 from rfl,show (h.new (.cells [.int .i64 z] 3)).next=h.next+1 from rfl]
 generalize ((h.new (.cells [.int .i64 z] 3)).new (.cells [.bool false] 4)).new (.cells [.ptr ar 0] 30)=h1 at x1 n1 gb g4 g3 ⊢
 have hb1:=x1.hb hb
 generalize htm:((((((Tr.nil.put 0 (some (EV.ptr ar 0))).put 1 (some (EV.int .i64 z))).put 3 (some (EV.ptr h.next 0))).put 4 (some (EV.ptr (h.next+1) 0))).put 6 (some (EV.ptr ar 0))).put 7 (some (EV.func 120 [] [EV.ptr (h.next+2) 0])))=tm
 have t3:tmp tm 3=.ptr h.next 0:=by rw[<-htm];simp only[Jd,reduceIte,Nat.reduceEqDiff]
 have t4:tmp tm 4=.ptr (h.next+1) 0:=by rw[<-htm];simp only[Jd,reduceIte,Nat.reduceEqDiff]
 clear htm
 refine Ok.range ?_
 rw[Adt H (Nat.zero_le _)]
 simp only[Xu]
 have x2:Ext h1 (B9 TT 19 12 0 tm h1):=Ol
 have k0:(B9 TT 19 12 0 tm h1).get h1.next=some (.deferred true):=On
 have k1:(B9 TT 19 12 0 tm h1).get (h1.next+1)=some (A2 TT 19 12 0 tm .ready none h1.next):=Nh
 generalize B9 TT 19 12 0 tm h1=h3 at x2 k0 k1 ⊢
 have hb3:=x2.hb hb1
 have hA3:h3.get ar=some (.cells (Pz m cur B2) 147):=x2.at hb1 (x1.at hb hA)
 rw[A3 (x2.at hb1 gb) rfl (v:=.ptr ar 0) rfl]
 simp only[Ab]
 rw[Gn hA3 rfl (show Na (Pz m cur B2) 1 6=some [I (cur 0),I (B2 0),I (cur 1),I (B2 1),I (cur 2),I (B2 2)] from rfl)]
 have I3:Ag7 h3 (h1.next+1) h1.next tm h.next (h.next+1) z false:=⟨k1,x2.at hb1 g3,x2.at hb1 g4,hb3⟩
 refine(Azy (K:=K) H t3 t4 (by omega) (e:=e) (by omega) (cur:=cur) (B2:=B2) K 0 h3 (by omega) (by omega) I3 (A1.refl _)).mono ?_
 rintro _ h4 ⟨b,I4,c4⟩
 have l4:=I4.hb _ _ I4.lp
 have kd:h4.get h1.next=some (.deferred true):=c4.at hb3 k0 (by omega)
 have x4:Ext h h4:=(x1.trans x2).then c4 fun i hi a=>by omega
 have l5:=I4.hb _ _ I4.c4
 have cellres:∀ (h5:Aa) (b:Bool),h5.get (h.next+1)=some (.cells [.bool b] 4)->Iz TT [.c (.ptr (h.next+1) 0) 4] h5=some (.bool b,h5):=by
  intro h5 b hg
  have hr:Fl h5 (h.next+1) 0 1=some [.bool b]:=by unfold Fl;rw[hg];rfl
  unfold Iz
  simp only[Ale,show TT.size 4=some 1 by kernel_rfl,show TT.agg 4=some false by kernel_rfl,hr]
 have lp:=I4.lp
 cases b with
 | true=>
  simp only[if_true]at lp
  refine .inr ⟨lp,?_⟩
  have hb5:HB (h4.put (h1.next+1) (A2 TT 19 12 0 tm .exhausted (some .ret) h1.next)):=I4.hb.put l4 _
  refine Ok.unwind (List.nodup_cons.2 ⟨by simp,List.nodup_nil⟩) (fun d hd=>by rw[List.mem_singleton]at hd;subst hd;rw[Al _ (by omega)];exact kd) hb5 fun h6 ch _=>?_
  have g6:h6.get (h.next+1)=some (.cells [.bool true] 4):=A1.at ch hb5 (by rw[Al _ (by omega)];exact I4.c4) (by rw[List.mem_singleton];omega)
  rw[cellres h6 true g6]
  exact .ret ⟨⟨_,rfl⟩,(x4.Az (.inr (by omega)) l4 _).then ch fun i hi a=>by rw[List.mem_singleton]at hi;omega,ch.hb hb5⟩
 | false=>
  simp only[Bool.false_eq_true,if_false]at lp
  refine .inl ⟨lp,?_⟩
  simp only[Jh]
  have hb5:HB (h4.put (h1.next+1) (A2 TT 19 12 0 tm .exhausted none h1.next)):=I4.hb.put l4 _
  have g5:(h4.put (h1.next+1) (A2 TT 19 12 0 tm .exhausted none h1.next)).get (h.next+1)=some (.cells [.bool false] 4):=by rw[Al _ (by omega)];exact I4.c4
  have x5:Ext h (h4.put (h1.next+1) (A2 TT 19 12 0 tm .exhausted none h1.next)):=x4.Az (.inr (by omega)) l4 _
  have d5:(h4.put (h1.next+1) (A2 TT 19 12 0 tm .exhausted none h1.next)).get h1.next=some (.deferred true):=by rw[Al _ (by omega)];exact kd
  generalize h4.put (h1.next+1) (A2 TT 19 12 0 tm .exhausted none h1.next)=h5 at hb5 g5 x5 d5 ⊢
  have l6:=hb5 _ _ g5
  refine Ok.st1 g5 rfl rfl (by show 0<1;decide) ?_
  have hb6:HB (h5.put (h.next+1) (.cells ([EV.bool false].set 0 (.bool false)) 4)):=hb5.put l6 _
  refine Ok.unwind (List.nodup_cons.2 ⟨by simp,List.nodup_nil⟩) (fun d hd=>by rw[List.mem_singleton]at hd;subst hd;rw[Al _ (by omega)];exact d5) hb6 fun h6 ch _=>?_
  have g6:h6.get (h.next+1)=some (.cells [.bool false] 4):=A1.at ch hb6 (Ai _ _ _) (by rw[List.mem_singleton];omega)
  rw[cellres h6 false g6]
  exact .ret ⟨⟨_,rfl⟩,(x5.Az (.inr (by omega)) l6 _).then ch fun i hi a=>by rw[List.mem_singleton]at hi;omega,ch.hb hb6⟩
end
end Go.Ev

namespace Go.Ev
open Go.Proofs
set_option maxRecDepth 100000
variable {K:Nat}{disp:Nat->Option FT}
theorem Ajg.Awn {h:Aa}{v:EV}{b:Nat}{l:List Int}(r:Ajg h v b l)(k:EV->R):Ev.H8 v k=k (I l.length):=by
 rcases r.row with ⟨rfl,rfl⟩|⟨off,r',op,rfl,_⟩ <;> rfl
theorem Ajg.Q0 {h:Aa}{v:EV}{b:Nat}{l:List Int}(r:Ajg h v b l){j:Nat}(hj:j<l.length)(k:EV->R):Ib 1 v (I j) (fun p=>Ao p h k)=k (I l[j]):=by
 rcases r.row with ⟨rfl,rfl⟩|⟨off,r',op,rfl,y⟩
 ·exact absurd hj (Nat.not_lt_zero _)
 ·unfold I;rw[Sw hj,Nat.mul_one];exact y j hj k
theorem Azr {S T:Mi}{o:Int}{i:Nat}(g:T.g=S.g)(b:T.bad=S.bad)(p:T.ps i=S.ps i):(tgt T o i).1=(tgt S o i).1:=by
 have e:T.U2 o=S.U2 o:=by unfold Mi.U2;rw[g,b]
 unfold tgt
 rw[e,p]
 split
 ·rfl
 ·split <;> rfl
noncomputable def okB(S:Mi)(B2:Nat->Int)(i:Nat):Bool:=decide (¬ (tgt S (B2 i) i).1 = -1)
noncomputable def Aeh(S:Mi)(B2:Nat->Int):Nat->Nat
 | 0=>0
 | k+1=>Aeh S B2 k+(if okB S B2 k=true then 1 else 0)
theorem A45 {S:Mi}{cur B2:Nat->Int}:∀ (k:Nat) {S':Mi} {cur' old':Nat->Int} {n:Nat},Afp S cur B2 k S' cur' old' n->n=Aeh S B2 k/\(∀ i,k<=i->old' i=B2 i/\S'.ps i=S.ps i)/\S'.bad=S.bad/\S'.g=S.g:=by
 intro k
 induction k with
 | zero=>
  rintro S' cur' old' n ⟨rfl,rfl,rfl,rfl⟩
  exact⟨rfl,fun i _=>⟨rfl,rfl⟩,rfl,rfl⟩
 | succ k ih=>
  rintro S' cur' old' n ⟨S1,c1,o1,n1,ok,W,w,rfl⟩
  obtain⟨en,i1,i2,i3⟩:=ih W
  obtain⟨⟨D',rfl⟩,_,rfl,e⟩:=w
  obtain⟨j1,j2⟩:=i1 k (Nat.le_refl _)
  obtain⟨tg,_,tb⟩:=A2y S1 (o1 k) k
  have tc:(tgt S1 (o1 k) k).1=(tgt S (B2 k) k).1:=by rw[j1];exact Azr i3 i2 j2
  refine⟨?_,fun i hi=>⟨?_,?_⟩,tb.trans i2,tg.trans i3⟩
  ·rw[en];show _=Aeh S B2 k+_;unfold okB;rw[tc]
  ·have hne:i ≠ k:=by omega
   split at e <;> cases e
   ·rw[Ahf _ _ hne];exact(i1 i (by omega)).1
   ·rw[Ahf _ _ hne,Ahf _ _ hne];exact(i1 i (by omega)).1
  ·refine Eq.trans ?_ (i1 i (by omega)).2
   show (tgt S1 (o1 k) k).2.ps i=S1.ps i
   unfold tgt
   split
   ·rfl
   ·split
    ·rfl
    ·show upd S1.ps k _ i=_
     unfold upd;rw[if_neg (by omega)]
theorem Ax3 {h:Aa}{m:Nat}{S:Mi}{F:Nat->Prop}(M:Er h m S F){i:Nat}(hi:i<S.g.D.toNat):∃ p,Cy K (.ptr m 0) h=some (.ptr p 0,h)/\I7 K (.ptr p 0) (I i) h=some (I ((S.ps i).length:Nat),h):=by
 obtain⟨_,D,p,bl,ql,np,q,c,G,a⟩:=M.s
 refine⟨p,Vb a.Pp,?_⟩
 rw[Ann a.Fe]
 have:=a.psz.nd
 unfold A0z
 rw[if_pos ⟨by omega,by omega⟩];rfl
structure Yc(S:Mi)(g:Gm):Prop where
 sh:Ahq S
 g:S.g=g
 cl:S.a = -1/\S.b = -1
theorem Yc.Apm {S:Mi}{g:Gm}(q:Yc S g)(z:Int):Yc (S.Apm z) g:=⟨q.sh,q.g,q.cl⟩
theorem Yc.Gz {S:Mi}{g:Gm}(q:Yc S g)(z:Int):Yc (S.Gz z).1 g:=by
 unfold Mi.Gz
 split
 ·exact q
 ·rename_i hd
  split
  ·exact q
  ·rw[if_pos]
   ·exact⟨q.sh,q.g,q.cl⟩
   ·have:z ≠ -1:=fun e=>by
     subst e
     exact hd (by unfold Fs;rw[if_pos (.inl (by decide))];decide)
    rw[q.cl.1,q.cl.2];exact⟨this,this⟩
section
variable (A:An disp)(hK:10000<K){d:Nat}(hd:22<=d){g:Gm}(hr:rtB g=true){w m ar a2:Nat}{l:List EV}(l6:l[6]? = some (.ptr m 0))(l7:l[7]? = some (.ptr ar 0)){F:Nat->Prop}(fw:F w)(fA:F ar)(f2:F a2)(nw:w ≠ ar)(n2:a2 ≠ ar){n0:Nat}(fn:∀ i,i<n0->F i)(na:n0<=ar){h0:Aa}{zv kv:EV}{zb kb:Nat}{zl kl:List Int}(hz:Ajg h0 zv zb zl)(hk:Ajg h0 kv kb kl)(lz:zb<n0)(lk:kb<n0)(l0:n0<=h0.next){cur B2:Nat->Int}
include A hK hd hr l6 l7 fw fA f2 nw n2
theorem Ays {v1 v2:EV}{Q:EV->Aa->Prop}(fn:∀ i,i<n0->F i)(na:n0<=ar){S:Mi}(gS:S.g=g)
 (hq:∀ h cur B2,Er h m S F->HB h->Aet h g w m ar a2 l->h.get ar=some (.cells (Pz m cur B2) 147)->(∀ i,i<3->cur i = -1/\B2 i=(i:Int)*g.Z)->Kf (fun i=>i<n0) h0 h->Ok (F7 (Ad TT disp K d false) (Ad TT disp K d true) K v1 v2 (.ptr a2 0) (.ptr w 0) h) Q) :
 ∀ (f i:Nat) (h:Aa) (cur B2:Nat->Int),3-i<f->i<=3->Er h m S F->HB h->Aet h g w m ar a2 l->h.get ar=some (.cells (Pz m cur B2) 147)->(∀ j,cur j = -1)->(∀ j:Nat,j<i->B2 j=(j:Int)*g.Z)->Kf (fun i=>i<n0) h0 h ->
  Ok (B5 (Ad TT disp K d false) (Ad TT disp K d true) K f v1 v2 (.ptr a2 0) (.ptr w 0) (I i) h) Q:=by
 have s:=Qs hr
 have hz:=A4c hr
 have:=s.z1;have:=s.d0
 intro f
 induction f with
 | zero=>intro i h cur B2 hf;omega
 | succ f ih=>
  intro i h cur B2 hf hi M hb hH hA hc ho kf
  rw[B5]
  simp only[I,Ah]
  by_cases hlt:i<3
  ·have e3:decide ((i:Int)<3)=true:=by simp;omega
   have m0:0<=(i:Int)*g.Z:=Int.mul_nonneg (by omega) (by omega)
   have m1:(i:Int)*g.Z<=2*64:=Int.mul_le_mul (by omega) (by omega) (by omega) (by omega)
   simp only[e3,Ab,Mz,Bh]
   have lw:=hb _ _ hH.st
   have l2:=hb _ _ hH.geo
   rw[As lw (by kernel_rfl),A3 hH.st rfl l7]
   try simp only[Ab,Bh]
   rw[As l2 (by kernel_rfl),A3 hH.geo rfl (v:=I g.Z) rfl]
   simp only[Ab,Bh,I,Ah]
   rw[Cx (by omega) (by omega)]
   have sl:=A6p (K:=K) (F:=F) (i:=i) (v:=-1) (w:=(i:Int)*g.Z) (M.same (Af8.lift h)) (Fh hb) (by rw[Cq];exact hA) fA hlt (.inl rfl) (.inr (by
    rw[gS]
    have:=A1e hr hlt (x:=0) (by omega) (by omega)
    rw[Int.add_zero]at this;exact this)) (by omega)
   simp only[I]at sl
   refine Ok.Aqi (S:=fun j=>j=ar) (by kernel_rfl) (by kernel_rfl) (fun _=>by kernel_rfl) sl (fun _ _ p=>p.2.2.2.1) ?_
   rintro _ h2' h2 s' ⟨_,M2',hA2',_,hb2'⟩ sm c2 _
   have hb2:=sm.hb hb2'
   have M2:=M2'.same sm
   have hA2:h2.get ar=some (.cells (Pz m (Ih cur i (-1)) (Ih B2 i ((i:Int)*g.Z))) 147):=by rw[sm.get];exact hA2'
   have hH2:Aet h2 g w m ar a2 l:=hH.frame (c2.get _ lw nw) (c2.get _ l2 n2)
   simp only[Nd,Ah]
   rw[Cx (by omega) (by omega),show ((i:Nat):Int)+1=((i+1:Nat):Int) by omega]
   refine ih (i+1) h2 _ _ (by omega) (by omega) M2 hb2 hH2 hA2 (fun j=>?_) (fun j hj=>?_) (kf.trans (c2.mono fun j hj y=>by
    have y:j<n0:=y
    omega))
   ·by_cases e:j=i
    ·subst e;rw[Aw9]
    ·rw[Ahf _ _ e];exact hc j
   ·by_cases e:j=i
    ·subst e;rw[Aw9]
    ·rw[Ahf _ _ e];exact ho j (by omega)
  ·have:i=3:=by omega
   subst this
   simp only[show decide (((3:Nat):Int)<3)=false from rfl,Ab]
   exact hq h cur B2 M hb hH hA (fun j hj=>⟨hc j,ho j hj⟩) kf
theorem Aym {v1:EV}{Q:EV->Aa->Prop}(fn:∀ i,i<n0->F i)(hz:Ajg h0 zv zb zl)(lz:zb<n0)(l0:n0<=h0.next)(hrg:∀ z ∈ zl,Rng z)(hl:zl.length<=1000)
 (hq:∀ h S,Er h m S F->HB h->Aet h g w m ar a2 l->h.get ar=some (.cells (Pz m cur B2) 147)->Yc S g->Kf (fun i=>i<n0) h0 h->Ok (Ga (Ad TT disp K d false) (Ad TT disp K d true) K v1 (.ptr a2 0) (.ptr w 0) h) Q) :
 ∀ (f i:Nat) (h:Aa) (S:Mi),zl.length-i<f->i<=zl.length->Er h m S F->HB h->Aet h g w m ar a2 l->h.get ar=some (.cells (Pz m cur B2) 147)->Yc S g->A5v S->Kf (fun i=>i<n0) h0 h ->
  Ok (Bw (Ad TT disp K d false) (Ad TT disp K d true) K f v1 (.ptr a2 0) (.ptr w 0) zv (I zl.length) (I i) h) Q:=by
 intro f
 induction f with
 | zero=>intro i h S hf;omega
 | succ f ih=>
  intro i h S hf hi M hb hH hA q nb kf
  rw[Bw]
  simp only[I,Ah]
  by_cases hlt:i<zl.length
  ·have e3:decide ((i:Int)<(zl.length:Int))=true:=by simp;omega
   simp only[e3,Ab,Mv]
   have zz:=(hz.frame (kf.get zb (by omega) fun y=>y lz)).Q0 hlt
   simp only[I]at zz
   rw[zz,A3 hH.st rfl l7]
   have ha:=A4h (K:=K) A (d:=d) (by omega) (by omega) hA hb zl[i]
   simp only[I]at ha
   refine ha.Aj ?_
   rintro _ h2 ⟨⟨bb,rfl⟩,x2,hb2⟩
   have M2:=(M.ext hb x2).less fun j (hj:F j)=>Or.inl hj
   have hH2:Aet h2 g w m ar a2 l:=hH.frame (x2.get _ (hb _ _ hH.st) id) (x2.get _ (hb _ _ hH.geo) id)
   have hA2:=x2.at hb hA
   have kf2:Kf (fun i=>i<n0) h0 h2:=kf.trans (Ext.to x2)
   have nx:∀ h3 T,Er h3 m T F->HB h3->Aet h3 g w m ar a2 l->h3.get ar=some (.cells (Pz m cur B2) 147)->Yc T g->A5v T->Kf (fun i=>i<n0) h0 h3->Ok (Fw (Ad TT disp K d false) (Ad TT disp K d true) K (Bw (Ad TT disp K d false) (Ad TT disp K d true) K f) v1 (.ptr a2 0) (.ptr w 0) zv (.int .i64 (zl.length:Int)) (.int .i64 (i:Int)) h3) Q:=by
    intro h3 T M3 hb3 hH3 hA3 q3 nb3 kf3
    simp only[Fw,Ah]
    rw[Cx (by omega) (by omega),show ((i:Nat):Int)+1=((i+1:Nat):Int) by omega]
    exact ih (i+1) h3 T (by omega) (by omega) M3 hb3 hH3 hA3 q3 nb3 kf3
   cases bb with
   | true=>
    simp only[Ab]
    exact nx h2 S M2 hb2 hH2 hA2 q nb kf2
   | false=>
    simp only[Ab]
    rw[A3 hH2.st rfl l6]
    obtain⟨p,ep,Apm⟩:=A1z (K:=K) M2 hb2 A hK
    rw[ep,A0]
    have gv:=Apm (d:=d) (by omega) (z:=zl[i]) (hrg _ (List.getElem_mem hlt)) (fun _=>nb _)
    simp only[I]at gv
    refine gv.Aj ?_
    rintro _ h3 ⟨_,M3,k3,hb3⟩
    exact nx h3 _ M3 hb3 (hH2.frame (k3.get _ (hb2 _ _ hH2.st) fun y=>y fw) (k3.get _ (hb2 _ _ hH2.geo) fun y=>y f2)) (k3.at hb2 hA2 fA) (q.Apm _) nb (kf2.trans (k3.less fn))
  ·have:i=zl.length:=by omega
   subst this
   simp only[show decide ((zl.length:Int)<(zl.length:Int))=false by simp,Ab]
   exact hq h S M hb hH hA q kf
theorem Ay1 {Q:EV->Aa->Prop}(fn:∀ i,i<n0->F i)(hk:Ajg h0 kv kb kl)(lk:kb<n0)(l0:n0<=h0.next)(hrg:∀ z ∈ kl,Rng z)(hl:kl.length<=1000)
 (hq:∀ h S,Er h m S F->HB h->Aet h g w m ar a2 l->h.get ar=some (.cells (Pz m cur B2) 147)->Yc S g->Kf (fun i=>i<n0) h0 h->Ok (F1 (Ad TT disp K d false) (Ad TT disp K d true) K (.ptr a2 0) (.ptr w 0) h) Q) :
 ∀ (f i:Nat) (h:Aa) (S:Mi),kl.length-i<f->i<=kl.length->Er h m S F->HB h->Aet h g w m ar a2 l->h.get ar=some (.cells (Pz m cur B2) 147)->Yc S g->Kf (fun i=>i<n0) h0 h ->
  Ok (B7 (Ad TT disp K d false) (Ad TT disp K d true) K f (.ptr a2 0) (.ptr w 0) kv (I kl.length) (I i) h) Q:=by
 intro f
 induction f with
 | zero=>intro i h S hf;omega
 | succ f ih=>
  intro i h S hf hi M hb hH hA q kf
  rw[B7]
  simp only[I,Ah]
  by_cases hlt:i<kl.length
  ·have e3:decide ((i:Int)<(kl.length:Int))=true:=by simp;omega
   simp only[e3,Ab,Ms]
   have zz:=(hk.frame (kf.get kb (by omega) fun y=>y lk)).Q0 hlt
   simp only[I]at zz
   rw[zz,A3 hH.st rfl l6]
   have mq:=Amo (K:=K) A hK M hb (d:=d) (by omega) (hrg _ (List.getElem_mem hlt))
   simp only[I]at mq
   refine mq.Aj ?_
   rintro _ h3 ⟨_,M3,k3,hb3⟩
   simp only[Mx,Ah]
   rw[Cx (by omega) (by omega),show ((i:Nat):Int)+1=((i+1:Nat):Int) by omega]
   exact ih (i+1) h3 _ (by omega) (by omega) M3 hb3 (hH.frame (k3.get _ (hb _ _ hH.st) fun y=>y fw) (k3.get _ (hb _ _ hH.geo) fun y=>y f2)) (k3.at hb hA fA) (q.Gz _) (kf.trans (k3.less fn))
  ·have:i=kl.length:=by omega
   subst this
   simp only[show decide ((kl.length:Int)<(kl.length:Int))=false by simp,Ab]
   exact hq h S M hb hH hA q kf
end
end Go.Ev

namespace Go.Ev
open Go.Proofs
set_option maxRecDepth 100000
variable {K:Nat}{disp:Nat->Option FT}
theorem Asf(a b:Bool)(k:EV->R):Aq G7 (bin TT .eql 4) (.bool a) (.bool b) k=k (.bool (decide (a=b))):=by
 cases a <;> cases b <;> exact Ane (by intros;simp) (by kernel_rfl)
section
variable (A:An disp)(hK:10000<K){d:Nat}(hd:22<=d){g:Gm}(hr:rtB g=true){w m ar a2:Nat}{l:List EV}(l6:l[6]? = some (.ptr m 0))(l7:l[7]? = some (.ptr ar 0)){F:Nat->Prop}(fw:F w)(fA:F ar)(f2:F a2)(nw:w ≠ ar)(n2:a2 ≠ ar){n0:Nat}{h0:Aa}{cur B2:Nat->Int}
include A hK hd hr l6 l7 fw fA f2 nw n2
theorem Ay3 {Q:EV->Aa->Prop}(ho:∀ i:Nat,i<3->cur i = -1/\B2 i=(i:Int)*g.Z){S:Mi}(q:Yc S g)
 (hq:∀ h,Er h m S F->HB h->Aet h g w m ar a2 l->h.get ar=some (.cells (Pz m cur B2) 147)->Kf (fun i=>i<n0) h0 h->Ok (Es (Ad TT disp K d false) (Ad TT disp K d true) K (.ptr a2 0) (.ptr w 0) (I (Aeh S B2 3)) h) Q) :
 ∀ (f i:Nat) (h:Aa),3-i<f->i<=3->Aeh S B2 i<=i->Er h m S F->HB h->Aet h g w m ar a2 l->h.get ar=some (.cells (Pz m cur B2) 147)->Kf (fun i=>i<n0) h0 h ->
  Ok (Bl (Ad TT disp K d false) (Ad TT disp K d true) K f (.ptr a2 0) (.ptr w 0) (I (Aeh S B2 i)) (I i) h) Q:=by
 have s:=Qs hr
 have hz:=A4c hr
 have:=s.z1;have:=s.d0
 intro f
 induction f with
 | zero=>intro i h hf;omega
 | succ f ih=>
  intro i h hf hi hc M hb hH hA kf
  rw[Bl]
  simp only[I,Ah]
  by_cases hlt:i<3
  ·have e3:decide ((i:Int)<3)=true:=by simp;omega
   have m0:0<=(i:Int)*g.Z:=Int.mul_nonneg (by omega) (by omega)
   have m1:(i:Int)*g.Z<=2*64:=Int.mul_le_mul (by omega) (by omega) (by omega) (by omega)
   simp only[e3,Ab,Ny,Bh]
   have lw:=hb _ _ hH.st
   have l2:=hb _ _ hH.geo
   rw[As lw (by kernel_rfl),A3 hH.st rfl l6]
   try simp only[Ab,Bh]
   rw[As l2 (by kernel_rfl),A3 hH.geo rfl (v:=I g.Z) rfl]
   simp only[Ab,Bh,I,Ah]
   rw[Cx (by omega) (by omega)]
   have mb:=Rq (K:=K) (M.same (Af8.lift h)).s (Fh hb) (z:=(i:Int)*g.Z) ⟨by omega,by omega⟩
   simp only[I]at mb
   refine Ok.Ct (by kernel_rfl) (by kernel_rfl) mb (fun _ _ p=>p.2) ?_
   rintro _ h2' h2 ⟨rfl,_⟩ _ x2
   have hb2:=x2.hb hb
   have M2:=(M.ext hb x2).less fun j (hj:F j)=>Or.inl hj
   have hH2:Aet h2 g w m ar a2 l:=hH.frame (x2.get _ lw id) (x2.get _ l2 id)
   have hA2:=x2.at hb hA
   have kf2:Kf (fun i=>i<n0) h0 h2:=kf.trans (Ext.to x2)
   have oi:=(ho i hlt).2
   have last:∀ c:Nat,c=Aeh S B2 (i+1)->Ok (Di (Ad TT disp K d false) (Ad TT disp K d true) K (Bl (Ad TT disp K d false) (Ad TT disp K d true) K f) (.ptr a2 0) (.ptr w 0) (.int .i64 (c:Int)) (.int .i64 (i:Int)) h2) Q:=by
    intro c hc'
    simp only[Di,Ah]
    rw[Cx (by omega) (by omega),show ((i:Nat):Int)+1=((i+1:Nat):Int) by omega,hc']
    exact ih (i+1) h2 (by omega) (by omega) (by show Aeh S B2 i+_<=i+1;split <;> omega) M2 hb2 hH2 hA2 kf2
   have yes:okB S B2 i=true->Ok (Aq Hj (bin TT .add 3) (.int .i64 (Aeh S B2 i:Int)) (.int .i64 1) fun v111=>Di (Ad TT disp K d false) (Ad TT disp K d true) K (Bl (Ad TT disp K d false) (Ad TT disp K d true) K f) (.ptr a2 0) (.ptr w 0) v111 (.int .i64 (i:Int)) h2) Q:=by
    intro hy
    simp only[Ah]
    rw[Cx (by omega) (by omega),show ((Aeh S B2 i:Nat):Int)+1=((Aeh S B2 i+1:Nat):Int) by omega]
    exact last _ (by show _=Aeh S B2 i+_;rw[if_pos hy])
   have no:okB S B2 i=false->Ok (Di (Ad TT disp K d false) (Ad TT disp K d true) K (Bl (Ad TT disp K d false) (Ad TT disp K d true) K f) (.ptr a2 0) (.ptr w 0) (.int .i64 (Aeh S B2 i:Int)) (.int .i64 (i:Int)) h2) Q:=by
    intro hn
    exact last _ (by show _=Aeh S B2 i+_;rw[if_neg (by rw[hn];decide)];rfl)
   cases hbad:S.U2 ((i:Int)*g.Z) with
   | false=>
    have hy:okB S B2 i=true:=by
     unfold okB tgt
     rw[oi,if_pos ⟨by omega,hbad⟩]
     exact decide_eq_true (show ¬ (i:Int)*g.Z = -1 by omega)
    simp only[Ab,Ah,Ex]
    exact yes hy
   | true=>
    simp only[Ab,Ah,Bh]
    rw[As lw (by kernel_rfl),A3 hH2.st rfl l6]
    try simp only[Ab,Bh]
    have hiD:i<S.g.D.toNat:=by rw[q.g];omega
    obtain⟨p,ep,cp⟩:=Ax3 (K:=K) (M2.same (Af8.lift h2)) hiD
    rw[Nq (by kernel_rfl) (by kernel_rfl) ep]
    try simp only[Ab,Bh]
    simp only[I]at cp
    rw[Nq (by kernel_rfl) (by kernel_rfl) cp]
    simp only[Ah,Ab,Bh]
    cases hp:S.ps i with
    | nil=>
     have hn:okB S B2 i=false:=by
      unfold okB tgt
      rw[oi,if_neg (fun y=>by rw[hbad]at y;cases y.2),hp]
      rfl
     simp only[List.length_nil,show decide ((0:Int)<((0:Nat):Int))=false from rfl,Ab,Ex]
     exact no hn
    | cons x r=>
     have dx:=(M.wf.ps i hiD x (by rw[hp];exact List.mem_cons_self ..)).1
     have hx:¬ x = -1:=fun e=>by
      subst e
      unfold Fs at dx
      rw[if_pos (.inl (by decide))]at dx
      omega
     have hy:okB S B2 i=true:=by
      unfold okB tgt
      rw[oi,if_neg (fun y=>by rw[hbad]at y;cases y.2),hp]
      exact decide_eq_true hx
     have e0:decide ((0:Int)<(((x::r).length:Nat):Int))=true:=by simp
     simp only[e0,Ab,Ex]
     exact yes hy
  ·have:i=3:=by omega
   subst this
   simp only[show decide (((3:Nat):Int)<3)=false from rfl,Ab]
   exact hq h M hb hH hA kf
theorem A4t(na:n0<=ar)(fn:∀ i,i<n0->F i){S:Mi}(q:Yc S g)(ho:∀ i:Nat,i<3->cur i = -1/\B2 i=(i:Int)*g.Z){h:Aa}(M:Er h m S F)(hb:HB h)(hH:Aet h g w m ar a2 l)(hA:h.get ar=some (.cells (Pz m cur B2) 147))(kf:Kf (fun i=>i<n0) h0 h):
 Ok (Es (Ad TT disp K d false) (Ad TT disp K d true) K (.ptr a2 0) (.ptr w 0) (I (Aeh S B2 3)) h) fun v h'=>v=.bool true/\Kf (fun i=>i<n0) h0 h':=by
 have hz:=A4c hr
 simp only[Es]
 rw[Gf hH.geo rfl,Ax (n:=6) rfl]
 simp only[Ab]
 rw[show EV.agg (gL g)=gV g from rfl]
 refine(As2 (K:=K) hr hb).Aj ?_
 rintro _ h4 ⟨b,ml,ll,rfl,mp,x4,hb4,lb,lm⟩
 simp only[Ab,I,Ah,not_true_eq_false,decide_false,N2]
 have M4:Er h4 m S (fun i=>F i\/i=b\/i=ml):=(M.ext hb x4).less fun j hj=>by
  have t1:=hb4 _ _ mp.map
  have t2:=hb4 _ _ mp.row
  rcases hj with hj|hj|hj
  ·exact .inl hj
  ·exact .inr ⟨by omega,by omega⟩
  ·exact .inr ⟨by omega,by omega⟩
 have lA:=hb _ _ hA
 have hA4:=x4.at hb hA
 have kf4:Kf (fun i=>i<n0) h0 h4:=kf.trans (Ext.to x4)
 rw[A3 (x4.at hb hH.st) rfl l7,Ca (l:=[I 1,I 1,I 1,.ptr b 0]) rfl]
 have hrS:rtB S.g=true:=by rw[q.g];exact hr
 have aI:Aki S cur B2:=⟨fun i hi=>.inl (ho i hi).1,fun i hi=>.inr (by
  rw[(ho i hi).2,q.g]
  have:=A1e hr hi (x:=0) (by omega) (by omega)
  rw[Int.add_zero]at this;exact this)⟩
 refine(A25 (K:=K) (F:=fun i=>F i\/i=b\/i=ml) A hK (.inl fA) ⟨.inr (.inl rfl),.inr (.inr rfl),by omega,by omega⟩ (d:=d) (by omega) (x:=1) (y:=1) (z:=1) M4 hb4 hA4 (by rw[q.g];exact mp) ⟨hrS,by omega,by omega,by omega,by omega,by omega,by omega⟩ q.sh aI).Aj ?_
 rintro _ h5 ⟨S',cur',old',n',D',rfl,W,n3,_,_,_,_,_,k5,hb5⟩
 obtain⟨en,_⟩:=A45 3 W
 have kf5:Kf (fun i=>i<n0) h0 h5:=kf4.trans (k5.mono fun j hj y=>by
  have y:j<n0:=y
  rcases hj with hj|hj
  ·exact hj (.inl (fn j y))
  ·omega)
 simp only[Ab,I,Ah,en,decide_true]
 generalize Aeh S B2 3=c at n3 en ⊢
 by_cases h2:c<2
 ·rw[if_pos h2,Asf]
  simp only[show decide ((40:Int)=0)=false from rfl,show decide ((2:Int)<=(c:Int))=false from decide_eq_false (by omega),Gh,Gq,Gk,Gj,Ab,Ah,decide_true]
  exact .ret ⟨rfl,kf5⟩
 ·rw[if_neg h2,Asf]
  simp only[show decide ((0:Int)=0)=true from rfl,show decide ((2:Int)<=(c:Int))=true from decide_eq_true (by omega),Gh,Gq,Gk,Gj,Ab,Ah,decide_true]
  exact .ret ⟨rfl,kf5⟩
end
end Go.Ev

namespace Go.Ev
open Go.Proofs
set_option maxRecDepth 100000
variable {K:Nat}{disp:Nat->Option FT}
theorem A4q(A:An disp)(hK:10000<K){d:Nat}(hd:22<=d)(h11:∀ h,Ad TT disp K d false 11 [] h=some (.bool true,h))(g:Gm){h:Aa}(hb:HB h){zv kv:EV}{zb kb:Nat}{zl kl:List Int}
 (hz:Ajg h zv zb zl) (hk:Ajg h kv kb kl) (lz:zb<h.next) (lk:kb<h.next) (hrz:∀ z ∈ zl,Rng z) (hrk:∀ z ∈ kl,Rng z) :
 Ok (K5 (Ad TT disp K d false) (Ad TT disp K d true) K (gV g) kv zv h) fun v h'=>v=.bool true/\∀ i,i<h.next->h'.get i=h.get i:=by
 simp only[K5,gV,Ab,h11,Nb]
 have x1:Ext h (h.new (.cells (gL g) 23)):=A1.new _ _
 have g1:(h.new (.cells (gL g) 23)).get h.next=some (.cells (gL g) 23):=Ae _ _
 have n1:(h.new (.cells (gL g) 23)).next=h.next+1:=rfl
 generalize h.new (.cells (gL g) 23)=h1 at x1 g1 n1 ⊢
 have hb1:=x1.hb hb
 rw[Gf g1 rfl,Ax (n:=6) rfl]
 try simp only[Ab]
 rw[show EV.agg (gL g)=gV g from rfl]
 refine(Arb (K:=K) (by omega) g hb1).Aj ?_
 rintro v h2 ⟨x2,hb2,hv⟩
 have g2:=x2.at hb1 g1
 have x12:Ext h h2:=x1.trans x2
 have early:∀ i,i<h.next->h2.get i=h.get i:=fun i hi=>x12.get i hi id
 have hz1:=hz.frame (h':=h1) (x1.get _ lz id)
 have hk1:=hk.frame (h':=h1) (x1.get _ lk id)
 have hz2:=hz.frame (early _ lz)
 have hk2:=hk.frame (early _ lk)
 by_cases hy:rtB g=true/\g.D*g.Z<=64
 ·rw[if_pos hy]at hv
  obtain⟨w,m,ar,l,rfl,gw,l6,l7,hA,M2,lw,lar,nw⟩:=hv
  simp only[Ab,Ah,F0,Fz]
  rw[hk2.Awn]
  simp only[I,Ah]
  by_cases hn:64<(kl.length:Int)
  ·simp only[hn,decide_true,Ab,Ah]
   exact .ret ⟨rfl,early⟩
  ·simp only[hn,decide_false,Ab,Ah]
   rw[hz2.Awn]
   simp only[I,Ah]
   by_cases hn2:64<(zl.length:Int)
   ·simp only[hn2,decide_true,Ab]
    exact .ret ⟨rfl,early⟩
   ·simp only[hn2,decide_false,Ab,Mq]
    have l2:=hb1 _ _ g1
    have fin:∀ {X:R},Ok X (fun v h'=>v=.bool true/\Kf (fun i=>i<h1.next) h1 h')->Ok X fun v h'=>v=.bool true/\∀ i,i<h.next->h'.get i=h.get i:=fun hX=>hX.mono fun v h' ⟨a,k⟩=>⟨a,fun i hi=>by rw[k.get i (by omega) (fun y=>y (show i<h1.next by omega)),x1.get i hi id]⟩
    refine fin ?_
    refine Ays (K:=K) (F:=fun i=>i<h1.next\/i=w\/i=ar) (a2:=h.next) (n0:=h1.next) (h0:=h1) A hK hd hy.1 l6 l7 (.inr (.inl rfl)) (.inr (.inr rfl)) (.inl l2) nw (by omega) (fun i hi=>.inl hi) lar (S:=Mi.new g) rfl ?_ K 0 h2 _ _ (by omega) (by omega) M2 hb2 ⟨gw,g2⟩ hA (fun _=>rfl) (fun j hj=>by omega) (Ext.to x2)
    intro h3 cur B2 M3 hb3 hH3 hA3 ho kf3
    simp only[F7]
    rw[(hz1.frame (kf3.get zb (by omega) fun y=>y (show zb<h1.next by omega))).Awn]
    refine Aym (K:=K) (F:=fun i=>i<h1.next\/i=w\/i=ar) (a2:=h.next) (n0:=h1.next) (h0:=h1) A hK hd hy.1 l6 l7 (.inr (.inl rfl)) (.inr (.inr rfl)) (.inl l2) nw (by omega) (fun i hi=>.inl hi) hz1 (by omega) (Nat.le_refl _) hrz (by omega) ?_ K 0 h3 (Mi.new g) (by omega) (by omega) M3 hb3 hH3 hA3 ⟨As4 hy.1,rfl,rfl,rfl⟩ (fun _ y=>by cases y) kf3
    intro h4 S M4 hb4 hH4 hA4 q4 kf4
    simp only[Ga]
    rw[(hk1.frame (kf4.get kb (by omega) fun y=>y (show kb<h1.next by omega))).Awn]
    refine Ay1 (K:=K) (F:=fun i=>i<h1.next\/i=w\/i=ar) (a2:=h.next) (n0:=h1.next) (h0:=h1) A hK hd hy.1 l6 l7 (.inr (.inl rfl)) (.inr (.inr rfl)) (.inl l2) nw (by omega) (fun i hi=>.inl hi) hk1 (by omega) (Nat.le_refl _) hrk (by omega) ?_ K 0 h4 S (by omega) (by omega) M4 hb4 hH4 hA4 q4 kf4
    intro h5 T M5 hb5 hH5 hA5 q5 kf5
    simp only[F1]
    refine Ay3 (K:=K) (F:=fun i=>i<h1.next\/i=w\/i=ar) (a2:=h.next) (n0:=h1.next) (h0:=h1) A hK hd hy.1 l6 l7 (.inr (.inl rfl)) (.inr (.inr rfl)) (.inl l2) nw (by omega) ho q5 ?_ K 0 h5 (by omega) (by omega) (Nat.le_refl _) M5 hb5 hH5 hA5 kf5
    intro h6 M6 hb6 hH6 hA6 kf6
    exact A4t (K:=K) (F:=fun i=>i<h1.next\/i=w\/i=ar) (a2:=h.next) (n0:=h1.next) (h0:=h1) A hK hd hy.1 l6 l7 (.inr (.inl rfl)) (.inr (.inr rfl)) (.inl l2) nw (by omega) lar (fun i hi=>.inl hi) q5 ho M6 hb6 hH6 hA6 kf6
 ·rw[if_neg hy]at hv
  subst hv
  simp only[Ab,Ah,F0,Fz]
  exact .ret ⟨rfl,early⟩
end Go.Ev
