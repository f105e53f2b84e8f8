import Derived.Test.YtpkcfamminlmaaaGreatQa
import Derived.Test.YtpkcfamminlmaaaGreatDd
set_option linter.unusedVariables false
set_option linter.unusedSimpArgs false
set_option linter.unusedSectionVars false
namespace Go.Ev
open Go.Proofs
set_option maxRecDepth 100000
variable {K:Nat}{disp:Nat->Option FT}
structure Af9(S:Mi)(x y z:Int):Prop where
 rt:rtB S.g=true
 x0:1<=x
 x1:x<=281474976710655
 y0:1<=y
 y1:y<=4294967295
 z0:1<=z
 z1:z<=281474976710655
def Acf(S:Mi):Prop:=Aak S.dr S.g.S.toNat (S.g.D*S.g.Z).toNat
section
variable (A:Ap disp)(hK:10000<K){h:Aa}{ar m b ml ll:Nat}{cur Cc:Nat->Int}{S:Mi}{F:Nat->Prop}(M:Fg h m S F)(hb:HB h)(hA:h.get ar=some (.cells (Rp m cur Cc) 147))(fA:F ar)(mp:Lk h b ml ll S.g){x y z:Int}(o:Af9 S x y z){zn:Int}(n0:0<=zn)(n1:zn<S.g.D*S.g.Z)
include A hK M hb hA fA mp o n0 n1
theorem A2b {d:Nat}(hd:17<=d)(c:Acf S):Ok (Ad TT disp K d false 117 [.ptr ar 0,.agg [I x,I y,I z,.ptr b 0],I zn] h) fun v h'=>v=I 0/\(∃ D',Fg h' m { S with dr:=D' } F/\Acf { S with dr:=D' })/\Kf F h h'/\HB h':=by
 have s:=N1 o.rt
 have hp:S.g.parts<=S.g.S:=by
  have:=o.rt
  unfold rtB at this
  simp only[Bool.and_eq_true,decide_eq_true_eq]at this
  exact this.2.1
 have:=s.s0;have:=s.s1;have:=s.b0
 have hp1:1<=S.g.parts:=by unfold Gm.parts;omega
 obtain⟨e,rfl⟩:∃ k,d=k+1:=⟨d-1,by omega⟩
 rw[Ach A (by omega)]
 simp only[Ym,Ab]
 have x1:Ext h (h.new (.cells [I x,I y,I z,.ptr b 0] 60)):=A6.new _ _
 have g1:(h.new (.cells [I x,I y,I z,.ptr b 0] 60)).get h.next=some (.cells [I x,I y,I z,.ptr b 0] 60):=Ae _ _
 have n1':(h.new (.cells [I x,I y,I z,.ptr b 0] 60)).next=h.next+1:=rfl
 generalize h.new (.cells [I x,I y,I z,.ptr b 0] 60)=h1 at x1 g1 n1' ⊢
 have hb1:=x1.hb hb
 have hA1:=x1.at hb hA
 have M1:=(M.ext hb x1).less fun j (hj:F j)=>Or.inl hj
 have l1:=hb1 _ _ hA1
 obtain⟨D,V,dr⟩:=Aep A hK M1 hb1
 rw[As l1 (by kernel_rfl),Az hA1 rfl (v:=.ptr m 0) rfl]
 try simp only[Ab,Bh]
 refine Ok.Ct (by kernel_rfl) (by kernel_rfl) dr.table (fun _ _ p=>p.2) ?_
 rintro _ h2' h2 ⟨rfl,_⟩ _ x2
 have hb2:=x2.hb hb1
 have g2:=x2.at hb1 g1
 have l2:=hb2 _ _ g2
 have l12:h.next<h1.next:=by omega
 try simp only[Ab,Bh]
 rw[As l12 (by kernel_rfl),F2 g2 rfl,Aw (n:=4) rfl]
 try simp only[Ab,Bh]
 have x12:Ext h h2:=x1.trans x2
 have mpL:Lk h2.lift b ml ll S.g:=(mp.frame (x12.get _ (hb _ _ mp.map) id) (x12.get _ (hb _ _ mp.row) id)).frame (Cj _ _) (Cj _ _)
 refine Ok.Ct (by kernel_rfl) (by kernel_rfl) (Ar2 (K:=K) A (d:=e) (by omega) hK o.rt mpL (E8 hb2) o.x0 o.x1 o.y0 o.y1 o.z0 o.z1 n0 n1) (fun _ _ p=>by obtain⟨_,_,_,_,_,_,_,_,p,_⟩:=p;exact p) ?_
 rintro _ h3' h3 ⟨v,q,X,rfl,row,lq,hL,hX,_,_⟩ sm x3
 have hb3:=x3.hb hb2
 have row3:Bx h3 v q 103 64 X.length X.flatten:=row.frame fun _=>sm.get _
 have hq:h2.next<=q:=lq (by omega)
 simp only[Ab,I,Ah,not_true_eq_false,decide_false,Ts]
 have x13:Ext h h3:=x12.trans x3
 have hA3:=x13.at hb hA
 have M3:Fg h3 m S (fun i=>F i\/i=q):=(M.ext hb x13).less fun j hj=>by
  rcases hj with hj|hj
  ·exact .inl hj
  ·subst hj
   have:=hb3 _ _ (row3.block (by omega))
   have:=x12.next
   exact .inr ⟨by omega,by omega⟩
 have hz:0<S.g.S.toNat:=by omega
 refine(Ayg (K:=K) A hK M3 hb3 hA3 hz n0 (n:=(S.g.D*S.g.Z).toNat) (by omega) (d:=e) (by omega) c).Aj ?_
 rintro _ h4 ⟨rfl,⟨D',M4,c4⟩,k4,hb4⟩
 simp only[Ab,I,Ah,not_true_eq_false,decide_false,Ua]
 have row4:=row3.frame (h':=h4) fun y=>k4.get _ (hb3 _ _ (row3.block y)) fun w=>w (.inr rfl)
 rw[row4.I4]
 refine(Avl (K:=K) A hK (d:=e) (by omega) hX (size:=S.g.S.toNat) (n:=(S.g.D*S.g.Z).toNat) (by omega) (by omega) (by omega) n0 (by omega) K 0 h4 _ (by omega) (by omega) M4 hb4 (k4.at hb3 hA3 (.inl fA)) (.inl fA) (.inr rfl) row4 c4).mono ?_
 rintro _ h5 ⟨rfl,⟨D2,M5,c5⟩,k5,hb5⟩
 exact⟨rfl,⟨D2,M5.less fun j hj=>.inl hj,c5⟩,((Ext.kf x13).trans (k4.less fun j hj=>.inl hj)).trans (k5.less fun j hj=>.inl hj),hb5⟩
end
end Go.Ev

namespace Go.Ev
open Go.Proofs
set_option maxRecDepth 100000
variable {K:Nat}{disp:Nat->Option FT}
def Gl(f:Nat->Int)(i:Nat)(v:Int):Nat->Int:=fun j=>if j=i then v else f j
theorem Ay0 {m:Nat}{cur Cc:Nat->Int}{i:Nat}(hi:i<3):(Rp m cur Cc)[1+i*2+1]? = some (I (Cc i)):=by
 rcases i with _|_|_|i <;> first|rfl|omega
theorem Azv {m:Nat}{cur Cc:Nat->Int}{i:Nat}(hi:i<3):(Rp m cur Cc)[1+i*2]? = some (I (cur i)):=by
 rcases i with _|_|_|i <;> first|rfl|omega
theorem Axa {m:Nat}{cur Cc:Nat->Int}{i:Nat}(hi:i<3)(v:Int):(Rp m cur Cc).set (1+i*2+1) (I v)=Rp m cur (Gl Cc i v):=by
 rcases i with _|_|_|i <;> first|rfl|omega
theorem Atd {m:Nat}{cur Cc:Nat->Int}{i:Nat}(hi:i<3)(v w:Int):Jl (Rp m cur Cc) (1+i*2) [I v,I w]=some (Rp m (Gl cur i v) (Gl Cc i w)):=by
 rcases i with _|_|_|i <;> first|rfl|omega
noncomputable def tgt(S:Mi)(o:Int)(i:Nat):Int × Mi:=
 if ¬ o = -1/\S.Am0 o=false then (o,S) else match S.ps i with
 | []=>(-1,S)
 | z::r=>(z,{ S with ps:=upd S.ps i r })
section
variable (A:Ap disp)(hK:10000<K){h:Aa}{ar m:Nat}{cur Cc:Nat->Int}{S:Mi}{F:Nat->Prop}(M:Fg h m S F)(hb:HB h)(hA:h.get ar=some (.cells (Rp m cur Cc) 147))(fA:F ar){i:Nat}(hi:i<3)
include hK M hb
theorem Az2(hi:i<S.g.D.toNat){k:EV->Aa->R}{Q:EV->Aa->Prop}
 (hk:∀ h',(S.ps i = []->Fg h' m S F->Kf F h h'->HB h'->Ok (k (.tuple [I 0,I 15]) h') Q)/\(∀ z r,S.ps i=z::r->Fg h' m { S with ps:=upd S.ps i r } F->Kf F h h'->HB h'->Ok (k (.tuple [I z,I 0]) h') Q)) :
 Ok (Aj (D4 K (.ptr m 0) h) fun v h=>Aj (L6 K v (I i) h) k) Q:=by
 obtain⟨lt,D,p,bl,ql,np,q,c,G,a⟩:=M.s
 rw[Abh a.mir,A2]
 have hnp:=a.psz.nd
 subst hnp
 refine(A12 (K:=K) a.Js hb a.psz (by omega) i).Aj ?_
 rintro _ h' ⟨c3,hb3,x,e,ps',rfl,P3,Z3,alt⟩
 obtain⟨a3,cH⟩:=a.Auk hb P3 Z3 c3
 have wf:∀ {ps'},(∀ d,d<S.g.D.toNat->∀ x ∈ ps' d,x ∈ S.ps d)->Mi.Wf { S with ps:=ps' }:=fun sub=>{ toWp:=⟨M.wf.sm,fun d hd x hx=>M.wf.ps d hd x (sub d hd x hx)⟩,op:=M.wf.op }
 rcases alt with ⟨y,_⟩|⟨_,_,y,rfl,rfl,rfl⟩|⟨_,_,rfl,r,y,rfl⟩
 ·omega
 ·obtain⟨M3,k3⟩:=M.made (Ad5.mono (H:=Out F h) ⟨fun i hi=>Nat.lt_of_lt_of_le hi.1 cH.next,D,p,bl,ql,_,q,c,G,a3⟩ (fun _=>.inl) (Bw.lt lt cH.next)) cH (wf fun d hd x hx=>hx)
  exact(hk h').1 y M3 k3 hb3
 ·have y:S.ps i=x::r:=y
  obtain⟨M3,k3⟩:=M.made (Ad5.mono (H:=Out F h) ⟨fun i hi=>Nat.lt_of_lt_of_le hi.1 cH.next,D,p,bl,ql,_,q,c,G,a3⟩ (fun _=>.inl) (Bw.lt lt cH.next)) cH (wf fun d hd x' hx=>by
   unfold upd at hx
   split at hx
   ·rename_i e
    have e:d=i:=e
    subst e;rw[y];exact List.mem_cons_of_mem _ hx
   ·exact hx)
  exact(hk h').2 x r y M3 k3 hb3
include hA fA hi
theorem Avo(ho:Rng (Cc i)):Ok (Iv K (.ptr ar 0) (I i) h) fun v h'=>v=I (tgt S (Cc i) i).1/\Fg h' m (tgt S (Cc i) i).2 F/\h'.get ar=some (.cells (Rp m cur (Gl Cc i (-1))) 147)/\A6 (fun j=>¬ F j\/j=ar) h h'/\HB h':=by
 have la:=hb _ _ hA
 have sm:=M.wf.sm
 have:=sm.d0
 simp only[Iv,Ab]
 unfold I
 rw[Nn hi]
 try simp only[Ab]
 rw[Az hA rfl (Ay0 hi),Nn hi]
 try simp only[Ab]
 refine Ok.st1 hA rfl rfl (by show _<7;omega) ?_
 rw[show (Rp m cur Cc).set (1+i*2+1) (.int .i64 (-1))=Rp m cur (Gl Cc i (-1)) from Axa hi (-1)]
 have c1:A6 (fun j=>j=ar) h (h.put ar (.cells (Rp m cur (Gl Cc i (-1))) 147)):=(A6.refl (S:=fun j=>j=ar) h).A3 (.inl rfl) la _
 have hA1:(h.put ar (.cells (Rp m cur (Gl Cc i (-1))) 147)).get ar=some (.cells (Rp m cur (Gl Cc i (-1))) 147):=Ai _ _ _
 generalize h.put ar (.cells (Rp m cur (Gl Cc i (-1))) 147)=h1 at c1 hA1 ⊢
 have hb1:=c1.hb hb
 have M1:=M.Ao8 c1 fun j hj _=>hj ▸ fA
 have c1':A6 (fun j=>¬ F j\/j=ar) h h1:=c1.mono fun j hj=>.inr hj
 have take:∀ h1,Fg h1 m S F->HB h1->h1.get ar=some (.cells (Rp m cur (Gl Cc i (-1))) 147)->A6 (fun j=>¬ F j\/j=ar) h h1->Ok (Mf K (.ptr ar 0) (.int .i64 (i:Int)) h1) fun v h'=>v=I (match S.ps i with | []=>(-1,S)|z::r=>(z,{ S with ps:=upd S.ps i r }):Int × Mi).1/\Fg h' m (match S.ps i with | []=>(-1,S)|z::r=>(z,{ S with ps:=upd S.ps i r }):Int × Mi).2 F/\h'.get ar=some (.cells (Rp m cur (Gl Cc i (-1))) 147)/\A6 (fun j=>¬ F j\/j=ar) h h'/\HB h':=by
  intro h1 M1 hb1 hA1 c1'
  simp only[Mf,Ab]
  rw[Az hA1 rfl (v:=.ptr m 0) rfl]
  refine Az2 hK M1 hb1 (i:=i) (by omega) fun h'=>⟨fun e M2 k2 hb2=>?_,fun z r e M2 k2 hb2=>?_⟩
  ·rw[e]
   simp only[Ab,I,Ah]
   exact .ret ⟨rfl,M2,k2.at hb1 hA1 fA,c1'.trans (k2.mono fun j hj=>.inl hj),hb2⟩
  ·rw[e]
   simp only[Ab,I,Ah,not_true_eq_false,decide_false,Q3]
   exact .ret ⟨rfl,M2,k2.at hb1 hA1 fA,c1'.trans (k2.mono fun j hj=>.inl hj),hb2⟩
 simp only[I,Ah]
 unfold tgt
 by_cases ho1:Cc i = -1
 ·rw[if_neg (fun y=>y.1 ho1)]
  simp only[ho1,not_true_eq_false,decide_false,Ab,Ah,Gx]
  exact take _ M1 hb1 hA1 c1'
 ·simp only[ho1,not_false_eq_true,decide_true,Ab,Ah,true_and]
  rw[Az hA1 rfl (v:=.ptr m 0) rfl]
  refine(Ak9 (K:=K) M1.s hb1 ho).Aj ?_
  rintro _ h2 ⟨rfl,x2⟩
  have hb2:=x2.hb hb1
  cases hbad:S.Am0 (Cc i) with
  | true=>
   rw[if_neg (by simp)]
   simp only[Ab,Gx]
   exact take _ ((M1.ext hb1 x2).less fun j (hj:F j)=>Or.inl hj) hb2 (x2.at hb1 hA1) (c1'.trans (Ext.to x2))
  | false=>
   rw[if_pos rfl]
   simp only[Ab,Gx]
   exact .ret ⟨rfl,(M1.ext hb1 x2).less fun j (hj:F j)=>Or.inl hj,x2.at hb1 hA1,c1'.trans (Ext.to x2),hb2⟩
end
end Go.Ev

namespace Go.Ev
open Go.Proofs
set_option maxRecDepth 100000
variable {K:Nat}{disp:Nat->Option FT}
theorem A2t(S:Mi)(o:Int)(i:Nat):(tgt S o i).2.g=S.g/\(tgt S o i).2.dr=S.dr/\(tgt S o i).2.bad=S.bad:=by
 unfold tgt
 split
 ·exact⟨rfl,rfl,rfl⟩
 ·split <;> exact⟨rfl,rfl,rfl⟩
def Aqz(S:Mi)(cur Cc:Nat->Int)(i:Nat)(S':Mi)(cur' old':Nat->Int)(ok:Bool):Prop:=
 (∃ D',S' = { (tgt S (Cc i) i).2 with dr:=D' })/\Acf S'/\ok=decide (¬ (tgt S (Cc i) i).1 = -1) /\
 (cur',old')=if (tgt S (Cc i) i).1 = -1 then (cur,Gl Cc i (-1)) else (Gl cur i (tgt S (Cc i) i).1,Gl (Gl Cc i (-1)) i (cur i))
section
variable (A:Ap disp)(hK:10000<K){h:Aa}{ar m b ml ll:Nat}{cur Cc:Nat->Int}{S:Mi}{F:Nat->Prop}(M:Fg h m S F)(hb:HB h)(hA:h.get ar=some (.cells (Rp m cur Cc) 147))(fA:F ar){i:Nat}(hi:i<3)
 (mp:Lk h b ml ll S.g) (fb:F b/\F ml/\b ≠ ar/\ml ≠ ar) {x y z:Int} (o:Af9 S x y z)
include A hK M hb hA fA hi mp fb o
theorem Ayz {d:Nat}(hd:18<=d)(c:Acf S)(ho:Rng (Cc i))(hv:(tgt S (Cc i) i).1 = -1\/(0<=(tgt S (Cc i) i).1/\(tgt S (Cc i) i).1<S.g.D*S.g.Z)):
 Ok (Ad TT disp K d false 66 [.ptr ar 0,I i,.agg [I x,I y,I z,.ptr b 0]] h) fun v h'=>∃ S' cur' old' ok,v=.tuple [.bool ok,I 0]/\Aqz S cur Cc i S' cur' old' ok/\Fg h' m S' F/\h'.get ar=some (.cells (Rp m cur' old') 147)/\A6 (fun j=>¬ F j\/j=ar) h h'/\HB h':=by
 obtain⟨e,rfl⟩:∃ k,d=k+1:=⟨d-1,by omega⟩
 rw[Abi A (by omega)]
 simp only[Wn,Ab]
 have x1:Ext h (h.new (.cells [I x,I y,I z,.ptr b 0] 60)):=A6.new _ _
 have g1:(h.new (.cells [I x,I y,I z,.ptr b 0] 60)).get h.next=some (.cells [I x,I y,I z,.ptr b 0] 60):=Ae _ _
 have n1':(h.new (.cells [I x,I y,I z,.ptr b 0] 60)).next=h.next+1:=rfl
 generalize h.new (.cells [I x,I y,I z,.ptr b 0] 60)=h1 at x1 g1 n1' ⊢
 have hb1:=x1.hb hb
 have hA1:=x1.at hb hA
 have M1:Fg h1 m S (fun j=>F j\/j=h.next):=(M.ext hb x1).less fun j hj=>by
  rcases hj with hj|hj
  ·exact .inl hj
  ·exact .inr ⟨by omega,by omega⟩
 obtain⟨K',rfl⟩:∃ k,K=k+1:=⟨K-1,by omega⟩
 rw[El]
 refine(Avo (K:=K'+1) hK M1 hb1 hA1 (.inl fA) hi ho).Aj ?_
 rintro _ h2 ⟨rfl,M2,hA2,c2,hb2⟩
 have la:=hb _ _ hA
 have c12:A6 (fun j=>¬ F j\/j=ar) h h2:=(Ext.to x1).trans (c2.mono fun j hj=>hj.elim (fun y=>.inl fun w=>y (.inl w)) .inr)
 have g2:h2.get h.next=some (.cells [I x,I y,I z,.ptr b 0] 60):=c2.at hb1 g1 fun w=>w.elim (fun w=>w (.inr rfl)) fun w=>by omega
 obtain⟨tg,td,tb⟩:=A2t S (Cc i) i
 unfold Aqz
 generalize tgt S (Cc i) i=t at hv M2 tg td tb ⊢
 obtain⟨tz,T⟩:=t
 simp only at hv M2 tg td tb ⊢
 simp only[I,Ah]
 have sh:∀ D',Aak D' S.g.S.toNat (S.g.D*S.g.Z).toNat->Acf { T with dr:=D' }:=fun D' w=>by
  show Aak D' T.g.S.toNat (T.g.D*T.g.Z).toNat
  rw[tg];exact w
 by_cases hm:tz = -1
 ·subst hm
  simp only[decide_true,Ab]
  refine .ret ⟨T,cur,Gl Cc i (-1),false,rfl,⟨⟨T.dr,rfl⟩,sh T.dr (by rw[td];exact c),rfl,rfl⟩,M2.less fun j hj=>.inl hj,hA2,c12,hb2⟩
 ·simp only[hm,decide_false,Ab,R8]
  rw[F2 g2 rfl,Aw (n:=4) rfl]
  simp only[Ab]
  have hz:0<=tz/\tz<T.g.D*T.g.Z:=by rw[tg];exact hv.resolve_left hm
  have oT:Af9 T x y z:=⟨by rw[tg];exact o.rt,o.x0,o.x1,o.y0,o.y1,o.z0,o.z1⟩
  have mT:Lk h2 b ml ll T.g:=by
   rw[tg]
   exact mp.frame (c12.get _ (hb _ _ mp.map) fun w=>w.elim (fun w=>w fb.1) fb.2.2.1) (c12.get _ (hb _ _ mp.row) fun w=>w.elim (fun w=>w fb.2.1) fb.2.2.2)
  have cT:Acf T:=sh T.dr (by rw[td];exact c)
  have fl:=A2b (K:=K'+1) A hK M2 hb2 hA2 (.inl fA) mT oT hz.1 hz.2 (d:=e) (by omega) cT
  simp only[I]at fl
  refine fl.Aj ?_
  rintro _ h3 ⟨rfl,⟨D',M3,c3⟩,k3,hb3⟩
  have hA3:=k3.at hb2 hA2 (.inl fA)
  have l3:=hb3 _ _ hA3
  simp only[Ah,decide_true,Ab]
  rw[Nn hi]
  try simp only[Ab]
  rw[Nat.add_zero,As l3 (by kernel_rfl),Az hA3 rfl (Azv hi)]
  try simp only[Ab,Bh]
  rw[Ca (l:=[.int .i64 tz,I (cur i)]) rfl]
  try simp only[Ab,Bh]
  rw[Nn hi]
  try simp only[Ab,Bh]
  rw[U9 (by kernel_rfl)]
  refine Ok.st (Rp m (Gl cur i tz) (Gl (Gl Cc i (-1)) i (cur i))) hA3 rfl rfl (Atd hi tz (cur i)) ?_
  refine .ret ⟨{ T with dr:=D' },_,_,true,rfl,⟨⟨D',rfl⟩,c3,by simp,by simp⟩,(M3.Ao8 (T:=fun j=>j=ar) ((A6.refl (S:=fun j=>j=ar) _).A3 (.inl rfl) l3 _) fun j hj _=>.inl (hj ▸ fA)).less fun j hj=>.inl hj,Ai _ _ _,(c12.trans (k3.mono fun j hj=>.inl fun w=>hj (.inl w))).A3 (.inl (.inr rfl)) l3 _,hb3.put l3 _⟩
end
end Go.Ev

namespace Go.Ev
open Go.Proofs
set_option maxRecDepth 100000
variable {K:Nat}{disp:Nat->Option FT}
theorem Az0:TT.eqs 23=some [0,0,0,0,0,0]:=by kernel_rfl
theorem Ayy(a:Int):eqB a a=true:=by rw[<-Ar6,Anf];simp
theorem A3e(g:Gm)(k:EV->R):Ar Jr (bin TT .neq 23) (gV g) (gV g) k=k (.bool false):=by
 have h1:Arq TT 23 (gV g) (gV g)=some true:=by
  unfold Arq gV
  rw[Az0]
  simp only[gL,shaped,I]
  rw[show Nat.beq 0 0=true from rfl]
  simp only[Ak,Fo,Aa6,show Nat.beq (Ki .i64) (Ki .i64)=true from rfl,Ayy]
 show oB k (match Arq TT 23 (gV g) (gV g) with|some b=>some (EV.bool (An b false true))|none=>none)=_
 rw[h1];rfl
structure Aib(S:Mi)(cur Cc:Nat->Int):Prop where
 cur:∀ i,i<3->cur i = -1\/La S.g (cur i)=i
 Cc:∀ i,i<3->Cc i = -1\/La S.g (Cc i)=i
theorem Aib.tgt {S:Mi}{cur Cc:Nat->Int}(a:Aib S cur Cc)(w:S.Wf){i:Nat}(hi:i<3):(tgt S (Cc i) i).1 = -1\/La S.g (tgt S (Cc i) i).1=i:=by
 have:=w.sm.d0
 unfold Ev.tgt
 split
 ·exact a.Cc i hi
 ·split
  ·exact .inl rfl
  ·rename_i z r e
   exact .inr (w.ps i (by omega) z (by rw[e];exact List.mem_cons_self ..)).1
theorem Ay9 {g:Gm}(s:Sm g){z:Int}{i:Nat}(h:La g z=i):0<=z/\z<g.D*g.Z:=by
 rcases Air s z with y|⟨_,_,_,a,b⟩
 ·omega
 ·exact⟨a,b⟩
theorem Aib.wrote {S S':Mi}{cur Cc cur' old':Nat->Int}{i:Nat}{ok:Bool}(a:Aib S cur Cc)(w:S.Wf)(hi:i<3)(r:Aqz S cur Cc i S' cur' old' ok):Aib S' cur' old'/\S'.g=S.g:=by
 obtain⟨⟨D',rfl⟩,_,_,e⟩:=r
 obtain⟨g,_,_⟩:=A2t S (Cc i) i
 have t:=a.tgt w hi
 have dn:∀ j,j<3->Gl Cc i (-1) j = -1\/La S.g (Gl Cc i (-1) j)=j:=fun j hj=>by
  unfold Gl;split
  ·exact .inl rfl
  ·exact a.Cc j hj
 refine⟨?_,g⟩
 have gg:({ (Ev.tgt S (Cc i) i).2 with dr:=D' }:Mi).g=S.g:=g
 split at e
 ·cases e
  exact⟨fun j hj=>by rw[gg];exact a.cur j hj,fun j hj=>by rw[gg];exact dn j hj⟩
 ·rename_i hn
  cases e
  refine⟨fun j hj=>?_,fun j hj=>?_⟩
  ·rw[gg]
   unfold Gl;split
   ·rename_i e;subst e;exact t
   ·exact a.cur j hj
  ·rw[gg]
   show Gl (Gl Cc i (-1)) i (cur i) j = -1\/La S.g (Gl (Gl Cc i (-1)) i (cur i) j)=j
   by_cases e:j=i
   ·subst e
    have:Gl (Gl Cc j (-1)) j (cur j) j=cur j:=by unfold Gl;rw[if_pos rfl]
    rw[this];exact a.cur j hj
   ·have:Gl (Gl Cc i (-1)) i (cur i) j=Gl Cc i (-1) j:=by unfold Gl;rw[if_neg e]
    rw[this];exact dn j hj
def Z2(S:Mi)(cur Cc:Nat->Int):Nat->Mi->(Nat->Int)->(Nat->Int)->Nat->Prop
 | 0,S',cur',old',n=>S'=S/\cur'=cur/\old'=Cc/\n=0
 | k+1,S',cur',old',n=>∃ S1 c1 o1 n1 ok,Z2 S cur Cc k S1 c1 o1 n1/\Aqz S1 c1 o1 k S' cur' old' ok/\n=n1+(if ok=true then 1 else 0)
section
variable (A:Ap disp)(hK:10000<K){ar m b ml ll:Nat}{F:Nat->Prop}(fA:F ar)(fb:F b/\F ml/\b ≠ ar/\ml ≠ ar)
include A hK fA fb
theorem As9 {d:Nat}(hd:18<=d){x y z:Int}{S0:Mi}{cur0 old0:Nat->Int}(o:Af9 S0 x y z){t:Nat}(ft:F t)(ta:t ≠ ar):∀ (f i n:Nat) (h:Aa) (S:Mi) (cur Cc:Nat->Int),3-i<f->i<=3->n<=i->Fg h m S F->HB h->h.get ar=some (.cells (Rp m cur Cc) 147)->Lk h b ml ll S.g->h.get t=some (.cells [I x,I y,I z,.ptr b 0] 60)->Acf S->Aib S cur Cc->S.g=S0.g->Z2 S0 cur0 old0 i S cur Cc n ->
 Ok (C2 (Ad TT disp K d false) (Ad TT disp K d true) K f (.ptr ar 0) (.ptr t 0) (I n) (I i) h) fun v h'=>∃ S' cur' old' n' D',v=.tuple [I (n':Nat),I (if n'<2 then 40 else 0)]/\Z2 S0 cur0 old0 3 S' cur' old' n'/\n'<=3/\Fg h' m { S' with dr:=D' } F/\Acf { S' with dr:=D' }/\h'.get ar=some (.cells (Rp m cur' old') 147)/\Aib S' cur' old'/\S'.g=S0.g/\A6 (fun j=>¬ F j\/j=ar) h h'/\HB h':=by
 intro f
 induction f with
 | zero=>intro i n h S cur Cc hf;omega
 | succ f ih=>
  intro i n h S cur Cc hf hi hn M hb hA mp gt c a gS W
  rw[C2]
  simp only[I,Ah]
  by_cases hlt:i<3
  ·have:decide ((i:Int)<3)=true:=by simp;omega
   simp only[this,Ab,R5]
   rw[F2 gt rfl,Aw (n:=4) rfl]
   simp only[Ab]
   have sm:=M.wf.sm
   have oS:Af9 S x y z:=⟨by rw[gS];exact o.rt,o.x0,o.x1,o.y0,o.y1,o.z0,o.z1⟩
   have ro:Rng (Cc i):=by
    rcases a.Cc i hlt with w|w
    ·rw[w];exact⟨by omega,by omega⟩
    ·exact Aq1 sm (by omega)
   have w66:=Ayz (K:=K) A hK M hb hA fA hlt mp fb oS hd c ro ((a.tgt M.wf hlt).imp id fun w=>Ay9 sm w)
   simp only[I]at w66
   refine w66.Aj ?_
   rintro _ h2 ⟨S2,cur2,old2,ok,rfl,wr,M2,hA2,c2,hb2⟩
   obtain⟨a2,g2⟩:=a.wrote M.wf hlt wr
   simp only[Ab,Ah,not_true_eq_false,decide_false,R9]
   have mp2:Lk h2 b ml ll S2.g:=by
    rw[g2]
    exact mp.frame (c2.get _ (hb _ _ mp.map) fun w=>w.elim (fun w=>w fb.1) fb.2.2.1) (c2.get _ (hb _ _ mp.row) fun w=>w.elim (fun w=>w fb.2.1) fb.2.2.2)
   have gt2:=c2.at hb gt fun w=>w.elim (fun w=>w ft) ta
   have nx:∀ n',n'=n+(if ok=true then 1 else 0)->Ok (Ja (Ad TT disp K d false) (Ad TT disp K d true) K (C2 (Ad TT disp K d false) (Ad TT disp K d true) K f) (.ptr ar 0) (.ptr t 0) (I (n':Nat)) (.int .i64 (i:Int)) h2) fun v h'=>∃ S' cur' old' n' D',v=.tuple [I (n':Nat),I (if n'<2 then 40 else 0)]/\Z2 S0 cur0 old0 3 S' cur' old' n'/\n'<=3/\Fg h' m { S' with dr:=D' } F/\Acf { S' with dr:=D' }/\h'.get ar=some (.cells (Rp m cur' old') 147)/\Aib S' cur' old'/\S'.g=S0.g/\A6 (fun j=>¬ F j\/j=ar) h h'/\HB h':=by
    intro n' hn'
    simp only[Ja,Ah]
    rw[Cu (by omega) (by omega),show ((i:Nat):Int)+1=((i+1:Nat):Int) by omega]
    refine(ih (i+1) n' h2 S2 cur2 old2 (by omega) (by omega) (by rw[hn'];split <;> omega) M2 hb2 hA2 mp2 gt2 wr.2.1 a2 (g2.trans gS) ⟨S,cur,Cc,n,ok,W,wr,hn'⟩).mono ?_
    rintro _ h3 ⟨S',cur',old',n',D',r1,r2,r3,r4,r5,r6,r7,r8,r9,r10⟩
    exact⟨S',cur',old',n',D',r1,r2,r3,r4,r5,r6,r7,r8,c2.trans r9,r10⟩
   cases ok with
   | true=>
    simp only[Ab,Ah]
    rw[Cu (by omega) (by omega),show ((n:Nat):Int)+1=((n+1:Nat):Int) by omega]
    exact nx (n+1) rfl
   | false=>
    simp only[Ab]
    exact nx n rfl
  ·have:i=3:=by omega
   subst this
   have:decide (((3:Nat):Int)<3)=false:=rfl
   simp only[this,Ab,Nd]
   rw[Az hA rfl (v:=.ptr m 0) rfl]
   obtain⟨D,V,dr⟩:=Aep A hK M hb
   rw[dr.C1]
   obtain⟨r1,r2⟩:=Atl c
   refine(dr.flush (d:=d) (by omega)).Aj ?_
   rintro _ h2 ⟨rfl,M2,k2,hb2⟩
   rw[r1]
   simp only[I,Ah,not_true_eq_false,decide_false,Ab,Se]
   have fin:Ok (some (EV.tuple [.int .i64 (n:Int),.int .i64 (if n<2 then 40 else 0)],h2)) fun v h'=>∃ S' cur' old' n' D',v=.tuple [I (n':Nat),I (if n'<2 then 40 else 0)]/\Z2 S0 cur0 old0 3 S' cur' old' n'/\n'<=3/\Fg h' m { S' with dr:=D' } F/\Acf { S' with dr:=D' }/\h'.get ar=some (.cells (Rp m cur' old') 147)/\Aib S' cur' old'/\S'.g=S0.g/\A6 (fun j=>¬ F j\/j=ar) h h'/\HB h':=
    .ret ⟨S,cur,Cc,n,_,rfl,W,hn,M2,r2,k2.at hb hA fA,a,gS,k2.mono fun j hj=>.inl hj,hb2⟩
   by_cases h2':n<2
   ·have e:decide ((n:Int)<2)=true:=by simp;omega
    simp only[e,Ab]
    rw[if_pos h2']at fin
    exact fin
   ·have e:decide ((n:Int)<2)=false:=by simp;omega
    simp only[e,Ab,Sf]
    rw[if_neg h2']at fin
    exact fin
end
end Go.Ev

namespace Go.Ev
open Go.Proofs
set_option maxRecDepth 100000
variable {K:Nat}{disp:Nat->Option FT}
section
variable (A:Ap disp)(hK:10000<K){ar m b ml ll:Nat}{F:Nat->Prop}(fA:F ar)(fb:F b/\F ml/\b ≠ ar/\ml ≠ ar)
include A hK fA fb
theorem Ayt {d:Nat}(hd:19<=d){x y z:Int}{h:Aa}{S:Mi}{cur Cc:Nat->Int}(M:Fg h m S F)(hb:HB h)(hA:h.get ar=some (.cells (Rp m cur Cc) 147))(mp:Lk h b ml ll S.g)(o:Af9 S x y z)(c:Acf S)(a:Aib S cur Cc):
 Ok (Ad TT disp K d false 18 [.ptr ar 0,.agg [I x,I y,I z,.ptr b 0]] h) fun v h'=>∃ S' cur' old' n' D',v=.tuple [I (n':Nat),I (if n'<2 then 40 else 0)]/\Z2 S cur Cc 3 S' cur' old' n'/\n'<=3/\Fg h' m { S' with dr:=D' } F/\Acf { S' with dr:=D' }/\h'.get ar=some (.cells (Rp m cur' old') 147)/\Aib S' cur' old'/\S'.g=S.g/\A6 (fun j=>¬ F j\/j=ar) h h'/\HB h':=by
 obtain⟨e,rfl⟩:∃ k,d=k+1:=⟨d-1,by omega⟩
 have s:=N1 o.rt
 rw[Aa3 A (by omega)]
 simp only[V7,Ab]
 have x1:Ext h (h.new (.cells [I x,I y,I z,.ptr b 0] 60)):=A6.new _ _
 have g1:(h.new (.cells [I x,I y,I z,.ptr b 0] 60)).get h.next=some (.cells [I x,I y,I z,.ptr b 0] 60):=Ae _ _
 have n1':(h.new (.cells [I x,I y,I z,.ptr b 0] 60)).next=h.next+1:=rfl
 generalize h.new (.cells [I x,I y,I z,.ptr b 0] 60)=h1 at x1 g1 n1' ⊢
 have hb1:=x1.hb hb
 have l1:=hb1 _ _ g1
 have la:=hb1 _ _ (x1.at hb hA)
 rw[As l1 (by kernel_rfl),F2 g1 rfl,Aw (n:=4) rfl]
 try simp only[Ab,Bh]
 have mp1:=mp.frame (x1.get _ (hb _ _ mp.map) id) (x1.get _ (hb _ _ mp.row) id)
 refine Ok.Ct (by kernel_rfl) (by kernel_rfl) ((Acv (K:=K) A (d:=e) (by omega) (by omega) s (mp1.frame (Cj _ _) (Cj _ _)) (E8 hb1) o.x0 o.x1 o.y0 o.y1 o.z0 o.z1)) (fun _ _ p=>p.2.1) ?_
 rintro _ h2' h2 ⟨rfl,_⟩ _ x2
 have hb2:=x2.hb hb1
 have g2:=x2.at hb1 g1
 simp only[Ab,Ah,Bh]
 rw[As l1 (by kernel_rfl),Az g2 rfl (v:=.ptr b 0) rfl]
 try simp only[Ab,Bh]
 have mp2:=mp1.frame (x2.get _ (hb1 _ _ mp1.map) id) (x2.get _ (hb1 _ _ mp1.row) id)
 refine Ok.Ct (by kernel_rfl) (by kernel_rfl) ((Sy (K:=K) (mp2.frame (Cj _ _) (Cj _ _)) (E8 hb2)).mono fun _ _ a=>(⟨a.1,a.2.1⟩:_/\_)) (fun _ _ p=>p.2) ?_
 rintro _ h3' h3 ⟨rfl,_⟩ _ x3
 have hb3:=x3.hb hb2
 have x13:Ext h h3:=(x1.trans x2).trans x3
 have hA3:=x13.at hb hA
 try simp only[Ab,Bh]
 rw[As la (by kernel_rfl),Az hA3 rfl (v:=.ptr m 0) rfl]
 try simp only[Ab,Bh]
 have M3:=(M.ext hb x13).less fun j (hj:F j)=>Or.inl hj
 refine Ok.Ct (by kernel_rfl) (by kernel_rfl) (Ahl (K:=K) (M3.same (Afh.lift _)) (E8 hb3)) (fun _ _ p=>p.2) ?_
 rintro _ h4' h4 ⟨rfl,_⟩ _ x4
 have hb4:=x4.hb hb3
 try simp only[Ab,Bh]
 rw[A3e]
 simp only[Mz,Ab,Sb]
 have x14:Ext h h4:=x13.trans x4
 have x24:Ext h1 h4:=(x2.trans x3).trans x4
 have M4:Fg h4 m S (fun j=>F j\/j=h.next):=(M.ext hb x14).less fun j hj=>by
  rcases hj with hj|hj
  ·exact .inl hj
  ·have:=x24.next
   exact .inr ⟨by omega,by omega⟩
 have lA:=hb _ _ hA
 have mp4:=mp.frame (x14.get _ (hb _ _ mp.map) id) (x14.get _ (hb _ _ mp.row) id)
 refine(As9 (K:=K) (F:=fun j=>F j\/j=h.next) A hK (.inl fA) ⟨.inl fb.1,.inl fb.2.1,fb.2.2⟩ (d:=e) (by omega) o (t:=h.next) (.inr rfl) (by omega) K 0 0 h4 S cur Cc (by omega) (by omega) (by omega) M4 hb4 (x14.at hb hA) mp4 (x24.at hb1 g1) c a rfl ⟨rfl,rfl,rfl,rfl⟩).mono ?_
 rintro _ h5 ⟨S',cur',old',n',D',r1,r2,r3,r4,r5,r6,r7,r8,r9,r10⟩
 exact⟨S',cur',old',n',D',r1,r2,r3,r4.less fun j hj=>.inl hj,r5,r6,r7,r8,(Ext.to x14).trans (r9.mono fun j hj=>hj.elim (fun w=>.inl fun q=>w (.inl q)) .inr),r10⟩
end
theorem Ay3 {i:Nat}(hi:i<3)(h:Aa):Aar K (I i) h=some (.bool true,h):=by
 simp only[Aar,Abf,I,Ah]
 have e1:decide (0<=(i:Int))=true:=by simp
 have e2:decide ((i:Int)<3)=true:=by simp;omega
 simp only[e1,e2,Ab,Ah]
theorem Aqt {h:Aa}{ar m:Nat}{cur Cc:Nat->Int}(hA:h.get ar=some (.cells (Rp m cur Cc) 147)){i:Nat}(hi:i<3)(k:EV->Aa->R):Aj (Hu K (.ptr ar 0) (I i) h) k=k (.tuple [I (cur i),I (Cc i)]) h:=by
 simp only[Hu,Ay3 hi,Ab,So]
 unfold I
 rw[Nn hi]
 try simp only[Ab]
 rw[Nat.add_zero,Az hA rfl (Azv hi),Nn hi]
 try simp only[Ab]
 rw[Az hA rfl (Ay0 hi),A2]
section
variable {ar m:Nat}{F:Nat->Prop}{h:Aa}{S:Mi}{cur Cc:Nat->Int}(M:Fg h m S F)(hb:HB h)(hA:h.get ar=some (.cells (Rp m cur Cc) 147))
include M hb hA
theorem Atu {i:Nat}{z:Int}(hz:z = -1\/La S.g z=i):Ok (Ke K (.ptr ar 0) (I i) (I z) h) fun v h'=>v=.bool true/\Ext h h':=by
 simp only[Ke,I,Ah]
 have sm:=M.wf.sm
 by_cases h1:z = -1
 ·simp only[h1,decide_true,Ab,Ah,Kb]
  exact .ret ⟨rfl,A6.refl _⟩
 ·simp only[h1,decide_false,Ab,Ah,Kb]
  rw[Az hA rfl (v:=.ptr m 0) rfl]
  refine(Ahl (K:=K) M hb).Aj ?_
  rintro _ h2 ⟨rfl,x2⟩
  have hd:=hz.resolve_left h1
  refine(To (K:=K) sm z (Aq1 sm (by omega)) h2).Aj ?_
  rintro _ h3 ⟨rfl,x3⟩
  simp only[I,Ah,hd,decide_true,Ab]
  exact .ret ⟨rfl,x2.trans x3⟩
theorem A23(fA:F ar){i:Nat}(hi:i<3){v w:Int}(hv:v = -1\/La S.g v=i)(hw:w = -1\/La S.g w=i)(hn:¬ v=w):Ok (Md K (.ptr ar 0) (I i) (I v) (I w) h) fun r h'=>r=I 0/\Fg h' m S F/\h'.get ar=some (.cells (Rp m (Gl cur i v) (Gl Cc i w)) 147)/\A6 (fun j=>j=ar) h h'/\HB h':=by
 simp only[Md,Ay3 hi,Ab,Ah]
 refine(Atu (K:=K) M hb hA hv).Aj ?_
 rintro _ h2 ⟨rfl,x2⟩
 have hb2:=x2.hb hb
 have M2:=(M.ext hb x2).less fun j (hj:F j)=>Or.inl hj
 simp only[Ab,Ah,O8]
 refine(Atu (K:=K) M2 hb2 (x2.at hb hA) hw).Aj ?_
 rintro _ h3 ⟨rfl,x3⟩
 have hb3:=x3.hb hb2
 have x:Ext h h3:=x2.trans x3
 have M3:=(M.ext hb x).less fun j (hj:F j)=>Or.inl hj
 have hA3:=x.at hb hA
 have l3:=hb3 _ _ hA3
 simp only[Ab,Ah,O2,I,hn,decide_false,Oz,Oq,Pf,U7]
 rw[Ca (l:=[I v,I w]) rfl]
 try simp only[Ab]
 rw[Nn hi]
 refine Ok.st (Rp m (Gl cur i v) (Gl Cc i w)) hA3 rfl rfl (Atd hi v w) ?_
 have c:A6 (fun j=>j=ar) h3 (h3.put ar (.cells (Rp m (Gl cur i v) (Gl Cc i w)) 147)):=(A6.refl (S:=fun j=>j=ar) h3).A3 (.inl rfl) l3 _
 exact .ret ⟨rfl,M3.Ao8 c fun j hj _=>hj ▸ fA,Ai _ _ _,(Ext.to x).trans c,hb3.put l3 _⟩
end
end Go.Ev

namespace Go.Ev
open Go.Proofs
set_option maxRecDepth 100000
variable {K:Nat}{disp:Nat->Option FT}
theorem Ap1(hK:1000<K){h:Aa}(hb:HB h)(m:Nat):Ok (Aeu K (.ptr m 0) h) fun v h'=>v=.ptr h.next 0/\h'.get h.next=some (.cells (Rp m (fun _=>-1) fun _=>-1) 147)/\Ext h h'/\HB h':=by
 obtain⟨K',rfl⟩:∃ k,K=k+4:=⟨K-4,by omega⟩
 simp only[Aeu]
 rw[Ca (l:=Rp m (fun _=>0) fun _=>0) rfl]
 simp only[Ab]
 have x1:Ext h (h.new (.cells (Rp m (fun _=>0) fun _=>0) 147)):=A6.new _ _
 have g1:(h.new (.cells (Rp m (fun _=>0) fun _=>0) 147)).get h.next=some (.cells (Rp m (fun _=>0) fun _=>0) 147):=Ae _ _
 have l1:h.next<(h.new (.cells (Rp m (fun _=>0) fun _=>0) 147)).next:=Nat.lt_succ_self _
 generalize h.new (.cells (Rp m (fun _=>0) fun _=>0) 147)=h1 at x1 g1 l1 ⊢
 have st:∀ (i:Nat) (h2:Aa) (c o:Nat->Int) (n:Nat),i<3->h2.get h.next=some (.cells (Rp m c o) 147)->Ext h h2->h.next<h2.next->(∀ h3,h3.get h.next=some (.cells (Rp m (Gl c i (-1)) (Gl o i (-1))) 147)->Ext h h3->h.next<h3.next->Ok (Hn (K'+4) n (.ptr h.next 0) (I (i+1:Nat)) h3) fun v h'=>v=.ptr h.next 0/\h'.get h.next=some (.cells (Rp m (fun _=>-1) fun _=>-1) 147)/\Ext h h'/\HB h')->Ok (Hn (K'+4) (n+1) (.ptr h.next 0) (I i) h2) fun v h'=>v=.ptr h.next 0/\h'.get h.next=some (.cells (Rp m (fun _=>-1) fun _=>-1) 147)/\Ext h h'/\HB h':=by
  intro i h2 c o n hi g2 x2 l2 hk
  rw[Hn]
  simp only[I,Ah]
  have:decide ((i:Int)<3)=true:=by simp;omega
  simp only[this,Ab,Ag8]
  rw[Ca (l:=[I (-1),I (-1)]) rfl]
  try simp only[Ab]
  rw[Nn hi]
  refine Ok.st _ g2 rfl rfl (Atd hi (-1) (-1)) ?_
  simp only[Ag5,Ah]
  rw[Cu (by omega) (by omega),show ((i:Nat):Int)+1=((i+1:Nat):Int) by omega]
  exact hk _ (Ai _ _ _) (x2.A3 (.inr (Nat.le_refl _)) l2 _) l2
 refine st 0 h1 _ _ _ (by omega) g1 x1 l1 fun h2 g2 x2 l2=>st 1 h2 _ _ _ (by omega) g2 x2 l2 fun h3 g3 x3 l3=>st 2 h3 _ _ _ (by omega) g3 x3 l3 fun h4 g4 x4 l4=>?_
 rw[Hn]
 simp only[I,Ah]
 simp only[show decide (((2+1:Nat):Int)<3)=false from rfl,Ab,Z8]
 exact .ret ⟨rfl,g4,x4,x4.hb hb⟩
theorem A5v:TT.size 45=some 26/\TT.agg 45=some true:=⟨by kernel_rfl,by kernel_rfl⟩
def Xz(s:EV)(size op:Int)(g:Gm):List EV:=Mh s size op g++List.replicate 6 (I (-1))
theorem Aoa {s:EV}{size op:Int}{g:Gm}{h:Aa}(hb:HB h):Ok (Kc K (.agg (Mh s size op g)) h) fun v h'=>v=.agg (Xz s size op g)/\Ext h h'/\HB h':=by
 simp only[Kc,Ab]
 generalize hz:([EV.Af]++List.replicate 3 (EV.int .i64 0)++[EV.bool false]++List.replicate 2 EV.Af++List.replicate 8 (EV.int .i64 0)++List.replicate 2 EV.Af++List.replicate 9 (EV.int .i64 0))=z26
 rw[show (h.new (.cells (Mh s size op g) 42)).next=h.next+1 from rfl]
 have x1:Ext h ((h.new (.cells (Mh s size op g) 42)).new (.cells z26 45)):=(A6.new _ _).Gw _
 have g1:((h.new (.cells (Mh s size op g) 42)).new (.cells z26 45)).get h.next=some (.cells (Mh s size op g) 42):=by rw[Bn _ (Nat.lt_succ_self _)];exact Ae _ _
 have g2:((h.new (.cells (Mh s size op g) 42)).new (.cells z26 45)).get (h.next+1)=some (.cells z26 45):=Ae _ _
 generalize (h.new (.cells (Mh s size op g) 42)).new (.cells z26 45)=h1 at x1 g1 g2 ⊢
 have hb1:=x1.hb hb
 have l2:=hb1 _ _ g2
 rw[F2 g1 rfl,Aw (n:=20) rfl]
 try simp only[Ab]
 rw[Ca (l:=[I (-1),I (-1),I (-1)]) rfl,Ca (l:=[I (-1),I (-1),I (-1)]) rfl]
 subst hz
 rw[Ca (l:=Xz s size op g) rfl]
 refine Ok.st (Xz s size op g) g2 rfl rfl (Fy rfl) ?_
 rw[K1 (Ai _ _ _) A5v.1 A5v.2 rfl]
 exact .ret ⟨rfl,x1.A3 (.inr (Nat.le_succ _)) l2 _,hb1.put l2 _⟩
theorem Ao3(hK:2000<K)(g:Gm){h:Aa}(hb:HB h):Ok (Fm K (gV g) h) fun v h'=>Ext h h'/\HB h' /\
 if rtB g=true/\g.D*g.Z<=64 then ∃ w m ar l,v=.tuple [.ptr w 0,.bool true]/\h'.get w=some (.cells l 47)/\l[6]? = some (.ptr m 0)/\l[7]? = some (.ptr ar 0)/\h'.get ar=some (.cells (Rp m (fun _=>-1) fun _=>-1) 147)/\Fg h' m (Mi.new g) (fun i=>i<h.next\/i=w\/i=ar)/\h.next<=w/\h.next<=ar/\w ≠ ar else v=.tuple [.Da,.bool false]:=by
 simp only[Fm,gV,Ab]
 have x1:Ext h (h.new (.cells (gL g) 23)):=A6.new _ _
 have g1:(h.new (.cells (gL g) 23)).get h.next=some (.cells (gL g) 23):=Ae _ _
 have n1:(h.new (.cells (gL g) 23)).next=h.next+1:=rfl
 generalize h.new (.cells (gL g) 23)=h1 at x1 g1 n1 ⊢
 have hb1:=x1.hb hb
 rw[F2 g1 rfl,Aw (n:=6) rfl]
 try simp only[Ab]
 refine Ok.st (gL g) (Ae _ _) rfl rfl (Fy rfl) ?_
 have x2:Ext h1 ((h1.new (.cells [EV.int .i64 0,.int .i64 0,.int .i64 0,.int .i64 0,.int .i64 0,.int .i64 0] 37)).put h1.next (.cells (gL g) 37)):=(A6.new h1 _:Ext _ _).A3 (.inr (Nat.le_refl _)) (Nat.lt_succ_self _) _
 have g5:((h1.new (.cells [EV.int .i64 0,.int .i64 0,.int .i64 0,.int .i64 0,.int .i64 0,.int .i64 0] 37)).put h1.next (.cells (gL g) 37)).get h1.next=some (.cells (gL g) 37):=Ai _ _ _
 generalize (h1.new (.cells [EV.int .i64 0,.int .i64 0,.int .i64 0,.int .i64 0,.int .i64 0,.int .i64 0] 37)).put h1.next (.cells (gL g) 37)=h2 at x2 g5 ⊢
 have hb2:=x2.hb hb1
 rw[F2 g5 rfl,Aw (n:=6) rfl]
 try simp only[Ab]
 rw[show EV.agg (gL g)=gV g from rfl]
 refine(Axn g (by omega) h2).Aj ?_
 rintro _ h3 ⟨rfl,x3⟩
 have hb3:=x3.hb hb2
 have x03:Ext h h3:=(x1.trans x2).trans x3
 have x13:Ext h1 h3:=x2.trans x3
 cases hr:rtB g with
 | false=>
  simp only[Ab,Ah,Ek]
  exact .ret ⟨x03,hb3,by rw[if_neg (fun y=>by cases y.1)]⟩
 | true=>
  have s:=N1 hr
  have:=s.d0;have:=s.d1;have:=s.z0;have:=s.z1;have:=s.s0;have:=s.s1;have:=s.o0;have:=s.o1
  obtain⟨m0,m1⟩:=Rv (a:=g.D) (b:=g.Z) (A:=8) (B:=64) (by omega) (by omega) (by omega) (by omega)
  have m2:3<=g.D*g.Z:=by
   have:3*1<=g.D*g.Z:=Int.mul_le_mul (by omega) (by omega) (by omega) (by omega)
   omega
  have g13:=x13.at hb1 g1
  simp only[Ab,Ah,Cn g13 rfl,gL,I]
  rw[Cu (by omega) (by omega)]
  by_cases h64:64<g.D*g.Z
  ·simp only[h64,decide_true,Ab,Ek]
   exact .ret ⟨x03,hb3,by rw[if_neg (fun y=>by omega)]⟩
  ·simp only[h64,decide_false,Ab,Ek,Mw,Cn g13 rfl,gL,I,Ah]
   rw[Cu (by omega) (by omega)]
   have hd:Zk (g.D*g.Z) g.S g.O=true:=by
    unfold Zk
    rw[Rr.2 ⟨by omega,by omega⟩,Rr.2 ⟨by omega,by omega⟩,Rr.2 ⟨by omega,by omega⟩];rfl
   refine(Aoj (K:=K) hd (by omega) hb3).Aj ?_
   rintro _ h4 ⟨D,V,M,zl',z,rfl,x4,hb4,dr,nd⟩
   have g14:=x4.at hb3 g13
   have g54:=x4.at hb3 (x3.at hb2 g5)
   simp only[Ab,I,Ah,not_true_eq_false,decide_false,My,Bh]
   have l14:=hb4 _ _ g14
   rw[As l14 (by kernel_rfl),F2 g14 rfl,Aw (n:=6) rfl]
   try simp only[Ab,Bh]
   rw[N3 (v:=Ss) (by kernel_rfl) (by kernel_rfl) rfl]
   have dr':Up h4.lift D V M zl' (g.D*g.Z).toNat z (fun _=>0) g.S g.O 0 false .Af .Af [] (fun _=>Zn.empty):=dr.ext fun i o g=>by rw[Cj];exact g
   refine Ok.Ct (by kernel_rfl) (by kernel_rfl) (Alf (K:=K) (g:=g) (by omega) (E8 hb4) dr') (fun _ _ p=>p.1) ?_
   rintro v h5' h5 ⟨_,hb5',hv⟩ sm x5
   have hb5:=x5.hb hb4
   rw[if_pos ⟨hr,by omega,rfl⟩]at hv
   obtain⟨m,p,bl,ql,q,c,rfl,MA,PA,nm⟩:=hv
   have k5:∀ i o,h5'.get i=some o->h5.get i=some o:=fun i o g=>by rw[sm.get];exact g
   have MA:=MA.ext k5
   have PA:=PA.ext k5
   have M5:=A18 s (h0:=h3) hb5 (dr.ext fun i o g=>x5.at hb4 g) nd MA PA (by
    have t2:=x4.next
    have t3:h4.lift.next=h4.next:=rfl
    exact⟨⟨by omega,by omega⟩,by omega,by omega,fun d hd=>by have:=nm.2.2.2 d hd;omega⟩) (by have:=x4.next;have:=x5.next;omega)
   have g15:=x5.at hb4 g14
   have g55:=x5.at hb4 g54
   have l15:=hb5 _ _ g15
   have l55:=hb5 _ _ g55
   simp only[Ab,I,Ah,not_true_eq_false,decide_false]
   simp only[Ab,Mt,Bh]
   rw[As l15 (by kernel_rfl),Az g15 rfl (v:=I g.D) rfl]
   try simp only[Ab,Bh]
   rw[As l15 (by kernel_rfl),Az g15 rfl (v:=I g.Z) rfl]
   simp only[Ab,Bh,I,Ah]
   rw[As l15 (by kernel_rfl),Az g15 rfl (v:=I g.S) rfl]
   try simp only[Ab,Bh]
   rw[As l15 (by kernel_rfl),Az g15 rfl (v:=I g.O) rfl]
   try simp only[Ab,Bh]
   rw[Cu (by omega) (by omega)]
   have hn:(EV.int .i64 (g.D*g.Z))=I (((g.D*g.Z).toNat:Nat):Int):=by unfold I;congr 1;omega
   rw[hn]
   refine Ok.Ct (by kernel_rfl) (by kernel_rfl) (Aok (K:=K) (n:=(g.D*g.Z).toNat) (size:=g.S) (op:=g.O) (by omega) hK (E8 hb5)) (fun _ _ p=>by obtain⟨_,_,x,_⟩:=p;exact x) ?_
   rintro _ h6' h6 ⟨sl,rfl,_,_⟩ _ x6
   have hb6:=x6.hb hb5
   rw[Ca (l:=[sl,I g.S,I g.O,I 0,.bool false,.Af,.Af]) rfl]
   have g56:=x6.at hb5 g55
   try simp only[Ab,Bh]
   rw[As l55 (by kernel_rfl),F2 g56 rfl,Aw (n:=6) rfl]
   try simp only[Ab,Bh]
   refine Ok.Ct (by kernel_rfl) (by kernel_rfl) (Ano (K:=K) (s:=sl) (size:=g.S) (op:=g.O) (g:=g) (E8 hb6)) (fun _ _ p=>p.2.1) ?_
   rintro _ h7' h7 ⟨rfl,_,_⟩ _ x7
   have hb7:=x7.hb hb6
   have x57:Ext h5 h7:=x6.trans x7
   try simp only[Ab,Bh]
   rw[U9 (by kernel_rfl)]
   refine Ok.stW (xs:=Mh sl g.S g.O g) (Ae _ _) rfl rfl ?_
   generalize hz:([EV.Af]++List.replicate 3 (EV.int .i64 0)++[EV.bool false]++List.replicate 2 EV.Af++List.replicate 8 (EV.int .i64 0)++List.replicate 2 EV.Af++List.replicate 3 (EV.int .i64 0))=z20
   have x8:Ext h7 ((h7.new (.cells z20 42)).put h7.next (.cells (Mh sl g.S g.O g) 42)):=(A6.new h7 _:Ext _ _).A3 (.inr (Nat.le_refl _)) (Nat.lt_succ_self _) _
   have g8:((h7.new (.cells z20 42)).put h7.next (.cells (Mh sl g.S g.O g) 42)).get h7.next=some (.cells (Mh sl g.S g.O g) 42):=Ai _ _ _
   have n8:((h7.new (.cells z20 42)).put h7.next (.cells (Mh sl g.S g.O g) 42)).next=h7.next+1:=rfl
   generalize (h7.new (.cells z20 42)).put h7.next (.cells (Mh sl g.S g.O g) 42)=h8 at x8 g8 n8 ⊢
   have hb8:=x8.hb hb7
   have x58:Ext h5 h8:=x57.trans x8
   have g18:=x58.at hb5 g15
   have l18:=hb8 _ _ g18
   rw[As l18 (by kernel_rfl),F2 g18 rfl,Aw (n:=6) rfl]
   try simp only[Ab,Bh]
   refine Ok.Ct (by kernel_rfl) (by kernel_rfl) (Ap1 (K:=K) (by omega) (E8 hb8) m) (fun _ _ p=>p.2.2.1) ?_
   rintro _ h9' h9 ⟨rfl,ga,_,_⟩ sm9 x9
   have hb9:=x9.hb hb8
   have ga:h9.get h8.next=some (.cells (Rp m (fun _=>-1) fun _=>-1) 147):=by rw[sm9.get];exact ga
   have g89:=x9.at hb8 g8
   try simp only[Ab,Bh]
   rw[As (show h7.next<h8.next by omega) (by kernel_rfl),F2 g89 rfl,Aw (n:=20) rfl]
   try simp only[Ab,Bh]
   refine Ok.Ct (by kernel_rfl) (by kernel_rfl) (Aoa (K:=K) (s:=sl) (size:=g.S) (op:=g.O) (g:=g) (E8 hb9)) (fun _ _ p=>p.2.1) ?_
   rintro _ ha' ha ⟨rfl,_,_⟩ _ xa
   have hba:=xa.hb hb9
   rw[show h8.lift.next=h8.next from rfl,Ca (l:=gL g++[.ptr m 0,.ptr h8.next 0]++Xz sl g.S g.O g) rfl]
   try simp only[Ab,Bh]
   have xb:Ext ha (ha.new (.cells (gL g++[.ptr m 0,.ptr h8.next 0]++Xz sl g.S g.O g) 47)):=A6.new _ _
   have gb:(ha.new (.cells (gL g++[.ptr m 0,.ptr h8.next 0]++Xz sl g.S g.O g) 47)).get ha.next=some (.cells (gL g++[.ptr m 0,.ptr h8.next 0]++Xz sl g.S g.O g) 47):=Ae _ _
   have nb:(ha.new (.cells (gL g++[.ptr m 0,.ptr h8.next 0]++Xz sl g.S g.O g) 47)).next=ha.next+1:=rfl
   generalize ha.new (.cells (gL g++[.ptr m 0,.ptr h8.next 0]++Xz sl g.S g.O g) 47)=hh at xb gb nb ⊢
   have x8b:Ext h8 hh:=(x9.trans xa).trans xb
   have x9b:Ext h9 hh:=xa.trans xb
   have x5b:Ext h5 hh:=x58.trans x8b
   have x3b:Ext h3 hh:=(x4.trans x5).trans x5b
   have t1:=x03.next
   have t5:=x58.next
   have t3:h3.next<=h5.next:=(x4.trans x5:Ext h3 h5).next
   have t8:h8.next<=ha.next:=(x9.trans xa:Ext h8 ha).next
   have la:=hb9 _ _ ga
   have t9:=xa.next
   refine .ret ⟨x03.trans x3b,x5b.hb hb5,?_⟩
   rw[if_pos ⟨trivial,by omega⟩]
   refine⟨ha.next,m,h8.next,_,rfl,gb,rfl,rfl,x9b.at hb9 ga,(M5.ext hb5 x5b).less fun i hi=>?_,by omega,by omega,by omega⟩
   rcases hi with hi|hi|hi
   ·exact .inl (show i<h3.next by omega)
   ·exact .inr ⟨by omega,by omega⟩
   ·exact .inr ⟨by omega,by omega⟩
end Go.Ev

namespace Go.Ev
open Go.Proofs
set_option maxRecDepth 100000
theorem Azf {g:Gm}(hr:rtB g=true):3<=g.Z:=by
 have s:=N1 hr
 have:=s.d0;have:=s.d1;have:=s.z0;have:=s.z1;have:=s.p0;have:=s.p1;have:=s.s0;have:=s.s1;have:=s.b0
 have h2:2*g.B<=g.S*g.segments:=by
  unfold rtB at hr
  simp only[Bool.and_eq_true,decide_eq_true_eq]at hr
  exact hr.2.2
 have h3:1<=g.segments:=by
  rcases Int.lt_or_le g.segments 1 with y|y
  ·have:=(Ad6 (a:=g.S) (b:=g.segments) (A:=64) (B:=0) (by omega) (by omega))
   have e:g.S*g.segments<=g.S*0:=Int.mul_le_mul_of_nonneg_left (by omega) (by omega)
   rw[Int.mul_zero]at e
   omega
  ·exact y
 obtain⟨q0,q1⟩:=Rv (a:=g.D) (b:=g.P) (A:=8) (B:=4) (by omega) (by omega) (by omega) (by omega)
 rcases Int.lt_or_le g.Z 3 with y|y
 ·have e:(g.D-1)*(g.Z-g.P-2)<=(g.D-1)*0:=Int.mul_le_mul_of_nonneg_left (by omega) (by omega)
  rw[Int.mul_zero]at e
  unfold Gm.segments Gm.least Gm.Abr at h3
  omega
 ·exact y
theorem Acy {g:Gm}(hr:rtB g=true){i:Nat}(hi:i<3){x:Int}(h0:0<=x)(h1:x<=1):La g ((i:Int)*g.Z+x)=i:=by
 have s:=N1 hr
 have hz:=Azf hr
 have:=s.d0
 have m1:((i:Int)+1)*g.Z<=g.D*g.Z:=Int.mul_le_mul_of_nonneg_right (by omega) (by omega)
 have m0:0<=(i:Int)*g.Z:=Int.mul_nonneg (by omega) (by omega)
 rw[Int.add_mul,Int.one_mul]at m1
 unfold La
 rw[if_neg (by omega),Int.add_comm,Int.add_mul_ediv_right _ _ (by omega),Int.ediv_eq_zero_of_lt h0 (by omega),Int.zero_add]
def AT(S:Mi)(cur Cc:Nat->Int)(i:Nat):Prop:=
 (cur i = -1/\Cc i=i*S.g.Z/\S.ps i = [i*S.g.Z+1])\/(cur i=i*S.g.Z/\Cc i = -1/\S.ps i = [i*S.g.Z+1]) \/
 (((cur i=i*S.g.Z/\Cc i=i*S.g.Z+1)\/(cur i=i*S.g.Z+1/\Cc i=i*S.g.Z))/\S.ps i = [])
def Aex(S:Mi):Prop:=∀ i,¬ S.bad i=1
theorem Aex.is {S:Mi}(n:Aex S)(z:Int):S.Am0 z=false:=by
 unfold Mi.Am0;rw[decide_eq_false (n _),Bool.and_false]
theorem A1s {S S':Mi}{cur Cc cur' old':Nat->Int}{i:Nat}{ok:Bool}(hr:rtB S.g=true)(nb:Aex S)(a:AT S cur Cc i)(w:Aqz S cur Cc i S' cur' old' ok):
 ok=true/\AT S' cur' old' i/\old' i=cur i/\(cur' i=i*S.g.Z\/cur' i=i*S.g.Z+1)/\¬ cur' i=old' i/\(∀ j,j ≠ i->cur' j=cur j/\old' j=Cc j/\S'.ps j=S.ps j)/\S'.g=S.g/\S'.bad=S.bad:=by
 have hz:=Azf hr
 have m0:0<=(i:Int)*S.g.Z:=Int.mul_nonneg (by omega) (by omega)
 obtain⟨⟨D',rfl⟩,_,ho,e⟩:=w
 have t1:∀ o,¬ o = -1->tgt S o i=(o,S):=fun o h=>by unfold tgt;rw[if_pos ⟨h,nb.is o⟩]
 have t2:∀ z r,S.ps i=z::r->tgt S (-1) i=(z,{ S with ps:=upd S.ps i r }):=fun z r h=>by
  unfold tgt;rw[if_neg (fun y=>y.1 rfl),h]
 have u1:∀ (f:Nat->Int) (v:Int),Gl f i v i=v:=fun f v=>by unfold Gl;rw[if_pos rfl]
 have u2:∀ (f:Nat->Int) (v:Int) (j:Nat),j ≠ i->Gl f i v j=f j:=fun f v j h=>by unfold Gl;rw[if_neg h]
 have p2:∀ (f:Nat->List Int) (v:List Int) (j:Nat),j ≠ i->upd f i v j=f j:=fun f v j h=>by unfold upd;rw[if_neg h]
 have p1:∀ (f:Nat->List Int) (v:List Int),upd f i v i=v:=fun f v=>by unfold upd;rw[if_pos rfl]
 rcases a with ⟨c,o,p⟩|⟨c,o,p⟩|⟨⟨c,o⟩|⟨c,o⟩,p⟩
 ·rw[t1 _ (by omega)]at ho e ⊢
  simp only at ho e ⊢
  rw[if_neg (by omega)]at e
  cases e
  rw[decide_eq_true (by omega)]at ho
  refine⟨ho,.inr (.inl ⟨by rw[u1];exact o,by rw[u1];exact c,p⟩),u1 _ _,.inl (by rw[u1];exact o),by rw[u1,u1];omega,fun j hj=>⟨u2 _ _ _ hj,by rw[u2 _ _ _ hj,u2 _ _ _ hj],(by first|trivial|rfl)⟩,(by first|trivial|rfl),(by first|trivial|rfl)⟩
 ·rw[o,t2 _ _ p]at ho e ⊢
  simp only at ho e ⊢
  rw[if_neg (by omega)]at e
  cases e
  rw[decide_eq_true (by omega)]at ho
  refine⟨ho,.inr (.inr ⟨.inr ⟨by rw[u1],by rw[u1];exact c⟩,p1 _ _⟩),u1 _ _,.inr (u1 _ _),by rw[u1,u1];omega,fun j hj=>⟨u2 _ _ _ hj,by rw[u2 _ _ _ hj,u2 _ _ _ hj],p2 _ _ _ hj⟩,(by first|trivial|rfl),(by first|trivial|rfl)⟩
 ·rw[t1 _ (by omega)]at ho e ⊢
  simp only at ho e ⊢
  rw[if_neg (by omega)]at e
  cases e
  rw[decide_eq_true (by omega)]at ho
  refine⟨ho,.inr (.inr ⟨.inr ⟨by rw[u1];exact o,by rw[u1];exact c⟩,p⟩),u1 _ _,.inr (by rw[u1];exact o),by rw[u1,u1];omega,fun j hj=>⟨u2 _ _ _ hj,by rw[u2 _ _ _ hj,u2 _ _ _ hj],(by first|trivial|rfl)⟩,(by first|trivial|rfl),(by first|trivial|rfl)⟩
 ·rw[t1 _ (by omega)]at ho e ⊢
  simp only at ho e ⊢
  rw[if_neg (by omega)]at e
  cases e
  rw[decide_eq_true (by omega)]at ho
  refine⟨ho,.inr (.inr ⟨.inl ⟨by rw[u1];exact o,by rw[u1];exact c⟩,p⟩),u1 _ _,.inl (by rw[u1];exact o),by rw[u1,u1];omega,fun j hj=>⟨u2 _ _ _ hj,by rw[u2 _ _ _ hj,u2 _ _ _ hj],(by first|trivial|rfl)⟩,(by first|trivial|rfl),(by first|trivial|rfl)⟩
theorem Apo {S S':Mi}{cur Cc cur' old':Nat->Int}{j:Nat}(a:AT S cur Cc j)(g:S'.g=S.g)(e:cur' j=cur j/\old' j=Cc j/\S'.ps j=S.ps j):AT S' cur' old' j:=by
 unfold AT at a ⊢
 rw[g,e.1,e.2.1,e.2.2];exact a
theorem A0x {S S':Mi}{cur Cc cur' old':Nat->Int}{n:Nat}(hr:rtB S.g=true)(nb:Aex S)(a:∀ i,i<3->AT S cur Cc i)(w:Z2 S cur Cc 3 S' cur' old' n):
 n=3/\(∀ i,i<3->AT S' cur' old' i/\old' i=cur i/\(cur' i=i*S.g.Z\/cur' i=i*S.g.Z+1)/\¬ cur' i=old' i)/\S'.g=S.g/\Aex S':=by
 have key:∀ k,k<=3->∀ {S' cur' old' n},Z2 S cur Cc k S' cur' old' n->n=k/\(∀ i,i<k->AT S' cur' old' i/\old' i=cur i/\(cur' i=i*S.g.Z\/cur' i=i*S.g.Z+1)/\¬ cur' i=old' i)/\(∀ i,k<=i->cur' i=cur i/\old' i=Cc i/\S'.ps i=S.ps i)/\S'.g=S.g/\S'.bad=S.bad:=by
  intro k
  induction k with
  | zero=>
   rintro _ S' cur' old' n ⟨rfl,rfl,rfl,rfl⟩
   exact⟨rfl,fun i hi=>by omega,fun i _=>⟨rfl,rfl,rfl⟩,rfl,rfl⟩
  | succ k ih=>
   rintro hk S' cur' old' n ⟨S1,c1,o1,n1,ok,W,w,rfl⟩
   obtain⟨en,i1,i2,i3,i4⟩:=ih (by omega) W
   have nb1:Aex S1:=by intro z;rw[i4];exact nb z
   obtain⟨rfl,s1,s2,s3,s4,s5,s6,s7⟩:=A1s (by rw[i3];exact hr) nb1 (Apo (a k (by omega)) i3 (i2 k (Nat.le_refl _))) w
   rw[i3]at s3
   obtain⟨j1,j2,j3⟩:=i2 k (Nat.le_refl _)
   refine⟨by rw[en];rfl,fun i hi=>?_,fun i hi=>?_,s6.trans i3,s7.trans i4⟩
   ·by_cases e:i=k
    ·subst e
     exact⟨s1,s2.trans j1,s3,s4⟩
    ·obtain⟨t1,t2,t3⟩:=s5 i e
     obtain⟨r1,r2,r3,r4⟩:=i1 i (by omega)
     exact⟨Apo r1 s6 ⟨t1,t2,t3⟩,t2.trans r2,by rw[t1];exact r3,by rw[t1,t2];exact r4⟩
   ·obtain⟨t1,t2,t3⟩:=s5 i (by omega)
    obtain⟨r1,r2,r3⟩:=i2 i (by omega)
    exact⟨t1.trans r1,t2.trans r2,t3.trans r3⟩
 obtain⟨h1,h2,_,h4,h5⟩:=key 3 (Nat.le_refl _) w
 exact⟨h1,h2,h4,fun z=>by rw[h5];exact nb z⟩
theorem Av1 {S:Mi}{i:Nat}(hr:rtB S.g=true)(hi:i<3)(hp:∀ d:Nat,S.ps d=if d<i then [(d:Int)*S.g.Z+1] else []):∀ d:Nat,(S.Ayj ((i:Int)*S.g.Z+1)).ps d=if d<i+1 then [(d:Int)*S.g.Z+1] else []:=by
 intro d
 have hd:=Acy hr hi (x:=1) (by omega) (by omega)
 have hz:=Azf hr
 show (Acp S.g S.g.D.toNat S.ps ((i:Int)*S.g.Z+1)).2 d=_
 unfold Acp
 rw[hd,if_neg (by omega)]
 have hh:¬ hasB S.ps S.g.D.toNat ((i:Int)*S.g.Z+1)=true:=by
  rw[Al7]
  rintro⟨e,_,he⟩
  rw[hp e]at he
  split at he
  ·rename_i hei
   rw[List.mem_singleton]at he
   have h2:=Acy hr (show e<3 by omega) (x:=1) (by omega) (by omega)
   rw[<-he,hd]at h2
   omega
  ·cases he
 rw[if_neg hh]
 have e0:S.ps (i:Int).toNat = []:=by
  rw[show (i:Int).toNat=i from rfl,hp i,if_neg (Nat.lt_irrefl _)]
 rw[e0,if_pos (by show 0<S.g.Z.toNat;omega)]
 show upd S.ps i ([]++[(i:Int)*S.g.Z+1]) d=_
 unfold upd
 by_cases e:d=i
 ·subst e;rw[if_pos rfl,if_pos (Nat.lt_succ_self _)];rfl
 ·rw[if_neg e,hp d]
  by_cases e2:d<i
  ·rw[if_pos e2,if_pos (by omega)]
  ·rw[if_neg e2,if_neg (by omega)]
end Go.Ev

namespace Go.Ev
open Go.Proofs
set_option maxRecDepth 100000
variable {K:Nat}{disp:Nat->Option FT}
theorem Ant(f:Nat->Int)(i:Nat)(v:Int):Gl f i v i=v:=by unfold Gl;rw[if_pos rfl]
theorem Ao5(f:Nat->Int){i j:Nat}(v:Int)(h:j ≠ i):Gl f i v j=f j:=by unfold Gl;rw[if_neg h]
structure Akk(h:Aa)(g:Gm)(w m ar a2:Nat)(l:List EV):Prop where
 st:h.get w=some (.cells l 47)
 geo:h.get a2=some (.cells (gL g) 23)
theorem Akk.frame {h h':Aa}{g:Gm}{w m ar a2:Nat}{l:List EV}(a:Akk h g w m ar a2 l)(e1:h'.get w=h.get w)(e2:h'.get a2=h.get a2):Akk h' g w m ar a2 l:=⟨by rw[e1];exact a.st,by rw[e2];exact a.geo⟩
section
variable (A:Ap disp)(hK:10000<K){d:Nat}(hd:22<=d){g:Gm}(hr:rtB g=true)(hdz:g.D*g.Z<=64){w m ar a2:Nat}{l:List EV}(l6:l[6]? = some (.ptr m 0))(l7:l[7]? = some (.ptr ar 0)){F:Nat->Prop}(fw:F w)(fA:F ar)(f2:F a2)(nw:w ≠ ar)(n2:a2 ≠ ar){v1:EV}
include A hK hd hr hdz l6 l7 fw fA f2 nw n2
theorem Aqq {Q:EV->Aa->Prop}
 (hq:∀ h S cur Cc,Fg h m S F->HB h->Akk h g w m ar a2 l->h.get ar=some (.cells (Rp m cur Cc) 147)->Acf S->S.g=g->Aex S->(∀ i,i<3->AT S cur Cc i)->Ok (Ex (Ad TT disp K d false) (Ad TT disp K d true) K v1 (.ptr a2 0) (.ptr w 0) h) Q) :
 ∀ (f i:Nat) (h:Aa) (S:Mi) (cur Cc:Nat->Int),3-i<f->i<=3->Fg h m S F->HB h->Akk h g w m ar a2 l->h.get ar=some (.cells (Rp m cur Cc) 147)->Acf S->S.g=g->Aex S->(∀ j,cur j = -1)->(∀ j:Nat,j<i->Cc j=(j:Int)*g.Z)->(∀ d:Nat,S.ps d=if d<i then [(d:Int)*S.g.Z+1] else []) ->
  Ok (Bz (Ad TT disp K d false) (Ad TT disp K d true) K f v1 (.ptr a2 0) (.ptr w 0) (I i) h) Q:=by
 have s:=N1 hr
 have hz:=Azf hr
 have:=s.z1;have:=s.d0
 intro f
 induction f with
 | zero=>intro i h S cur Cc hf;omega
 | succ f ih=>
  intro i h S cur Cc hf hi M hb hH hA c gS nb hc ho hp
  rw[Bz]
  simp only[I,Ah]
  by_cases hlt:i<3
  ·have e3:decide ((i:Int)<3)=true:=by simp;omega
   have m0:0<=(i:Int)*g.Z:=Int.mul_nonneg (by omega) (by omega)
   have m1:(i:Int)*g.Z<=2*64:=Int.mul_le_mul (by omega) (by omega) (by omega) (by omega)
   simp only[e3,Ab,Ku,Bh]
   have lw:=hb _ _ hH.st
   have l2:=hb _ _ hH.geo
   rw[As lw (by kernel_rfl),Az hH.st rfl l7]
   try simp only[Ab,Bh]
   rw[As l2 (by kernel_rfl),Az hH.geo rfl (v:=I g.Z) rfl]
   simp only[Ab,Bh,I,Ah]
   rw[Cu (by omega) (by omega)]
   have sl:=A23 (K:=K) (F:=F) (i:=i) (v:=-1) (w:=(i:Int)*g.Z) (M.same (Afh.lift h)) (E8 hb) (by rw[Cj];exact hA) fA hlt (.inl rfl) (.inr (by
    rw[gS]
    have:=Acy hr hlt (x:=0) (by omega) (by omega)
    rw[Int.add_zero]at this;exact this)) (by omega)
   simp only[I]at sl
   refine Ok.Ak5 (S:=fun j=>j=ar) (by kernel_rfl) (by kernel_rfl) (fun _=>by kernel_rfl) sl (fun _ _ p=>p.2.2.2.1) ?_
   rintro _ h2' h2 s' ⟨_,M2',hA2',_,hb2'⟩ sm c2 _
   have hb2:=sm.hb hb2'
   have M2:=M2'.same sm
   have hA2:h2.get ar=some (.cells (Rp m (Gl cur i (-1)) (Gl Cc i ((i:Int)*g.Z))) 147):=by rw[sm.get];exact hA2'
   have hH2:Akk h2 g w m ar a2 l:=hH.frame (c2.get _ lw nw) (c2.get _ l2 n2)
   have lw2:=hb2 _ _ hH2.st
   have l22:=hb2 _ _ hH2.geo
   try simp only[Ab,Bh]
   rw[As lw2 (by kernel_rfl),Az hH2.st rfl l6]
   try simp only[Ab,Bh]
   obtain⟨p',ep',give'⟩:=Ayk (K:=K) (M2.same (Afh.lift h2)) (E8 hb2) A hK
   rw[N3 (by kernel_rfl) (by kernel_rfl) ep']
   try simp only[Ab,Bh]
   rw[As l22 (by kernel_rfl),Az hH2.geo rfl (v:=I g.Z) rfl]
   simp only[Ab,Bh,I,Ah]
   rw[show Dc .i64 ((i:Int)*g.Z)=(i:Int)*g.Z from Cu (by omega) (by omega),Cu (by omega) (by omega)]
   have gv:=give' (d:=d) (by omega) (z:=(i:Int)*g.Z+1) ⟨by omega,by omega⟩ (fun _=>nb _)
   simp only[I]at gv
   refine Ok.Ak5 (S:=fun j=>¬ F j) (by kernel_rfl) (by kernel_rfl) (fun _=>by kernel_rfl) gv (fun _ _ p=>p.2.2.1) ?_
   rintro _ h3' h3 s'' ⟨_,M3',_,hb3'⟩ sm3 k3 _
   have hb3:=sm3.hb hb3'
   have M3:=M3'.same sm3
   have k3:Kf F h2 h3:=k3
   have hH3:Akk h3 g w m ar a2 l:=hH2.frame (k3.get _ lw2 fun y=>y fw) (k3.get _ l22 fun y=>y f2)
   simp only[Kg,Ah]
   rw[Cu (by omega) (by omega),show ((i:Nat):Int)+1=((i+1:Nat):Int) by omega]
   have gp:=Av1 (S:=S) (i:=i) (by rw[gS];exact hr) hlt hp
   rw[gS]at gp
   refine ih (i+1) h3 _ _ _ (by omega) (by omega) M3 hb3 hH3 (k3.at hb2 hA2 fA) c gS nb (fun j=>?_) (fun j hj=>?_) (fun e=>by rw[gp e];show _=if e<i+1 then [(e:Int)*S.g.Z+1] else [];rw[gS])
   ·by_cases e:j=i
    ·subst e;rw[Ant]
    ·rw[Ao5 _ _ e];exact hc j
   ·by_cases e:j=i
    ·subst e;rw[Ant]
    ·rw[Ao5 _ _ e];exact ho j (by omega)
  ·have:i=3:=by omega
   subst this
   simp only[show decide (((3:Nat):Int)<3)=false from rfl,Ab]
   refine hq h S cur Cc M hb hH hA c gS nb fun j hj=>.inl ⟨hc j,by rw[gS];exact ho j hj,?_⟩
   rw[hp j,if_pos hj]
end
end Go.Ev

namespace Go.Ev
open Go.Proofs
set_option maxRecDepth 100000
variable {K:Nat}{disp:Nat->Option FT}
def c3(f:Nat->Int):List EV:=[I (f 0),I (f 1),I (f 2)]
theorem A4k {f:Nat->Int}{i:Nat}(hi:i<3):(c3 f)[0+i*1]? = some (I (f i)):=by
 rcases i with _|_|_|i <;> first|rfl|omega
theorem A3q {f:Nat->Int}{i:Nat}(hi:i<3)(v:Int):(c3 f).set (0+i*1) (I v)=c3 (Gl f i v):=by
 rcases i with _|_|_|i <;> first|rfl|omega
section
variable (A:Ap disp)(hK:10000<K){d:Nat}(hd:22<=d){g:Gm}(hr:rtB g=true){w m ar a2 b ml ll:Nat}{l:List EV}(l6:l[6]? = some (.ptr m 0))(l7:l[7]? = some (.ptr ar 0)){F:Nat->Prop}(fw:F w)(fA:F ar)(f2:F a2)(nw:w ≠ ar)(n2:a2 ≠ ar)(fb:F b/\F ml/\b ≠ ar/\ml ≠ ar)
theorem Asl(l7:l[7]? = some (.ptr ar 0)){c r:Ac}{cur Cc:Nat->Int}{v10 v67 v68:EV}{ih1:EV->EV->EV->EV->EV->Aa->R}{Q:EV->Aa->Prop}{a11:Nat}(h0:Aa)(n0:h0.next<=a11)(ne:a11 ≠ ar)(nw':a11 ≠ w)(hb0:HB h0)(hA0:h0.get ar=some (.cells (Rp m cur Cc) 147))(hW0:h0.get w=some (.cells l 47))
 (hq:∀ h,Ext h0 h->h.get a11=some (.cells (c3 cur) 43)->a11<h.next->Ok (Eu c r K ih1 (.ptr a2 0) (.ptr w 0) (.ptr b 0) v10 (.ptr a11 0) v67 v68 h) Q) :
 ∀ (f i:Nat) (h:Aa) (sv:Nat->Int),3-i<f->i<=3->Ext h0 h->h.get a11=some (.cells (c3 sv) 43)->(∀ j,j<i->sv j=cur j) ->
  Ok (By c r K ih1 f (.ptr a2 0) (.ptr w 0) (.ptr b 0) v10 (.ptr a11 0) v67 v68 (I i) h) Q:=by
 intro f
 induction f with
 | zero=>intro i h sv hf;omega
 | succ f ih=>
  intro i h sv hf hi x gs hs
  have hb:=x.hb hb0
  have hA:=x.at hb0 hA0
  have hW:=x.at hb0 hW0
  have la:=hb _ _ gs
  rw[By]
  simp only[I,Ah]
  by_cases hlt:i<3
  ·have e3:decide ((i:Int)<3)=true:=by simp;omega
   simp only[e3,Ab,Ks]
   rw[Az hW rfl l7]
   have ze:=Aqt (K:=K) hA hlt
   simp only[I]at ze
   rw[ze]
   simp only[Ab]
   rw[Nn hlt]
   refine Ok.st1 gs rfl rfl (by show _<3;omega) ?_
   rw[show (c3 sv).set (0+i*1) (.int .i64 (cur i))=c3 (Gl sv i (cur i)) from A3q hlt _]
   simp only[Kh,Ah]
   rw[Cu (by omega) (by omega),show ((i:Nat):Int)+1=((i+1:Nat):Int) by omega]
   refine ih (i+1) _ _ (by omega) (by omega) (x.A3 (.inr n0) la _) (Ai _ _ _) fun j hj=>?_
   by_cases e:j=i
   ·subst e;rw[Ant]
   ·rw[Ao5 _ _ e];exact hs j (by omega)
  ·have:i=3:=by omega
   subst this
   simp only[show decide (((3:Nat):Int)<3)=false from rfl,Ab]
   refine hq h x ?_ la
   rw[gs]
   unfold c3
   rw[hs 0 (by omega),hs 1 (by omega),hs 2 (by omega)]
theorem Ari(hr:rtB g=true)(l7:l[7]? = some (.ptr ar 0)){c r:Ac}{sv cur Cc:Nat->Int}{v8 v67 v68:EV}{ih1:EV->EV->EV->EV->EV->Aa->R}{Q:EV->Aa->Prop}{a11:Nat}{h:Aa}(hH:Akk h g w m ar a2 l)(hA:h.get ar=some (.cells (Rp m cur Cc) 147))(gs:h.get a11=some (.cells (c3 sv) 43))
 (hz:∀ i:Nat,i<3->Cc i=sv i/\(cur i=i*g.Z\/cur i=i*g.Z+1)/\¬ cur i=Cc i)
 (hq:Ok (Cv c r K ih1 (.ptr a2 0) (.ptr w 0) v8 v67 v68 h) Q) :
 ∀ (f i:Nat),3-i<f->i<=3->Ok (Bq c r K ih1 f (.ptr a2 0) (.ptr w 0) v8 (.ptr a11 0) v67 v68 (I i) h) Q:=by
 have s:=N1 hr
 have:=s.z0;have:=s.z1
 intro f
 induction f with
 | zero=>intro i hf;omega
 | succ f ih=>
  intro i hf hi
  rw[Bq]
  simp only[I,Ah]
  by_cases hlt:i<3
  ·have e3:decide ((i:Int)<3)=true:=by simp;omega
   have m0:0<=(i:Int)*g.Z:=Int.mul_nonneg (by omega) (by omega)
   have m1:(i:Int)*g.Z<=2*64:=Int.mul_le_mul (by omega) (by omega) (by omega) (by omega)
   obtain⟨z1,z2,z3⟩:=hz i hlt
   simp only[e3,Ab,Ls]
   rw[Az hH.st rfl l7]
   have ze:=Aqt (K:=K) hA hlt
   simp only[I]at ze
   rw[ze]
   simp only[Ab]
   rw[Nn hlt,Az gs rfl (A4k hlt)]
   simp only[I,Ah,z1,not_true_eq_false,decide_false,Ab]
   rw[decide_eq_false (show ¬ cur i=sv i by rw[<-z1];exact z3)]
   simp only[Hd,Ab,Ah]
   rw[Az hH.geo rfl (v:=I g.Z) rfl]
   simp only[I,Ah]
   rw[Cu (by omega) (by omega)]
   have last:Ok (Hi c r K ih1 (Bq c r K ih1 f) (.ptr a2 0) (.ptr w 0) v8 (.ptr a11 0) v67 v68 (.int .i64 (i:Int)) h) Q:=by
    simp only[Hi,Ah]
    rw[Cu (by omega) (by omega),show ((i:Nat):Int)+1=((i+1:Nat):Int) by omega]
    exact ih (i+1) (by omega) (by omega)
   by_cases e:cur i=i*g.Z
   ·simp only[e,not_true_eq_false,decide_false,Fa,Ah,Ab,E7,Fb]
    exact last
   ·simp only[e,not_false_eq_true,decide_true,Fa,Ah,Ab]
    rw[Az hH.geo rfl (v:=I g.Z) rfl]
    simp only[I,Ah]
    rw[show Dc .i64 ((i:Int)*g.Z)=(i:Int)*g.Z from Cu (by omega) (by omega),Cu (by omega) (by omega),z2.resolve_left e]
    simp only[not_true_eq_false,decide_false,E7,Ah,Ab,Fb]
    exact last
  ·have:i=3:=by omega
   subst this
   simp only[show decide (((3:Nat):Int)<3)=false from rfl,Ab]
   exact hq
include A hK hd hr l6 l7 fw fA f2 nw n2 fb
theorem Asy {n:Nat}(hn:n<=12):∀ (f t:Nat) (h:Aa) (S:Mi) (cur Cc:Nat->Int),n-t<f->t<=n->Fg h m S F->HB h->Akk h g w m ar a2 l->h.get ar=some (.cells (Rp m cur Cc) 147)->Lk h b ml ll g->Acf S->S.g=g->Aex S->(∀ i,i<3->AT S cur Cc i) ->
 Ok (Bj (Ad TT disp K d false) (Ad TT disp K d true) K f (.ptr a2 0) (.ptr w 0) (.ptr b 0) (I n) (I t) h) fun v _=>v=.bool true:=by
 have s:=N1 hr
 have hz:=Azf hr
 intro f
 induction f with
 | zero=>intro t h S cur Cc hf;omega
 | succ f ih=>
  intro t h S cur Cc hf ht M hb hH hA mp c gS nb at0
  rw[Bj]
  simp only[I,Ah]
  by_cases hlt:t<n
  ·have e3:decide ((t:Int)<(n:Int))=true:=by simp;omega
   simp only[e3,Ab,Kr]
   have x1:Ext h (h.new (.cells [EV.int .i64 0,.int .i64 0,.int .i64 0] 43)):=A6.new _ _
   have g1:(h.new (.cells [EV.int .i64 0,.int .i64 0,.int .i64 0] 43)).get h.next=some (.cells (c3 fun _=>0) 43):=Ae _ _
   generalize h.new (.cells [EV.int .i64 0,.int .i64 0,.int .i64 0] 43)=h1 at x1 g1 ⊢
   have lar:=hb _ _ hA
   have lw:=hb _ _ hH.st
   have l2:=hb _ _ hH.geo
   refine Asl (K:=K) (m:=m) (ar:=ar) (w:=w) (a2:=a2) (b:=b) (l:=l) l7 h (Nat.le_refl _) (by omega) (by omega) hb hA hH.st ?_ K 0 h1 _ (by omega) (by omega) x1 g1 (fun j hj=>by omega)
   intro h2 x2 g2 l22
   have hb2:=x2.hb hb
   have M2:Fg h2 m S (fun j=>F j\/j=h.next):=(M.ext hb x2).less fun j hj=>by
    rcases hj with hj|hj
    ·exact .inl hj
    ·exact .inr ⟨by omega,by omega⟩
   have hA2:=x2.at hb hA
   have hH2:Akk h2 g w m ar a2 l:=hH.frame (x2.get _ lw id) (x2.get _ l2 id)
   simp only[Eu,Ab]
   rw[Az hH2.st rfl l7]
   simp only[Ah]
   rw[Cu (by omega) (by omega),Ca (l:=[I ((t:Int)+1),I 1,I 1,.ptr b 0]) rfl]
   have lb:=hb _ _ mp.map
   have lm:=hb _ _ mp.row
   have mp2:Lk h2 b ml ll S.g:=by rw[gS];exact mp.frame (x2.get _ lb id) (x2.get _ lm id)
   have hrS:rtB S.g=true:=by rw[gS];exact hr
   have aI:Aib S cur Cc:=⟨fun i hi=>by
    have d0:=Acy hrS hi (x:=0) (by omega) (by omega)
    rw[Int.add_zero]at d0
    have d1:=Acy hrS hi (x:=1) (by omega) (by omega)
    rcases at0 i hi with ⟨e,_⟩|⟨e,_⟩|⟨⟨e,_⟩|⟨e,_⟩,_⟩ <;> rw[e]
    ·exact .inl rfl
    ·exact .inr d0
    ·exact .inr d0
    ·exact .inr d1,fun i hi=>by
    have d0:=Acy hrS hi (x:=0) (by omega) (by omega)
    rw[Int.add_zero]at d0
    have d1:=Acy hrS hi (x:=1) (by omega) (by omega)
    rcases at0 i hi with ⟨_,e,_⟩|⟨_,e,_⟩|⟨⟨_,e⟩|⟨_,e⟩,_⟩ <;> rw[e]
    ·exact .inr d0
    ·exact .inl rfl
    ·exact .inr d1
    ·exact .inr d0⟩
   refine(Ayt (K:=K) (F:=fun j=>F j\/j=h.next) A hK (.inl fA) ⟨.inl fb.1,.inl fb.2.1,fb.2.2⟩ (d:=d) (by omega) (x:=(t:Int)+1) (y:=1) (z:=1) M2 hb2 hA2 mp2 ⟨hrS,by omega,by omega,by omega,by omega,by omega,by omega⟩ c aI).Aj ?_
   rintro _ h3 ⟨S',cur',old',n',D',rfl,W,_,M3,c3',hA3,_,_,k3,hb3⟩
   obtain⟨rfl,tz,tg,tb⟩:=A0x hrS nb at0 W
   have ff:∀ j,F j->j ≠ ar->¬ (¬ (F j\/j=h.next)\/j=ar):=fun j fj nj y=>y.elim (fun y=>y (.inl fj)) nj
   have hH3:Akk h3 g w m ar a2 l:=hH2.frame (k3.get _ (Nat.lt_of_lt_of_le lw x2.next) (ff _ fw nw)) (k3.get _ (Nat.lt_of_lt_of_le l2 x2.next) (ff _ f2 n2))
   have g3:h3.get h.next=some (.cells (c3 cur) 43):=k3.at hb2 g2 fun y=>y.elim (fun y=>y (.inr rfl)) (by omega)
   have mp3:Lk h3 b ml ll g:=by
    rw[gS]at mp2
    exact mp2.frame (k3.get _ (Nat.lt_of_lt_of_le lb x2.next) (ff _ fb.1 fb.2.2.1)) (k3.get _ (Nat.lt_of_lt_of_le lm x2.next) (ff _ fb.2.1 fb.2.2.2))
   simp only[Ab,I,Ah,show decide (¬ ((3:Nat):Int)=3)=false from rfl,show (if (3:Nat)<2 then (40:Int) else 0)=0 from rfl,not_true_eq_false,decide_false,G7,Kq]
   refine Ari (K:=K) hr l7 hH3 hA3 g3 (fun i hi=>by
    obtain⟨q1,q2,q3,q4⟩:=tz i hi
    rw[gS]at q3
    exact⟨q2,q3,q4⟩) ?_ K 0 (by omega) (by omega)
   simp only[Cv,Ah]
   rw[Cu (by omega) (by omega),show ((t:Nat):Int)+1=((t+1:Nat):Int) by omega]
   exact ih (t+1) h3 { S' with dr:=D' } cur' old' (by omega) (by omega) (M3.less fun j hj=>.inl hj) hb3 hH3 hA3 mp3 c3' (tg.trans gS) tb fun i hi=>(tz i hi).1
  ·have:t=n:=by omega
   subst this
   simp only[show decide ((t:Int)<(t:Int))=false by simp,Ab,Ds]
   exact .ret rfl
end
end Go.Ev

namespace Go.Ev
open Go.Proofs
set_option maxRecDepth 100000
variable {K:Nat}{disp:Nat->Option FT}
theorem Ao9 {g:Gm}(hr:rtB g=true):Acf (Mi.new g):=by
 have s:=N1 hr
 have:=s.o0
 exact⟨rfl,rfl,rfl,rfl,this,fun i _ _=>.inl ⟨rfl,rfl⟩,fun y=>by omega⟩
theorem Awv(A:Ap disp)(hK:10000<K){d:Nat}(hd:22<=d)(h11:∀ h,Ad TT disp K d false 11 [] h=some (.bool true,h))(g:Gm)(n:Int){h:Aa}(hb:HB h):
 Ok (Iy (Ad TT disp K d false) (Ad TT disp K d true) K (gV g) (I n) h) fun v h'=>v=.bool true:=by
 simp only[Iy,gV,Ab,h11,Kn]
 have x1:Ext h (h.new (.cells (gL g) 23)):=A6.new _ _
 have g1:(h.new (.cells (gL g) 23)).get h.next=some (.cells (gL g) 23):=Ae _ _
 have n1:(h.new (.cells (gL g) 23)).next=h.next+1:=rfl
 generalize h.new (.cells (gL g) 23)=h1 at x1 g1 n1 ⊢
 have hb1:=x1.hb hb
 rw[F2 g1 rfl,Aw (n:=6) rfl]
 try simp only[Ab]
 rw[show EV.agg (gL g)=gV g from rfl]
 refine(Ao3 (K:=K) (by omega) g hb1).Aj ?_
 rintro v h2 ⟨x2,hb2,hv⟩
 have g2:=x2.at hb1 g1
 by_cases hy:rtB g=true/\g.D*g.Z<=64
 ·rw[if_pos hy]at hv
  obtain⟨w,m,ar,l,rfl,gw,l6,l7,hA,M2,lw,lar,nw⟩:=hv
  simp only[Ab,I,Ah,Ez,Ew]
  by_cases hn:n<0
  ·simp only[hn,decide_true,Ab,Ah]
   exact .ret rfl
  ·simp only[hn,decide_false,Ab,Ah]
   by_cases hn2:12<n
   ·simp only[hn2,decide_true,Ab]
    exact .ret rfl
   ·simp only[hn2,decide_false,Ab,Kx]
    obtain⟨k,rfl⟩:=Int.eq_ofNat_of_zero_le (show 0<=n by omega)
    have l2:=hb1 _ _ g1
    refine Aqq (K:=K) (F:=fun i=>i<h1.next\/i=w\/i=ar) (a2:=h.next) A hK hd hy.1 hy.2 l6 l7 (.inr (.inl rfl)) (.inr (.inr rfl)) (.inl l2) nw (by omega) ?_ K 0 h2 (Mi.new g) _ _ (by omega) (by omega) M2 hb2 ⟨gw,g2⟩ hA (Ao9 hy.1) rfl (fun _ y=>by cases y) (fun _=>rfl) (fun j hj=>by omega) (fun e=>by rw[if_neg (Nat.not_lt_zero _)];rfl)
    intro h3 S cur Cc M3 hb3 hH3 hA3 c3 gS nb at3
    simp only[Ex]
    rw[F2 hH3.geo rfl,Aw (n:=6) rfl]
    simp only[Ab]
    rw[show EV.agg (gL g)=gV g from rfl]
    refine(Aqu (K:=K) hy.1 hb3).Aj ?_
    rintro _ h4 ⟨b,ml,ll,rfl,mp,x4,hb4,lb,lm⟩
    simp only[Ab,I,Ah,not_true_eq_false,decide_false,Kj]
    have M4:Fg h4 m S (fun i=>(i<h1.next\/i=w\/i=ar)\/i=b\/i=ml):=(M3.ext hb3 x4).less fun j hj=>by
     have t1:=hb4 _ _ mp.map
     have t2:=hb4 _ _ mp.row
     rcases hj with hj|hj|hj
     ·exact .inl hj
     ·exact .inr ⟨by omega,by omega⟩
     ·exact .inr ⟨by omega,by omega⟩
    have lw3:=hb3 _ _ hH3.st
    have l23:=hb3 _ _ hH3.geo
    have la3:=hb3 _ _ hA3
    exact Asy (K:=K) (F:=fun i=>(i<h1.next\/i=w\/i=ar)\/i=b\/i=ml) A hK hd hy.1 l6 l7 (.inl (.inr (.inl rfl))) (.inl (.inr (.inr rfl))) (.inl (.inl l2)) nw (by omega) ⟨.inr (.inl rfl),.inr (.inr rfl),by omega,by omega⟩ (by omega) K 0 h4 S cur Cc (by omega) (by omega) M4 hb4 (hH3.frame (x4.get _ lw3 id) (x4.get _ l23 id)) (x4.at hb3 hA3) mp c3 gS nb at3
 ·rw[if_neg hy]at hv
  subst hv
  simp only[Ab,Ah,Ez,Ew]
  exact .ret rfl
end Go.Ev
