import Derived.Test.YtpkcfamminlmaaaGreatYa
import Derived.Test.YtpkcfamminlmaaaGreatXc
import Derived.Test.YtpkcfamminlmaaaGreatXb
set_option linter.unusedVariables false
set_option linter.unusedSimpArgs false
set_option linter.unusedSectionVars false
namespace Go.Ev
open Go.Proofs
set_option maxRecDepth 100000
variable {K:Nat}
def Ya(g:Gm)(z off:Int):Bool:=rtB g && (wi z 0 (g.D*g.Z-1) && wi off 0 (g.S-1))
theorem Adl {g:Gm}{h:Aa}(hb:HB h)(z off:Int):Ok (L8 K (gV g) (I z) (I off) h) fun v h'=>v=.bool (Ya g z off)/\Ext h h':=by
 simp only[L8,gV,Ab]
 have x1:Ext h (h.new (.cells (gL g) 23)):=A4.new _ _
 have g1:(h.new (.cells (gL g) 23)).get h.next=some (.cells (gL g) 23):=Ae _ _
 generalize h.new (.cells (gL g) 23)=h1 at x1 g1 ⊢
 have hb1:=x1.hb hb
 rw[F4 g1 rfl,Av (show (gL g).length=6 from rfl)]
 simp only[I8]
 rw[show EV.agg (gL g)=gV g from rfl]
 refine(Wv (K:=K) g h1).Al ?_
 rintro _ h2 ⟨rfl,x2⟩
 have hb2:=x2.hb hb1
 have g2:=x2.at hb1 g1
 unfold Ya
 cases hr:rtB g with
 | false=>
  simp only[Ab,Ad,Iu,It,Bool.false_and]
  exact .ret ⟨rfl,x1.trans x2⟩
 | true=>
  have s:=Adr hr
  have:=s.d0;have:=s.d1;have:=s.z0;have:=s.z1;have:=s.s0;have:=s.s1
  obtain⟨m0,m1⟩:=Un (a:=g.D) (b:=g.Z) (A:=8) (B:=64) (by omega) (by omega) (by omega) (by omega)
  simp only[Ab,Ad,Bool.true_and]
  rw[F4 g2 rfl,Av (show (gL g).length=6 from rfl)]
  simp only[I8]
  rw[show EV.agg (gL g)=gV g from rfl,Vr s,Bf]
  have x3:Ext h2 (h2.new (.cells (gL g) 23)):=A4.new _ _
  have g3:=x3.at hb2 g2
  generalize h2.new (.cells (gL g) 23)=h3 at x3 g3 ⊢
  simp only[I,Ad]
  rw[C6 (by omega) (by omega)]
  have w1:=U0 (K:=K) z 0 (g.D*g.Z-1) h3
  simp only[I]at w1
  rw[w1,Bf]
  cases wi z 0 (g.D*g.Z-1) with
  | false=>
   simp only[Ab,Ad,Iu,It,Bool.false_and]
   exact .ret ⟨rfl,(x1.trans x2).trans x3⟩
  | true=>
   simp only[Ab,Ad,Iu]
   rw[B2 g3 rfl,show (gL g)[2]? = some (I g.S) from rfl]
   simp only[I8,I,Ad]
   rw[C6 (by omega) (by omega)]
   have w2:=U0 (K:=K) off 0 (g.S-1) h3
   simp only[I]at w2
   rw[w2,Bf]
   simp only[It,Ab,Bool.true_and]
   exact .ret ⟨rfl,(x1.trans x2).trans x3⟩
end Go.Ev

namespace Go.Ev
open Go.Proofs
set_option maxRecDepth 100000
variable {K:Nat}
structure Me where
 state:Int
 A2:Int
 Dm:Int
 off:Int
 seq:Int
 sum:Int
def Me.cells(m:Me):List EV:=[I m.state,I m.A2,I m.Dm,I m.off,I m.seq,I m.sum]
def meB(g:Gm)(m:Me):Bool:=Ya g m.A2 m.off && (Ya g m.Dm m.off && (decide (¬ De g m.A2=De g m.Dm) && (decide (1<=m.seq) && (decide (m.seq<=281474976710655) && (decide (0<=m.sum) && decide (m.sum<=4294967295))))))
def Rng(z:Int):Prop:=-9223372036854775808<=z/\z<=9223372036854775807
theorem Al0 {g:Gm}{m:Me}{h:Aa}(hb:HB h)(hs:m.state=1)(hz:Rng m.A2)(hm:Rng m.Dm):Ok (Kr K (.agg m.cells) (gV g) h) fun v h'=>v=.bool (meB g m)/\Ext h h':=by
 simp only[Kr,gV,Ab]
 have x1:Ext h ((h.new (.cells m.cells 83)).new (.cells (gL g) 23)):=(A4.new _ _).Hy _
 have g2:((h.new (.cells m.cells 83)).new (.cells (gL g) 23)).get h.next=some (.cells m.cells 83):=by
  rw[Bm _ (Nat.lt_succ_self _)];exact Ae _ _
 have g3:((h.new (.cells m.cells 83)).new (.cells (gL g) 23)).get (h.next+1)=some (.cells (gL g) 23):=Ae _ _
 rw[show (h.new (.cells m.cells 83)).next=h.next+1 from rfl]
 generalize (h.new (.cells m.cells 83)).new (.cells (gL g) 23)=h1 at x1 g2 g3 ⊢
 have hb1:=x1.hb hb
 have l0:m.cells[0]? = some (I 1):=by rw[<-hs];rfl
 have l1:m.cells[1]? = some (I m.A2):=rfl
 have l2:m.cells[2]? = some (I m.Dm):=rfl
 have l3:m.cells[3]? = some (I m.off):=rfl
 have l4:m.cells[4]? = some (I m.seq):=rfl
 have l5:m.cells[5]? = some (I m.sum):=rfl
 have gl:(gL g).length=6:=rfl
 have lt2:=hb1 _ _ g2
 have lt3:=hb1 _ _ g3
 rw[B2 g2 rfl,l0]
 simp only[I8,I,Ad]
 simp only[show ¬ ((1:Int)=0) by decide,show ¬ ((1:Int)=2) by decide,decide_false,Ab,On,Ad,decide_true]
 simp only[Ab,Aq lt3,Bo,F4 g3 rfl,Av gl,Aq lt2,B2 g2 rfl,l1,l3,I8]
 rw[show EV.agg (gL g)=gV g from rfl]
 refine Ok.Cs (by kernel_rfl) (by kernel_rfl) (Adl (K:=K) (Hu hb1) m.A2 m.off) (fun _ _ p=>p.2) ?_
 rintro _ _ h2 ⟨rfl,_⟩ _ x2
 have hb2:=x2.hb hb1
 have g2:=x2.at hb1 g2
 have g3:=x2.at hb1 g3
 unfold meB
 cases hh:Ya g m.A2 m.off with
 | false=>
  simp only[Ab,Ad,H5,H6,Gh,E5,Dw,Cz,Bool.false_and]
  exact .ret ⟨rfl,x1.trans x2⟩
 | true=>
 have hrt:rtB g=true:=by unfold Ya at hh;exact((Bool.and_eq_true _ _).mp hh).1
 have sm:=Adr hrt
 simp only[Ab,Ad,Aq lt3,Bo,F4 g3 rfl,Av gl,Aq lt2,B2 g2 rfl,l2,l3,I8]
 rw[show EV.agg (gL g)=gV g from rfl]
 refine Ok.Cs (by kernel_rfl) (by kernel_rfl) (Adl (K:=K) (Hu hb2) m.Dm m.off) (fun _ _ p=>p.2) ?_
 rintro _ _ h3 ⟨rfl,_⟩ _ x3
 have hb3:=x3.hb hb2
 have g2:=x3.at hb2 g2
 have g3:=x3.at hb2 g3
 have x13:=(x1.trans x2).trans x3
 simp only[Bool.true_and]
 cases Ya g m.Dm m.off with
 | false=>
  simp only[Ab,Ad,H5,H6,Gh,E5,Dw,Cz,Bool.false_and]
  exact .ret ⟨rfl,x13⟩
 | true=>
 simp only[Ab,Ad,H5,Aq lt3,Bo,F4 g3 rfl,Av gl,Aq lt2,B2 g2 rfl,l1,I8,Bool.true_and]
 rw[show EV.agg (gL g)=gV g from rfl]
 refine Ok.Cs (by kernel_rfl) (by kernel_rfl) (K7 sm m.A2 hz _) (fun _ _ p=>p.2) ?_
 rintro _ _ h4 ⟨rfl,_⟩ _ x4
 have hb4:=x4.hb hb3
 have g2:=x4.at hb3 g2
 have g3:=x4.at hb3 g3
 simp only[Ab,Ad,Aq lt3,Bo,F4 g3 rfl,Av gl,Aq lt2,B2 g2 rfl,l2,I8]
 rw[show EV.agg (gL g)=gV g from rfl]
 refine Ok.Cs (by kernel_rfl) (by kernel_rfl) (K7 sm m.Dm hm _) (fun _ _ p=>p.2) ?_
 rintro _ _ h5 ⟨rfl,_⟩ _ x5
 have hb5:=x5.hb hb4
 have g2:=x5.at hb4 g2
 have x15:=(x13.trans x4).trans x5
 simp only[Ab,Ad,I,H6]
 cases decide (¬ De g m.A2=De g m.Dm) with
 | false=>
  simp only[Ab,Ad,Gh,E5,Dw,Cz,Bool.false_and]
  exact .ret ⟨rfl,x15⟩
 | true=>
 simp only[Ab,Ad,Bo,Aq lt2,B2 g2 rfl,l4,I8,I,Bool.true_and,Gh]
 cases decide (1<=m.seq) with
 | false=>
  simp only[Ab,Ad,E5,Dw,Cz,Bool.false_and]
  exact .ret ⟨rfl,x15⟩
 | true=>
 simp only[Ab,Ad,Bo,Aq lt2,B2 g2 rfl,l4,I8,I,Bool.true_and,E5]
 cases decide (m.seq<=281474976710655) with
 | false=>
  simp only[Ab,Ad,Dw,Cz,Bool.false_and]
  exact .ret ⟨rfl,x15⟩
 | true=>
 simp only[Ab,Ad,Bo,Aq lt2,B2 g2 rfl,l5,I8,I,Bool.true_and,Dw]
 cases decide (0<=m.sum) with
 | false=>
  simp only[Ab,Ad,Cz,Bool.false_and]
  exact .ret ⟨rfl,x15⟩
 | true=>
 simp only[Ab,Ad,Bo,Aq lt2,B2 g2 rfl,l5,I8,I,Bool.true_and,Cz]
 exact .ret ⟨rfl,x15⟩
end Go.Ev

namespace Go.Ev
open Go.Proofs
set_option maxRecDepth 100000
variable {K:Nat}
structure Mi where
 g:Gm
 dr:N7
 ps:Nat->List Int
 bad:Nat->Int
 a:Int
 b:Int
 u:Int
structure Ad8(h:Aa)(m D p bl ql np:Nat)(q c:Nat->Nat)(S:Mi)(G H:Nat->Prop):Prop where
 Kb:Vq h m D p bl (S.g.D*S.g.Z).toNat S.g S.a S.b S.u S.bad
 Ft:Dj h p ql np q c S.g S.ps
 psz:Nm np S.g S.ps
 drv:Ek h D S.dr G
 apart:¬ G m/\¬ G bl/\¬ G p/\¬ G ql/\∀ d,d<np->¬ G (q d)/\¬ G (c d)
 sub:(∀ i,G i->H i)/\H m/\H bl/\H p/\H ql/\∀ d,d<np->H (q d)/\H (c d)
structure N3(h:Aa)(m:Nat)(S:Mi)(H:Nat->Prop):Prop where
 lt:∀ i,H i->i<h.next
 Rp:∃ D p bl ql np q c G,Ad8 h m D p bl ql np q c S G H
def Mi.Uj(S:Mi)(z:Int):Bool:=decide (0<=De S.g z) && decide (S.bad z.toNat=1)
theorem Ri {h:Aa}{m:Nat}{S:Mi}{H:Nat->Prop}(s:N3 h m S H)(hb:HB h){z:Int}(hz:Rng z):
 Ok (Ff K (.ptr m 0) (I z) h) fun v h'=>v=.bool (S.Uj z)/\Ext h h':=by
 obtain⟨D,p,bl,ql,np,q,c,G,a⟩:=s.Rp
 have sm:=a.psz.sm
 simp only[Ff,Ab,a.Kb.Ay8]
 refine(K7 sm z hz h).Al ?_
 rintro _ h1 ⟨rfl,x1⟩
 have M1:=a.Kb.ext fun i o g=>x1.at hb g
 unfold Mi.Uj
 simp only[I,Ad]
 rcases Wg sm z with hd|⟨d0,d1,d2,d3,d4⟩
 ·rw[hd]
  simp only[show ¬ ((0:Int)<=-1) by decide,decide_false,Ab,Jk,Bool.false_and]
  exact .ret ⟨rfl,x1⟩
 ·rw[decide_eq_true d0]
  simp only[Ab,M1.A7n]
  obtain⟨j,rfl⟩:∃ j:Nat,z=j:=⟨z.toNat,by omega⟩
  have hj:j<(S.g.D*S.g.Z).toNat:=by omega
  rw[Wu hj,B2 M1.Aik rfl]
  rw[show ((List.range (S.g.D*S.g.Z).toNat).map fun z=>I (S.bad z))[0+j*1]? = some (I (S.bad j)) by rw[Nat.zero_add,Nat.mul_one,List.getElem?_map,List.getElem?_range hj];rfl]
  simp only[I8,I,Ad,Jk,Ab,Bool.true_and]
  exact .ret ⟨rfl,x1⟩
end Go.Ev

namespace Go.Ev
open Go.Proofs
set_option maxRecDepth 100000
variable {K:Nat}
section
variable {h h':Aa}{m D p bl ql np:Nat}{q c:Nat->Nat}{S:Mi}{G H:Nat->Prop}(a:Ad8 h m D p bl ql np q c S G H)(hb:HB h)
include a hb
theorem Ad8.lts:m<h.next/\bl<h.next/\p<h.next/\ql<h.next/\∀ d,d<np->q d<h.next/\c d<h.next:=
 ⟨hb _ _ a.Kb.Kb,hb _ _ a.Kb.Aik,hb _ _ a.Ft.Ft,hb _ _ a.Ft.row,fun d hd=>⟨hb _ _ (a.Ft.que d hd),hb _ _ (a.Ft.chan d hd)⟩⟩
theorem Ad8.As4 {dr:N7}(d:Ek h' D dr (Bc G h h'))(ch:A4 G h h'):Ad8 h' m D p bl ql np q c { S with dr:=dr } (Bc G h h') (Bc H h h'):=by
 obtain⟨l1,l2,l3,l4,l5⟩:=a.lts hb
 obtain⟨n1,n2,n3,n4,n5⟩:=a.apart
 have nf:∀ {i},¬ G i->i<h.next->¬ Bc G h h' i:=fun y l z=>by
  rcases z with z|z
  ·exact y z
  ·omega
 refine⟨⟨ch.at hb a.Kb.Kb n1,ch.at hb a.Kb.Aik n2⟩,?_,a.psz,d,⟨nf n1 l1,nf n2 l2,nf n3 l3,nf n4 l4,fun d hd=>⟨nf (n5 d hd).1 (l5 d hd).1,nf (n5 d hd).2 (l5 d hd).2⟩⟩,?_⟩
 ·exact⟨a.Ft.pos,ch.at hb a.Ft.Ft n3,ch.at hb a.Ft.row n4,fun d hd=>ch.at hb (a.Ft.que d hd) (n5 d hd).1,fun d hd=>ch.at hb (a.Ft.chan d hd) (n5 d hd).2,a.Ft.inj⟩
 ·obtain⟨s1,s2,s3,s4,s5,s6⟩:=a.sub
  refine⟨fun i hi=>?_,.inl s2,.inl s3,.inl s4,.inl s5,fun d hd=>⟨.inl (s6 d hd).1,.inl (s6 d hd).2⟩⟩
  rcases hi with hi|hi
  ·exact .inl (s1 i hi)
  ·exact .inr hi
theorem Ad8.Afe {ps:Nat->List Int}(P:Dj h' p ql np q c S.g ps)(Z:Nm np S.g ps)(ch:A4 (Aex np c) h h'):Ad8 h' m D p bl ql np q c { S with ps:=ps } G H/\A4 H h h':=by
 have nG:∀ i,G i->¬ Aex np c i:=by
  rintro i hi ⟨d,hd,rfl⟩
  exact(a.apart.2.2.2.2 d hd).2 hi
 refine⟨⟨⟨ch.at hb a.Kb.Kb (a.Ft.A3o a.Kb.Kb trivial),ch.at hb a.Kb.Aik (a.Ft.A3o a.Kb.Aik trivial)⟩,P,Z,a.drv.chg ch nG,a.apart,a.sub⟩,ch.mono ?_⟩
 rintro i ⟨d,hd,rfl⟩
 exact(a.sub.2.2.2.2.2 d hd).2
end
theorem N3.ext {h h':Aa}{m:Nat}{S:Mi}{H:Nat->Prop}(s:N3 h m S H)(hb:HB h)(x:Ext h h'):N3 h' m S H:=by
 obtain⟨D,p,bl,ql,np,q,c,G,a⟩:=s.Rp
 have g:∀ i o,h.get i=some o->h'.get i=some o:=fun i o g=>x.at hb g
 exact⟨fun i hi=>Nat.lt_of_lt_of_le (s.lt i hi) x.next,D,p,bl,ql,np,q,c,G,a.Kb.ext g,a.Ft.ext g,a.psz,a.drv.ext x,a.apart,a.sub⟩
end Go.Ev

namespace Go.Ev
open Go.Proofs
set_option maxRecDepth 100000
variable {K:Nat}{disp:Nat->Option FT}
theorem N3.mono {h:Aa}{m:Nat}{S:Mi}{H H':Nat->Prop}(s:N3 h m S H)(f:∀ i,H i->H' i)(l:∀ i,H' i->i<h.next):N3 h m S H':=by
 obtain⟨D,p,bl,ql,np,q,c,G,a⟩:=s.Rp
 exact⟨l,D,p,bl,ql,np,q,c,G,a.Kb,a.Ft,a.psz,a.drv,a.apart,⟨fun i hi=>f _ (a.sub.1 i hi),f _ a.sub.2.1,f _ a.sub.2.2.1,f _ a.sub.2.2.2.1,f _ a.sub.2.2.2.2.1,fun d hd=>⟨f _ (a.sub.2.2.2.2.2 d hd).1,f _ (a.sub.2.2.2.2.2 d hd).2⟩⟩⟩
noncomputable def Mi.leave(S:Mi)(z u:Int):Mi × Int:=
 if z = -1\/S.Uj z=true\/u=S.g.S then (S,0) else
 if u=0 then ({ S with ps:=(Rr S.g S.g.D.toNat S.ps z).2 },(Rr S.g S.g.D.toNat S.ps z).1) else
 ({ S with dr:=(S.dr.finish z).1 },(S.dr.finish z).2)
theorem Z2(A:Au disp)(hK:10000<K){d:Nat}(hd:16<=d){h:Aa}{m:Nat}{S:Mi}{H:Nat->Prop}(hdue:Aya disp K S.dr)(s:N3 h m S H)(hb:HB h){z:Int}(hz:Rng z)(u:Int):
 Ok (Af TT disp K d false 123 [.ptr m 0,I z,I u] h) fun v h'=>v=I (S.leave z u).2/\N3 h' m (S.leave z u).1 (Bc H h h')/\A4 H h h'/\HB h':=by
 obtain⟨e,rfl⟩:∃ k,d=k+1:=⟨d-1,by omega⟩
 rw[Xv A (by omega)]
 have same:∀ h1,Ext h h1->(z = -1\/S.Uj z=true\/u=S.g.S)->Ok (some (.int .i64 0,h1)) fun v h'=>v=I (S.leave z u).2/\N3 h' m (S.leave z u).1 (Bc H h h')/\A4 H h h'/\HB h':=fun h1 x hc=>by
  unfold Mi.leave
  rw[if_pos hc]
  obtain⟨_,D,p,bl,ql,np,q,c,G,a⟩:=s.ext hb x
  refine .ret ⟨rfl,⟨Bc.lt s.lt x.next,D,p,bl,ql,np,q,c,G,⟨a.Kb,a.Ft,a.psz,a.drv,a.apart,⟨fun i hi=>.inl (a.sub.1 i hi),.inl a.sub.2.1,.inl a.sub.2.2.1,.inl a.sub.2.2.2.1,.inl a.sub.2.2.2.2.1,fun d hd=>⟨.inl (a.sub.2.2.2.2.2 d hd).1,.inl (a.sub.2.2.2.2.2 d hd).2⟩⟩⟩⟩,Ext.to x,x.hb hb⟩
 simp only[S0,I,Ad]
 by_cases h1:z = -1
 ·rw[decide_eq_true h1]
  simp only[Ab,Ad,Gf,Ex]
  exact same h (A4.refl _) (.inl h1)
 ·rw[decide_eq_false h1]
  simp only[Ab]
  refine(Ri (K:=K) s hb hz).Al ?_
  rintro _ h2 ⟨rfl,x2⟩
  have hb2:=x2.hb hb
  have s2:=s.ext hb x2
  obtain⟨lt2,D,p,bl,ql,np,q,c,G,a⟩:=s2
  have e1:Am (.ptr m (1+2)) h2=fun k=>k (I S.g.S):=by
   funext k
   rw[B2 a.Kb.Kb rfl];rfl
  cases hbd:S.Uj z with
  | true=>
   simp only[Ab,Ad,Gf,Ex]
   exact same h2 x2 (.inr (.inl hbd))
  | false=>
   simp only[Ab,Ad,Gf]
   rw[e1]
   simp only[I,Ad]
   by_cases hu:u=S.g.S
   ·rw[decide_eq_true hu]
    simp only[Ab,Ad,Ex]
    exact same h2 x2 (.inr (.inr hu))
   ·rw[decide_eq_false hu]
    have hc:¬ (z = -1\/S.Uj z=true\/u=S.g.S):=by
     rintro(y|y|y)
     ·exact h1 y
     ·rw[hbd]at y;cases y
     ·exact hu y
    unfold Mi.leave
    rw[if_neg hc]
    simp only[Ab,Ad,Ex]
    by_cases h0:u=0
    ·rw[decide_eq_true h0,if_pos h0]
     simp only[Ab,a.Kb.Ft]
     refine(Av0 (K:=K) A a.Ft hb2 a.psz (by omega) (d:=e) (by omega) z hz).Al ?_
     rintro _ h3 ⟨c3,hb3,rfl,P3,Z3⟩
     obtain⟨a3,cH⟩:=a.Afe hb2 P3 Z3 c3
     have cc:A4 H h h3:=(Ext.to x2).trans cH
     have hn:=a.psz.nd
     subst hn
     refine .ret ⟨rfl,N3.mono (H:=H) ⟨fun i hi=>Nat.lt_of_lt_of_le (s.lt i hi) cc.next,D,p,bl,ql,_,q,c,G,a3⟩ (fun _=>.inl) (Bc.lt s.lt cc.next),cc,hb3⟩
    ·rw[decide_eq_false h0,if_neg h0]
     simp only[Ab,Qf,a.Kb.Ct]
     refine(Ami (K:=K) A (d:=e) (by omega) hdue a.drv hb2 z).Al ?_
     rintro _ h3 ⟨rfl,d3,c3,hb3⟩
     have a3:=a.As4 hb2 d3 c3
     have cH:A4 H h2 h3:=c3.mono a.sub.1
     have cc:A4 H h h3:=(Ext.to x2).trans cH
     refine .ret ⟨rfl,N3.mono (H:=Bc H h2 h3) ⟨Bc.lt lt2 c3.next,D,p,bl,ql,np,q,c,_,a3⟩ (fun i hi=>?_) (Bc.lt s.lt cc.next),cc,hb3⟩
     rcases hi with hi|hi
     ·exact .inl hi
     ·exact .inr ⟨Nat.le_trans x2.next hi.1,hi.2⟩
end Go.Ev

namespace Go.Ev
open Go.Proofs
set_option maxRecDepth 100000
variable {K:Nat}{disp:Nat->Option FT}
theorem Ap1(D:Nat)(g:Gm)(p bl n:Nat)(a b u a' b' u':Int):(((Ro D g p bl n a b u).set 265 (I a')).set 266 (I b')).set 267 (I u')=Ro D g p bl n a' b' u':=by
 unfold Ro
 have hl:([EV.ptr D 0]++gL g++Bp).length=263:=by rw[List.length_append,X8];rfl
 rw[List.set_append_right _ _ (by omega),hl]
 show ((([EV.ptr D 0]++gL g++Bp)++[EV.ptr p 0,.slice bl 0 n n false,I a',I b,I u]).set 266 (I b')).set 267 (I u')=_
 rw[List.set_append_right _ _ (by omega),hl]
 show (([EV.ptr D 0]++gL g++Bp)++[EV.ptr p 0,.slice bl 0 n n false,I a',I b',I u]).set 267 (I u')=_
 rw[List.set_append_right _ _ (by omega),hl]
 rfl
theorem Ad8.Aos {h h':Aa}{m D p bl ql np:Nat}{q c:Nat->Nat}{S:Mi}{G H:Nat->Prop}(a:Ad8 h m D p bl ql np q c S G H)(hb:HB h){a' b' u':Int}(g:h'.get m=some (.cells (Ro D S.g p bl (S.g.D*S.g.Z).toNat a' b' u') 149))(ch:A4 (fun i=>i=m) h h'):
 Ad8 h' m D p bl ql np q c { S with a:=a',b:=b',u:=u' } G H:=by
 have e:=a.Kb.Kb
 have k:∀ i o,h.get i=some o->(∀ l,o ≠ .cells l 149)->h'.get i=some o:=fun i o gi ho=>ch.at hb gi fun y=>by
  subst y;rw[e]at gi;cases gi;exact ho _ rfl
 refine⟨⟨g,k _ _ a.Kb.Aik (by intros;simp)⟩,⟨a.Ft.pos,k _ _ a.Ft.Ft (by intros;simp),k _ _ a.Ft.row (by intros;simp),fun d hd=>k _ _ (a.Ft.que d hd) (by intros;simp),fun d hd=>k _ _ (a.Ft.chan d hd) (by intros;simp),a.Ft.inj⟩,a.psz,a.drv.chg ch fun i hi y=>?_,a.apart,a.sub⟩
 subst y;exact a.apart.1 hi
def Af6(disp:Nat->Option FT)(K n:Nat):Prop:=∀ T:N7,T.ev.length<=n->Aya disp K T
theorem Aqq:∀ (l:List F6) (D:Dv) (k:List F6),(Ata l D k).ev.length<=l.length
 | [],_,_=>Nat.le_refl _
 | e::r,D,k=>by
  unfold Ata
  split
  ·exact Nat.le_refl _
  ·have:=Aqq r (D.Qi e) (k++[e])
   exact Nat.le_succ_of_le this
theorem N7.Av7(S:N7)(i:Int):(S.begin i).ev.length<=S.ev.length:=by
 unfold N7.begin
 split
 ·exact Aqq _ _ _
 ·exact Nat.le_refl _
theorem Mi.Awr(S:Mi)(z u:Int):(S.leave z u).1.dr.ev.length<=S.dr.ev.length:=by
 unfold Mi.leave
 split
 ·exact Nat.le_refl _
 ·split
  ·exact Nat.le_refl _
  ·exact S.dr.Av7 z
noncomputable def Mi.close(S:Mi):Mi × Int:=
 (((({ S with a:=-1,b:=-1,u:=0 }:Mi).leave S.a S.u).1.leave S.b S.u).1,if (({ S with a:=-1,b:=-1,u:=0 }:Mi).leave S.a S.u).2=0 then ((({ S with a:=-1,b:=-1,u:=0 }:Mi).leave S.a S.u).1.leave S.b S.u).2 else (({ S with a:=-1,b:=-1,u:=0 }:Mi).leave S.a S.u).2)
theorem Ait(A:Au disp)(hK:10000<K){d:Nat}(hd:17<=d){n:Nat}(hdue:Af6 disp K n){h:Aa}{m:Nat}{S:Mi}{H:Nat->Prop}(hn:S.dr.ev.length<=n)(s:N3 h m S H)(hb:HB h)(ha:Rng S.a)(hbb:Rng S.b):
 Ok (Af TT disp K d false 70 [.ptr m 0] h) fun v h'=>v=I S.close.2/\N3 h' m S.close.1 (Bc H h h')/\A4 H h h'/\HB h':=by
 obtain⟨e,rfl⟩:∃ k,d=k+1:=⟨d-1,by omega⟩
 rw[Xn A (by omega)]
 obtain⟨lt,D,p,bl,ql,np,q,c,G,a⟩:=s
 have ml:=Akz D S.g p bl (S.g.D*S.g.Z).toNat S.a S.b S.u
 simp only[Te,Ab,a.Kb.oa,a.Kb.ob,a.Kb.ou]
 refine Ok.Ase a.Kb.Kb hb rfl rfl (by omega) ?_
 intro h1 g1 c1 hb1
 try simp only[Ab]
 refine Ok.Ase g1 hb1 rfl rfl (by rw[List.length_set];omega) ?_
 intro h2 g2 c2 hb2
 try simp only[Ab]
 refine Ok.Ase g2 hb2 rfl rfl (by rw[List.length_set,List.length_set];omega) ?_
 intro h3 g3 c3 hb3
 rw[show EV.int .i64 (-1)=I (-1) from rfl,show EV.int .i64 0=I 0 from rfl,Ap1]at g3
 have c03:=(c1.trans c2).trans c3
 have a3:=a.Aos hb g3 c03
 have cH:A4 H h h3:=c03.mono fun i hi=>by subst hi;exact a.sub.2.1
 have s3:N3 h3 m { S with a:=-1,b:=-1,u:=0 } H:=⟨fun i hi=>Nat.lt_of_lt_of_le (lt i hi) cH.next,D,p,bl,ql,np,q,c,G,a3⟩
 unfold Mi.close
 refine(Z2 (K:=K) (S:={ S with a:=-1,b:=-1,u:=0 }) A hK (d:=e) (by omega) (hdue S.dr hn) s3 hb3 ha S.u).Al ?_
 have len1:=Mi.Awr { S with a:=-1,b:=-1,u:=0 } S.a S.u
 generalize ({ S with a:=-1,b:=-1,u:=0 }:Mi).leave S.a S.u=r at len1 ⊢
 rintro _ h4 ⟨rfl,s4,c4,hb4⟩
 refine(Z2 (K:=K) A hK (d:=e) (by omega) (hdue _ (Nat.le_trans len1 hn)) s4 hb4 hbb S.u).Al ?_
 rintro _ h5 ⟨rfl,s5,c5,hb5⟩
 have cc4:A4 H h h4:=cH.trans c4
 have cc:A4 H h h5:=cc4.then c5 fun i hi hl=>by
  rcases hi with y|y
  ·exact y
  ·have:=cH.next;omega
 have s6:N3 h5 m (r.1.leave S.b S.u).1 (Bc H h h5):=s5.mono (fun i hi=>by
  rcases hi with (y|y)|y
  ·exact .inl y
  ·have:=cH.next;have:=c5.next;exact .inr ⟨by omega,by omega⟩
  ·have:=cc4.next;exact .inr ⟨by omega,y.2⟩) (Bc.lt lt cc.next)
 simp only[I,Ad]
 by_cases h0:r.2=0
 ·rw[decide_eq_true h0,if_pos h0]
  simp only[Ab,Ib]
  exact .ret ⟨rfl,s6,cc,hb5⟩
 ·rw[decide_eq_false h0,if_neg h0]
  simp only[Ab,Ib]
  exact .ret ⟨rfl,s6,cc,hb5⟩
end Go.Ev

namespace Go.Ev
open Go.Proofs
set_option maxRecDepth 100000
variable {K:Nat}{disp:Nat->Option FT}
def Mi.dropped(S:Mi)(z:Int):Nat->List Int:=if De S.g z<0 then S.ps else upd S.ps (De S.g z).toNat (Nr z (S.ps (De S.g z).toNat))
def Mi.mark(S:Mi)(z:Int):Mi:={ S with bad:=fun i=>if i=z.toNat then 1 else S.bad i,ps:=S.dropped z }
noncomputable def Mi.Bl(S:Mi)(z:Int):Mi × Int:=
 if De S.g z<0 then (S,13) else if S.Uj z=true then (S,16) else
 if ¬ z=S.a/\¬ z=S.b then (S.mark z,0) else ((S.mark z).close.1,if (S.mark z).close.2=34 then 34 else 0)
theorem Ad8.A43 {h h':Aa}{m D p bl ql np:Nat}{q c:Nat->Nat}{S:Mi}{G H:Nat->Prop}(a:Ad8 h m D p bl ql np q c S G H)(hb:HB h){bad':Nat->Int}(g:h'.get bl=some (.cells ((List.range (S.g.D*S.g.Z).toNat).map fun z=>I (bad' z)) 3))(ch:A4 (fun i=>i=bl) h h'):
 Ad8 h' m D p bl ql np q c { S with bad:=bad' } G H:=by
 have e:=a.Kb.Aik
 have k:∀ i o,h.get i=some o->(∀ l,o ≠ .cells l 3)->h'.get i=some o:=fun i o gi ho=>ch.at hb gi fun y=>by
  subst y;rw[e]at gi;cases gi;exact ho _ rfl
 refine⟨⟨k _ _ a.Kb.Kb (by intros;simp),g⟩,⟨a.Ft.pos,k _ _ a.Ft.Ft (by intros;simp),k _ _ a.Ft.row (by intros;simp),fun d hd=>k _ _ (a.Ft.que d hd) (by intros;simp),fun d hd=>k _ _ (a.Ft.chan d hd) (by intros;simp),a.Ft.inj⟩,a.psz,a.drv.chg ch fun i hi y=>?_,a.apart,a.sub⟩
 subst y;exact a.apart.2.1 hi
theorem Bc.up {H:Nat->Prop}{h h1 h2:Aa}(a:h.next<=h1.next)(b:h1.next<=h2.next){i:Nat}(g:Bc H h1 h2 i):Bc H h h2 i:=by
 rcases g with y|y
 ·exact .inl y
 ·exact .inr ⟨by omega,y.2⟩
theorem Aa8(A:Au disp)(hK:10000<K){d:Nat}(hd:18<=d){n:Nat}(hdue:Af6 disp K n){h:Aa}{m:Nat}{S:Mi}{H:Nat->Prop}(hn:S.dr.ev.length<=n)(s:N3 h m S H)(hb:HB h)(ha:Rng S.a)(hbb:Rng S.b){z:Int}(hz:Rng z):
 Ok (Af TT disp K d false 20 [.ptr m 0,I z] h) fun v h'=>v=I (S.Bl z).2/\N3 h' m (S.Bl z).1 (Bc H h h')/\A4 H h h'/\HB h':=by
 obtain⟨e,rfl⟩:∃ k,d=k+1:=⟨d-1,by omega⟩
 rw[Ss A (by omega)]
 obtain⟨lt,D,p,bl,ql,np,q,c,G,a⟩:=s
 have s:N3 h m S H:=⟨lt,D,p,bl,ql,np,q,c,G,a⟩
 have sm:=a.psz.sm
 simp only[Oo,Ab,a.Kb.Ay8]
 refine(K7 sm z hz h).Al ?_
 rintro _ h1 ⟨rfl,x1⟩
 have hb1:=x1.hb hb
 have s1:=s.ext hb x1
 unfold Mi.Bl
 simp only[I,Ad]
 rcases Wg sm z with hdm|⟨d0,d1,d2,d3,d4⟩
 ·rw[hdm]
  simp only[show (-1:Int)<0 by decide,decide_true,Ab,if_true]
  exact .ret ⟨rfl,s1.mono (fun _=>.inl) (Bc.lt lt x1.next),Ext.to x1,hb1⟩
 ·rw[decide_eq_false (show ¬ De S.g z<0 by omega),if_neg (show ¬ De S.g z<0 by omega)]
  simp only[Ab]
  refine(Ri (K:=K) s1 hb1 hz).Al ?_
  rintro _ h2 ⟨rfl,x2⟩
  have hb2:=x2.hb hb1
  have x12:=x1.trans x2
  cases hbd:S.Uj z with
  | true=>
   simp only[Ab,if_true]
   exact .ret ⟨rfl,(s1.ext hb1 x2).mono (fun _=>.inl) (Bc.lt lt x12.next),Ext.to x12,hb2⟩
  | false=>
   simp only[Ab,Bool.false_eq_true,if_false,Mr]
   obtain⟨lt2,D,p,bl,ql,np,q,c,G,a⟩:=s1.ext hb1 x2
   obtain⟨j,rfl⟩:∃ j:Nat,z=j:=⟨z.toNat,by omega⟩
   have hj:j<(S.g.D*S.g.Z).toNat:=by omega
   rw[a.Kb.A7n,Wu hj,Nat.zero_add,Nat.mul_one]
   refine Ok.Ase a.Kb.Aik hb2 rfl rfl (by rw[List.length_map,List.length_range];exact hj) ?_
   intro h3 g3 c3 hb3
   have hset:((List.range (S.g.D*S.g.Z).toNat).map fun z=>I (S.bad z)).set j (.int .i64 1)=(List.range (S.g.D*S.g.Z).toNat).map fun z=>I ((S.mark j).bad z):=by
    apply List.ext_getElem?
    intro i
    rw[List.getElem?_set,List.getElem?_map,List.getElem?_map,List.length_map,List.length_range]
    by_cases hi:j=i
    ·subst hi
     rw[if_pos rfl,if_pos hj,List.getElem?_range hj]
     simp[Mi.mark,I]
    ·rw[if_neg hi]
     rcases Nat.lt_or_ge i (S.g.D*S.g.Z).toNat with hl|hg
     ·rw[List.getElem?_range hl]
      have:¬ i=j:=fun y=>hi y.symm
      simp[Mi.mark,this]
     ·rw[List.getElem?_eq_none (by rw[List.length_range];exact hg)];rfl
   rw[hset]at g3
   have a3:=a.A43 hb2 g3 c3
   have cH3:A4 H h h3:=(Ext.to x12).trans (c3.mono fun i hi=>by subst hi;exact a.sub.2.2.1)
   try simp only[Ab]
   rw[a3.Kb.Ft]
   refine(A21 (K:=K) A (by omega) a3.Ft hb3 a3.psz (d:=e) (by omega) j hz).Al ?_
   rintro _ h4 ⟨⟨er,rfl⟩,c4,hb4,P4,Z4⟩
   obtain⟨a4,cH⟩:=a3.Afe hb3 P4 Z4 c4
   have a4:Ad8 h4 m D p bl ql np q c (S.mark j) G H:=a4
   have cc:A4 H h h4:=cH3.trans cH
   have s4:N3 h4 m (S.mark j) H:=⟨fun i hi=>Nat.lt_of_lt_of_le (lt i hi) cc.next,D,p,bl,ql,np,q,c,G,a4⟩
   try simp only[Ab]
   rw[a4.Kb.oa]
   have close:¬ (¬ (j:Int)=S.a/\¬ (j:Int)=S.b)->Ok (Ie (Af TT disp K e false) (Af TT disp K e true) K (.ptr m 0) h4) fun v h'=>v=I (if ¬ (j:Int)=S.a/\¬ (j:Int)=S.b then (S.mark j,(0:Int)) else ((S.mark j).close.1,if (S.mark j).close.2=34 then 34 else 0)).2/\N3 h' m (if ¬ (j:Int)=S.a/\¬ (j:Int)=S.b then (S.mark j,(0:Int)) else ((S.mark j).close.1,if (S.mark j).close.2=34 then 34 else 0)).1 (Bc H h h')/\A4 H h h'/\HB h':=by
    intro hno
    rw[if_neg hno]
    simp only[Ie]
    refine(Ait (K:=K) A hK (d:=e) (by omega) hdue (S:=S.mark j) hn s4 hb4 ha hbb).Al ?_
    rintro _ h5 ⟨rfl,s5,c5,hb5⟩
    have cc5:=cc.trans c5
    have s6:=s5.mono (fun i hi=>Bc.up cc.next c5.next hi) (Bc.lt lt cc5.next)
    simp only[I,Ad]
    by_cases h34:(S.mark j).close.2=34
    ·rw[decide_eq_true h34,if_pos h34]
     simp only[Ab]
     exact .ret ⟨rfl,s6,cc5,hb5⟩
    ·rw[decide_eq_false h34,if_neg h34]
     simp only[Ab,Mv]
     exact .ret ⟨rfl,s6,cc5,hb5⟩
   simp only[I,Ad]at close ⊢
   rw[show (S.mark (j:Int)).a=S.a from rfl]
   by_cases e1:(j:Int)=S.a
   ·rw[show decide (¬ (j:Int)=S.a)=false from decide_eq_false fun y=>y e1]
    simp only[Ab,Ad,F3]
    exact close fun y=>y.1 e1
   ·rw[show decide (¬ (j:Int)=S.a)=true from decide_eq_true e1]
    simp only[Ab,Ad]
    rw[a4.Kb.ob]
    simp only[I,Ad,F3,Ab]
    rw[show (S.mark (j:Int)).b=S.b from rfl]
    by_cases e2:(j:Int)=S.b
    ·rw[show decide (¬ (j:Int)=S.b)=false from decide_eq_false fun y=>y e2]
     simp only[Ab]
     exact close fun y=>y.2 e2
    ·rw[show decide (¬ (j:Int)=S.b)=true from decide_eq_true e2]
     simp only[Ab]
     rw[if_pos ⟨e1,e2⟩]
     exact .ret ⟨rfl,s4.mono (fun _=>.inl) (Bc.lt lt cc.next),cc,hb4⟩
end Go.Ev

namespace Go.Ev
open Go.Proofs
set_option maxRecDepth 100000
variable {K:Nat}{disp:Nat->Option FT}
def Adk(ps:Nat->List Int)(n:Nat):Option (Int × Int × (Nat->List Int)):=
 if Su ps n=0 then none else
 some ((ps (Dz ps (-1) n).toNat).headD 0,(ps (Dz ps (Dz ps (-1) n) n).toNat).headD 0,
  upd (upd ps (Dz ps (-1) n).toNat (ps (Dz ps (-1) n).toNat).tail) (Dz ps (Dz ps (-1) n) n).toNat (ps (Dz ps (Dz ps (-1) n) n).toNat).tail)
noncomputable def Mi.ready(S:Mi):Mi × Int:=
 if ¬ S.a = -1/\S.u<S.g.S then (S,0) else
 if ¬ S.dr.flush.2=0 then ({ S with dr:=S.dr.flush.1 },S.dr.flush.2) else
 match Adk S.ps S.g.D.toNat with
 | none=>({ S with dr:=S.dr.flush.1 },40)
 | some (x,y,ps')=>({ S with dr:=S.dr.flush.1,ps:=ps',a:=x,b:=y,u:=0 },0)
theorem Aiv(A:Au disp)(hK:10000<K){d:Nat}(hd:16<=d){n:Nat}(hdue:Af6 disp K n){h:Aa}{m:Nat}{S:Mi}{H:Nat->Prop}(hn:S.dr.ev.length<=n)(s:N3 h m S H)(hb:HB h):
 Ok (Af TT disp K d false 80 [.ptr m 0] h) fun v h'=>v=I S.ready.2/\N3 h' m S.ready.1 (Bc H h h')/\A4 H h h'/\HB h':=by
 obtain⟨e,rfl⟩:∃ k,d=k+1:=⟨d-1,by omega⟩
 rw[Xl A (by omega)]
 obtain⟨lt,D,p,bl,ql,np,q,c,G,a⟩:=s
 have s:N3 h m S H:=⟨lt,D,p,bl,ql,np,q,c,G,a⟩
 have hnp:=a.psz.nd
 subst hnp
 have es:Am (.ptr m (1+2)) h=fun k=>k (I S.g.S):=by
  funext k
  rw[B2 a.Kb.Kb rfl];rfl
 have two:¬ (¬ S.a = -1/\S.u<S.g.S)->Ok (Lo (Af TT disp K e false) (Af TT disp K e true) K (.ptr m 0) h) fun v h'=>v=I S.ready.2/\N3 h' m S.ready.1 (Bc H h h')/\A4 H h h'/\HB h':=by
  intro hno
  unfold Mi.ready
  rw[if_neg hno]
  simp only[Lo,Ab,a.Kb.Ct]
  refine(Apg (K:=K) A (by omega) (d:=e) (by omega) (hdue _ hn) a.drv hb).Al ?_
  rintro _ h2 ⟨rfl,d2,c2,hb2⟩
  have a2:=a.As4 hb d2 c2
  have cH2:A4 H h h2:=c2.mono a.sub.1
  have lt2:=Bc.lt lt cH2.next
  simp only[I,Ad]
  by_cases hf:S.dr.flush.2=0
  ·rw[decide_eq_false (show ¬ ¬ S.dr.flush.2=0 from fun y=>y hf),if_neg (show ¬ ¬ S.dr.flush.2=0 from fun y=>y hf)]
   simp only[Ab,Ps,a2.Kb.Ft]
   refine(A3f (K:=K) a2.Ft hb2 a2.psz (by omega)).Al ?_
   rintro _ h3 ⟨c3,hb3,hh⟩
   rcases hh with ⟨p0,rfl,P3⟩|⟨x,y,vx,vy,r,t,hp,f1,f2,hx,hy,hxy,e1,e2,rfl,P3,Z3⟩
   ·obtain⟨a3,cH3⟩:=a2.Afe hb2 P3 a2.psz c3
    have cc:A4 H h h3:=cH2.grow cH3
    have hg:Adk S.ps S.g.D.toNat=none:=by unfold Adk;rw[if_pos p0]
    rw[hg]
    simp only[Ab,I,Ad]
    simp only[show ¬ ((15:Int)=0) by decide,not_false_eq_true,decide_true,Ab]
    refine .ret ⟨rfl,N3.mono (H:=Bc H h h2) ⟨fun i hi=>Nat.lt_of_lt_of_le (lt2 i hi) c3.next,D,p,bl,ql,_,q,c,_,a3⟩ (fun i hi=>Bc.le c3.next hi) (Bc.lt lt cc.next),cc,hb3⟩
   ·obtain⟨a3,cH3⟩:=a2.Afe hb2 P3 Z3 c3
    have cc:A4 H h h3:=cH2.grow cH3
    have hg:Adk S.ps S.g.D.toNat=some (vx,vy,upd (upd S.ps x r) y t):=by
     unfold Adk
     have e1:S.ps x=vx::r:=e1
     have e2:S.ps y=vy::t:=e2
     have f1:Dz S.ps (-1) S.g.D.toNat=x:=f1
     have f2:Dz S.ps x S.g.D.toNat=y:=f2
     rw[if_neg hp,f1,f2]
     simp only[Int.toNat_natCast,e1,e2,List.headD_cons,List.tail_cons]
    rw[hg]
    simp only[Ab,I,Ad]
    simp only[not_true_eq_false,decide_false,Ab,Po]
    have ml:=Akz D S.g p bl (S.g.D*S.g.Z).toNat S.a S.b S.u
    refine Ok.Ase a3.Kb.Kb hb3 rfl rfl (by show 265<(Ro D S.g p bl (S.g.D*S.g.Z).toNat S.a S.b S.u).length;omega) ?_
    intro h4 g4 c4 hb4
    try simp only[Ab]
    refine Ok.Ase g4 hb4 rfl rfl (by rw[List.length_set];show 266<(Ro D S.g p bl (S.g.D*S.g.Z).toNat S.a S.b S.u).length;omega) ?_
    intro h5 g5 c5 hb5
    try simp only[Ab]
    refine Ok.Ase g5 hb5 rfl rfl (by rw[List.length_set,List.length_set];show 267<(Ro D S.g p bl (S.g.D*S.g.Z).toNat S.a S.b S.u).length;omega) ?_
    intro h6 g6 c6 hb6
    have g6:h6.get m=some (.cells ((((Ro D S.g p bl (S.g.D*S.g.Z).toNat S.a S.b S.u).set 265 (I vx)).set 266 (I vy)).set 267 (I 0)) 149):=g6
    rw[Ap1]at g6
    have c36:=(c4.trans c5).trans c6
    have a6:=a3.Aos hb3 g6 c36
    have cc6:A4 H h h6:=cc.then (c36.mono (T:=fun i=>i=m) fun i hi=>hi) fun i hi _=>by subst hi;exact a.sub.2.1
    exact .ret ⟨rfl,N3.mono (H:=Bc H h h2) ⟨fun i hi=>Nat.lt_of_lt_of_le (lt2 i hi) (Nat.le_trans c3.next c36.next),D,p,bl,ql,_,q,c,_,a6⟩ (fun i hi=>Bc.le (Nat.le_trans c3.next c36.next) hi) (Bc.lt lt cc6.next),cc6,hb6⟩
  ·rw[decide_eq_true hf,if_pos hf]
   simp only[Ab]
   exact .ret ⟨rfl,⟨lt2,D,p,bl,ql,_,q,c,_,a2⟩,cH2,hb2⟩
 have done:¬ S.a = -1/\S.u<S.g.S->Ok (some (.int .i64 0,h)) fun v h'=>v=I S.ready.2/\N3 h' m S.ready.1 (Bc H h h')/\A4 H h h'/\HB h':=fun hy=>by
  unfold Mi.ready
  rw[if_pos hy]
  exact .ret ⟨rfl,s.mono (fun _=>.inl) (Bc.lt lt (Nat.le_refl _)),A4.refl _,hb⟩
 simp only[Ta,Ab,a.Kb.oa,I,Ad]
 by_cases h1:S.a = -1
 ·rw[decide_eq_false (show ¬ ¬ S.a = -1 from fun y=>y h1)]
  simp only[Ab,F9,Ad]
  exact two fun y=>y.1 h1
 ·rw[decide_eq_true h1]
  simp only[Ab,Ad,a.Kb.ou,es,I]
  by_cases h2:S.u<S.g.S
  ·rw[decide_eq_true h2]
   simp only[F9,Ab]
   exact done ⟨h1,h2⟩
  ·rw[decide_eq_false h2]
   simp only[F9,Ab]
   exact two fun y=>h2 y.2
end Go.Ev
