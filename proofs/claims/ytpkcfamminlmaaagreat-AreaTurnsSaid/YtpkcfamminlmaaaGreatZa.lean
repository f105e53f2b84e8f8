import Derived.Test.YtpkcfamminlmaaaGreatYa
import Derived.Test.YtpkcfamminlmaaaGreatXc
import Derived.Test.YtpkcfamminlmaaaGreatXb
set_option linter.unusedVariables false
set_option linter.unusedSimpArgs false
set_option linter.unusedSectionVars false
namespace Go.Ev
open Go.Proofs
set_option maxRecDepth 100000
variable {K:Nat}
def Aow(g:Gm)(z off:Int):Bool:=rtB g && (wi z 0 (g.D*g.Z-1) && wi off 0 (g.S-1))
theorem Alv {g:Gm}{h:Aa}(hb:HB h)(z off:Int):Ok (Kt K (gV g) (I z) (I off) h) fun v h'=>v=.bool (Aow g z off)/\Ext h h':=by
 simp only[Kt,gV,Ab]
 have x1:Ext h (h.new (.cells (gL g) 23)):=A6.new _ _
 have g1:(h.new (.cells (gL g) 23)).get h.next=some (.cells (gL g) 23):=Ae _ _
 generalize h.new (.cells (gL g) 23)=h1 at x1 g1 ⊢
 have hb1:=x1.hb hb
 rw[F2 g1 rfl,Aw (show (gL g).length=6 from rfl)]
 simp only[Su]
 rw[show EV.agg (gL g)=gV g from rfl]
 refine(Qg (K:=K) g h1).Aj ?_
 rintro _ h2 ⟨rfl,x2⟩
 have hb2:=x2.hb hb1
 have g2:=x2.at hb1 g1
 unfold Aow
 cases hr:rtB g with
 | false=>
  simp only[Ab,Ah,Hx,Hz,Bool.false_and]
  exact .ret ⟨rfl,x1.trans x2⟩
 | true=>
  have s:=N1 hr
  have:=s.d0;have:=s.d1;have:=s.z0;have:=s.z1;have:=s.s0;have:=s.s1
  obtain⟨m0,m1⟩:=Rv (a:=g.D) (b:=g.Z) (A:=8) (B:=64) (by omega) (by omega) (by omega) (by omega)
  simp only[Ab,Ah,Bool.true_and]
  rw[F2 g2 rfl,Aw (show (gL g).length=6 from rfl)]
  simp only[Su]
  rw[show EV.agg (gL g)=gV g from rfl,Q8 s,A2]
  have x3:Ext h2 (h2.new (.cells (gL g) 23)):=A6.new _ _
  have g3:=x3.at hb2 g2
  generalize h2.new (.cells (gL g) 23)=h3 at x3 g3 ⊢
  simp only[I,Ah]
  rw[Cu (by omega) (by omega)]
  have w1:=T1 (K:=K) z 0 (g.D*g.Z-1) h3
  simp only[I]at w1
  rw[w1,A2]
  cases wi z 0 (g.D*g.Z-1) with
  | false=>
   simp only[Ab,Ah,Hx,Hz,Bool.false_and]
   exact .ret ⟨rfl,(x1.trans x2).trans x3⟩
  | true=>
   simp only[Ab,Ah,Hx]
   rw[Cn g3 rfl,show (gL g)[2]? = some (I g.S) from rfl]
   simp only[Su,I,Ah]
   rw[Cu (by omega) (by omega)]
   have w2:=T1 (K:=K) off 0 (g.S-1) h3
   simp only[I]at w2
   rw[w2,A2]
   simp only[Hz,Ab,Bool.true_and]
   exact .ret ⟨rfl,(x1.trans x2).trans x3⟩
end Go.Ev

namespace Go.Ev
open Go.Proofs
set_option maxRecDepth 100000
variable {K:Nat}
structure Me where
 state:Int
 B5:Int
 A24:Int
 off:Int
 seq:Int
 sum:Int
def Me.cells(m:Me):List EV:=[I m.state,I m.B5,I m.A24,I m.off,I m.seq,I m.sum]
def Rng(z:Int):Prop:=-9223372036854775808<=z/\z<=9223372036854775807
end Go.Ev

namespace Go.Ev
open Go.Proofs
set_option maxRecDepth 100000
variable {K:Nat}
structure Mi where
 g:Gm
 dr:I2
 ps:Nat->List Int
 bad:Nat->Int
 a:Int
 b:Int
 u:Int
structure Aq6(h:Aa)(m D p bl ql np:Nat)(q c:Nat->Nat)(S:Mi)(G H:Nat->Prop):Prop where
 mir:Wd h m D p bl (S.g.D*S.g.Z).toNat S.g S.a S.b S.u S.bad
 Js:Fu h p ql np q c S.g S.ps
 psz:Tk np S.g S.ps
 drv:Ej h D S.dr G
 apart:¬ G m/\¬ G bl/\¬ G p/\¬ G ql/\∀ d,d<np->¬ G (q d)/\¬ G (c d)
 sub:(∀ i,G i->H i)/\H m/\H bl/\H p/\H ql/\∀ d,d<np->H (q d)/\H (c d)
structure Ad5(h:Aa)(m:Nat)(S:Mi)(H:Nat->Prop):Prop where
 lt:∀ i,H i->i<h.next
 Rk:∃ D p bl ql np q c G,Aq6 h m D p bl ql np q c S G H
def Mi.Am0(S:Mi)(z:Int):Bool:=decide (0<=La S.g z) && decide (S.bad z.toNat=1)
theorem Ak9 {h:Aa}{m:Nat}{S:Mi}{H:Nat->Prop}(s:Ad5 h m S H)(hb:HB h){z:Int}(hz:Rng z):
 Ok (Lp K (.ptr m 0) (I z) h) fun v h'=>v=.bool (S.Am0 z)/\Ext h h':=by
 obtain⟨D,p,bl,ql,np,q,c,G,a⟩:=s.Rk
 have sm:=a.psz.sm
 simp only[Lp,Ab,a.mir.A1k]
 refine(To sm z hz h).Aj ?_
 rintro _ h1 ⟨rfl,x1⟩
 have M1:=a.mir.ext fun i o g=>x1.at hb g
 unfold Mi.Am0
 simp only[I,Ah]
 rcases Air sm z with hd|⟨d0,d1,d2,d3,d4⟩
 ·rw[hd]
  simp only[show ¬ ((0:Int)<=-1) by decide,decide_false,Ab,Ik,Bool.false_and]
  exact .ret ⟨rfl,x1⟩
 ·rw[decide_eq_true d0]
  simp only[Ab,M1.A65]
  obtain⟨j,rfl⟩:∃ j:Nat,z=j:=⟨z.toNat,by omega⟩
  have hj:j<(S.g.D*S.g.Z).toNat:=by omega
  rw[Vq hj,Cn M1.Anm rfl]
  rw[show ((List.range (S.g.D*S.g.Z).toNat).map fun z=>I (S.bad z))[0+j*1]? = some (I (S.bad j)) by rw[Nat.zero_add,Nat.mul_one,List.getElem?_map,List.getElem?_range hj];rfl]
  simp only[Su,I,Ah,Ik,Ab,Bool.true_and]
  exact .ret ⟨rfl,x1⟩
end Go.Ev

namespace Go.Ev
open Go.Proofs
set_option maxRecDepth 100000
variable {K:Nat}
section
variable {h h':Aa}{m D p bl ql np:Nat}{q c:Nat->Nat}{S:Mi}{G H:Nat->Prop}(a:Aq6 h m D p bl ql np q c S G H)(hb:HB h)
include a hb
theorem Aq6.lts:m<h.next/\bl<h.next/\p<h.next/\ql<h.next/\∀ d,d<np->q d<h.next/\c d<h.next:=
 ⟨hb _ _ a.mir.mir,hb _ _ a.mir.Anm,hb _ _ a.Js.Js,hb _ _ a.Js.row,fun d hd=>⟨hb _ _ (a.Js.que d hd),hb _ _ (a.Js.chan d hd)⟩⟩
theorem Aq6.A2z {dr:I2}(d:Ej h' D dr (Bw G h h'))(ch:A6 G h h'):Aq6 h' m D p bl ql np q c { S with dr:=dr } (Bw G h h') (Bw H h h'):=by
 obtain⟨l1,l2,l3,l4,l5⟩:=a.lts hb
 obtain⟨n1,n2,n3,n4,n5⟩:=a.apart
 have nf:∀ {i},¬ G i->i<h.next->¬ Bw G h h' i:=fun y l z=>by
  rcases z with z|z
  ·exact y z
  ·omega
 refine⟨⟨ch.at hb a.mir.mir n1,ch.at hb a.mir.Anm n2⟩,?_,a.psz,d,⟨nf n1 l1,nf n2 l2,nf n3 l3,nf n4 l4,fun d hd=>⟨nf (n5 d hd).1 (l5 d hd).1,nf (n5 d hd).2 (l5 d hd).2⟩⟩,?_⟩
 ·exact⟨a.Js.pos,ch.at hb a.Js.Js n3,ch.at hb a.Js.row n4,fun d hd=>ch.at hb (a.Js.que d hd) (n5 d hd).1,fun d hd=>ch.at hb (a.Js.chan d hd) (n5 d hd).2,a.Js.inj⟩
 ·obtain⟨s1,s2,s3,s4,s5,s6⟩:=a.sub
  refine⟨fun i hi=>?_,.inl s2,.inl s3,.inl s4,.inl s5,fun d hd=>⟨.inl (s6 d hd).1,.inl (s6 d hd).2⟩⟩
  rcases hi with hi|hi
  ·exact .inl (s1 i hi)
  ·exact .inr hi
theorem Aq6.Auk {ps:Nat->List Int}(P:Fu h' p ql np q c S.g ps)(Z:Tk np S.g ps)(ch:A6 (Amv np c) h h'):Aq6 h' m D p bl ql np q c { S with ps:=ps } G H/\A6 H h h':=by
 have nG:∀ i,G i->¬ Amv np c i:=by
  rintro i hi ⟨d,hd,rfl⟩
  exact(a.apart.2.2.2.2 d hd).2 hi
 refine⟨⟨⟨ch.at hb a.mir.mir (a.Js.A3k a.mir.mir trivial),ch.at hb a.mir.Anm (a.Js.A3k a.mir.Anm trivial)⟩,P,Z,a.drv.chg ch nG,a.apart,a.sub⟩,ch.mono ?_⟩
 rintro i ⟨d,hd,rfl⟩
 exact(a.sub.2.2.2.2.2 d hd).2
end
theorem Ad5.ext {h h':Aa}{m:Nat}{S:Mi}{H:Nat->Prop}(s:Ad5 h m S H)(hb:HB h)(x:Ext h h'):Ad5 h' m S H:=by
 obtain⟨D,p,bl,ql,np,q,c,G,a⟩:=s.Rk
 have g:∀ i o,h.get i=some o->h'.get i=some o:=fun i o g=>x.at hb g
 exact⟨fun i hi=>Nat.lt_of_lt_of_le (s.lt i hi) x.next,D,p,bl,ql,np,q,c,G,a.mir.ext g,a.Js.ext g,a.psz,a.drv.ext x,a.apart,a.sub⟩
end Go.Ev

namespace Go.Ev
open Go.Proofs
set_option maxRecDepth 100000
variable {K:Nat}{disp:Nat->Option FT}
theorem Ad5.mono {h:Aa}{m:Nat}{S:Mi}{H H':Nat->Prop}(s:Ad5 h m S H)(f:∀ i,H i->H' i)(l:∀ i,H' i->i<h.next):Ad5 h m S H':=by
 obtain⟨D,p,bl,ql,np,q,c,G,a⟩:=s.Rk
 exact⟨l,D,p,bl,ql,np,q,c,G,a.mir,a.Js,a.psz,a.drv,a.apart,⟨fun i hi=>f _ (a.sub.1 i hi),f _ a.sub.2.1,f _ a.sub.2.2.1,f _ a.sub.2.2.2.1,f _ a.sub.2.2.2.2.1,fun d hd=>⟨f _ (a.sub.2.2.2.2.2 d hd).1,f _ (a.sub.2.2.2.2.2 d hd).2⟩⟩⟩
end Go.Ev

namespace Go.Ev
open Go.Proofs
set_option maxRecDepth 100000
variable {K:Nat}{disp:Nat->Option FT}
end Go.Ev

namespace Go.Ev
open Go.Proofs
set_option maxRecDepth 100000
variable {K:Nat}{disp:Nat->Option FT}
end Go.Ev

namespace Go.Ev
open Go.Proofs
set_option maxRecDepth 100000
variable {K:Nat}{disp:Nat->Option FT}
end Go.Ev
