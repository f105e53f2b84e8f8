import Derived.Test.YtpkcfamminlmaaaGreatYa
import Derived.Test.YtpkcfamminlmaaaGreatXc
import Derived.Test.YtpkcfamminlmaaaGreatXb
set_option linter.unusedVariables false
set_option linter.unusedSimpArgs false
set_option linter.unusedSectionVars false
namespace Go.Ev
open Go.Proofs
set_option maxRecDepth 100000
variable {K : Nat}
def holdsB (g : Gm) (z off : Int) : Bool:=rtB g && (wi z 0 (g.D * g.Z - 1) && wi off 0 (g.S - 1))
theorem geom_holds_ok {g : Gm} {h : AHeap} (hb : HB h) (z off : Int) : Ok (geom_Geom_Holds K (gV g) (I z) (I off) h) fun v h'=>v = .bool (holdsB g z off)/\Ext h h':=by
 simp only [geom_Geom_Holds,gV,walkE]
 have x1 : Ext h (h.new (.cells (gL g) 23)):=Chg.new _ _
 have g1 : (h.new (.cells (gL g) 23)).get h.next = some (.cells (gL g) 23):=get_new_same _ _
 generalize h.new (.cells (gL g) 23) = h1 at x1 g1 ⊢
 have hb1:=x1.hb hb
 rw [ldsN g1 rfl,cutR_all (show (gL g).length = 6 from rfl)]
 simp only [oB_s]
 rw [show EV.agg (gL g) = gV g from rfl]
 refine (geom_right_ok (K:=K) g h1).andE ?_
 rintro _ h2 ⟨rfl,x2⟩
 have hb2:=x2.hb hb1
 have g2:=x2.at hb1 g1
 unfold holdsB
 cases hr : rtB g with
 | false=>
  simp only [walkE,walkI,geom_Geom_Holds_j1,geom_Geom_Holds_j0,Bool.false_and]
  exact .ret ⟨rfl,x1.trans x2⟩
 | true=>
  have s:=rtB_sm hr
  have:=s.d0; have:=s.d1; have:=s.z0; have:=s.z1; have:=s.s0; have:=s.s1
  obtain ⟨m0,m1⟩:=mul_bd (a:=g.D) (b:=g.Z) (A:=8) (B:=64) (by omega) (by omega) (by omega) (by omega)
  simp only [walkE,walkI,Bool.true_and]
  rw [ldsN g2 rfl,cutR_all (show (gL g).length = 6 from rfl)]
  simp only [oB_s]
  rw [show EV.agg (gL g) = gV g from rfl,geom_all_eq s,andE_some]
  have x3 : Ext h2 (h2.new (.cells (gL g) 23)):=Chg.new _ _
  have g3:=x3.at hb2 g2
  generalize h2.new (.cells (gL g) 23) = h3 at x3 g3 ⊢
  simp only [I,walkI]
  rw [wi64 (by omega) (by omega)]
  have w1:=geom_within_eq (K:=K) z 0 (g.D * g.Z - 1) h3
  simp only [I] at w1
  rw [w1,andE_some]
  cases wi z 0 (g.D * g.Z - 1) with
  | false=>
   simp only [walkE,walkI,geom_Geom_Holds_j1,geom_Geom_Holds_j0,Bool.false_and]
   exact .ret ⟨rfl,(x1.trans x2).trans x3⟩
  | true=>
   simp only [walkE,walkI,geom_Geom_Holds_j1]
   rw [lds g3 rfl,show (gL g)[2]? = some (I g.S) from rfl]
   simp only [oB_s,I,walkI]
   rw [wi64 (by omega) (by omega)]
   have w2:=geom_within_eq (K:=K) off 0 (g.S - 1) h3
   simp only [I] at w2
   rw [w2,andE_some]
   simp only [geom_Geom_Holds_j0,walkE,Bool.true_and]
   exact .ret ⟨rfl,(x1.trans x2).trans x3⟩
end Go.Ev

namespace Go.Ev
open Go.Proofs
set_option maxRecDepth 100000
variable {K : Nat}
structure Me where
 state : Int
 zone : Int
 mate : Int
 off : Int
 seq : Int
 sum : Int
def Me.cells (m : Me) : List EV:=[I m.state,I m.zone,I m.mate,I m.off,I m.seq,I m.sum]
def meB (g : Gm) (m : Me) : Bool:=holdsB g m.zone m.off && (holdsB g m.mate m.off && (decide (¬ domI g m.zone = domI g m.mate) && (decide (1<=m.seq) && (decide (m.seq<=281474976710655) && (decide (0<=m.sum) && decide (m.sum<=4294967295))))))
def Rng (z : Int) : Prop:=-9223372036854775808<=z/\z<=9223372036854775807
theorem bmap_right_ok {g : Gm} {m : Me} {h : AHeap} (hb : HB h) (hs : m.state = 1) (hz : Rng m.zone) (hm : Rng m.mate) : Ok (bmap_Entry_Right K (.agg m.cells) (gV g) h) fun v h'=>v = .bool (meB g m)/\Ext h h':=by
 simp only [bmap_Entry_Right,gV,walkE]
 have x1 : Ext h ((h.new (.cells m.cells 83)).new (.cells (gL g) 23)):=(Chg.new _ _).andNew _
 have g2 : ((h.new (.cells m.cells 83)).new (.cells (gL g) 23)).get h.next = some (.cells m.cells 83):=by
  rw [get_new_lt _ (Nat.lt_succ_self _)]; exact get_new_same _ _
 have g3 : ((h.new (.cells m.cells 83)).new (.cells (gL g) 23)).get (h.next + 1) = some (.cells (gL g) 23):=get_new_same _ _
 rw [show (h.new (.cells m.cells 83)).next = h.next + 1 from rfl]
 generalize (h.new (.cells m.cells 83)).new (.cells (gL g) 23) = h1 at x1 g2 g3 ⊢
 have hb1:=x1.hb hb
 have l0 : m.cells[0]? = some (I 1):=by rw [<-hs]; rfl
 have l1 : m.cells[1]? = some (I m.zone):=rfl
 have l2 : m.cells[2]? = some (I m.mate):=rfl
 have l3 : m.cells[3]? = some (I m.off):=rfl
 have l4 : m.cells[4]? = some (I m.seq):=rfl
 have l5 : m.cells[5]? = some (I m.sum):=rfl
 have gl : (gL g).length = 6:=rfl
 have lt2:=hb1 _ _ g2
 have lt3:=hb1 _ _ g3
 rw [lds g2 rfl,l0]
 simp only [oB_s,I,walkI]
 simp only [show ¬ ((1 : Int) = 0) by decide,show ¬ ((1 : Int) = 2) by decide,decide_false,walkE,bmap_Entry_Right_j7,walkI,decide_true]
 simp only [walkE,loadE_lt lt3,walkD,ldsN g3 rfl,cutR_all gl,loadE_lt lt2,lds g2 rfl,l1,l3,oB_s]
 rw [show EV.agg (gL g) = gV g from rfl]
 refine Ok.bigE (by kernel_rfl) (by kernel_rfl) (geom_holds_ok (K:=K) (lift_hb hb1) m.zone m.off) (fun _ _ p=>p.2) ?_
 rintro _ _ h2 ⟨rfl,_⟩ _ x2
 have hb2:=x2.hb hb1
 have g2:=x2.at hb1 g2
 have g3:=x2.at hb1 g3
 unfold meB
 cases hh : holdsB g m.zone m.off with
 | false=>
  simp only [walkE,walkI,bmap_Entry_Right_j6,bmap_Entry_Right_j5,bmap_Entry_Right_j4,bmap_Entry_Right_j3,bmap_Entry_Right_j2,bmap_Entry_Right_j1,Bool.false_and]
  exact .ret ⟨rfl,x1.trans x2⟩
 | true=>
 have hrt : rtB g = true:=by unfold holdsB at hh; exact ((Bool.and_eq_true _ _).mp hh).1
 have sm:=rtB_sm hrt
 simp only [walkE,walkI,loadE_lt lt3,walkD,ldsN g3 rfl,cutR_all gl,loadE_lt lt2,lds g2 rfl,l2,l3,oB_s]
 rw [show EV.agg (gL g) = gV g from rfl]
 refine Ok.bigE (by kernel_rfl) (by kernel_rfl) (geom_holds_ok (K:=K) (lift_hb hb2) m.mate m.off) (fun _ _ p=>p.2) ?_
 rintro _ _ h3 ⟨rfl,_⟩ _ x3
 have hb3:=x3.hb hb2
 have g2:=x3.at hb2 g2
 have g3:=x3.at hb2 g3
 have x13:=(x1.trans x2).trans x3
 simp only [Bool.true_and]
 cases holdsB g m.mate m.off with
 | false=>
  simp only [walkE,walkI,bmap_Entry_Right_j6,bmap_Entry_Right_j5,bmap_Entry_Right_j4,bmap_Entry_Right_j3,bmap_Entry_Right_j2,bmap_Entry_Right_j1,Bool.false_and]
  exact .ret ⟨rfl,x13⟩
 | true=>
 simp only [walkE,walkI,bmap_Entry_Right_j6,loadE_lt lt3,walkD,ldsN g3 rfl,cutR_all gl,loadE_lt lt2,lds g2 rfl,l1,oB_s,Bool.true_and]
 rw [show EV.agg (gL g) = gV g from rfl]
 refine Ok.bigE (by kernel_rfl) (by kernel_rfl) (geom_domain_ok sm m.zone hz _) (fun _ _ p=>p.2) ?_
 rintro _ _ h4 ⟨rfl,_⟩ _ x4
 have hb4:=x4.hb hb3
 have g2:=x4.at hb3 g2
 have g3:=x4.at hb3 g3
 simp only [walkE,walkI,loadE_lt lt3,walkD,ldsN g3 rfl,cutR_all gl,loadE_lt lt2,lds g2 rfl,l2,oB_s]
 rw [show EV.agg (gL g) = gV g from rfl]
 refine Ok.bigE (by kernel_rfl) (by kernel_rfl) (geom_domain_ok sm m.mate hm _) (fun _ _ p=>p.2) ?_
 rintro _ _ h5 ⟨rfl,_⟩ _ x5
 have hb5:=x5.hb hb4
 have g2:=x5.at hb4 g2
 have x15:=(x13.trans x4).trans x5
 simp only [walkE,walkI,I,bmap_Entry_Right_j5]
 cases decide (¬ domI g m.zone = domI g m.mate) with
 | false=>
  simp only [walkE,walkI,bmap_Entry_Right_j4,bmap_Entry_Right_j3,bmap_Entry_Right_j2,bmap_Entry_Right_j1,Bool.false_and]
  exact .ret ⟨rfl,x15⟩
 | true=>
 simp only [walkE,walkI,walkD,loadE_lt lt2,lds g2 rfl,l4,oB_s,I,Bool.true_and,bmap_Entry_Right_j4]
 cases decide (1<=m.seq) with
 | false=>
  simp only [walkE,walkI,bmap_Entry_Right_j3,bmap_Entry_Right_j2,bmap_Entry_Right_j1,Bool.false_and]
  exact .ret ⟨rfl,x15⟩
 | true=>
 simp only [walkE,walkI,walkD,loadE_lt lt2,lds g2 rfl,l4,oB_s,I,Bool.true_and,bmap_Entry_Right_j3]
 cases decide (m.seq<=281474976710655) with
 | false=>
  simp only [walkE,walkI,bmap_Entry_Right_j2,bmap_Entry_Right_j1,Bool.false_and]
  exact .ret ⟨rfl,x15⟩
 | true=>
 simp only [walkE,walkI,walkD,loadE_lt lt2,lds g2 rfl,l5,oB_s,I,Bool.true_and,bmap_Entry_Right_j2]
 cases decide (0<=m.sum) with
 | false=>
  simp only [walkE,walkI,bmap_Entry_Right_j1,Bool.false_and]
  exact .ret ⟨rfl,x15⟩
 | true=>
 simp only [walkE,walkI,walkD,loadE_lt lt2,lds g2 rfl,l5,oB_s,I,Bool.true_and,bmap_Entry_Right_j1]
 exact .ret ⟨rfl,x15⟩
end Go.Ev

namespace Go.Ev
open Go.Proofs
set_option maxRecDepth 100000
variable {K : Nat}
structure Mi where
 g : Gm
 dr : Drv
 ps : Nat->List Int
 bad : Nat->Int
 a : Int
 b : Int
 u : Int
structure MirA (h : AHeap) (m D p bl ql np : Nat) (q c : Nat->Nat) (S : Mi) (G H : Nat->Prop) : Prop where
 mir : MirAt h m D p bl (S.g.D * S.g.Z).toNat S.g S.a S.b S.u S.bad
 pool : PoolAt h p ql np q c S.g S.ps
 psz : PoolSz np S.g S.ps
 drv : DrvS h D S.dr G
 apart : ¬ G m/\¬ G bl/\¬ G p/\¬ G ql/\∀ d,d < np->¬ G (q d)/\¬ G (c d)
 sub : (∀ i,G i->H i)/\H m/\H bl/\H p/\H ql/\∀ d,d < np->H (q d)/\H (c d)
structure MirS (h : AHeap) (m : Nat) (S : Mi) (H : Nat->Prop) : Prop where
 lt : ∀ i,H i->i < h.next
 at' : ∃ D p bl ql np q c G,MirA h m D p bl ql np q c S G H
def Mi.isBad (S : Mi) (z : Int) : Bool:=decide (0<=domI S.g z) && decide (S.bad z.toNat = 1)
theorem mirror_bad_ok {h : AHeap} {m : Nat} {S : Mi} {H : Nat->Prop} (s : MirS h m S H) (hb : HB h) {z : Int} (hz : Rng z) :
 Ok (mirror_Mirror_Bad K (.ptr m 0) (I z) h) fun v h'=>v = .bool (S.isBad z)/\Ext h h':=by
 obtain ⟨D,p,bl,ql,np,q,c,G,a⟩:=s.at'
 have sm:=a.psz.sm
 simp only [mirror_Mirror_Bad,walkE,a.mir.geom]
 refine (geom_domain_ok sm z hz h).andE ?_
 rintro _ h1 ⟨rfl,x1⟩
 have M1:=a.mir.ext fun i o g=>x1.at hb g
 unfold Mi.isBad
 simp only [I,walkI]
 rcases domI_bd sm z with hd | ⟨d0,d1,d2,d3,d4⟩
 ·rw [hd]
  simp only [show ¬ ((0 : Int)<=-1) by decide,decide_false,walkE,mirror_Mirror_Bad_j0,Bool.false_and]
  exact .ret ⟨rfl,x1⟩
 ·rw [decide_eq_true d0]
  simp only [walkE,M1.badS]
  obtain ⟨j,rfl⟩ : ∃ j : Nat,z = j:=⟨z.toNat,by omega⟩
  have hj : j < (S.g.D * S.g.Z).toNat:=by omega
  rw [ixSE_n hj,lds M1.bads rfl]
  rw [show ((List.range (S.g.D * S.g.Z).toNat).map fun z=>I (S.bad z))[0 + j * 1]? = some (I (S.bad j)) by rw [Nat.zero_add,Nat.mul_one,List.getElem?_map,List.getElem?_range hj]; rfl]
  simp only [oB_s,I,walkI,mirror_Mirror_Bad_j0,walkE,Bool.true_and]
  exact .ret ⟨rfl,x1⟩
end Go.Ev

namespace Go.Ev
open Go.Proofs
set_option maxRecDepth 100000
variable {K : Nat}
section
variable {h h' : AHeap} {m D p bl ql np : Nat} {q c : Nat->Nat} {S : Mi} {G H : Nat->Prop} (a : MirA h m D p bl ql np q c S G H) (hb : HB h)
include a hb
theorem MirA.lts : m < h.next/\bl < h.next/\p < h.next/\ql < h.next/\∀ d,d < np->q d < h.next/\c d < h.next:=
 ⟨hb _ _ a.mir.mir,hb _ _ a.mir.bads,hb _ _ a.pool.pool,hb _ _ a.pool.row,fun d hd=>⟨hb _ _ (a.pool.que d hd),hb _ _ (a.pool.chan d hd)⟩⟩
theorem MirA.putDrv {dr : Drv} (d : DrvS h' D dr (Grow G h h')) (ch : Chg G h h') : MirA h' m D p bl ql np q c { S with dr:=dr } (Grow G h h') (Grow H h h'):=by
 obtain ⟨l1,l2,l3,l4,l5⟩:=a.lts hb
 obtain ⟨n1,n2,n3,n4,n5⟩:=a.apart
 have nf : ∀ {i},¬ G i->i < h.next->¬ Grow G h h' i:=fun y l z=>by
  rcases z with z | z
  ·exact y z
  ·omega
 refine ⟨⟨ch.at hb a.mir.mir n1,ch.at hb a.mir.bads n2⟩,?_,a.psz,d,⟨nf n1 l1,nf n2 l2,nf n3 l3,nf n4 l4,fun d hd=>⟨nf (n5 d hd).1 (l5 d hd).1,nf (n5 d hd).2 (l5 d hd).2⟩⟩,?_⟩
 ·exact ⟨a.pool.pos,ch.at hb a.pool.pool n3,ch.at hb a.pool.row n4,fun d hd=>ch.at hb (a.pool.que d hd) (n5 d hd).1,fun d hd=>ch.at hb (a.pool.chan d hd) (n5 d hd).2,a.pool.inj⟩
 ·obtain ⟨s1,s2,s3,s4,s5,s6⟩:=a.sub
  refine ⟨fun i hi=>?_,.inl s2,.inl s3,.inl s4,.inl s5,fun d hd=>⟨.inl (s6 d hd).1,.inl (s6 d hd).2⟩⟩
  rcases hi with hi | hi
  ·exact .inl (s1 i hi)
  ·exact .inr hi
theorem MirA.putPool {ps : Nat->List Int} (P : PoolAt h' p ql np q c S.g ps) (Z : PoolSz np S.g ps) (ch : Chg (Chans np c) h h') : MirA h' m D p bl ql np q c { S with ps:=ps } G H/\Chg H h h':=by
 have nG : ∀ i,G i->¬ Chans np c i:=by
  rintro i hi ⟨d,hd,rfl⟩
  exact (a.apart.2.2.2.2 d hd).2 hi
 refine ⟨⟨⟨ch.at hb a.mir.mir (a.pool.notC a.mir.mir trivial),ch.at hb a.mir.bads (a.pool.notC a.mir.bads trivial)⟩,P,Z,a.drv.chg ch nG,a.apart,a.sub⟩,ch.mono ?_⟩
 rintro i ⟨d,hd,rfl⟩
 exact (a.sub.2.2.2.2.2 d hd).2
end
theorem MirS.ext {h h' : AHeap} {m : Nat} {S : Mi} {H : Nat->Prop} (s : MirS h m S H) (hb : HB h) (x : Ext h h') : MirS h' m S H:=by
 obtain ⟨D,p,bl,ql,np,q,c,G,a⟩:=s.at'
 have g : ∀ i o,h.get i = some o->h'.get i = some o:=fun i o g=>x.at hb g
 exact ⟨fun i hi=>Nat.lt_of_lt_of_le (s.lt i hi) x.next,D,p,bl,ql,np,q,c,G,a.mir.ext g,a.pool.ext g,a.psz,a.drv.ext x,a.apart,a.sub⟩
end Go.Ev

namespace Go.Ev
open Go.Proofs
set_option maxRecDepth 100000
variable {K : Nat} {disp : Nat->Option FT}
theorem MirS.mono {h : AHeap} {m : Nat} {S : Mi} {H H' : Nat->Prop} (s : MirS h m S H) (f : ∀ i,H i->H' i) (l : ∀ i,H' i->i < h.next) : MirS h m S H':=by
 obtain ⟨D,p,bl,ql,np,q,c,G,a⟩:=s.at'
 exact ⟨l,D,p,bl,ql,np,q,c,G,a.mir,a.pool,a.psz,a.drv,a.apart,⟨fun i hi=>f _ (a.sub.1 i hi),f _ a.sub.2.1,f _ a.sub.2.2.1,f _ a.sub.2.2.2.1,f _ a.sub.2.2.2.2.1,fun d hd=>⟨f _ (a.sub.2.2.2.2.2 d hd).1,f _ (a.sub.2.2.2.2.2 d hd).2⟩⟩⟩
noncomputable def Mi.leave (S : Mi) (z u : Int) : Mi × Int:=
 if z = -1\/S.isBad z = true\/u = S.g.S then (S,0) else
 if u = 0 then ({ S with ps:=(giveF S.g S.g.D.toNat S.ps z).2 },(giveF S.g S.g.D.toNat S.ps z).1) else
 ({ S with dr:=(S.dr.finish z).1 },(S.dr.finish z).2)
theorem mirror_leave_ok (A : Agree disp) (hK : 10000 < K) {d : Nat} (hd : 16<=d) {h : AHeap} {m : Nat} {S : Mi} {H : Nat->Prop} (hdue : Dues disp K S.dr) (s : MirS h m S H) (hb : HB h) {z : Int} (hz : Rng z) (u : Int) :
 Ok (callC TT disp K d false 123 [.ptr m 0,I z,I u] h) fun v h'=>v = I (S.leave z u).2/\MirS h' m (S.leave z u).1 (Grow H h h')/\Chg H h h'/\HB h':=by
 obtain ⟨e,rfl⟩ : ∃ k,d = k + 1:=⟨d - 1,by omega⟩
 rw [mirror_Mirror_leave_run A (by omega)]
 have same : ∀ h1,Ext h h1->(z = -1\/S.isBad z = true\/u = S.g.S)->Ok (some (.int .i64 0,h1)) fun v h'=>v = I (S.leave z u).2/\MirS h' m (S.leave z u).1 (Grow H h h')/\Chg H h h'/\HB h':=fun h1 x hc=>by
  unfold Mi.leave
  rw [if_pos hc]
  obtain ⟨_,D,p,bl,ql,np,q,c,G,a⟩:=s.ext hb x
  refine .ret ⟨rfl,⟨Grow.lt s.lt x.next,D,p,bl,ql,np,q,c,G,⟨a.mir,a.pool,a.psz,a.drv,a.apart,⟨fun i hi=>.inl (a.sub.1 i hi),.inl a.sub.2.1,.inl a.sub.2.2.1,.inl a.sub.2.2.2.1,.inl a.sub.2.2.2.2.1,fun d hd=>⟨.inl (a.sub.2.2.2.2.2 d hd).1,.inl (a.sub.2.2.2.2.2 d hd).2⟩⟩⟩⟩,Ext.to x,x.hb hb⟩
 simp only [mirror_Mirror_leave,I,walkI]
 by_cases h1 : z = -1
 ·rw [decide_eq_true h1]
  simp only [walkE,walkI,mirror_Mirror_leave_j2,mirror_Mirror_leave_j1]
  exact same h (Chg.refl _) (.inl h1)
 ·rw [decide_eq_false h1]
  simp only [walkE]
  refine (mirror_bad_ok (K:=K) s hb hz).andE ?_
  rintro _ h2 ⟨rfl,x2⟩
  have hb2:=x2.hb hb
  have s2:=s.ext hb x2
  obtain ⟨lt2,D,p,bl,ql,np,q,c,G,a⟩:=s2
  have e1 : ld1E (.ptr m (1 + 2)) h2 = fun k=>k (I S.g.S):=by
   funext k
   rw [lds a.mir.mir rfl]; rfl
  cases hbd : S.isBad z with
  | true=>
   simp only [walkE,walkI,mirror_Mirror_leave_j2,mirror_Mirror_leave_j1]
   exact same h2 x2 (.inr (.inl hbd))
  | false=>
   simp only [walkE,walkI,mirror_Mirror_leave_j2]
   rw [e1]
   simp only [I,walkI]
   by_cases hu : u = S.g.S
   ·rw [decide_eq_true hu]
    simp only [walkE,walkI,mirror_Mirror_leave_j1]
    exact same h2 x2 (.inr (.inr hu))
   ·rw [decide_eq_false hu]
    have hc : ¬ (z = -1\/S.isBad z = true\/u = S.g.S):=by
     rintro (y | y | y)
     ·exact h1 y
     ·rw [hbd] at y; cases y
     ·exact hu y
    unfold Mi.leave
    rw [if_neg hc]
    simp only [walkE,walkI,mirror_Mirror_leave_j1]
    by_cases h0 : u = 0
    ·rw [decide_eq_true h0,if_pos h0]
     simp only [walkE,a.mir.pool]
     refine (give_ok (K:=K) A a.pool hb2 a.psz (by omega) (d:=e) (by omega) z hz).andE ?_
     rintro _ h3 ⟨c3,hb3,rfl,P3,Z3⟩
     obtain ⟨a3,cH⟩:=a.putPool hb2 P3 Z3 c3
     have cc : Chg H h h3:=(Ext.to x2).trans cH
     have hn:=a.psz.nd
     subst hn
     refine .ret ⟨rfl,MirS.mono (H:=H) ⟨fun i hi=>Nat.lt_of_lt_of_le (s.lt i hi) cc.next,D,p,bl,ql,_,q,c,G,a3⟩ (fun _=>.inl) (Grow.lt s.lt cc.next),cc,hb3⟩
    ·rw [decide_eq_false h0,if_neg h0]
     simp only [walkE,mirror_Mirror_leave_j0,a.mir.drive]
     refine (drv_finish_ok (K:=K) A (d:=e) (by omega) hdue a.drv hb2 z).andE ?_
     rintro _ h3 ⟨rfl,d3,c3,hb3⟩
     have a3:=a.putDrv hb2 d3 c3
     have cH : Chg H h2 h3:=c3.mono a.sub.1
     have cc : Chg H h h3:=(Ext.to x2).trans cH
     refine .ret ⟨rfl,MirS.mono (H:=Grow H h2 h3) ⟨Grow.lt lt2 c3.next,D,p,bl,ql,np,q,c,_,a3⟩ (fun i hi=>?_) (Grow.lt s.lt cc.next),cc,hb3⟩
     rcases hi with hi | hi
     ·exact .inl hi
     ·exact .inr ⟨Nat.le_trans x2.next hi.1,hi.2⟩
end Go.Ev

namespace Go.Ev
open Go.Proofs
set_option maxRecDepth 100000
variable {K : Nat} {disp : Nat->Option FT}
theorem mirC_set (D : Nat) (g : Gm) (p bl n : Nat) (a b u a' b' u' : Int) : (((mirC D g p bl n a b u).set 265 (I a')).set 266 (I b')).set 267 (I u') = mirC D g p bl n a' b' u':=by
 unfold mirC
 have hl : ([EV.ptr D 0] ++ gL g ++ crcCells).length = 263:=by rw [List.length_append,crc_len]; rfl
 rw [List.set_append_right _ _ (by omega),hl]
 show ((([EV.ptr D 0] ++ gL g ++ crcCells) ++ [EV.ptr p 0,.slice bl 0 n n false,I a',I b,I u]).set 266 (I b')).set 267 (I u') = _
 rw [List.set_append_right _ _ (by omega),hl]
 show (([EV.ptr D 0] ++ gL g ++ crcCells) ++ [EV.ptr p 0,.slice bl 0 n n false,I a',I b',I u]).set 267 (I u') = _
 rw [List.set_append_right _ _ (by omega),hl]
 rfl
theorem MirA.putOpen {h h' : AHeap} {m D p bl ql np : Nat} {q c : Nat->Nat} {S : Mi} {G H : Nat->Prop} (a : MirA h m D p bl ql np q c S G H) (hb : HB h) {a' b' u' : Int} (g : h'.get m = some (.cells (mirC D S.g p bl (S.g.D * S.g.Z).toNat a' b' u') 149)) (ch : Chg (fun i=>i = m) h h') :
 MirA h' m D p bl ql np q c { S with a:=a',b:=b',u:=u' } G H:=by
 have e:=a.mir.mir
 have k : ∀ i o,h.get i = some o->(∀ l,o ≠ .cells l 149)->h'.get i = some o:=fun i o gi ho=>ch.at hb gi fun y=>by
  subst y; rw [e] at gi; cases gi; exact ho _ rfl
 refine ⟨⟨g,k _ _ a.mir.bads (by intros; simp)⟩,⟨a.pool.pos,k _ _ a.pool.pool (by intros; simp),k _ _ a.pool.row (by intros; simp),fun d hd=>k _ _ (a.pool.que d hd) (by intros; simp),fun d hd=>k _ _ (a.pool.chan d hd) (by intros; simp),a.pool.inj⟩,a.psz,a.drv.chg ch fun i hi y=>?_,a.apart,a.sub⟩
 subst y; exact a.apart.1 hi
def DuesUpTo (disp : Nat->Option FT) (K n : Nat) : Prop:=∀ T : Drv,T.ev.length<=n->Dues disp K T
theorem dueF_len : ∀ (l : List Evt) (D : Dv) (k : List Evt),(dueF l D k).ev.length<=l.length
 | [],_,_=>Nat.le_refl _
 | e :: r,D,k=>by
  unfold dueF
  split
  ·exact Nat.le_refl _
  ·have:=dueF_len r (D.happen e) (k ++ [e])
   exact Nat.le_succ_of_le this
theorem Drv.begin_len (S : Drv) (i : Int) : (S.begin i).ev.length<=S.ev.length:=by
 unfold Drv.begin
 split
 ·exact dueF_len _ _ _
 ·exact Nat.le_refl _
theorem Mi.leave_len (S : Mi) (z u : Int) : (S.leave z u).1.dr.ev.length<=S.dr.ev.length:=by
 unfold Mi.leave
 split
 ·exact Nat.le_refl _
 ·split
  ·exact Nat.le_refl _
  ·exact S.dr.begin_len z
noncomputable def Mi.close (S : Mi) : Mi × Int:=
 (((({ S with a:=-1,b:=-1,u:=0 } : Mi).leave S.a S.u).1.leave S.b S.u).1,if (({ S with a:=-1,b:=-1,u:=0 } : Mi).leave S.a S.u).2 = 0 then ((({ S with a:=-1,b:=-1,u:=0 } : Mi).leave S.a S.u).1.leave S.b S.u).2 else (({ S with a:=-1,b:=-1,u:=0 } : Mi).leave S.a S.u).2)
theorem mirror_close_ok (A : Agree disp) (hK : 10000 < K) {d : Nat} (hd : 17<=d) {n : Nat} (hdue : DuesUpTo disp K n) {h : AHeap} {m : Nat} {S : Mi} {H : Nat->Prop} (hn : S.dr.ev.length<=n) (s : MirS h m S H) (hb : HB h) (ha : Rng S.a) (hbb : Rng S.b) :
 Ok (callC TT disp K d false 70 [.ptr m 0] h) fun v h'=>v = I S.close.2/\MirS h' m S.close.1 (Grow H h h')/\Chg H h h'/\HB h':=by
 obtain ⟨e,rfl⟩ : ∃ k,d = k + 1:=⟨d - 1,by omega⟩
 rw [mirror_Mirror_Close_run A (by omega)]
 obtain ⟨lt,D,p,bl,ql,np,q,c,G,a⟩:=s
 have ml:=mirC_len D S.g p bl (S.g.D * S.g.Z).toNat S.a S.b S.u
 simp only [mirror_Mirror_Close,walkE,a.mir.oa,a.mir.ob,a.mir.ou]
 refine Ok.st1' a.mir.mir hb rfl rfl (by omega) ?_
 intro h1 g1 c1 hb1
 try simp only [walkE]
 refine Ok.st1' g1 hb1 rfl rfl (by rw [List.length_set]; omega) ?_
 intro h2 g2 c2 hb2
 try simp only [walkE]
 refine Ok.st1' g2 hb2 rfl rfl (by rw [List.length_set,List.length_set]; omega) ?_
 intro h3 g3 c3 hb3
 rw [show EV.int .i64 (-1) = I (-1) from rfl,show EV.int .i64 0 = I 0 from rfl,mirC_set] at g3
 have c03:=(c1.trans c2).trans c3
 have a3:=a.putOpen hb g3 c03
 have cH : Chg H h h3:=c03.mono fun i hi=>by subst hi; exact a.sub.2.1
 have s3 : MirS h3 m { S with a:=-1,b:=-1,u:=0 } H:=⟨fun i hi=>Nat.lt_of_lt_of_le (lt i hi) cH.next,D,p,bl,ql,np,q,c,G,a3⟩
 unfold Mi.close
 refine (mirror_leave_ok (K:=K) (S:={ S with a:=-1,b:=-1,u:=0 }) A hK (d:=e) (by omega) (hdue S.dr hn) s3 hb3 ha S.u).andE ?_
 have len1:=Mi.leave_len { S with a:=-1,b:=-1,u:=0 } S.a S.u
 generalize ({ S with a:=-1,b:=-1,u:=0 } : Mi).leave S.a S.u = r at len1 ⊢
 rintro _ h4 ⟨rfl,s4,c4,hb4⟩
 refine (mirror_leave_ok (K:=K) A hK (d:=e) (by omega) (hdue _ (Nat.le_trans len1 hn)) s4 hb4 hbb S.u).andE ?_
 rintro _ h5 ⟨rfl,s5,c5,hb5⟩
 have cc4 : Chg H h h4:=cH.trans c4
 have cc : Chg H h h5:=cc4.then c5 fun i hi hl=>by
  rcases hi with y | y
  ·exact y
  ·have:=cH.next; omega
 have s6 : MirS h5 m (r.1.leave S.b S.u).1 (Grow H h h5):=s5.mono (fun i hi=>by
  rcases hi with (y | y) | y
  ·exact .inl y
  ·have:=cH.next; have:=c5.next; exact .inr ⟨by omega,by omega⟩
  ·have:=cc4.next; exact .inr ⟨by omega,y.2⟩) (Grow.lt lt cc.next)
 simp only [I,walkI]
 by_cases h0 : r.2 = 0
 ·rw [decide_eq_true h0,if_pos h0]
  simp only [walkE,mirror_Mirror_Close_j0]
  exact .ret ⟨rfl,s6,cc,hb5⟩
 ·rw [decide_eq_false h0,if_neg h0]
  simp only [walkE,mirror_Mirror_Close_j0]
  exact .ret ⟨rfl,s6,cc,hb5⟩
end Go.Ev

namespace Go.Ev
open Go.Proofs
set_option maxRecDepth 100000
variable {K : Nat} {disp : Nat->Option FT}
def Mi.dropped (S : Mi) (z : Int) : Nat->List Int:=if domI S.g z < 0 then S.ps else upd S.ps (domI S.g z).toNat (but z (S.ps (domI S.g z).toNat))
def Mi.mark (S : Mi) (z : Int) : Mi:={ S with bad:=fun i=>if i = z.toNat then 1 else S.bad i,ps:=S.dropped z }
noncomputable def Mi.quarantine (S : Mi) (z : Int) : Mi × Int:=
 if domI S.g z < 0 then (S,13) else if S.isBad z = true then (S,16) else
 if ¬ z = S.a/\¬ z = S.b then (S.mark z,0) else ((S.mark z).close.1,if (S.mark z).close.2 = 34 then 34 else 0)
theorem MirA.putBad {h h' : AHeap} {m D p bl ql np : Nat} {q c : Nat->Nat} {S : Mi} {G H : Nat->Prop} (a : MirA h m D p bl ql np q c S G H) (hb : HB h) {bad' : Nat->Int} (g : h'.get bl = some (.cells ((List.range (S.g.D * S.g.Z).toNat).map fun z=>I (bad' z)) 3)) (ch : Chg (fun i=>i = bl) h h') :
 MirA h' m D p bl ql np q c { S with bad:=bad' } G H:=by
 have e:=a.mir.bads
 have k : ∀ i o,h.get i = some o->(∀ l,o ≠ .cells l 3)->h'.get i = some o:=fun i o gi ho=>ch.at hb gi fun y=>by
  subst y; rw [e] at gi; cases gi; exact ho _ rfl
 refine ⟨⟨k _ _ a.mir.mir (by intros; simp),g⟩,⟨a.pool.pos,k _ _ a.pool.pool (by intros; simp),k _ _ a.pool.row (by intros; simp),fun d hd=>k _ _ (a.pool.que d hd) (by intros; simp),fun d hd=>k _ _ (a.pool.chan d hd) (by intros; simp),a.pool.inj⟩,a.psz,a.drv.chg ch fun i hi y=>?_,a.apart,a.sub⟩
 subst y; exact a.apart.2.1 hi
theorem Grow.up {H : Nat->Prop} {h h1 h2 : AHeap} (a : h.next<=h1.next) (b : h1.next<=h2.next) {i : Nat} (g : Grow H h1 h2 i) : Grow H h h2 i:=by
 rcases g with y | y
 ·exact .inl y
 ·exact .inr ⟨by omega,y.2⟩
theorem mirror_quarantine_ok (A : Agree disp) (hK : 10000 < K) {d : Nat} (hd : 18<=d) {n : Nat} (hdue : DuesUpTo disp K n) {h : AHeap} {m : Nat} {S : Mi} {H : Nat->Prop} (hn : S.dr.ev.length<=n) (s : MirS h m S H) (hb : HB h) (ha : Rng S.a) (hbb : Rng S.b) {z : Int} (hz : Rng z) :
 Ok (callC TT disp K d false 20 [.ptr m 0,I z] h) fun v h'=>v = I (S.quarantine z).2/\MirS h' m (S.quarantine z).1 (Grow H h h')/\Chg H h h'/\HB h':=by
 obtain ⟨e,rfl⟩ : ∃ k,d = k + 1:=⟨d - 1,by omega⟩
 rw [mirror_Mirror_Quarantine_run A (by omega)]
 obtain ⟨lt,D,p,bl,ql,np,q,c,G,a⟩:=s
 have s : MirS h m S H:=⟨lt,D,p,bl,ql,np,q,c,G,a⟩
 have sm:=a.psz.sm
 simp only [mirror_Mirror_Quarantine,walkE,a.mir.geom]
 refine (geom_domain_ok sm z hz h).andE ?_
 rintro _ h1 ⟨rfl,x1⟩
 have hb1:=x1.hb hb
 have s1:=s.ext hb x1
 unfold Mi.quarantine
 simp only [I,walkI]
 rcases domI_bd sm z with hdm | ⟨d0,d1,d2,d3,d4⟩
 ·rw [hdm]
  simp only [show (-1 : Int) < 0 by decide,decide_true,walkE,if_true]
  exact .ret ⟨rfl,s1.mono (fun _=>.inl) (Grow.lt lt x1.next),Ext.to x1,hb1⟩
 ·rw [decide_eq_false (show ¬ domI S.g z < 0 by omega),if_neg (show ¬ domI S.g z < 0 by omega)]
  simp only [walkE]
  refine (mirror_bad_ok (K:=K) s1 hb1 hz).andE ?_
  rintro _ h2 ⟨rfl,x2⟩
  have hb2:=x2.hb hb1
  have x12:=x1.trans x2
  cases hbd : S.isBad z with
  | true=>
   simp only [walkE,if_true]
   exact .ret ⟨rfl,(s1.ext hb1 x2).mono (fun _=>.inl) (Grow.lt lt x12.next),Ext.to x12,hb2⟩
  | false=>
   simp only [walkE,Bool.false_eq_true,if_false,mirror_Mirror_Quarantine_j3]
   obtain ⟨lt2,D,p,bl,ql,np,q,c,G,a⟩:=s1.ext hb1 x2
   obtain ⟨j,rfl⟩ : ∃ j : Nat,z = j:=⟨z.toNat,by omega⟩
   have hj : j < (S.g.D * S.g.Z).toNat:=by omega
   rw [a.mir.badS,ixSE_n hj,Nat.zero_add,Nat.mul_one]
   refine Ok.st1' a.mir.bads hb2 rfl rfl (by rw [List.length_map,List.length_range]; exact hj) ?_
   intro h3 g3 c3 hb3
   have hset : ((List.range (S.g.D * S.g.Z).toNat).map fun z=>I (S.bad z)).set j (.int .i64 1) = (List.range (S.g.D * S.g.Z).toNat).map fun z=>I ((S.mark j).bad z):=by
    apply List.ext_getElem?
    intro i
    rw [List.getElem?_set,List.getElem?_map,List.getElem?_map,List.length_map,List.length_range]
    by_cases hi : j = i
    ·subst hi
     rw [if_pos rfl,if_pos hj,List.getElem?_range hj]
     simp [Mi.mark,I]
    ·rw [if_neg hi]
     rcases Nat.lt_or_ge i (S.g.D * S.g.Z).toNat with hl | hg
     ·rw [List.getElem?_range hl]
      have : ¬ i = j:=fun y=>hi y.symm
      simp [Mi.mark,this]
     ·rw [List.getElem?_eq_none (by rw [List.length_range]; exact hg)]; rfl
   rw [hset] at g3
   have a3:=a.putBad hb2 g3 c3
   have cH3 : Chg H h h3:=(Ext.to x12).trans (c3.mono fun i hi=>by subst hi; exact a.sub.2.2.1)
   try simp only [walkE]
   rw [a3.mir.pool]
   refine (drop_ok (K:=K) A (by omega) a3.pool hb3 a3.psz (d:=e) (by omega) j hz).andE ?_
   rintro _ h4 ⟨⟨er,rfl⟩,c4,hb4,P4,Z4⟩
   obtain ⟨a4,cH⟩:=a3.putPool hb3 P4 Z4 c4
   have a4 : MirA h4 m D p bl ql np q c (S.mark j) G H:=a4
   have cc : Chg H h h4:=cH3.trans cH
   have s4 : MirS h4 m (S.mark j) H:=⟨fun i hi=>Nat.lt_of_lt_of_le (lt i hi) cc.next,D,p,bl,ql,np,q,c,G,a4⟩
   try simp only [walkE]
   rw [a4.mir.oa]
   have close : ¬ (¬ (j : Int) = S.a/\¬ (j : Int) = S.b)->Ok (mirror_Mirror_Quarantine_j1 (callC TT disp K e false) (callC TT disp K e true) K (.ptr m 0) h4) fun v h'=>v = I (if ¬ (j : Int) = S.a/\¬ (j : Int) = S.b then (S.mark j,(0 : Int)) else ((S.mark j).close.1,if (S.mark j).close.2 = 34 then 34 else 0)).2/\MirS h' m (if ¬ (j : Int) = S.a/\¬ (j : Int) = S.b then (S.mark j,(0 : Int)) else ((S.mark j).close.1,if (S.mark j).close.2 = 34 then 34 else 0)).1 (Grow H h h')/\Chg H h h'/\HB h':=by
    intro hno
    rw [if_neg hno]
    simp only [mirror_Mirror_Quarantine_j1]
    refine (mirror_close_ok (K:=K) A hK (d:=e) (by omega) hdue (S:=S.mark j) hn s4 hb4 ha hbb).andE ?_
    rintro _ h5 ⟨rfl,s5,c5,hb5⟩
    have cc5:=cc.trans c5
    have s6:=s5.mono (fun i hi=>Grow.up cc.next c5.next hi) (Grow.lt lt cc5.next)
    simp only [I,walkI]
    by_cases h34 : (S.mark j).close.2 = 34
    ·rw [decide_eq_true h34,if_pos h34]
     simp only [walkE]
     exact .ret ⟨rfl,s6,cc5,hb5⟩
    ·rw [decide_eq_false h34,if_neg h34]
     simp only [walkE,mirror_Mirror_Quarantine_j0]
     exact .ret ⟨rfl,s6,cc5,hb5⟩
   simp only [I,walkI] at close ⊢
   rw [show (S.mark (j : Int)).a = S.a from rfl]
   by_cases e1 : (j : Int) = S.a
   ·rw [show decide (¬ (j : Int) = S.a) = false from decide_eq_false fun y=>y e1]
    simp only [walkE,walkI,mirror_Mirror_Quarantine_j2]
    exact close fun y=>y.1 e1
   ·rw [show decide (¬ (j : Int) = S.a) = true from decide_eq_true e1]
    simp only [walkE,walkI]
    rw [a4.mir.ob]
    simp only [I,walkI,mirror_Mirror_Quarantine_j2,walkE]
    rw [show (S.mark (j : Int)).b = S.b from rfl]
    by_cases e2 : (j : Int) = S.b
    ·rw [show decide (¬ (j : Int) = S.b) = false from decide_eq_false fun y=>y e2]
     simp only [walkE]
     exact close fun y=>y.2 e2
    ·rw [show decide (¬ (j : Int) = S.b) = true from decide_eq_true e2]
     simp only [walkE]
     rw [if_pos ⟨e1,e2⟩]
     exact .ret ⟨rfl,s4.mono (fun _=>.inl) (Grow.lt lt cc.next),cc,hb4⟩
end Go.Ev

namespace Go.Ev
open Go.Proofs
set_option maxRecDepth 100000
variable {K : Nat} {disp : Nat->Option FT}
def pairG (ps : Nat->List Int) (n : Nat) : Option (Int × Int × (Nat->List Int)):=
 if pairsF ps n = 0 then none else
 some ((ps (fullF ps (-1) n).toNat).headD 0,(ps (fullF ps (fullF ps (-1) n) n).toNat).headD 0,
  upd (upd ps (fullF ps (-1) n).toNat (ps (fullF ps (-1) n).toNat).tail) (fullF ps (fullF ps (-1) n) n).toNat (ps (fullF ps (fullF ps (-1) n) n).toNat).tail)
noncomputable def Mi.ready (S : Mi) : Mi × Int:=
 if ¬ S.a = -1/\S.u < S.g.S then (S,0) else
 if ¬ S.dr.flush.2 = 0 then ({ S with dr:=S.dr.flush.1 },S.dr.flush.2) else
 match pairG S.ps S.g.D.toNat with
 | none=>({ S with dr:=S.dr.flush.1 },40)
 | some (x,y,ps')=>({ S with dr:=S.dr.flush.1,ps:=ps',a:=x,b:=y,u:=0 },0)
theorem mirror_ready_ok (A : Agree disp) (hK : 10000 < K) {d : Nat} (hd : 16<=d) {n : Nat} (hdue : DuesUpTo disp K n) {h : AHeap} {m : Nat} {S : Mi} {H : Nat->Prop} (hn : S.dr.ev.length<=n) (s : MirS h m S H) (hb : HB h) :
 Ok (callC TT disp K d false 80 [.ptr m 0] h) fun v h'=>v = I S.ready.2/\MirS h' m S.ready.1 (Grow H h h')/\Chg H h h'/\HB h':=by
 obtain ⟨e,rfl⟩ : ∃ k,d = k + 1:=⟨d - 1,by omega⟩
 rw [mirror_Mirror_ready_run A (by omega)]
 obtain ⟨lt,D,p,bl,ql,np,q,c,G,a⟩:=s
 have s : MirS h m S H:=⟨lt,D,p,bl,ql,np,q,c,G,a⟩
 have hnp:=a.psz.nd
 subst hnp
 have es : ld1E (.ptr m (1 + 2)) h = fun k=>k (I S.g.S):=by
  funext k
  rw [lds a.mir.mir rfl]; rfl
 have two : ¬ (¬ S.a = -1/\S.u < S.g.S)->Ok (mirror_Mirror_ready_j2 (callC TT disp K e false) (callC TT disp K e true) K (.ptr m 0) h) fun v h'=>v = I S.ready.2/\MirS h' m S.ready.1 (Grow H h h')/\Chg H h h'/\HB h':=by
  intro hno
  unfold Mi.ready
  rw [if_neg hno]
  simp only [mirror_Mirror_ready_j2,walkE,a.mir.drive]
  refine (drv_flush_ok (K:=K) A (by omega) (d:=e) (by omega) (hdue _ hn) a.drv hb).andE ?_
  rintro _ h2 ⟨rfl,d2,c2,hb2⟩
  have a2:=a.putDrv hb d2 c2
  have cH2 : Chg H h h2:=c2.mono a.sub.1
  have lt2:=Grow.lt lt cH2.next
  simp only [I,walkI]
  by_cases hf : S.dr.flush.2 = 0
  ·rw [decide_eq_false (show ¬ ¬ S.dr.flush.2 = 0 from fun y=>y hf),if_neg (show ¬ ¬ S.dr.flush.2 = 0 from fun y=>y hf)]
   simp only [walkE,mirror_Mirror_ready_j1,a2.mir.pool]
   refine (pair_ok (K:=K) a2.pool hb2 a2.psz (by omega)).andE ?_
   rintro _ h3 ⟨c3,hb3,hh⟩
   rcases hh with ⟨p0,rfl,P3⟩ | ⟨x,y,vx,vy,r,t,hp,f1,f2,hx,hy,hxy,e1,e2,rfl,P3,Z3⟩
   ·obtain ⟨a3,cH3⟩:=a2.putPool hb2 P3 a2.psz c3
    have cc : Chg H h h3:=cH2.grow cH3
    have hg : pairG S.ps S.g.D.toNat = none:=by unfold pairG; rw [if_pos p0]
    rw [hg]
    simp only [walkE,I,walkI]
    simp only [show ¬ ((15 : Int) = 0) by decide,not_false_eq_true,decide_true,walkE]
    refine .ret ⟨rfl,MirS.mono (H:=Grow H h h2) ⟨fun i hi=>Nat.lt_of_lt_of_le (lt2 i hi) c3.next,D,p,bl,ql,_,q,c,_,a3⟩ (fun i hi=>Grow.le c3.next hi) (Grow.lt lt cc.next),cc,hb3⟩
   ·obtain ⟨a3,cH3⟩:=a2.putPool hb2 P3 Z3 c3
    have cc : Chg H h h3:=cH2.grow cH3
    have hg : pairG S.ps S.g.D.toNat = some (vx,vy,upd (upd S.ps x r) y t):=by
     unfold pairG
     have e1 : S.ps x = vx :: r:=e1
     have e2 : S.ps y = vy :: t:=e2
     have f1 : fullF S.ps (-1) S.g.D.toNat = x:=f1
     have f2 : fullF S.ps x S.g.D.toNat = y:=f2
     rw [if_neg hp,f1,f2]
     simp only [Int.toNat_natCast,e1,e2,List.headD_cons,List.tail_cons]
    rw [hg]
    simp only [walkE,I,walkI]
    simp only [not_true_eq_false,decide_false,walkE,mirror_Mirror_ready_j0]
    have ml:=mirC_len D S.g p bl (S.g.D * S.g.Z).toNat S.a S.b S.u
    refine Ok.st1' a3.mir.mir hb3 rfl rfl (by show 265 < (mirC D S.g p bl (S.g.D * S.g.Z).toNat S.a S.b S.u).length; omega) ?_
    intro h4 g4 c4 hb4
    try simp only [walkE]
    refine Ok.st1' g4 hb4 rfl rfl (by rw [List.length_set]; show 266 < (mirC D S.g p bl (S.g.D * S.g.Z).toNat S.a S.b S.u).length; omega) ?_
    intro h5 g5 c5 hb5
    try simp only [walkE]
    refine Ok.st1' g5 hb5 rfl rfl (by rw [List.length_set,List.length_set]; show 267 < (mirC D S.g p bl (S.g.D * S.g.Z).toNat S.a S.b S.u).length; omega) ?_
    intro h6 g6 c6 hb6
    have g6 : h6.get m = some (.cells ((((mirC D S.g p bl (S.g.D * S.g.Z).toNat S.a S.b S.u).set 265 (I vx)).set 266 (I vy)).set 267 (I 0)) 149):=g6
    rw [mirC_set] at g6
    have c36:=(c4.trans c5).trans c6
    have a6:=a3.putOpen hb3 g6 c36
    have cc6 : Chg H h h6:=cc.then (c36.mono (T:=fun i=>i = m) fun i hi=>hi) fun i hi _=>by subst hi; exact a.sub.2.1
    exact .ret ⟨rfl,MirS.mono (H:=Grow H h h2) ⟨fun i hi=>Nat.lt_of_lt_of_le (lt2 i hi) (Nat.le_trans c3.next c36.next),D,p,bl,ql,_,q,c,_,a6⟩ (fun i hi=>Grow.le (Nat.le_trans c3.next c36.next) hi) (Grow.lt lt cc6.next),cc6,hb6⟩
  ·rw [decide_eq_true hf,if_pos hf]
   simp only [walkE]
   exact .ret ⟨rfl,⟨lt2,D,p,bl,ql,_,q,c,_,a2⟩,cH2,hb2⟩
 have done : ¬ S.a = -1/\S.u < S.g.S->Ok (some (.int .i64 0,h)) fun v h'=>v = I S.ready.2/\MirS h' m S.ready.1 (Grow H h h')/\Chg H h h'/\HB h':=fun hy=>by
  unfold Mi.ready
  rw [if_pos hy]
  exact .ret ⟨rfl,s.mono (fun _=>.inl) (Grow.lt lt (Nat.le_refl _)),Chg.refl _,hb⟩
 simp only [mirror_Mirror_ready,walkE,a.mir.oa,I,walkI]
 by_cases h1 : S.a = -1
 ·rw [decide_eq_false (show ¬ ¬ S.a = -1 from fun y=>y h1)]
  simp only [walkE,mirror_Mirror_ready_j3,walkI]
  exact two fun y=>y.1 h1
 ·rw [decide_eq_true h1]
  simp only [walkE,walkI,a.mir.ou,es,I]
  by_cases h2 : S.u < S.g.S
  ·rw [decide_eq_true h2]
   simp only [mirror_Mirror_ready_j3,walkE]
   exact done ⟨h1,h2⟩
  ·rw [decide_eq_false h2]
   simp only [mirror_Mirror_ready_j3,walkE]
   exact two fun y=>h2 y.2
end Go.Ev
