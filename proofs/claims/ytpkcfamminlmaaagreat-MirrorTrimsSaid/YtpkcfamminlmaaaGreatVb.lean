import Derived.Test.YtpkcfamminlmaaaGreatVa
import Derived.Test.YtpkcfamminlmaaaGreatXb
import Derived.Test.YtpkcfamminlmaaaGreatDd
set_option linter.unusedVariables false
set_option linter.unusedSimpArgs false
set_option linter.unusedSectionVars false
namespace Go.Ev
open Go.Proofs
set_option maxRecDepth 100000
variable {K : Nat} {disp : Nat->Option FT}
def natOf : EV->Nat
 | .int _ n=>n.toNat
 | _=>0
def natsOf (x : List EV) : List Nat:=x.map natOf
theorem natsOf_u8s (l : List Nat) : natsOf (u8s l) = l:=by
 unfold natsOf u8s
 rw [List.map_map]
 exact (List.map_congr_left (fun a _=>rfl)).trans (List.map_id l)
theorem U8.nats {x : List EV} (u : U8 x) : u8s (natsOf x) = x/\∀ b ∈ natsOf x,b < 256:=by
 obtain ⟨l,h,rfl⟩:=u
 rw [natsOf_u8s]; exact ⟨rfl,h⟩
theorem natsOf_len (x : List EV) : (natsOf x).length = x.length:=List.length_map ..
theorem resE_cellVV {h : AHeap} {i t n : Nat} {l : List EV} {v w : EV} (hg : h.get i = some (.cells l t)) (hs : TT.size t = some n) (ha : TT.agg t = some true) (hl : l.length = n) : resE TT [.c (.ptr i 0) t,.v v,.v w] h = some (.tuple [.agg l,v,w],h):=by
 have hr : readAt h i 0 n = some l:=by
  unfold readAt; rw [hg]; simp only; rw [<-cutR_eq]; exact cutR_all hl
 unfold resE
 simp only [resV,hs,hr,ha]
noncomputable def goodC (s : List Nat) (x : Me) (zone mate : Int) : Bool × List Nat:=
 if (atF s zone x.off).2 = 0/\¬ (atF s zone x.off).1.kind = 2/\(atF s zone x.off).1.seq = x.seq/\(readE (atF s zone x.off).1).2 = 0/\(readE (atF s zone x.off).1).1.mate = mate/\((sumN (readE (atF s zone x.off).1).1.bytes : Nat) : Int) = x.sum
 then (true,(readE (atF s zone x.off).1).1.bytes) else (false,zs32)
noncomputable def Mi.copyM (S : Mi) (x : Me) (zone mate : Int) : Mi × List Nat × Bool × Int:=
 if (S.dr.read zone x.off).2.2 = 0 then ({ S with dr:=(S.dr.read zone x.off).1 },(goodC (natsOf (S.dr.read zone x.off).2.1) x zone mate).2,(goodC (natsOf (S.dr.read zone x.off).2.1) x zone mate).1,0) else
 if (S.dr.read zone x.off).2.2 = 34 then ({ S with dr:=(S.dr.read zone x.off).1 },zs32,false,34) else
 if (S.dr.read zone x.off).2.2 = 32 then ((({ S with dr:=(S.dr.read zone x.off).1 } : Mi).quarantine zone).1,zs32,false,if (({ S with dr:=(S.dr.read zone x.off).1 } : Mi).quarantine zone).2 = 34 then 34 else 0) else
 ({ S with dr:=(S.dr.read zone x.off).1 },zs32,false,0)
theorem mir_lost (A : Agree disp) (hK : 10000 < K) {d : Nat} (hd : 19<=d) {h : AHeap} {m : Nat} {S : Mi} {F : Nat->Prop} (M : MirF h m S F) (hb : HB h) {z : Int} (hz : Rng z) :
 Ok (callC TT disp K d false 134 [.ptr m 0,I z] h) fun v h'=>v = I (if (S.quarantine z).2 = 34 then 34 else 0)/\MirF h' m (S.quarantine z).1 F/\Kf F h h'/\HB h':=by
 obtain ⟨e,rfl⟩ : ∃ k,d = k + 1:=⟨d - 1,by omega⟩
 rw [mirror_Mirror_lost_run A (by omega)]
 simp only [mirror_Mirror_lost]
 refine (mir_quarantine A hK M hb (by omega) hz).andE ?_
 rintro _ h1 ⟨rfl,M1,k1,hb1⟩
 simp only [I,walkI,mirror_Mirror_lost_j0]
 by_cases h0 : (S.quarantine z).2 = 34
 ·simp only [h0,decide_true,walkE,if_true]
  exact .ret ⟨rfl,M1,k1,hb1⟩
 ·simp only [h0,decide_false,walkE,if_false]
  exact .ret ⟨rfl,M1,k1,hb1⟩
theorem TT87 : TT.size 87 = some 32/\TT.agg 87 = some true:=⟨by kernel_rfl,by kernel_rfl⟩
theorem zs32_len : zs32.length = 32:=rfl
theorem readE_wf {f : Fr} (w : f.Wf) : (readE f).1.Wf:=by
 unfold readE
 split
 ·exact En.zero_wf
 ·split
  ·exact En.zero_wf
  ·exact ofF_wf w.len w.u8
theorem goodC_wf {s : List Nat} (hl : s.length = 64) (hu : ∀ b ∈ s,b < 256) (x : Me) (zone mate : Int) (w : (atF s zone x.off).1.Wf) : (goodC s x zone mate).2.length = 32/\∀ b ∈ (goodC s x zone mate).2,b < 256:=by
 unfold goodC
 split
 ·exact ⟨(readE_wf w).len,(readE_wf w).u8⟩
 ·exact ⟨rfl,fun b hb=>by rw [List.eq_of_mem_replicate hb]; decide⟩
theorem mir_copy (A : Agree disp) (hK : 10000 < K) {d : Nat} (hd : 20<=d) {h : AHeap} {m : Nat} {S : Mi} {F : Nat->Prop} (M : MirF h m S F) (hb : HB h) (x : Me) {zone : Int} (hz : Rng zone) (mate : Int) :
 Ok (callC TT disp K d false 84 [.ptr m 0,.agg x.cells,I zone,I mate] h) fun v h'=>v = .tuple [.agg (u8s (S.copyM x zone mate).2.1),.bool (S.copyM x zone mate).2.2.1,I (S.copyM x zone mate).2.2.2]/\(S.copyM x zone mate).2.1.length = 32/\(∀ b ∈ (S.copyM x zone mate).2.1,b < 256)/\MirF h' m (S.copyM x zone mate).1 F/\Kf F h h'/\HB h':=by
 obtain ⟨dd,rfl⟩ : ∃ k,d = k + 1:=⟨d - 1,by omega⟩
 rw [mirror_Mirror_copy_run A (by omega)]
 simp only [mirror_Mirror_copy,walkE]
 rw [show (h.new (.cells x.cells 83)).next = h.next + 1 from rfl,zs32_cells]
 have x1 : Ext h ((h.new (.cells x.cells 83)).new (.cells (u8s zs32) 87)):=(Chg.new _ _).andNew _
 have g5 : ((h.new (.cells x.cells 83)).new (.cells (u8s zs32) 87)).get h.next = some (.cells x.cells 83):=by
  rw [get_new_lt _ (Nat.lt_succ_self _)]; exact get_new_same _ _
 have g8 : ((h.new (.cells x.cells 83)).new (.cells (u8s zs32) 87)).get (h.next + 1) = some (.cells (u8s zs32) 87):=get_new_same _ _
 have n1 : ((h.new (.cells x.cells 83)).new (.cells (u8s zs32) 87)).next = h.next + 2:=rfl
 generalize (h.new (.cells x.cells 83)).new (.cells (u8s zs32) 87) = h1 at x1 g5 g8 n1 ⊢
 have hb1:=x1.hb hb
 have M1:=M.ext hb x1
 obtain ⟨_,D,p,bl,ql,np,q,c,G,a⟩:=M1.s
 have lm:=hb1 _ _ a.mir.mir
 have l5:=hb1 _ _ g5
 have F5 : Grow F h h1 h.next:=.inr ⟨Nat.le_refl _,by omega⟩
 have F8 : Grow F h h1 (h.next + 1):=.inr ⟨by omega,by omega⟩
 rw [loadE_lt lm (by kernel_rfl),a.mir.drive]
 try simp only [walkE,walkD]
 rw [loadE_lt l5 (by kernel_rfl),ld1E_at g5 rfl (v:=I x.off) rfl]
 try simp only [walkE,walkD]
 refine Ok.bigC (S:=G) (by kernel_rfl) (by kernel_rfl) (fun _=>by kernel_rfl) (drv_read_ok (K:=K) A (d:=dd) (by omega) (fun k hk=>due_ok A (by omega) S.dr k hk) a.drv.lift (lift_hb hb1) zone x.off) (fun _ _ p=>p.2.2.2.1) ?_
 rintro _ h2 h3 s' ⟨rfl,hlen,d2,_,hb2⟩ sm c3 hs'
 have hb3:=sm.hb hb2
 have hu8 : U8 (S.dr.read zone x.off).2.1:=by
  obtain ⟨V,M',qc,qh,cs,hs,ms,F',a'⟩:=d2.at'
  have w:=a'.dev.wf
  have wz : ∀ i,i < (S.dr.begin zone).dv.n->((S.dr.begin zone).dv.zs i).Wf (S.dr.begin zone).dv.size:=by
   have e1 : (S.dr.read zone x.off).1.dv = (S.dr.begin zone).dv.begin zone:=rfl
   rw [e1] at w
   unfold Dv.begin at w
   split at w
   ·exact w.zs
   ·exact w.zs
  show U8 (Dv.read _ zone x.off).1
  unfold Dv.read
  split
  ·exact U8.zs
  ·rename_i hbe
   obtain ⟨j,rfl,hj⟩:=Dv.has_of (show (S.dr.begin zone).dv.beginE zone = 0 by
    rcases Decidable.em ((S.dr.begin zone).dv.beginE zone = 0) with y | y
    ·exact y
    ·exact absurd y hbe)
   unfold readZ
   split
   ·exact U8.zs
   ·split
    ·rename_i hc
     have : x.off.toNat < ((S.dr.begin (j : Int)).dv.zs j).l.length:=by
      have:=hc.2; rw [Int.toNat_natCast] at this; omega
     rw [Int.toNat_natCast,List.getElem?_eq_getElem this]
     exact (wz j hj).u8 _ (List.getElem_mem _)
    ·exact U8.zs
 obtain ⟨M3,k3⟩:=M1.drv hb1 a (d2.same sm) c3
 have g5:=k3.at hb1 g5 F5
 have g8:=k3.at hb1 g8 F8
 obtain ⟨hs,hsu⟩:=hu8.nats
 have hsl : (natsOf (S.dr.read zone x.off).2.1).length = 64:=by rw [natsOf_len,hlen]
 unfold Mi.copyM
 rw [<-hs]
 generalize hR : S.dr.read zone x.off = R at M3 hs hsu hsl ⊢
 obtain ⟨dr,sec,er⟩:=R
 simp only at M3 hs hsu hsl ⊢
 rw [natsOf_u8s]
 generalize natsOf sec = s at hs hsu hsl ⊢
 simp only [walkE,walkD]
 rw [stoE_at (by rcases hs' with rfl | ⟨w,rfl,_⟩ <;> kernel_rfl)]
 have ul : (u8s s).length = 64:=by rw [u8s_len,hsl]
 refine Ok.st (u8s s) (get_new_same _ _) rfl (by show lenR (u8s s) = 64; rw [len_length,ul]) (laidR_all (by rw [List.length_replicate]; exact ul.symm)) ?_
 have x4 : Ext h3 ((h3.new (.cells (List.replicate 64 (EV.int .u8 0)) 103)).put h3.next (.cells (u8s s) 103)):=(Chg.new h3 _ : Ext _ _).andPut (.inr (Nat.le_refl _)) (Nat.lt_succ_self _) _
 have g11 : ((h3.new (.cells (List.replicate 64 (EV.int .u8 0)) 103)).put h3.next (.cells (u8s s) 103)).get h3.next = some (.cells (u8s s) 103):=get_put_same _ _ _
 generalize (h3.new (.cells (List.replicate 64 (EV.int .u8 0)) 103)).put h3.next (.cells (u8s s) 103) = h4 at x4 g11 ⊢
 have hb4:=x4.hb hb3
 have g5:=x4.at hb3 g5
 have g8:=x4.at hb3 g8
 have M4:=(M3.ext hb3 x4).less fun i (hi : Grow F h h1 i)=>Or.inl hi
 have k04 : Kf F h h4:=(x1.thenKf k3).trans x4.kf
 have ln : h.next + 2<=h4.next:=by have:=x4.next; have:=k3.next; omega
 have sub : ∀ i,F i->Grow F h h1 i:=fun i hi=>.inl hi
 have fin : ∀ (l : List Nat) (ok : Bool) (er : Int) (h5 : AHeap) (S5 : Mi),l.length = 32->(∀ b ∈ l,b < 256)->MirF h5 m S5 (Grow F h h1)->Kf F h h5->HB h5->h5.get (h.next + 1) = some (.cells (u8s zs32) 87) ->
  Ok (stE 32 (.ptr (h.next + 1) 0) (.agg (u8s l)) h5 fun h'=>resE TT [.c (.ptr (h.next + 1) 0) 87,.v (.bool ok),.v (I er)] h') fun v h'=>v = .tuple [.agg (u8s l),.bool ok,I er]/\l.length = 32/\(∀ b ∈ l,b < 256)/\MirF h' m S5 F/\Kf F h h'/\HB h':=by
  intro l ok er h5 S5 hl hlu M5 k5 hb5 g85
  have ul : (u8s l).length = 32:=by rw [u8s_len,hl]
  have l8:=hb5 _ _ g85
  refine Ok.st (u8s l) g85 rfl (by show lenR (u8s l) = 32; rw [len_length,ul]) (laidR_all (by show (u8s zs32).length = (u8s l).length; rw [ul,u8s_len,zs32_len])) ?_
  rw [resE_cellVV (get_put_same _ _ _) TT87.1 TT87.2 ul]
  have nF : ¬ F (h.next + 1):=fun y=>by have:=M.lt _ y; omega
  have c8 : Chg (fun i=>i = h.next + 1) h5 (h5.put (h.next + 1) (.cells (u8s l) 87)):=(Chg.refl (S:=fun i=>i = h.next + 1) h5).andPut (.inl rfl) l8 _
  exact .ret ⟨rfl,hl,hlu,(M5.turn c8 fun i hi _=>hi ▸ F8).less sub,k5.trans (c8.mono fun i hi y=>nF (hi ▸ y)),hb5.put l8 _⟩
 have no : ∀ (er : Int) (h5 : AHeap) (S5 : Mi),MirF h5 m S5 (Grow F h h1)->Kf F h h5->HB h5->h5.get (h.next + 1) = some (.cells (u8s zs32) 87) ->
  Ok (buildE (evenP 1) (List.replicate 32 (EV.int .u8 0)) [] fun v=>stE 32 (.ptr (h.next + 1) 0) v h5 fun h'=>resE TT [.c (.ptr (h.next + 1) 0) 87,.v (.bool false),.v (I er)] h') fun v h'=>v = .tuple [.agg (u8s zs32),.bool false,I er]/\zs32.length = 32/\(∀ b ∈ zs32,b < 256)/\MirF h' m S5 F/\Kf F h h'/\HB h':=fun er h5 S5 M5 k5 hb5 g85=>by
  rw [zs32_cells,buildE_at (l:=u8s zs32) rfl]
  exact fin zs32 false er h5 S5 rfl (fun b hb=>by rw [List.eq_of_mem_replicate hb]; decide) M5 k5 hb5 g85
 simp only [I,walkI]
 by_cases h0 : er = 0
 ·rw [if_pos h0]
  simp only [h0,decide_true,walkE,mirror_Mirror_copy_j6]
  have l11:=hb4 _ _ g11
  have l54:=hb4 _ _ g5
  obtain ⟨_,D,p,bl,ql,np,q,c,G,a⟩:=M4.s
  have lm4:=hb4 _ _ a.mir.mir
  try simp only [walkD]
  rw [loadE_lt lm4 (by kernel_rfl),a.mir.table]
  try simp only [walkE,walkD]
  rw [loadE_lt l11 (by kernel_rfl),ldsN g11 rfl,cutR_all ul]
  try simp only [walkE,walkD]
  rw [loadE_lt l54 (by kernel_rfl),ld1E_at g5 rfl (v:=I x.off) rfl]
  try simp only [walkE,walkD]
  refine Ok.bigE (by kernel_rfl) (by kernel_rfl) (frame_at_ok (K:=K) hsl hsu (lift_hb hb4) hK zone x.off) (fun _ _ p=>p.2.2) ?_
  rintro _ h5' h5 ⟨rfl,fw,_⟩ _ x5
  have gw:=goodC_wf hsl hsu x zone mate fw
  have hG : goodC s x zone mate = if (atF s zone x.off).2 = 0/\¬ (atF s zone x.off).1.kind = 2/\(atF s zone x.off).1.seq = x.seq/\(readE (atF s zone x.off).1).2 = 0/\(readE (atF s zone x.off).1).1.mate = mate/\((sumN (readE (atF s zone x.off).1).1.bytes : Nat) : Int) = x.sum
   then (true,(readE (atF s zone x.off).1).1.bytes) else (false,zs32):=rfl
  generalize goodC s x zone mate = gd at hG gw ⊢
  generalize atF s zone x.off = at' at fw hG ⊢
  obtain ⟨f,er'⟩:=at'
  simp only at fw hG ⊢
  have hb5:=x5.hb hb4
  have fl:=Fr.cells_len fw
  have zl:=Fr.cells_len Fr.zero_wf
  simp only [walkE,zs49_cells,walkD]
  rw [stoE_at (by kernel_rfl)]
  refine Ok.st f.cells (get_new_same _ _) rfl (by show lenR f.cells = 49; rw [len_length,fl]) (laidR_all (by rw [zl]; exact fl.symm)) ?_
  have x6 : Ext h5 ((h5.new (.cells Fr.zero.cells 120)).put h5.next (.cells f.cells 120)):=(Chg.new h5 _ : Ext _ _).andPut (.inr (Nat.le_refl _)) (Nat.lt_succ_self _) _
  have g13 : ((h5.new (.cells Fr.zero.cells 120)).put h5.next (.cells f.cells 120)).get h5.next = some (.cells f.cells 120):=get_put_same _ _ _
  generalize (h5.new (.cells Fr.zero.cells 120)).put h5.next (.cells f.cells 120) = h6 at x6 g13 ⊢
  have hb6:=x6.hb hb5
  have x46 : Ext h4 h6:=x5.trans x6
  have g5:=x46.at hb4 g5
  have g8:=x46.at hb4 g8
  have M6:=(M4.ext hb4 x46).less fun i (hi : Grow F h h1 i)=>Or.inl hi
  have k06 : Kf F h h6:=k04.trans x46.kf
  have stop:=no 0 h6 _ M6 k06 hb6 g8
  have l0 : f.cells[0]? = some (I f.kind):=rfl
  have l4 : f.cells[4]? = some (I f.seq):=rfl
  simp only [I,walkI] at stop ⊢
  by_cases c1 : er' = 0
  ·by_cases c2 : f.kind = 2
   ·rw [if_neg (by rintro ⟨_,y,_⟩; exact y c2)] at hG; subst hG
    simp only [c1,not_true_eq_false,decide_false,walkE,lds g13 rfl,l0,I,walkI,c2,decide_true,mirror_Mirror_copy_j5,mirror_Mirror_copy_j4]
    exact stop
   ·by_cases c3 : f.seq = x.seq
    ·simp only [c1,not_true_eq_false,decide_false,walkE,lds g13 rfl,l0,I,walkI,c2,mirror_Mirror_copy_j5,l4,mirror_Mirror_copy_j4]
     rw [ld1E_at g5 rfl (v:=I x.seq) rfl]
     simp only [I,walkI,c3,not_true_eq_false,decide_false,walkE,mirror_Mirror_copy_j3]
     rw [ldsN g13 rfl,cutR_all fl]
     try simp only [walkE]
     refine (entry_read_ok (K:=K) fw hb6 hK).andE ?_
     rintro _ h7 ⟨rfl,ew,x7⟩
     generalize readE f = re at ew hG ⊢
     obtain ⟨e,er2⟩:=re
     simp only at ew hG ⊢
     have hb7:=x7.hb hb6
     have el:=En.cells_len ew
     have zel:=En.cells_len En.zero_wf
     simp only [walkE]
     rw [En.zero_cells]
     refine Ok.st e.cells (get_new_same _ _) rfl (by show lenR e.cells = 38; rw [len_length,el]) (laidR_all (by rw [zel]; exact el.symm)) ?_
     have x8 : Ext h7 ((h7.new (.cells En.zero.cells 89)).put h7.next (.cells e.cells 89)):=(Chg.new h7 _ : Ext _ _).andPut (.inr (Nat.le_refl _)) (Nat.lt_succ_self _) _
     have g14 : ((h7.new (.cells En.zero.cells 89)).put h7.next (.cells e.cells 89)).get h7.next = some (.cells e.cells 89):=get_put_same _ _ _
     generalize (h7.new (.cells En.zero.cells 89)).put h7.next (.cells e.cells 89) = h8 at x8 g14 ⊢
     have hb8:=x8.hb hb7
     have x68 : Ext h6 h8:=x7.trans x8
     have g5:=x68.at hb6 g5
     have g8:=x68.at hb6 g8
     have M8:=(M6.ext hb6 x68).less fun i (hi : Grow F h h1 i)=>Or.inl hi
     have k08 : Kf F h h8:=k06.trans x68.kf
     have stop:=no 0 h8 _ M8 k08 hb8 g8
     have l14:=hb8 _ _ g14
     have l58:=hb8 _ _ g5
     simp only [I,walkI] at stop ⊢
     by_cases c4 : er2 = 0
     ·simp only [c4,not_true_eq_false,decide_false,walkE,walkD]
      rw [loadE_lt l14 (by kernel_rfl),ld1E_at g14 rfl (v:=I e.mate) rfl]
      simp only [I,walkI]
      by_cases c5 : e.mate = mate
      ·simp only [c5,not_true_eq_false,decide_false,mirror_Mirror_copy_j2,walkE,walkD]
       obtain ⟨_,D,p,bl,ql,np,q,c,G,a⟩:=M8.s
       have lm8:=hb8 _ _ a.mir.mir
       rw [loadE_lt lm8 (by kernel_rfl),a.mir.table]
       try simp only [walkE,walkD]
       rw [show ∀ k : EV->R,sliAE 32 1 (.ptr h7.next 6) none none none k = k (.slice h7.next 6 32 32 false) from fun k=>rfl]
       try simp only [walkE,walkD]
       have bs : Bs h8.lift (.slice h7.next 6 32 32 false) h7.next 6 e.bytes:=by
        refine ⟨32,false,_,e.cells,by rw [ew.len],by rw [ew.len]; omega,by rw [lift_get]; exact g14,rfl,by rw [el,ew.len]; exact Nat.le_refl _,?_⟩
        unfold En.cells
        rw [ew.len]
        show (u8s e.bytes).take 32 = _
        rw [List.take_of_length_le (by rw [u8s_len,ew.len]; omega)]
       refine Ok.bigE (by kernel_rfl) (by kernel_rfl) (sum_ok (K:=K) hK bs (lift_hb hb8) ew.u8 (by rw [ew.len]; omega)) (fun _ _ p=>p.2) ?_
       rintro _ h9' h9 ⟨rfl,_⟩ _ x9
       have hb9:=x9.hb hb8
       have g5:=x9.at hb8 g5
       have g8:=x9.at hb8 g8
       have g14:=x9.at hb8 g14
       have M9:=(M8.ext hb8 x9).less fun i (hi : Grow F h h1 i)=>Or.inl hi
       have k09 : Kf F h h9:=k08.trans x9.kf
       have stop:=no 0 h9 _ M9 k09 hb9 g8
       have hsl:=sum_lt ew.u8
       simp only [Nk,walkE,walkD]
       rw [show wrapF .i64 (Int.ofNat (sumN e.bytes)) = (sumN e.bytes : Int) from wi64 (by show -9223372036854775808<=((sumN e.bytes : Nat) : Int); omega) (by show ((sumN e.bytes : Nat) : Int)<=_; omega)]
       rw [loadE_lt l58 (by kernel_rfl),ld1E_at g5 rfl (v:=I x.sum) rfl]
       simp only [I,walkI] at stop ⊢
       by_cases c6 : ((sumN e.bytes : Nat) : Int) = x.sum
       ·rw [if_pos ⟨c1,c2,c3,c4,c5,c6⟩] at hG; subst hG
        simp only [c6,not_true_eq_false,decide_false,mirror_Mirror_copy_j1,walkE,mirror_Mirror_copy_j0]
        rw [ldsN g14 rfl,show cutR e.cells (0 + 6) 32 = some (u8s e.bytes) from by
         rw [cutR_take (by rw [el]; omega)]
         show some ((u8s e.bytes).take 32) = _
         rw [List.take_of_length_le (by rw [u8s_len,ew.len]; omega)]]
        try simp only [walkE]
        exact fin e.bytes true 0 h9 _ ew.len ew.u8 M9 k09 hb9 g8
       ·rw [if_neg (by rintro ⟨_,_,_,_,_,y⟩; exact c6 y)] at hG; subst hG
        simp only [c6,not_false_eq_true,decide_true,mirror_Mirror_copy_j1,walkE]
        exact stop
      ·rw [if_neg (by rintro ⟨_,_,_,_,y,_⟩; exact c5 y)] at hG; subst hG
       simp only [c5,not_false_eq_true,decide_true,mirror_Mirror_copy_j2,walkE,mirror_Mirror_copy_j1]
       exact stop
     ·rw [if_neg (by rintro ⟨_,_,_,y,_⟩; exact c4 y)] at hG; subst hG
      simp only [c4,not_false_eq_true,decide_true,mirror_Mirror_copy_j2,walkE,mirror_Mirror_copy_j1]
      exact stop
    ·rw [if_neg (by rintro ⟨_,_,y,_⟩; exact c3 y)] at hG; subst hG
     simp only [c1,not_true_eq_false,decide_false,walkE,lds g13 rfl,l0,I,walkI,c2,mirror_Mirror_copy_j5,l4,mirror_Mirror_copy_j4]
     rw [ld1E_at g5 rfl (v:=I x.seq) rfl]
     simp only [I,walkI,c3,not_false_eq_true,decide_true,walkE]
     exact stop
  ·rw [if_neg (by rintro ⟨y,_⟩; exact c1 y)] at hG; subst hG
   simp only [c1,not_false_eq_true,decide_true,walkE,mirror_Mirror_copy_j5,mirror_Mirror_copy_j4]
   exact stop
 ·rw [if_neg h0]
  simp only [h0,decide_false,walkE,walkI]
  by_cases h34 : er = 34
  ·rw [if_pos h34]
   simp only [h34,decide_true,walkE]
   exact no 34 h4 _ M4 k04 hb4 g8
  ·rw [if_neg h34]
   simp only [h34,decide_false,walkE,walkI]
   by_cases h32 : er = 32
   ·rw [if_pos h32]
    simp only [h32,decide_true,walkE]
    rw [buildE_at (l:=u8s zs32) rfl]
    refine (mir_lost A hK (by omega) M4 hb4 hz).andE ?_
    rintro _ h5 ⟨rfl,M5,k5,hb5⟩
    have g8:=k5.at hb4 g8 F8
    have k5' : Kf F h4 h5:=k5.less sub
    exact fin zs32 false _ h5 _ rfl (fun b hb=>by rw [List.eq_of_mem_replicate hb]; decide) M5 (k04.trans k5') hb5 g8
   ·rw [if_neg h32]
    simp only [h32,decide_false,walkE]
    exact no 0 h4 _ M4 k04 hb4 g8
end Go.Ev

namespace Go.Ev
open Go.Proofs
set_option maxRecDepth 100000
variable {K : Nat} {disp : Nat->Option FT}
def livesB (g : Gm) (x : Me) : Bool:=decide (x.state = 1) && meB g x
theorem mir_lives {h : AHeap} {m : Nat} {S : Mi} {F : Nat->Prop} (M : MirF h m S F) (hb : HB h) {x : Me} (hz : Rng x.zone) (hm : Rng x.mate) :
 Ok (mirror_Mirror_lives K (.ptr m 0) (.agg x.cells) h) fun v h'=>v = .bool (livesB S.g x)/\Ext h h':=by
 simp only [mirror_Mirror_lives,walkE]
 have x1 : Ext h (h.new (.cells x.cells 83)):=Chg.new _ _
 have g3 : (h.new (.cells x.cells 83)).get h.next = some (.cells x.cells 83):=get_new_same _ _
 generalize h.new (.cells x.cells 83) = h1 at x1 g3 ⊢
 have hb1:=x1.hb hb
 obtain ⟨_,D,p,bl,ql,np,q,c,G,a⟩:=M.s.ext hb x1
 have l3:=hb1 _ _ g3
 have lm:=hb1 _ _ a.mir.mir
 rw [loadE_lt l3 (by kernel_rfl),ld1E_at g3 rfl (v:=I x.state) rfl]
 simp only [I,walkI]
 unfold livesB
 by_cases h0 : x.state = 1
 ·simp only [h0,decide_true,walkE,walkD,Bool.true_and]
  rw [loadE_lt l3 (by kernel_rfl),ldsN g3 rfl,cutR_all (n:=6) rfl]
  try simp only [walkE,walkD]
  rw [loadE_lt lm (by kernel_rfl),a.mir.geom]
  try simp only [walkE,walkD]
  refine Ok.bigE (by kernel_rfl) (by kernel_rfl) (bmap_right_ok (K:=K) (lift_hb hb1) h0 hz hm) (fun _ _ p=>p.2) ?_
  rintro _ h2' h2 ⟨rfl,_⟩ _ x2
  simp only [mirror_Mirror_lives_j0,walkE]
  exact .ret ⟨rfl,x1.trans x2⟩
 ·simp only [h0,decide_false,walkE,walkD,Bool.false_and,mirror_Mirror_lives_j0]
  exact .ret ⟨rfl,x1⟩
section
variable (A : Agree disp) (hK : 10000 < K) {d : Nat} (hd : 20<=d) {h : AHeap} {m b3 b4 : Nat} {S : Mi} {F : Nat->Prop} (M : MirF h m S F) (hb : HB h) (x : Me)
include A hK hd M hb
theorem read_step {ih : EV->EV->EV->EV->EV->AHeap->R} {Q : EV->AHeap->Prop} {v26 : EV} {i : Nat} {z mt : Int} (hz : Rng z) (hix : ∀ k : EV->R,ixVE 2 2 true 2 v26 (.int .i64 (i : Int)) k = k (.agg [I z,I mt])) (f3 : F b3) (f4 : F b4)
 (g3 : h.get b3 = some (.cells x.cells 83)) (g4 : h.get b4 = some (.cells (u8s zs32) 87))
 (hst : (S.copyM x z mt).2.2.1 = true\/¬ (S.copyM x z mt).2.2.2 = 0->∀ h',MirF h' m (S.copyM x z mt).1 F->Kf (fun i=>F i/\¬ i = b4) h h'->HB h'->(S.copyM x z mt).2.1.length = 32->Q (.tuple [.agg (u8s (S.copyM x z mt).2.1),I (S.copyM x z mt).2.2.2]) h')
 (hgo : ¬ ((S.copyM x z mt).2.2.1 = true\/¬ (S.copyM x z mt).2.2.2 = 0)->∀ h',MirF h' m (S.copyM x z mt).1 F->Kf F h h'->HB h'->Ok (mirror_Mirror_Read_j2 (callC TT disp K d false) (callC TT disp K d true) K ih (.ptr m 0) (.ptr b3 0) (.ptr b4 0) v26 (.int .i64 (i : Int)) h') Q) :
 Ok (mirror_Mirror_Read_j4 (callC TT disp K d false) (callC TT disp K d true) K ih (.ptr m 0) (.ptr b3 0) (.ptr b4 0) v26 (.int .i64 (i : Int)) h) Q:=by
 simp only [mirror_Mirror_Read_j4,hix,walkE]
 refine Ok.st [I z,I mt] (get_new_same _ _) rfl rfl rfl ?_
 have x1 : Ext h ((h.new (.cells [EV.int .i64 0,.int .i64 0] 176)).put h.next (.cells [I z,I mt] 176)):=(Chg.new h _ : Ext _ _).andPut (.inr (Nat.le_refl _)) (Nat.lt_succ_self _) _
 have g7 : ((h.new (.cells [EV.int .i64 0,.int .i64 0] 176)).put h.next (.cells [I z,I mt] 176)).get h.next = some (.cells [I z,I mt] 176):=get_put_same _ _ _
 generalize (h.new (.cells [EV.int .i64 0,.int .i64 0] 176)).put h.next (.cells [I z,I mt] 176) = h1 at x1 g7 ⊢
 have hb1:=x1.hb hb
 have M1:=M.ext hb x1
 have sub : ∀ i,F i->Grow F h h1 i:=fun i hi=>.inl hi
 rw [ldsN (x1.at hb g3) rfl,cutR_all (n:=6) rfl]
 try simp only [walkE]
 rw [show ∀ k : EV->R,ixAE 2 1 (.ptr h.next 0) (.int .i64 0) k = k (.ptr h.next 0) from fun k=>rfl,ld1E_at g7 rfl (v:=I z) rfl]
 rw [show ∀ k : EV->R,ixAE 2 1 (.ptr h.next 0) (.int .i64 1) k = k (.ptr h.next 1) from fun k=>rfl,ld1E_at g7 rfl (v:=I mt) rfl]
 refine (mir_copy A hK hd M1 hb1 x hz mt).andE ?_
 rintro _ h2 ⟨rfl,bl,bu,M2,k2,hb2⟩
 have k02 : Kf F h h2:=x1.thenKf k2
 generalize S.copyM x z mt = C at hst hgo bl bu M2 ⊢
 obtain ⟨T,l,ok,er⟩:=C
 simp only at hst hgo bl bu M2 ⊢
 have ul : (u8s l).length = 32:=by rw [u8s_len,bl]
 simp only [walkE,zs32_cells]
 refine Ok.st (u8s l) (get_new_same _ _) rfl (by show lenR (u8s l) = 32; rw [len_length,ul]) (laidR_all (by show (u8s zs32).length = (u8s l).length; rw [ul,u8s_len,zs32_len])) ?_
 have x3 : Ext h2 ((h2.new (.cells (u8s zs32) 87)).put h2.next (.cells (u8s l) 87)):=(Chg.new h2 _ : Ext _ _).andPut (.inr (Nat.le_refl _)) (Nat.lt_succ_self _) _
 have g8 : ((h2.new (.cells (u8s zs32) 87)).put h2.next (.cells (u8s l) 87)).get h2.next = some (.cells (u8s l) 87):=get_put_same _ _ _
 generalize (h2.new (.cells (u8s zs32) 87)).put h2.next (.cells (u8s l) 87) = h3 at x3 g8 ⊢
 have hb3:=x3.hb hb2
 have M3:=(M2.ext hb2 x3).less fun i (hi : F i)=>Or.inl (sub i hi)
 have k03 : Kf F h h3:=k02.trans x3.kf
 have g4:=k03.at hb g4 f4
 have l4:=hb3 _ _ g4
 have stop : (ok = true\/¬ er = 0)->Ok (ldNE 32 (.ptr h2.next 0) h3 fun v46=>stE 32 (.ptr b4 0) v46 h3 fun h=>resE TT [.c (.ptr b4 0) 87,.v (I er)] h) Q:=fun hc=>by
  rw [ldsN g8 rfl,cutR_all ul]
  try simp only [walkE]
  refine Ok.st (u8s l) g4 rfl (by show lenR (u8s l) = 32; rw [len_length,ul]) (laidR_all (by show (u8s zs32).length = (u8s l).length; rw [ul,u8s_len,zs32_len])) ?_
  rw [resE_cellV (get_put_same _ _ _) TT87.1 TT87.2 ul]
  have c8 : Chg (fun i=>i = b4) h3 (h3.put b4 (.cells (u8s l) 87)):=(Chg.refl (S:=fun i=>i = b4) h3).andPut (.inl rfl) l4 _
  exact .ret (hst hc _ (M3.turn c8 fun i hi _=>hi ▸ f4) ((k03.less fun i hi=>hi.1).trans (c8.mono fun i hi y=>y.2 hi)) (hb3.put l4 _) bl)
 simp only [I,walkI] at stop ⊢
 cases ok with
 | true=>
  simp only [walkE,walkI,mirror_Mirror_Read_j3]
  exact stop (.inl rfl)
 | false=>
  simp only [walkE,walkI,mirror_Mirror_Read_j3]
  by_cases h0 : er = 0
  ·simp only [h0,not_true_eq_false,decide_false,walkE]
   exact hgo (by rw [h0]; simp) h3 M3 k03 hb3
  ·simp only [h0,not_false_eq_true,decide_true,walkE]
   exact stop (.inr h0)
end
noncomputable def Mi.read (S : Mi) (x : Me) : Mi × List Nat × Int:=
 if livesB S.g x = false then (S,zs32,10) else
 if (S.copyM x x.zone x.mate).2.2.1 = true\/¬ (S.copyM x x.zone x.mate).2.2.2 = 0 then ((S.copyM x x.zone x.mate).1,(S.copyM x x.zone x.mate).2.1,(S.copyM x x.zone x.mate).2.2.2) else
 if ((S.copyM x x.zone x.mate).1.copyM x x.mate x.zone).2.2.1 = true\/¬ ((S.copyM x x.zone x.mate).1.copyM x x.mate x.zone).2.2.2 = 0 then (((S.copyM x x.zone x.mate).1.copyM x x.mate x.zone).1,((S.copyM x x.zone x.mate).1.copyM x x.mate x.zone).2.1,((S.copyM x x.zone x.mate).1.copyM x x.mate x.zone).2.2.2) else
 (((S.copyM x x.zone x.mate).1.copyM x x.mate x.zone).1,zs32,41)
theorem mir_read (A : Agree disp) (hK : 10000 < K) {d : Nat} (hd : 21<=d) {h : AHeap} {m : Nat} {S : Mi} {F : Nat->Prop} (M : MirF h m S F) (hb : HB h) {x : Me} (hz : Rng x.zone) (hm : Rng x.mate) :
 Ok (callC TT disp K d false 35 [.ptr m 0,.agg x.cells] h) fun v h'=>v = .tuple [.agg (u8s (S.read x).2.1),I (S.read x).2.2]/\(S.read x).2.1.length = 32/\MirF h' m (S.read x).1 F/\Kf F h h'/\HB h':=by
 obtain ⟨dd,rfl⟩ : ∃ k,d = k + 1:=⟨d - 1,by omega⟩
 rw [mirror_Mirror_Read_run A (by omega)]
 simp only [mirror_Mirror_Read,walkE]
 rw [show (h.new (.cells x.cells 83)).next = h.next + 1 from rfl,zs32_cells]
 have x1 : Ext h ((h.new (.cells x.cells 83)).new (.cells (u8s zs32) 87)):=(Chg.new _ _).andNew _
 have g3 : ((h.new (.cells x.cells 83)).new (.cells (u8s zs32) 87)).get h.next = some (.cells x.cells 83):=by
  rw [get_new_lt _ (Nat.lt_succ_self _)]; exact get_new_same _ _
 have g4 : ((h.new (.cells x.cells 83)).new (.cells (u8s zs32) 87)).get (h.next + 1) = some (.cells (u8s zs32) 87):=get_new_same _ _
 have n1 : ((h.new (.cells x.cells 83)).new (.cells (u8s zs32) 87)).next = h.next + 2:=rfl
 generalize (h.new (.cells x.cells 83)).new (.cells (u8s zs32) 87) = h1 at x1 g3 g4 n1 ⊢
 have hb1:=x1.hb hb
 have M1:=M.ext hb x1
 rw [ldsN g3 rfl,cutR_all (n:=6) rfl]
 try simp only [walkE]
 refine (mir_lives (K:=K) M1 hb1 hz hm).andE ?_
 rintro _ h2 ⟨rfl,x2⟩
 have hb2:=x2.hb hb1
 have x02 : Ext h h2:=x1.trans x2
 have M2:=M.ext hb x02
 have g3:=x2.at hb1 g3
 have g4:=x2.at hb1 g4
 have ln:=x2.next
 have f3 : Grow F h h2 h.next:=.inr ⟨Nat.le_refl _,by omega⟩
 have f4 : Grow F h h2 (h.next + 1):=.inr ⟨by omega,by omega⟩
 have sub : ∀ i,F i->Grow F h h2 i:=fun i hi=>.inl hi
 have back : ∀ h',Kf (fun i=>Grow F h h2 i/\¬ i = h.next + 1) h2 h'->Kf F h h':=fun h' k=>
  Chg.then (S:=fun i=>¬ F i) (Ext.to x02) k fun i y hl z=>y ⟨.inl z,fun y=>by have:=M.lt i z; omega⟩
 have fin : ∀ (h3 : AHeap) (T : Mi) (er : Int),MirF h3 m T (Grow F h h2)->Kf (Grow F h h2) h2 h3->HB h3 ->
  Ok (buildE (evenP 1) (u8s zs32) [] fun v=>stE 32 (.ptr (h.next + 1) 0) v h3 fun h'=>resE TT [.c (.ptr (h.next + 1) 0) 87,.v (I er)] h') fun v h'=>v = .tuple [.agg (u8s zs32),I er]/\zs32.length = 32/\MirF h' m T F/\Kf F h h'/\HB h':=by
  intro h3 T er M3 k3 hb3
  have g4:=k3.at hb2 g4 f4
  have l4:=hb3 _ _ g4
  rw [buildE_at (l:=u8s zs32) rfl]
  refine Ok.st (u8s zs32) g4 rfl rfl (laidR_all rfl) ?_
  rw [resE_cellV (get_put_same _ _ _) TT87.1 TT87.2 rfl]
  have c8 : Chg (fun i=>i = h.next + 1) h3 (h3.put (h.next + 1) (.cells (u8s zs32) 87)):=(Chg.refl (S:=fun i=>i = h.next + 1) h3).andPut (.inl rfl) l4 _
  exact .ret ⟨rfl,rfl,(M3.turn c8 fun i hi _=>hi ▸ f4).less sub,back _ ((k3.less fun i hi=>hi.1).trans (c8.mono fun i hi y=>y.2 hi)),hb3.put l4 _⟩
 unfold Mi.read
 cases hl : livesB S.g x with
 | false=>
  simp only [walkE,if_true]
  exact fin h2 S 10 M2 (Chg.refl _) hb2
 | true=>
  rw [if_neg (by simp)]
  simp only [walkE,mirror_Mirror_Read_j6]
  rw [ld1E_at g3 rfl (v:=I x.zone) rfl]
  try simp only [walkE]
  rw [ld1E_at g3 rfl (v:=I x.mate) rfl,buildE_at (l:=[I x.zone,I x.mate]) rfl]
  try simp only [walkE]
  rw [ld1E_at g3 rfl (v:=I x.mate) rfl]
  try simp only [walkE]
  rw [ld1E_at g3 rfl (v:=I x.zone) rfl,buildE_at (l:=[I x.mate,I x.zone]) rfl,buildE_at (l:=[I x.zone,I x.mate,I x.mate,I x.zone]) rfl]
  obtain ⟨k,rfl⟩ : ∃ k,K = k + 3:=⟨K - 3,by omega⟩
  rw [show mirror_Mirror_Read_b5 (callC TT disp (k + 3) dd false) (callC TT disp (k + 3) dd true) (k + 3) (k + 3) = mirror_Mirror_Read_b5 (callC TT disp (k + 3) dd false) (callC TT disp (k + 3) dd true) (k + 3) (k + 2 + 1) from rfl]
  rw [mirror_Mirror_Read_b5]; simp only [walkI,show decide ((0 : Int) < 2) = true from rfl,walkE]
  refine read_step A hK (by omega) M2 hb2 x (i:=0) hz (fun k=>rfl) f3 f4 g3 g4 ?_ ?_
  ·intro hc h3 M3 k3 hb3 bl
   rw [if_pos hc]
   exact ⟨rfl,bl,M3.less sub,back _ k3,hb3⟩
  ·intro hc h3 M3 k3 hb3
   rw [if_neg hc]
   simp only [mirror_Mirror_Read_j2,walkI]
   rw [show wrapF .i64 (((0 : Nat) : Int) + 1) = ((1 : Nat) : Int) from rfl]
   rw [show mirror_Mirror_Read_b5 (callC TT disp (k + 3) dd false) (callC TT disp (k + 3) dd true) (k + 3) (k + 2) = mirror_Mirror_Read_b5 (callC TT disp (k + 3) dd false) (callC TT disp (k + 3) dd true) (k + 3) (k + 1 + 1) from rfl]
   rw [mirror_Mirror_Read_b5]; simp only [walkI,show decide (((1 : Nat) : Int) < 2) = true from rfl,walkE]
   have g33:=k3.at hb2 g3 f3
   have g43:=k3.at hb2 g4 f4
   refine read_step A hK (by omega) M3 hb3 x (i:=1) hm (fun k=>rfl) f3 f4 g33 g43 ?_ ?_
   ·intro hc h4 M4 k4 hb4 bl
    rw [if_pos hc]
    exact ⟨rfl,bl,M4.less sub,back _ ((k3.less fun i hi=>hi.1).trans k4),hb4⟩
   ·intro hc h4 M4 k4 hb4
    rw [if_neg hc]
    simp only [mirror_Mirror_Read_j2,walkI]
    rw [show wrapF .i64 (((1 : Nat) : Int) + 1) = ((2 : Nat) : Int) from rfl]
    rw [mirror_Mirror_Read_b5]; simp only [walkI,show decide (((2 : Nat) : Int) < 2) = false from rfl,walkE,mirror_Mirror_Read_j0,zs32_cells]
    exact fin h4 _ 41 M4 (k3.trans k4) hb4
section
variable (A : Agree disp) (hK : 10000 < K) {d : Nat} (hd : 20<=d) {h : AHeap} {m b3 b4 b7 : Nat} {S : Mi} {F : Nat->Prop} (M : MirF h m S F) (hb : HB h) (x : Me)
include A hK hd M hb
end
end Go.Ev

namespace Go.Ev
open Go.Proofs
set_option maxRecDepth 100000
variable {K : Nat} {disp : Nat->Option FT}
theorem TT33 : TT.size 33 = some 5/\TT.agg 33 = some true:=⟨by kernel_rfl,by kernel_rfl⟩
theorem TT42 : TT.size 42 = some 20/\TT.agg 42 = some true:=⟨by kernel_rfl,by kernel_rfl⟩
theorem ref07_loop {h0 : AHeap} {b6 b7 n : Nat} {size op : Int} (l6 : h0.next<=b6) (l67 : b6 < b7) (hn : n<=1000) : ∀ (m i : Nat) (h : AHeap) (s : EV) (q : Nat) (l : List EV),n - i < m->i<=n->HB h->Ext h0 h->h.get b6 = some (.cells [.nilslice,.int .i64 0,.int .i64 0,.int .i64 0,.bool false] 33) ->
 h.get b7 = some (.cells [s,I size,I op,.int .i64 0,.bool false] 33)->RowAt h s q 215 4 i l->(0 < i->b7 < q) ->
 Ok (revetmentref07_New_b4 K m (I n) (.ptr b6 0) (.ptr b7 0) (.int .i64 (i : Int)) h) fun v h'=>∃ s,v = .agg [s,I size,I op,I 0,.bool false]/\Ext h0 h'/\HB h':=by
 intro m
 induction m with
 | zero=>intro i h s q l hm; omega
 | succ m ih=>
  intro i h s q l hm hi hb x g6 g7 r hq
  have l7:=hb _ _ g7
  simp only [revetmentref07_New_b4,I,walkI]
  by_cases hlt : (i : Int) < n
  ·simp only [hlt,decide_true,walkE,revetmentref07_New_j3,lds g7 rfl]
   rw [buildE_at (l:=[.nilslice,.int .i64 0,.int .i64 0,.bool false]) rfl]
   refine append_one (z:=[.nilslice,.int .i64 0,.int .i64 0,.bool false]) r hb rfl rfl rfl (by omega) (by omega) ?_
   intro h2 r2 n2 c2
   have nq : ∀ {j o},h.get j = some o->(∀ l,o ≠ .vec l 215 4)->¬ (0 < i/\j = q):=fun gj ho y=>by
    have:=r.block y.1
    rw [y.2,this] at gj; cases gj; exact ho _ rfl
   have hb2:=c2.hb hb
   have x2 : Ext h0 h2:=x.then c2 fun j hj hl=>by
    have:=hq hj.1; omega
   have g62:=c2.at hb g6 (nq g6 (by intros; simp))
   have g72:=c2.at hb g7 (nq g7 (by intros; simp))
   have l72:=hb2 _ _ g72
   try simp only [walkE]
   refine Ok.st1 g72 rfl rfl (by show 0 < 5; decide) ?_
   simp only [List.set,revetmentref07_New_j2,walkI]
   rw [wi64 (by omega) (by omega)]
   have hs : (EV.slice (h.next + 1) 0 (i + 1) (i + 1) true) = .slice (h.next + 1) 0 (i + 1) (i + 1) true:=rfl
   refine ih (i + 1) _ _ (h.next + 1) _ (by omega) (by omega) (hb2.put l72 _) (x2.andPut (.inr (by omega)) l72 _) ?_ (get_put_same _ _ _) (r2.frame fun _=>get_put_ne _ ?_) (fun _=>by omega)
   ·rw [get_put_ne _ (by omega)]; exact g62
   ·omega
  ·simp only [hlt,decide_false,walkE,revetmentref07_New_j0]
   rw [ldsN g7 rfl,cutR_all (n:=5) rfl]
   try simp only [walkE]
   have l6':=hb _ _ g6
   refine Ok.st [s,I size,I op,.int .i64 0,.bool false] g6 rfl rfl (laidR_all rfl) ?_
   rw [resE_cell (get_put_same _ _ _) TT33.1 TT33.2 rfl]
   exact .ret ⟨s,rfl,x.andPut (.inr l6) l6' _,hb.put l6' _⟩
theorem ref07_new_ok {n : Nat} {size op : Int} (hn : n<=1000) (hK : 2000 < K) {h : AHeap} (hb : HB h) : Ok (revetmentref07_New K (I n) (I size) (I op) h) fun v h'=>∃ s,v = .agg [s,I size,I op,I 0,.bool false]/\Ext h h'/\HB h':=by
 simp only [revetmentref07_New,walkE]
 rw [buildE_at (l:=[.nilslice,I size,I op,.int .i64 0,.bool false]) rfl]
 refine Ok.st [.nilslice,I size,I op,.int .i64 0,.bool false] (get_new_same _ _) rfl rfl (laidR_all rfl) ?_
 have g6 : ((h.new (.cells [.nilslice,.int .i64 0,.int .i64 0,.int .i64 0,.bool false] 33)).new (.cells [.nilslice,.int .i64 0,.int .i64 0,.int .i64 0,.bool false] 33)).get h.next = some (.cells [.nilslice,.int .i64 0,.int .i64 0,.int .i64 0,.bool false] 33):=by
  rw [get_new_lt _ (Nat.lt_succ_self _)]; exact get_new_same _ _
 have x1 : Ext h ((h.new (.cells [.nilslice,.int .i64 0,.int .i64 0,.int .i64 0,.bool false] 33)).new (.cells [.nilslice,.int .i64 0,.int .i64 0,.int .i64 0,.bool false] 33)):=(Chg.new _ _).andNew _
 have n1 : ((h.new (.cells [.nilslice,.int .i64 0,.int .i64 0,.int .i64 0,.bool false] 33)).new (.cells [.nilslice,.int .i64 0,.int .i64 0,.int .i64 0,.bool false] 33)).next = h.next + 2:=rfl
 rw [show (h.new (.cells [.nilslice,.int .i64 0,.int .i64 0,.int .i64 0,.bool false] 33)).next = h.next + 1 from rfl]
 generalize (h.new (.cells [.nilslice,.int .i64 0,.int .i64 0,.int .i64 0,.bool false] 33)).new (.cells [.nilslice,.int .i64 0,.int .i64 0,.int .i64 0,.bool false] 33) = h1 at g6 x1 n1 ⊢
 have l7 : h.next + 1 < h1.next:=by omega
 refine ref07_loop (h0:=h) (b6:=h.next) (b7:=h.next + 1) (n:=n) (size:=size) (op:=op) (Nat.le_refl _) (by omega) hn K 0 _ .nilslice 0 [] (by omega) (by omega) ((x1.hb hb).put l7 _) (x1.andPut (.inr (by omega)) l7 _) ?_ (get_put_same _ _ _) (.nil _ _ _ _) (fun y=>absurd y (Nat.lt_irrefl _))
 rw [get_put_ne _ (by omega)]; exact g6
def ref14L (s : EV) (size op : Int) (g : Gm) : List EV:=[s,I size,I op,I 0,.bool false,.nilslice,.nilslice] ++ gL g ++ [I g.D,I g.Z,.nilslice,.nilslice,I (-1),I (-1),I 0]
theorem ref14_new_ok {s : EV} {size op : Int} {g : Gm} {h : AHeap} (hb : HB h) : Ok (revetmentref14_New K (.agg [s,I size,I op,I 0,.bool false,.nilslice,.nilslice]) (gV g) h) fun v h'=>v = .agg (ref14L s size op g)/\Ext h h'/\HB h':=by
 simp only [revetmentref14_New,gV,walkE]
 rw [show (h.new (.cells [s,I size,I op,I 0,.bool false,.nilslice,.nilslice] 36)).next = h.next + 1 from rfl]
 rw [show ((h.new (.cells [s,I size,I op,I 0,.bool false,.nilslice,.nilslice] 36)).new (.cells (gL g) 37)).next = h.next + 2 from rfl]
 generalize hz : ([EV.nilslice] ++ List.replicate 3 (EV.int .i64 0) ++ [EV.bool false] ++ List.replicate 2 EV.nilslice ++ List.replicate 8 (EV.int .i64 0) ++ List.replicate 2 EV.nilslice ++ List.replicate 3 (EV.int .i64 0)) = z20
 have x1 : Ext h (((h.new (.cells [s,I size,I op,I 0,.bool false,.nilslice,.nilslice] 36)).new (.cells (gL g) 37)).new (.cells z20 42)):=((Chg.new _ _).andNew _).andNew _
 have g2 : (((h.new (.cells [s,I size,I op,I 0,.bool false,.nilslice,.nilslice] 36)).new (.cells (gL g) 37)).new (.cells z20 42)).get h.next = some (.cells [s,I size,I op,I 0,.bool false,.nilslice,.nilslice] 36):=by
  rw [get_new_lt _ (by show h.next < h.next + 1 + 1; omega),get_new_lt _ (Nat.lt_succ_self _)]; exact get_new_same _ _
 have g3 : (((h.new (.cells [s,I size,I op,I 0,.bool false,.nilslice,.nilslice] 36)).new (.cells (gL g) 37)).new (.cells z20 42)).get (h.next + 1) = some (.cells (gL g) 37):=by
  rw [get_new_lt _ (by show h.next + 1 < h.next + 1 + 1; omega)]; exact get_new_same _ _
 have g4 : (((h.new (.cells [s,I size,I op,I 0,.bool false,.nilslice,.nilslice] 36)).new (.cells (gL g) 37)).new (.cells z20 42)).get (h.next + 2) = some (.cells z20 42):=get_new_same _ _
 generalize ((h.new (.cells [s,I size,I op,I 0,.bool false,.nilslice,.nilslice] 36)).new (.cells (gL g) 37)).new (.cells z20 42) = h1 at x1 g2 g3 g4 ⊢
 have hb1:=x1.hb hb
 rw [ldsN g2 rfl,cutR_all (n:=7) rfl]
 try simp only [walkE]
 rw [ldsN g3 rfl,cutR_all (n:=6) rfl]
 simp only [lds g3 rfl,gL,walkE,I]
 rw [buildE_at (l:=[.int .i64 g.D,.int .i64 g.Z,.nilslice]) rfl]
 subst hz
 rw [buildE_at (l:=ref14L s size op g) rfl]
 have l4:=hb1 _ _ g4
 refine Ok.st (ref14L s size op g) g4 rfl rfl (laidR_all rfl) ?_
 rw [resE_cell (get_put_same _ _ _) TT42.1 TT42.2 rfl]
 exact .ret ⟨rfl,x1.andPut (.inr (by omega)) l4 _,hb1.put l4 _⟩
theorem resE_VcV {h : AHeap} {i t n : Nat} {l : List EV} {v w : EV} (hg : h.get i = some (.cells l t)) (hs : TT.size t = some n) (ha : TT.agg t = some true) (hl : l.length = n) : resE TT [.v v,.c (.ptr i 0) t,.v w] h = some (.tuple [v,.agg l,w],h):=by
 have hr : readAt h i 0 n = some l:=by
  unfold readAt; rw [hg]; simp only; rw [<-cutR_eq]; exact cutR_all hl
 unfold resE
 simp only [resV,hs,hr,ha]
noncomputable def Drv.new (n size : Nat) (op : Int) : Drv:=⟨⟨n,size,op,0,false,fun _=>Zn.empty⟩,[],[]⟩
noncomputable def Mi.new (g : Gm) : Mi:=⟨g,Drv.new (g.D * g.Z).toNat g.S.toNat g.O,fun _=>[],fun _=>0,-1,-1,0⟩
theorem mir_new {g : Gm} (s : Sm g) {h0 h : AHeap} (hb : HB h) {D V M zl m p bl ql : Nat} {z q c : Nat->Nat} (d : DriveAt h D V M zl (g.D * g.Z).toNat z (fun _=>0) g.S g.O 0 false .nilslice .nilslice [] (fun _=>Zn.empty))
 (nd : (h0.next<=D/\h0.next<=M)/\h0.next<=V/\h0.next<=zl/\∀ d,d < (g.D * g.Z).toNat->h0.next<=z d) (MA : MirAt h m D p bl (g.D * g.Z).toNat g (-1) (-1) 0 (fun _=>0)) (PA : PoolAt h p ql g.D.toNat q c g (fun _=>[]))
 (nm : (h0.next<=m/\h0.next<=bl)/\h0.next<=p/\h0.next<=ql/\∀ d,d < g.D.toNat->h0.next<=q d/\h0.next<=c d) (le : h0.next<=h.next) : MirF h m (Mi.new g) (fun i=>i < h0.next):=by
 have:=s.d0; have:=s.d1; have:=s.z0; have:=s.z1; have:=s.s0; have:=s.s1
 obtain ⟨m0,m1⟩:=mul_bd (a:=g.D) (b:=g.Z) (A:=8) (B:=64) (by omega) (by omega) (by omega) (by omega)
 have hdev:=d.dev
 have hzone : ∀ i,i < (g.D * g.Z).toNat->∃ s,h.get (z i) = some (.cells [s,I g.S,I 0,I 0,.bool false] 240):=fun i hi=>by
  obtain ⟨s,a,_⟩:=(hdev.zone i hi).zone; exact ⟨s,a⟩
 have hF : ∀ i,DevF V zl (g.D * g.Z).toNat z (fun _=>0) (fun _=>Zn.empty) i->i = V\/i = zl\/∃ d,d < (g.D * g.Z).toNat/\i = z d:=fun i hi=>by
  rcases hi with y | y | ⟨d,hd,y | y⟩
  ·exact .inl y
  ·exact .inr (.inl y)
  ·exact .inr (.inr ⟨d,hd,y⟩)
  ·exact absurd rfl y.1
 have kind : ∀ i o,h.get i = some o->(∀ l,o ≠ .cells l 183)->(∀ l,o ≠ .vec l 180 1)->(∀ l,o ≠ .cells l 240)->¬ DevF V zl (g.D * g.Z).toNat z (fun _=>0) (fun _=>Zn.empty) i:=fun i o g1 h1 h2 h3 hi=>by
  rcases hF i hi with y | y | ⟨d,hd,y⟩
  ·subst y; rw [hdev.dev] at g1; cases g1; exact h1 _ rfl
  ·subst y; rw [hdev.row] at g1; cases g1; exact h2 _ rfl
  ·subst y
   obtain ⟨s,hs⟩:=hzone d hd
   rw [hs] at g1; cases g1; exact h3 _ rfl
 have kindG : ∀ i o,h.get i = some o->(∀ l,o ≠ .cells l 183)->(∀ l,o ≠ .vec l 180 1)->(∀ l,o ≠ .cells l 240)->(∀ l,o ≠ .cells l 166)->(∀ l,o ≠ .map l)->¬ (i = D\/i = M\/DevF V zl (g.D * g.Z).toNat z (fun _=>0) (fun _=>Zn.empty) i):=fun i o g1 h1 h2 h3 h4 h5 hi=>by
  rcases hi with y | y | y
  ·subst y; rw [d.drive] at g1; cases g1; exact h4 _ rfl
  ·subst y; rw [d.marks] at g1; cases g1; exact h5 _ rfl
  ·exact kind i o g1 h1 h2 h3 y
 have lowF : ∀ i,DevF V zl (g.D * g.Z).toNat z (fun _=>0) (fun _=>Zn.empty) i->i < h.next/\h0.next<=i:=fun i hi=>by
  rcases hF i hi with y | y | ⟨d,hd,y⟩
  ·subst y; exact ⟨hb _ _ hdev.dev,nd.2.1⟩
  ·subst y; exact ⟨hb _ _ hdev.row,nd.2.2.1⟩
  ·subst y
   obtain ⟨s,hs⟩:=hzone d hd
   exact ⟨hb _ _ hs,nd.2.2.2 d hd⟩
 have hS : g.S = ((g.S.toNat : Nat) : Int):=by omega
 have drvS : DrvS h D (Drv.new (g.D * g.Z).toNat g.S.toNat g.O) (fun i=>i = D\/i = M\/DevF V zl (g.D * g.Z).toNat z (fun _=>0) (fun _=>Zn.empty) i):=by
  have zw : ∀ size : Nat,0 < size->Zn.empty.Wf size:=fun size hs=>⟨fun x hx=>(by cases hx),by show 0<=4; omega,Nat.le_refl _,Nat.zero_le _,fun _=>hs⟩
  have dw : Dv.Wf ⟨(g.D * g.Z).toNat,g.S.toNat,g.O,0,false,fun _=>Zn.empty⟩:=⟨by show g.S.toNat<=64; omega,by show (g.D * g.Z).toNat<=512; omega,fun i _=>zw _ (by show 0 < g.S.toNat; omega)⟩
  refine ⟨fun i hi=>?_,⟨by show 0 + 0<=200; omega,fun e he=>(by cases he),fun e he=>(by cases he)⟩,V,M,0,0,.nilslice,.nilslice,[],_,d.drive,d.marks,fun e he=>(by cases he),.nil _ _ _ _,.nil _ _ _ _,⟨dw,fun i hi=>(lowF i hi).1,zl,z,fun _=>0,?_,fun i hi=>hi⟩,⟨fun i hi=>.inr (.inr hi),.inl rfl,.inr (.inl rfl),fun y=>absurd y (Nat.lt_irrefl _),fun y=>absurd y (Nat.lt_irrefl _)⟩,⟨kind _ _ d.drive (by intros; simp) (by intros; simp) (by intros; simp),kind _ _ d.marks (by intros; simp) (by intros; simp) (by intros; simp),fun y=>absurd y (Nat.lt_irrefl _),fun y=>absurd y (Nat.lt_irrefl _),fun y=>absurd y (Nat.lt_irrefl _)⟩⟩
  ·rcases hi with y | y | y
   ·subst y; exact hb _ _ d.drive
   ·subst y; exact hb _ _ d.marks
   ·exact (lowF i y).1
  ·show DevAt h V zl (g.D * g.Z).toNat z (fun _=>0) ((g.S.toNat : Nat) : Int) g.O 0 false (fun _=>Zn.empty)
   rw [<-hS]; exact hdev
 refine ⟨⟨fun i hi=>hi.1,D,p,bl,ql,g.D.toNat,q,c,_,MA,PA,⟨rfl,s,fun d _=>Nat.zero_le _⟩,drvS,?_,?_⟩,fun i hi=>Nat.lt_of_lt_of_le hi le,{ toWp:=⟨s,fun d _ x hx=>by cases hx⟩,op:=.inl ⟨rfl,rfl⟩ }⟩
 ·have k:=kindG
  exact ⟨k _ _ MA.mir (by intros; simp) (by intros; simp) (by intros; simp) (by intros; simp) (by intros; simp),k _ _ MA.bads (by intros; simp) (by intros; simp) (by intros; simp) (by intros; simp) (by intros; simp),k _ _ PA.pool (by intros; simp) (by intros; simp) (by intros; simp) (by intros; simp) (by intros; simp),k _ _ PA.row (by intros; simp) (by intros; simp) (by intros; simp) (by intros; simp) (by intros; simp),
   fun d hd=>⟨k _ _ (PA.que d hd) (by intros; simp) (by intros; simp) (by intros; simp) (by intros; simp) (by intros; simp),k _ _ (PA.chan d hd) (by intros; simp) (by intros; simp) (by intros; simp) (by intros; simp) (by intros; simp)⟩⟩
 ·refine ⟨fun i hi=>?_,⟨hb _ _ MA.mir,by omega⟩,⟨hb _ _ MA.bads,by omega⟩,⟨hb _ _ PA.pool,by omega⟩,⟨hb _ _ PA.row,by omega⟩,fun d hd=>⟨⟨hb _ _ (PA.que d hd),by have:=nm.2.2.2 d hd; omega⟩,⟨hb _ _ (PA.chan d hd),by have:=nm.2.2.2 d hd; omega⟩⟩⟩
  rcases hi with y | y | y
  ·subst y; exact ⟨hb _ _ d.drive,by omega⟩
  ·subst y; exact ⟨hb _ _ d.marks,by omega⟩
  ·exact ⟨(lowF i y).1,by have:=(lowF i y).2; omega⟩
end Go.Ev

namespace Go.Ev
open Go.Proofs
set_option maxRecDepth 100000
variable {K : Nat} {disp : Nat->Option FT}
def z20 : List EV:=[EV.nilslice] ++ List.replicate 3 (EV.int .i64 0) ++ [EV.bool false] ++ List.replicate 2 EV.nilslice ++ List.replicate 8 (EV.int .i64 0) ++ List.replicate 2 EV.nilslice ++ List.replicate 3 (EV.int .i64 0)
theorem started14_ok (hK : 2000 < K) (g : Gm) {h : AHeap} (hb : HB h) : Ok (revetmentlaw14_started K (gV g) h) fun v h'=>Ext h h'/\HB h'/\∃ l : List EV,l.length = 20 /\
 if rtB g = true/\g.D * g.Z<=64 then ∃ m,v = .tuple [.ptr m 0,.agg l,.bool true]/\MirF h' m (Mi.new g) (fun i=>i < h.next) else v = .tuple [.nilptr,.agg l,.bool false]:=by
 have hz : [EV.nilslice] ++ List.replicate 3 (EV.int .i64 0) ++ [EV.bool false] ++ List.replicate 2 EV.nilslice ++ List.replicate 8 (EV.int .i64 0) ++ List.replicate 2 EV.nilslice ++ List.replicate 3 (EV.int .i64 0) = z20:=rfl
 have zl : z20.length = 20:=rfl
 simp only [revetmentlaw14_started,gV,walkE,hz]
 rw [show (h.new (.cells (gL g) 23)).next = h.next + 1 from rfl]
 have x1 : Ext h ((h.new (.cells (gL g) 23)).new (.cells z20 42)):=(Chg.new _ _).andNew _
 have g1 : ((h.new (.cells (gL g) 23)).new (.cells z20 42)).get h.next = some (.cells (gL g) 23):=by
  rw [get_new_lt _ (Nat.lt_succ_self _)]; exact get_new_same _ _
 have g3 : ((h.new (.cells (gL g) 23)).new (.cells z20 42)).get (h.next + 1) = some (.cells z20 42):=get_new_same _ _
 have n1 : ((h.new (.cells (gL g) 23)).new (.cells z20 42)).next = h.next + 2:=rfl
 generalize (h.new (.cells (gL g) 23)).new (.cells z20 42) = h1 at x1 g1 g3 n1 ⊢
 have hb1:=x1.hb hb
 rw [ldsN g1 rfl,cutR_all (n:=6) rfl]
 try simp only [walkE]
 refine Ok.st (gL g) (get_new_same _ _) rfl rfl (laidR_all rfl) ?_
 have x2 : Ext h1 ((h1.new (.cells [EV.int .i64 0,.int .i64 0,.int .i64 0,.int .i64 0,.int .i64 0,.int .i64 0] 37)).put h1.next (.cells (gL g) 37)):=(Chg.new h1 _ : Ext _ _).andPut (.inr (Nat.le_refl _)) (Nat.lt_succ_self _) _
 have g5 : ((h1.new (.cells [EV.int .i64 0,.int .i64 0,.int .i64 0,.int .i64 0,.int .i64 0,.int .i64 0] 37)).put h1.next (.cells (gL g) 37)).get h1.next = some (.cells (gL g) 37):=get_put_same _ _ _
 generalize (h1.new (.cells [EV.int .i64 0,.int .i64 0,.int .i64 0,.int .i64 0,.int .i64 0,.int .i64 0] 37)).put h1.next (.cells (gL g) 37) = h2 at x2 g5 ⊢
 have hb2:=x2.hb hb1
 rw [ldsN g5 rfl,cutR_all (n:=6) rfl]
 try simp only [walkE]
 rw [show EV.agg (gL g) = gV g from rfl]
 refine (rright_ok g (by omega) h2).andE ?_
 rintro _ h3 ⟨rfl,x3⟩
 have hb3:=x3.hb hb2
 have x03 : Ext h h3:=(x1.trans x2).trans x3
 have x13 : Ext h1 h3:=x2.trans x3
 have no : ∀ h4,Ext h3 h4->¬ (rtB g = true/\g.D * g.Z<=64)->Ok (buildE (nthPR [(0,7),(7,6),(13,3),(16,1),(17,1),(18,1),(19,1)]) z20 [] fun v22=>stE 20 (.ptr (h.next + 1) 0) v22 h4 fun h=>resE TT [.v .nilptr,.c (.ptr (h1.next - 1) 0) 42,.v (.bool false)] h) fun v h'=>Ext h h'/\HB h'/\∃ l : List EV,l.length = 20 /\
  if rtB g = true/\g.D * g.Z<=64 then ∃ m,v = .tuple [.ptr m 0,.agg l,.bool true]/\MirF h' m (Mi.new g) (fun i=>i < h.next) else v = .tuple [.nilptr,.agg l,.bool false]:=by
  intro h4 x4 hn
  have hb4:=x4.hb hb3
  have g34:=x4.at hb3 (x13.at hb1 g3)
  have l3:=hb4 _ _ g34
  rw [buildE_at (l:=z20) rfl]
  refine Ok.st z20 g34 rfl rfl (laidR_all rfl) ?_
  rw [show h1.next - 1 = h.next + 1 by omega,resE_VcV (get_put_same _ _ _) TT42.1 TT42.2 rfl]
  refine .ret ⟨(x03.trans x4).andPut (.inr (by omega)) l3 _,hb4.put l3 _,z20,rfl,?_⟩
  rw [if_neg hn]
 rw [show h1.next - 1 = h.next + 1 by omega] at no
 cases hr : rtB g with
 | false=>
  simp only [walkE,walkI,revetmentlaw14_started_j4,hz]
  have:=no h3 (Chg.refl _) (by rw [hr]; simp)
  rw [hr] at this
  exact this
 | true=>
  have s:=rtB_sm hr
  have:=s.d0; have:=s.d1; have:=s.z0; have:=s.z1; have:=s.s0; have:=s.s1; have:=s.o0; have:=s.o1
  obtain ⟨m0,m1⟩:=mul_bd (a:=g.D) (b:=g.Z) (A:=8) (B:=64) (by omega) (by omega) (by omega) (by omega)
  have m2 : 3<=g.D * g.Z:=by
   have : 3 * 1<=g.D * g.Z:=Int.mul_le_mul (by omega) (by omega) (by omega) (by omega)
   omega
  have g13:=x13.at hb1 g1
  simp only [walkE,walkI,lds g13 rfl,gL,I]
  rw [wi64 (by omega) (by omega)]
  by_cases h64 : 64 < g.D * g.Z
  ·have hn : ¬ (rtB g = true/\g.D * g.Z<=64):=fun y=>by omega
   have:=no h3 (Chg.refl _) hn
   rw [hr] at this
   simp only [h64,decide_true,walkE,revetmentlaw14_started_j4,hz]
   simpa using this
  ·have hy : rtB g = true/\g.D * g.Z<=64:=⟨hr,by omega⟩
   simp only [h64,decide_false,walkE,revetmentlaw14_started_j4,revetmentlaw14_started_j3,lds g13 rfl,gL,I,walkI]
   rw [wi64 (by omega) (by omega)]
   have hd : devRight (g.D * g.Z) g.S g.O = true:=by
    unfold devRight
    rw [wi_iff.2 ⟨by omega,by omega⟩,wi_iff.2 ⟨by omega,by omega⟩,wi_iff.2 ⟨by omega,by omega⟩]; rfl
   refine (plan_new_yes (K:=K) hd (by omega) hb3).andE ?_
   rintro _ h4 ⟨D,V,M,zl',z,rfl,x4,hb4,dr,nd⟩
   have g14:=x4.at hb3 g13
   have g34:=x4.at hb3 (x13.at hb1 g3)
   have g54:=x4.at hb3 (x3.at hb2 g5)
   simp only [walkE,I,walkI,not_true_eq_false,decide_false,revetmentlaw14_started_j2,walkD]
   have l14:=hb4 _ _ g14
   rw [loadE_lt l14 (by kernel_rfl),ldsN g14 rfl,cutR_all (n:=6) rfl]
   try simp only [walkE,walkD]
   rw [bigE_pure (v:=crcV) (by kernel_rfl) (by kernel_rfl) rfl]
   have dr' : DriveAt h4.lift D V M zl' (g.D * g.Z).toNat z (fun _=>0) g.S g.O 0 false .nilslice .nilslice [] (fun _=>Zn.empty):=dr.ext fun i o g=>by rw [lift_get]; exact g
   refine Ok.bigE (by kernel_rfl) (by kernel_rfl) (mirror_new_ok (K:=K) (g:=g) (by omega) (lift_hb hb4) dr') (fun _ _ p=>p.1) ?_
   rintro v h5' h5 ⟨_,hb5',hv⟩ sm x5
   have hb5:=x5.hb hb4
   rw [if_pos ⟨hr,by omega,rfl⟩] at hv
   obtain ⟨m,p,bl,ql,q,c,rfl,MA,PA,nm⟩:=hv
   have k5 : ∀ i o,h5'.get i = some o->h5.get i = some o:=fun i o g=>by rw [sm.get]; exact g
   have MA:=MA.ext k5
   have PA:=PA.ext k5
   have M5:=mir_new s (h0:=h3) hb5 (dr.ext fun i o g=>x5.at hb4 g) nd MA PA (by
    have t2:=x4.next
    have t3 : h4.lift.next = h4.next:=rfl
    exact ⟨⟨by omega,by omega⟩,by omega,by omega,fun d hd=>by have:=nm.2.2.2 d hd; omega⟩) (by have:=x4.next; have:=x5.next; omega)
   have g15:=x5.at hb4 g14
   have g35:=x5.at hb4 g34
   have g55:=x5.at hb4 g54
   have l15:=hb5 _ _ g15
   have l55:=hb5 _ _ g55
   simp only [walkE,I,walkI,not_true_eq_false,decide_false]
   rw [show ∀ k : EV->R,intE gEql (bin TT .eql 29) (.ptr m 0) .nilptr k = k (.bool false) from fun k=>by kernel_rfl]
   simp only [revetmentlaw14_started_j1,walkE,revetmentlaw14_started_j0,walkD]
   rw [loadE_lt l15 (by kernel_rfl),ld1E_at g15 rfl (v:=I g.D) rfl]
   try simp only [walkE,walkD]
   rw [loadE_lt l15 (by kernel_rfl),ld1E_at g15 rfl (v:=I g.Z) rfl]
   simp only [walkE,walkD,I,walkI]
   rw [loadE_lt l15 (by kernel_rfl),ld1E_at g15 rfl (v:=I g.S) rfl]
   try simp only [walkE,walkD]
   rw [loadE_lt l15 (by kernel_rfl),ld1E_at g15 rfl (v:=I g.O) rfl]
   try simp only [walkE,walkD]
   rw [wi64 (by omega) (by omega)]
   have hn : (EV.int .i64 (g.D * g.Z)) = I (((g.D * g.Z).toNat : Nat) : Int):=by unfold I; congr 1; omega
   rw [hn]
   refine Ok.bigE (by kernel_rfl) (by kernel_rfl) (ref07_new_ok (K:=K) (n:=(g.D * g.Z).toNat) (size:=g.S) (op:=g.O) (by omega) hK (lift_hb hb5)) (fun _ _ p=>by obtain ⟨_,_,x,_⟩:=p; exact x) ?_
   rintro _ h6' h6 ⟨sl,rfl,_,_⟩ _ x6
   have hb6:=x6.hb hb5
   rw [buildE_at (l:=[sl,I g.S,I g.O,I 0,.bool false,.nilslice,.nilslice]) rfl]
   have g56:=x6.at hb5 g55
   have l56:=hb6 _ _ g56
   try simp only [walkE,walkD]
   rw [loadE_lt l55 (by kernel_rfl),ldsN g56 rfl,cutR_all (n:=6) rfl]
   try simp only [walkE,walkD]
   refine Ok.bigE (by kernel_rfl) (by kernel_rfl) (ref14_new_ok (K:=K) (s:=sl) (size:=g.S) (op:=g.O) (g:=g) (lift_hb hb6)) (fun _ _ p=>p.2.1) ?_
   rintro _ h7' h7 ⟨rfl,_,_⟩ _ x7
   have hb7:=x7.hb hb6
   have g37:=x7.at hb6 (x6.at hb5 g35)
   have l37:=hb7 _ _ g37
   have x57 : Ext h5 h7:=x6.trans x7
   rw [stoE_at (by kernel_rfl)]
   refine Ok.st (ref14L sl g.S g.O g) g37 rfl rfl (laidR_all rfl) ?_
   rw [resE_VcV (get_put_same _ _ _) TT42.1 TT42.2 rfl]
   have x07 : Ext h h7:=((x03.trans x4).trans x5).trans x57
   refine .ret ⟨x07.andPut (.inr (by omega)) l37 _,hb7.put l37 _,ref14L sl g.S g.O g,rfl,?_⟩
   rw [if_pos (by simpa using hy.2)]
   refine ⟨m,rfl,?_⟩
   have c8 : Chg (fun i=>i = h.next + 1) h7 (h7.put (h.next + 1) (.cells (ref14L sl g.S g.O g) 42)):=(Chg.refl (S:=fun i=>i = h.next + 1) h7).andPut (.inl rfl) l37 _
   have t3:=x13.next
   have M8:=((M5.ext hb5 x57).less fun i (hi : i < h3.next)=>Or.inl hi).turn c8 fun i hi _=>by
    have hi : i = h.next + 1:=hi
    omega
   exact M8.less fun i hi=>by omega
end Go.Ev

namespace Go.Ev
open Go.Proofs
set_option maxRecDepth 100000
variable {K : Nat} {disp : Nat->Option FT}
theorem sumF_one {ps : Nat->List Int} {a : Nat} : ∀ n,a < n->(ps a).length<=sumF ps n
 | 0,h=>absurd h (Nat.not_lt_zero _)
 | n + 1,h=>by
  rw [sumF_succ]
  rcases Nat.lt_succ_iff_lt_or_eq.1 h with y | y
  ·have:=sumF_one (ps:=ps) n y; omega
  ·subst y; omega
theorem sumF_two {ps : Nat->List Int} {a b : Nat} (hab : a ≠ b) : ∀ n,a < n->b < n->(ps a).length + (ps b).length<=sumF ps n
 | 0,h,_=>absurd h (Nat.not_lt_zero _)
 | n + 1,ha,hb=>by
  rw [sumF_succ]
  rcases Nat.lt_succ_iff_lt_or_eq.1 ha with y | y <;> rcases Nat.lt_succ_iff_lt_or_eq.1 hb with z | z
  ·have:=sumF_two (ps:=ps) hab n y z; omega
  ·subst z; have:=sumF_one (ps:=ps) b y; omega
  ·subst y; have:=sumF_one (ps:=ps) a z; omega
  ·omega
theorem pairsF_pos {ps : Nat->List Int} {a b n : Nat} (hab : a ≠ b) (ha : a < n) (hb : b < n) (h1 : ps a ≠ []) (h2 : ps b ≠ []) : ¬ pairsF ps n = 0:=by
 have l1:=List.length_pos_iff.2 h1
 have l2:=List.length_pos_iff.2 h2
 have s:=sumF_two (ps:=ps) hab n ha hb
 have key : (lenAt ps n (fullF ps (-1) n) : Int) + 1<=sumF ps n:=by
  unfold lenAt
  split
  ·rename_i hf
   by_cases hc : (fullF ps (-1) n).toNat = a
   ·have:=sumF_two (ps:=ps) (a:=(fullF ps (-1) n).toNat) (b:=b) (by omega) n (by omega) hb
    omega
   ·have:=sumF_two (ps:=ps) (a:=(fullF ps (-1) n).toNat) (b:=a) (by omega) n (by omega) ha
    omega
  ·omega
 unfold pairsF
 omega
theorem openN_two {zs : Nat->Zn} {a b : Nat} : ∀ n,(∀ i,i < n->(zs i).st = 1->i = a\/i = b)->openN zs n<=(if a < n then 1 else 0) + (if b < n then 1 else 0)
 | 0,_=>by unfold openN; simp
 | n + 1,h=>by
  rw [openN_succ]
  have ih:=openN_two n fun i hi=>h i (by omega)
  by_cases h1 : (zs n).st = 1
  ·rw [if_pos h1]
   rcases h n (Nat.lt_succ_self _) h1 with y | y
   ·subst y
    rw [if_neg (Nat.lt_irrefl _)] at ih
    rw [if_pos (Nat.lt_succ_self _)]
    have : (if b < n then 1 else 0)<=(if b < n + 1 then 1 else 0):=by split <;> split <;> omega
    omega
   ·subst y
    rw [if_neg (Nat.lt_irrefl n)] at ih
    rw [if_pos (Nat.lt_succ_self n)]
    have : (if a < n then 1 else 0)<=(if a < n + 1 then 1 else 0):=by split <;> split <;> omega
    omega
  ·rw [if_neg h1]
   have t1 : (if b < n then 1 else 0)<=(if b < n + 1 then 1 else 0):=by split <;> split <;> omega
   have t2 : (if a < n then 1 else 0)<=(if a < n + 1 then 1 else 0):=by split <;> split <;> omega
   omega
noncomputable def recE (e : En) (z mt off epoch seq : Int) : List EV:=u8s (encF (frameE { e with mate:=mt } z off epoch seq).1)
def EOk (e : En) (epoch seq : Int) : Prop:=(frameE e 0 0 epoch seq).2 = 0
theorem EOk.at {e : En} {epoch seq : Int} (h : EOk e epoch seq) {z mt off : Int} (hz : 0<=z) (hz' : z<=65535) (hm : 0<=mt) (hm' : mt<=65535) (ho : 0<=off) (ho' : off<=65535) : (frameE { e with mate:=mt } z off epoch seq).2 = 0:=by
 unfold EOk frameE at h
 by_cases hc : erB e = true/\frB ⟨e.kind,0,0,epoch,seq,(bodyF e).1⟩ = true/\e.first<=seq/\seq - e.count < e.first
 ·obtain ⟨c1,c2,c3,c4⟩:=hc
  unfold frameE
  rw [if_pos]
  refine ⟨?_,?_,c3,c4⟩
  ·unfold erB at c1 ⊢
   simp only [Bool.and_eq_true] at c1 ⊢
   exact ⟨c1.1,c1.2.1,wi_iff.2 ⟨hm,hm'⟩,c1.2.2.2⟩
  ·unfold frB at c2 ⊢
   simp only [Bool.and_eq_true] at c2 ⊢
   exact ⟨c2.1,wi_iff.2 ⟨hz,hz'⟩,wi_iff.2 ⟨ho,ho'⟩,c2.2.2.2⟩
 ·rw [if_neg hc] at h
  exact absurd h (by decide)
theorem EOk.seq {e : En} {epoch seq : Int} (h : EOk e epoch seq) : 0<=seq/\seq<=281474976710655/\erB e = true:=by
 unfold EOk frameE at h
 by_cases hc : erB e = true/\frB ⟨e.kind,0,0,epoch,seq,(bodyF e).1⟩ = true/\e.first<=seq/\seq - e.count < e.first
 ·obtain ⟨c1,c2,c3,c4⟩:=hc
  unfold frB at c2
  simp only [Bool.and_eq_true] at c2
  have:=wi_iff.1 c2.2.2.2.2
  exact ⟨this.1,this.2,c1⟩
 ·rw [if_neg hc] at h
  exact absurd h (by decide)
structure Calm (S : Mi) : Prop where
 wf : S.Wf
 rt : rtB S.g = true
 ev : S.dr.ev = []
 up : S.dr.dv.down = false
 n : S.dr.dv.n = (S.g.D * S.g.Z).toNat
 size : S.dr.dv.size = S.g.S.toNat
 op : S.dr.dv.op = S.g.O
 bad : ∀ i,¬ S.bad i = 1
 nd : ∀ d,d < S.g.D.toNat->(S.ps d).Nodup
 fr : ∀ d,d < S.g.D.toNat->∀ x ∈ S.ps d,(S.dr.dv.zs x.toNat).l = []/\(S.dr.dv.zs x.toNat).st = 0
 opn : (S.a = -1/\S.b = -1)\/(0<=domI S.g S.a/\0<=domI S.g S.b/\¬ domI S.g S.a = domI S.g S.b/\0<=S.u/\S.u<=S.g.S /\
  (∀ d,d < S.g.D.toNat->S.a ∉ S.ps d/\S.b ∉ S.ps d)/\(∀ z,z = S.a\/z = S.b->((S.dr.dv.zs z.toNat).l.length : Int) = S.u/\(S.dr.dv.zs z.toNat).st = if S.u = S.g.S then 2 else if S.u = 0 then 0 else 1))
 few : ∀ i,i < S.dr.dv.n->(S.dr.dv.zs i).st = 1->(i : Int) = S.a\/(i : Int) = S.b
theorem Calm.sm {S : Mi} (c : Calm S) : Sm S.g:=rtB_sm c.rt
theorem dom_has {S : Mi} (c : Calm S) {z : Int} (h : 0<=domI S.g z) : 0<=z/\z.toNat < S.dr.dv.n/\S.dr.dv.has z = true/\z<=511:=by
 have h1:=c.sm.d1; have h2:=c.sm.z1; have h3:=c.sm.d0; have h4:=c.sm.z0
 obtain ⟨m0,m1⟩:=mul_bd (a:=S.g.D) (b:=S.g.Z) (A:=8) (B:=64) (by omega) (by omega) (by omega) (by omega)
 rcases domI_bd c.sm z with y | ⟨_,_,_,y1,y2⟩
 ·omega
 ·have hn:=c.n
  refine ⟨y1,by omega,?_,by omega⟩
  unfold Dv.has
  exact decide_eq_true ⟨y1,by omega⟩
theorem begin_calm {S : Drv} (h : S.ev = []) (i : Int) : S.begin i = S:=by
 have hd : S.due = S:=by
  unfold Drv.due; rw [h]; unfold dueF; rw [<-h]
 unfold Drv.begin
 split
 ·exact hd
 ·rfl
theorem beginE_calm {D : Dv} (h : D.down = false) {i : Int} (hh : D.has i = true) : D.beginE i = 0:=by
 unfold Dv.beginE; rw [h,hh]; simp
theorem append_calm {D : Dv} (h : D.down = false) {i : Int} (hh : D.has i = true) (hs : (D.zs i.toNat).st < 2) (ho : ¬ D.op<=openN D.zs D.n) (x : List EV) :
 D.append i x = (D.tick.set i.toNat ((D.zs i.toNat).app D.size x),(((D.zs i.toNat).l.length : Nat) : Int),0):=by
 unfold Dv.append
 rw [beginE_calm h hh,if_neg (fun y=>y rfl),if_neg (fun y=>ho y.2),if_neg (by omega)]
theorem put_calm {S : Mi} (ev : S.dr.ev = []) (up : S.dr.dv.down = false) {e : En} {zone mate epoch seq : Int} (hf : (frameE { e with mate:=mate } zone S.u epoch seq).2 = 0) (hh : S.dr.dv.has zone = true) (hs : (S.dr.dv.zs zone.toNat).st < 2) (ho : ¬ S.dr.dv.op<=openN S.dr.dv.zs S.dr.dv.n)
 (hl : ((S.dr.dv.zs zone.toNat).l.length : Int) = S.u) :
 S.put e zone mate epoch seq = ({ S with dr:={ S.dr with dv:=S.dr.dv.tick.set zone.toNat ((S.dr.dv.zs zone.toNat).app S.dr.dv.size (recE e zone mate S.u epoch seq)) } },0):=by
 unfold Mi.put Drv.append
 rw [if_neg (fun y=>y hf),begin_calm ev]
 have ha:=append_calm up hh hs ho (u8s (encF (frameE { e with mate:=mate } zone S.u epoch seq).1))
 simp only [ha,hl,not_true_eq_false,and_false,if_false]
 rfl
noncomputable def Mi.app2 (S : Mi) (e : En) (epoch seq : Int) : Mi:=
 { S with dr:={ S.dr with dv:=((S.dr.dv.tick.set S.a.toNat ((S.dr.dv.zs S.a.toNat).app S.dr.dv.size (recE e S.a S.b S.u epoch seq))).tick.set S.b.toNat ((S.dr.dv.zs S.b.toNat).app S.dr.dv.size (recE e S.b S.a S.u epoch seq))) },u:=S.u + 1 }
def Roomy (S : Mi) : Prop:=¬ S.a = -1/\S.u < S.g.S
theorem Calm.ne {S : Mi} (c : Calm S) (r : Roomy S) : 0<=domI S.g S.a/\0<=domI S.g S.b/\¬ domI S.g S.a = domI S.g S.b/\0<=S.u/\S.a.toNat ≠ S.b.toNat /\
 (∀ d,d < S.g.D.toNat->S.a ∉ S.ps d/\S.b ∉ S.ps d)/\(∀ z,z = S.a\/z = S.b->((S.dr.dv.zs z.toNat).l.length : Int) = S.u/\(S.dr.dv.zs z.toNat).st = if S.u = 0 then 0 else 1):=by
 rcases c.opn with y | ⟨y1,y2,y3,y4,y5,y6,y7⟩
 ·exact absurd y.1 r.1
 ·have h1:=dom_has c y1
  have h2:=dom_has c y2
  refine ⟨y1,y2,y3,y4,fun y=>y3 ?_,y6,fun z hz=>?_⟩
  ·have : S.a = S.b:=by omega
   rw [this]
  ·have:=y7 z hz
   have hu:=r.2
   rw [if_neg (by omega)] at this
   exact this
theorem both_calm {S : Mi} (c : Calm S) (r : Roomy S) {e : En} {epoch seq : Int} (he : EOk e epoch seq) :
 S.both e epoch seq = ({ S.app2 e epoch seq with u:=S.u },S.b,0):=by
 obtain ⟨n1,n2,n3,n4,n5,n6,n7⟩:=c.ne r
 obtain ⟨a1,a2,a3,a4⟩:=dom_has c n1
 obtain ⟨b1,b2,b3,b4⟩:=dom_has c n2
 have hs:=c.sm
 have:=hs.s1; have:=hs.o0; have hr:=r.2
 have hop:=c.op
 obtain ⟨la,sa⟩:=n7 _ (.inl rfl)
 obtain ⟨lb,sb⟩:=n7 _ (.inr rfl)
 have f1:=he.at (z:=S.a) (mt:=S.b) (off:=S.u) a1 (by omega) b1 (by omega) n4 (by omega)
 have f2:=he.at (z:=S.b) (mt:=S.a) (off:=S.u) b1 (by omega) a1 (by omega) n4 (by omega)
 have o1 : ¬ S.dr.dv.op<=openN S.dr.dv.zs S.dr.dv.n:=by
  have:=openN_two (zs:=S.dr.dv.zs) (a:=S.a.toNat) (b:=S.b.toNat) S.dr.dv.n fun i hi h=>by
   rcases c.few i hi h with y | y <;> omega
  have h1 : (if S.a.toNat < S.dr.dv.n then 1 else 0)<=1:=by split <;> omega
  have h2 : (if S.b.toNat < S.dr.dv.n then 1 else 0)<=1:=by split <;> omega
  omega
 have p1:=put_calm c.ev c.up f1 a3 (by rw [sa]; split <;> omega) o1 la
 unfold Mi.both
 rw [p1,if_neg (fun y=>y rfl)]
 have hzb : (updZ S.dr.dv.zs S.a.toNat ((S.dr.dv.zs S.a.toNat).app S.dr.dv.size (recE e S.a S.b S.u epoch seq)) S.b.toNat) = S.dr.dv.zs S.b.toNat:=by
  unfold updZ; rw [if_neg (Ne.symm n5)]
 have o2 : ¬ S.dr.dv.op<=openN (updZ S.dr.dv.zs S.a.toNat ((S.dr.dv.zs S.a.toNat).app S.dr.dv.size (recE e S.a S.b S.u epoch seq))) S.dr.dv.n:=by
  have:=openN_two (zs:=updZ S.dr.dv.zs S.a.toNat ((S.dr.dv.zs S.a.toNat).app S.dr.dv.size (recE e S.a S.b S.u epoch seq))) (a:=S.a.toNat) (b:=S.b.toNat) S.dr.dv.n fun i hi h=>by
   unfold updZ at h
   split at h
   ·rename_i y; exact .inl y
   ·rcases c.few i hi h with y | y <;> omega
  have h1 : (if S.a.toNat < S.dr.dv.n then 1 else 0)<=1:=by split <;> omega
  have h2 : (if S.b.toNat < S.dr.dv.n then 1 else 0)<=1:=by split <;> omega
  omega
 have p2:=put_calm (S:={ S with dr:={ S.dr with dv:=S.dr.dv.tick.set S.a.toNat ((S.dr.dv.zs S.a.toNat).app S.dr.dv.size (recE e S.a S.b S.u epoch seq)) } }) (zone:=S.b) (mate:=S.a) c.ev c.up f2 b3
  (by show (updZ S.dr.dv.zs S.a.toNat _ S.b.toNat).st < 2; rw [hzb,sb]; split <;> omega) o2 (by show ((updZ S.dr.dv.zs S.a.toNat _ S.b.toNat).l.length : Int) = S.u; rw [hzb]; exact lb)
 rw [p2]
 have e1 : (({ S with dr:={ S.dr with dv:=S.dr.dv.tick.set S.a.toNat ((S.dr.dv.zs S.a.toNat).app S.dr.dv.size (recE e S.a S.b S.u epoch seq)) } } : Mi).dr.dv.zs S.b.toNat) = S.dr.dv.zs S.b.toNat:=hzb
 rw [e1]
 rfl
noncomputable def Mi.flushed (S : Mi) : Mi:={ S with dr:={ S.dr with dv:={ S.dr.dv.tick with zs:=fun i=>(S.dr.dv.zs i).flush } } }
theorem flush_calm {S : Mi} (ev : S.dr.ev = []) (up : S.dr.dv.down = false) : S.dr.flush = (S.flushed.dr,0):=by
 have hd : S.dr.due = S.dr:=by
  unfold Drv.due; rw [ev]; unfold dueF; rw [<-ev]
 unfold Drv.flush
 rw [hd]
 unfold Dv.flush
 rw [up]
 rfl
theorem Calm.flushed {S : Mi} (c : Calm S) : Calm S.flushed:=⟨{ toWp:=⟨c.wf.sm,c.wf.ps⟩,op:=c.wf.op },c.rt,c.ev,c.up,c.n,c.size,c.op,c.bad,c.nd,c.fr,c.opn,c.few⟩
noncomputable def Mi.open1 (S : Mi) : Option Mi:=
 open Classical in if Roomy S then some S else match pairG S.ps S.g.D.toNat with
  | none=>none
  | some (x,y,ps')=>some { S.flushed with ps:=ps',a:=x,b:=y,u:=0 }
theorem domI_inj {g : Gm} (s : Sm g) {x y : Int} (hx : 0<=domI g x) (hy : 0<=domI g y) (h : x.toNat = y.toNat) : x = y:=by
 have:=domI_nn s hx
 have:=domI_nn s hy
 omega
theorem open1_ok {S T : Mi} (c : Calm S) (h : S.open1 = some T) : Calm T/\Roomy T/\T.g = S.g/\T.bad = S.bad/\T.dr.ev = S.dr.ev/\T.dr.hap = S.dr.hap:=by
 unfold Mi.open1 at h
 split at h
 ·rename_i r
  cases h
  exact ⟨c,r,rfl,rfl,rfl,rfl⟩
 ·rename_i hr
  cases hp : pairG S.ps S.g.D.toNat with
  | none=>rw [hp] at h; cases h
  | some t=>
   obtain ⟨x,y,ps'⟩:=t
   rw [hp] at h
   cases h
   obtain ⟨i,j,hi,hj,hij,ex,ey,ek,_,_,dx,dy⟩:=pairG_dom c.wf.ps hp
   have sub : ∀ d,d < S.g.D.toNat->∀ z,z ∈ ps' d->z ∈ S.ps d/\z ≠ x/\z ≠ y:=fun d hd z hz=>by
    have nd:=c.nd d hd
    have key : z ∈ S.ps d:=by
     by_cases h1 : d = i
     ·subst h1; rw [ex]; exact List.mem_cons_of_mem _ hz
     ·by_cases h2 : d = j
      ·subst h2; rw [ey]; exact List.mem_cons_of_mem _ hz
      ·rw [<-ek d h1 h2]; exact hz
    have dz:=(c.wf.ps d hd z key).1
    refine ⟨key,fun y'=>?_,fun y'=>?_⟩
    ·subst y'
     have : d = i:=by omega
     subst this
     rw [ex] at nd
     exact (List.nodup_cons.1 nd).1 hz
    ·subst y'
     have : d = j:=by omega
     subst this
     rw [ey] at nd
     exact (List.nodup_cons.1 nd).1 hz
   have mx : x ∈ S.ps i:=by rw [ex]; exact List.mem_cons_self ..
   have my : y ∈ S.ps j:=by rw [ey]; exact List.mem_cons_self ..
   have fx:=c.fr i hi x mx
   have fy:=c.fr j hj y my
   have s0:=c.sm.s0
   have full : ∀ z : Int,(z = S.a\/z = S.b)->¬ S.a = -1->(S.dr.dv.zs z.toNat).st = 2:=fun z hz ha=>by
    rcases c.opn with y | ⟨y1,y2,y3,y4,y5,y6,y7⟩
    ·exact absurd y.1 ha
    ·have:=(y7 z hz).2
     have hu : S.u = S.g.S:=by
      rcases Decidable.em (S.u < S.g.S) with y | y
      ·exact absurd ⟨ha,y⟩ hr
      ·omega
     rw [if_pos hu] at this
     exact this
   refine ⟨⟨{ toWp:=⟨c.wf.sm,fun d hd z hz=>c.wf.ps d hd z (sub d hd z hz).1⟩,op:=.inr ⟨⟨by show 0<=domI S.g x; omega,c.bad _⟩,⟨by show 0<=domI S.g y; omega,c.bad _⟩⟩ },c.rt,c.ev,c.up,c.n,c.size,c.op,c.bad,fun d hd=>?_,fun d hd z hz=>c.fr d hd z (sub d hd z hz).1,.inr ⟨by show 0<=domI S.g x; omega,by show 0<=domI S.g y; omega,by show ¬ domI S.g x = domI S.g y; omega,Int.le_refl _,by show 0<=S.g.S; omega,fun d hd=>⟨fun hz=>(sub d hd x hz).2.1 rfl,fun hz=>(sub d hd y hz).2.2 rfl⟩,fun z hz=>?_⟩,fun k hk hs=>?_⟩,⟨?_,by show 0 < S.g.S; omega⟩,rfl,rfl,rfl,rfl⟩
   ·show (ps' d).Nodup
    have nd:=c.nd d hd
    by_cases h1 : d = i
    ·subst h1; rw [ex] at nd; exact (List.nodup_cons.1 nd).2
    ·by_cases h2 : d = j
     ·subst h2; rw [ey] at nd; exact (List.nodup_cons.1 nd).2
     ·rw [ek d h1 h2]; exact nd
   ·show (((S.dr.dv.zs z.toNat).flush.l.length : Nat) : Int) = 0/\((S.dr.dv.zs z.toNat).flush).st = if (0 : Int) = S.g.S then 2 else if (0 : Int) = 0 then 0 else 1
    rw [if_neg (by omega),if_pos rfl]
    have hz : z = x\/z = y:=hz
    rcases hz with hz | hz
    ·subst hz; exact ⟨by show (((S.dr.dv.zs z.toNat).l.length : Nat) : Int) = 0; rw [fx.1]; rfl,fx.2⟩
    ·subst hz; exact ⟨by show (((S.dr.dv.zs z.toNat).l.length : Nat) : Int) = 0; rw [fy.1]; rfl,fy.2⟩
   ·exfalso
    have hs : (S.dr.dv.zs k).st = 1:=hs
    have ho:=c.few k hk hs
    have ha : ¬ S.a = -1:=fun y=>by
     rcases c.opn with z | z
     ·omega
     ·rw [y] at z
      have:=domI_nn c.sm z.1
      omega
    have:=full k ho ha
    rw [show ((k : Nat) : Int).toNat = k from rfl] at this
    omega
   ·have:=domI_nn c.sm (z:=x) (by omega)
    show ¬ x = -1
    omega
theorem Calm.app2 {S : Mi} (c : Calm S) (r : Roomy S) (e : En) (epoch seq : Int) : Calm (S.app2 e epoch seq):=by
 obtain ⟨n1,n2,n3,n4,n5,n6,n7⟩:=c.ne r
 have hsz:=c.size
 have s0:=c.sm.s0
 have hr:=r.2
 have za : ((S.app2 e epoch seq).dr.dv.zs S.a.toNat) = (S.dr.dv.zs S.a.toNat).app S.dr.dv.size (recE e S.a S.b S.u epoch seq):=by
  show updZ (updZ S.dr.dv.zs S.a.toNat _) S.b.toNat _ S.a.toNat = _
  unfold updZ; rw [if_neg n5,if_pos rfl]
 have zb : ((S.app2 e epoch seq).dr.dv.zs S.b.toNat) = (S.dr.dv.zs S.b.toNat).app S.dr.dv.size (recE e S.b S.a S.u epoch seq):=by
  show updZ (updZ S.dr.dv.zs S.a.toNat _) S.b.toNat _ S.b.toNat = _
  unfold updZ; rw [if_pos rfl]
 have zo : ∀ i,i ≠ S.a.toNat->i ≠ S.b.toNat->((S.app2 e epoch seq).dr.dv.zs i) = S.dr.dv.zs i:=fun i h1 h2=>by
  show updZ (updZ S.dr.dv.zs S.a.toNat _) S.b.toNat _ i = _
  unfold updZ; rw [if_neg h2,if_neg h1]
 have hst : ∀ z x,z = S.a\/z = S.b->(((S.dr.dv.zs z.toNat).app S.dr.dv.size x).l.length : Int) = S.u + 1/\((S.dr.dv.zs z.toNat).app S.dr.dv.size x).st = if S.u + 1 = S.g.S then 2 else if S.u + 1 = 0 then 0 else 1:=fun z x hz=>by
  obtain ⟨l,s⟩:=n7 z hz
  refine ⟨by simp only [Zn.app,List.length_append,List.length_singleton]; omega,?_⟩
  simp only [Zn.app]
  by_cases h : S.u + 1 = S.g.S
  ·rw [if_pos h,if_pos (by omega)]
  ·rw [if_neg h,if_neg (by omega),if_neg (by omega)]
 refine ⟨{ toWp:=⟨c.wf.sm,c.wf.ps⟩,op:=c.wf.op },c.rt,c.ev,c.up,c.n,c.size,c.op,c.bad,c.nd,fun d hd x hx=>?_,.inr ⟨n1,n2,n3,by show 0<=S.u + 1; omega,by show S.u + 1<=S.g.S; omega,n6,fun z hz=>?_⟩,fun i hi hs=>?_⟩
 ·have hx : x ∈ S.ps d:=hx
  have dx:=(c.wf.ps d hd x hx).1
  have h1 : x ≠ S.a:=fun y=>(n6 d hd).1 (y ▸ hx)
  have h2 : x ≠ S.b:=fun y=>(n6 d hd).2 (y ▸ hx)
  rw [zo _ (fun y=>h1 (domI_inj c.sm (by omega) n1 y)) (fun y=>h2 (domI_inj c.sm (by omega) n2 y))]
  exact c.fr d hd x hx
 ·have hz : z = S.a\/z = S.b:=hz
  show ((((S.app2 e epoch seq).dr.dv.zs z.toNat).l.length : Nat) : Int) = S.u + 1/\((S.app2 e epoch seq).dr.dv.zs z.toNat).st = if S.u + 1 = S.g.S then 2 else if S.u + 1 = 0 then 0 else 1
  rcases hz with hz | hz
  ·subst hz; rw [za]; exact hst _ _ (.inl rfl)
  ·subst hz; rw [zb]; exact hst _ _ (.inr rfl)
 ·show (i : Int) = S.a\/(i : Int) = S.b
  have ga:=domI_nn c.sm n1
  have gb:=domI_nn c.sm n2
  by_cases h1 : i = S.a.toNat
  ·exact .inl (by omega)
  ·by_cases h2 : i = S.b.toNat
   ·exact .inr (by omega)
   ·rw [zo i h1 h2] at hs
    exact c.few i hi hs
theorem ready_calm {S : Mi} (c : Calm S) : S.ready = match S.open1 with | some T=>(T,0) | none=>(S.flushed,40):=by
 have hf:=flush_calm c.ev c.up
 unfold Mi.ready Mi.open1
 by_cases r : Roomy S
 ·rw [if_pos r]
  simp only [r,if_true]
  exact if_pos r
 ·simp only [r,if_false]
  rw [if_neg (show ¬ (¬ S.a = -1/\S.u < S.g.S) from r),hf]
  simp only [not_true_eq_false,if_false]
  cases pairG S.ps S.g.D.toNat with
  | none=>rfl
  | some t=>rfl
theorem place_calm {S : Mi} (c : Calm S) {e : En} {epoch seq : Int} (he : EOk e epoch seq) : S.place e epoch seq = match S.open1 with
 | some T=>(T.app2 e epoch seq,⟨1,T.a,T.b,T.u,seq,sumN e.bytes⟩,0)
 | none=>(S.flushed,Me.zero,40):=by
 unfold Mi.place
 rw [if_neg (fun y=>y he)]
 show Mi.placeN e epoch seq (999 + 1) S = _
 unfold Mi.placeN
 rw [ready_calm c]
 cases ho : S.open1 with
 | none=>rfl
 | some T=>
  obtain ⟨cT,rT,_⟩:=open1_ok c ho
  simp only [not_true_eq_false,if_false]
  rw [both_calm cT rT he,if_pos rfl]
  have:=cT.sm.s1
  have hu:=rT.2
  have hu0:=(cT.ne rT).2.2.2.1
  have : (({ T.app2 e epoch seq with u:=T.u } : Mi).tickU) = T.app2 e epoch seq:=by
   unfold Mi.tickU
   simp only
   rw [wi64 (by omega) (by omega)]
   rfl
  rw [this]
  rfl
end Go.Ev

namespace Go.Ev
open Go.Proofs
set_option maxRecDepth 100000
variable {K : Nat} {disp : Nat->Option FT}
noncomputable def Mi.give (S : Mi) (z : Int) : Mi:={ S with ps:=(giveF S.g S.g.D.toNat S.ps z).2 }
theorem Mi.Wf.give {S : Mi} (w : S.Wf) {z : Int} (hz : 0<=domI S.g z->¬ S.bad z.toNat = 1) : (S.give z).Wf:={ toWp:=⟨w.sm,giveF_dom w.ps _ _ hz⟩,op:=w.op }
section
variable {h : AHeap} {m : Nat} {S : Mi} {F : Nat->Prop} (M : MirF h m S F) (hb : HB h)
include M
theorem mir_dev : ∃ D V G F',mirror_Mirror_Drive K (.ptr m 0) h = some (.ptr D 0,h)/\plan_Drive_Device K (.ptr D 0) h = some (.ptr V 0,h)/\DrvS h D S.dr G/\DevS h V S.dr.dv F':=by
 obtain ⟨_,D,p,bl,ql,np,q,c,G,a⟩:=M.s
 obtain ⟨V,M',qc,qh,cs,hs,ms,F',d⟩:=a.drv.at'
 exact ⟨D,V,G,F',mirror_drive_eq a.mir,drv_device_eq d,a.drv,d.dev⟩
include hb
theorem mir_pool (A : Agree disp) (hK : 10000 < K) : ∃ p,mirror_Mirror_Pool K (.ptr m 0) h = some (.ptr p 0,h)/\∀ {d : Nat},8<=d->∀ {z : Int},Rng z->(0<=domI S.g z->¬ S.bad z.toNat = 1) ->
 Ok (callC TT disp K d false 15 [.ptr p 0,I z] h) fun v h'=>v = I (giveF S.g S.g.D.toNat S.ps z).1/\MirF h' m (S.give z) F/\Kf F h h'/\HB h':=by
 obtain ⟨lt,D,p,bl,ql,np,q,c,G,a⟩:=M.s
 refine ⟨p,mirror_pool_eq a.mir,fun {d} hd {z} hz nb=>?_⟩
 have hnp:=a.psz.nd
 subst hnp
 refine (give_ok (K:=K) A a.pool hb a.psz (by omega) hd z hz).mono ?_
 rintro v h' ⟨c3,hb3,rfl,P3,Z3⟩
 obtain ⟨a3,cH⟩:=a.putPool hb P3 Z3 c3
 obtain ⟨M3,k3⟩:=M.made (MirS.mono (H:=Out F h) ⟨fun i hi=>Nat.lt_of_lt_of_le hi.1 cH.next,D,p,bl,ql,_,q,c,G,a3⟩ (fun _=>.inl) (Grow.lt lt cH.next)) cH (M.wf.give nb)
 exact ⟨rfl,M3,k3,hb3⟩
end
structure Fresh (S : Mi) : Prop where
 calm : Calm S
 cl : S.a = -1/\S.b = -1
 zs : ∀ i,S.dr.dv.zs i = Zn.empty
theorem fresh_new {g : Gm} (hr : rtB g = true) : Fresh (Mi.new g):=by
 have s:=rtB_sm hr
 refine ⟨⟨{ toWp:=⟨s,fun d _ x hx=>(by cases hx)⟩,op:=.inl ⟨rfl,rfl⟩ },hr,rfl,rfl,rfl,rfl,rfl,fun i y=>(by cases y),fun d _=>List.nodup_nil,fun d _ x hx=>(by cases hx),.inl ⟨rfl,rfl⟩,fun i _ y=>(by cases y)⟩,⟨rfl,rfl⟩,fun _=>rfl⟩
theorem Fresh.give {S : Mi} (f : Fresh S) (z : Int) : Fresh (S.give z):=by
 have c:=f.calm
 have nd : ∀ d,d < S.g.D.toNat->((S.give z).ps d).Nodup:=fun d hd=>by
  show ((giveF S.g S.g.D.toNat S.ps z).2 d).Nodup
  unfold giveF
  split
  ·exact c.nd d hd
  ·split
   ·exact c.nd d hd
   ·rename_i h0 hh
    split
    ·simp only [upd]
     split
     ·rename_i e
      rw [List.nodup_append]
      refine ⟨by rw [<-e]; exact c.nd d hd,by simp,fun a ha b hb y=>?_⟩
      rw [List.mem_singleton.1 hb] at y
      subst y
      exact hh (hasB_true.2 ⟨d,hd,by rw [e]; exact ha⟩)
     ·exact c.nd d hd
    ·exact c.nd d hd
 refine ⟨⟨c.wf.give fun _=>c.bad _,c.rt,c.ev,c.up,c.n,c.size,c.op,c.bad,nd,fun d hd x hx=>?_,.inl f.cl,c.few⟩,f.cl,f.zs⟩
 show (S.dr.dv.zs x.toNat).l = []/\(S.dr.dv.zs x.toNat).st = 0
 rw [f.zs]; exact ⟨rfl,rfl⟩
theorem goodC_enc {e : En} (w : e.Wf) {zone mt off epoch seq : Int} (hf : (frameE { e with mate:=mt } zone off epoch seq).2 = 0) {x : Me} (ho : x.off = off) :
 goodC (encF (frameE { e with mate:=mt } zone off epoch seq).1) x zone mt = if ¬ e.kind = 2/\seq = x.seq/\((sumN e.bytes : Nat) : Int) = x.sum then (true,e.bytes) else (false,zs32):=by
 have w' : ({ e with mate:=mt } : En).Wf:=⟨w.len,w.u8⟩
 obtain ⟨h1,h2,h3,h4⟩:=readE_frameE w' hf
 have fw:=frameE_wf w' zone off epoch seq
 rw [h1] at fw ⊢
 have ha:=atF_encF fw h2
 subst ho
 unfold goodC
 simp only at ha
 rw [ha]
 simp only [h4,true_and]
theorem copy_calm {S : Mi} (ev : S.dr.ev = []) (up : S.dr.dv.down = false) {e : En} (w : e.Wf) {zone mt off epoch seq : Int} (hf : (frameE { e with mate:=mt } zone off epoch seq).2 = 0) {x : Me} (ho : x.off = off)
 (hh : S.dr.dv.has zone = true) (hs : ¬ (S.dr.dv.zs zone.toNat).st = 4) (h0 : 0<=off) (hl : (S.dr.dv.zs zone.toNat).l[off.toNat]? = some (recE e zone mt off epoch seq)) :
 S.copyM x zone mt = ({ S with dr:={ S.dr with dv:=S.dr.dv.tick } },(if ¬ e.kind = 2/\seq = x.seq/\((sumN e.bytes : Nat) : Int) = x.sum then (true,e.bytes) else (false,zs32)).2,(if ¬ e.kind = 2/\seq = x.seq/\((sumN e.bytes : Nat) : Int) = x.sum then (true,e.bytes) else (false,zs32)).1,0):=by
 have hlen : off.toNat < (S.dr.dv.zs zone.toNat).l.length:=by
  rcases Nat.lt_or_ge off.toNat (S.dr.dv.zs zone.toNat).l.length with y | y
  ·exact y
  ·rw [List.getElem?_eq_none y] at hl; cases hl
 have hr : S.dr.read zone off = ({ S.dr with dv:=S.dr.dv.tick },recE e zone mt off epoch seq,0):=by
  unfold Drv.read
  rw [begin_calm ev]
  unfold Dv.begin Dv.read
  rw [beginE_calm up hh,if_pos rfl,if_neg (fun y=>y rfl)]
  unfold readZ
  rw [if_neg hs,if_pos (by omega),hl]
  rfl
 unfold Mi.copyM
 rw [ho,hr]
 simp only [if_true]
 have hg:=goodC_enc w hf ho
 rw [show natsOf (recE e zone mt off epoch seq) = encF (frameE { e with mate:=mt } zone off epoch seq).1 from natsOf_u8s _,hg]
theorem holds_ok {g : Gm} (hr : rtB g = true) {z off : Int} (hz : 0<=domI g z) (h0 : 0<=off) (h1 : off < g.S) : holdsB g z off = true:=by
 unfold holdsB
 rcases domI_bd (rtB_sm hr) z with y | ⟨_,_,_,y1,y2⟩
 ·omega
 ·rw [hr,wi_iff.2 ⟨y1,by omega⟩,wi_iff.2 ⟨h0,by omega⟩]; rfl
theorem dom_zero {g : Gm} (s : Sm g) : domI g 0 = 0/\domI g g.Z = 1:=by
 have:=s.d0; have:=s.z0
 have m2 : 3 * g.Z<=g.D * g.Z:=Int.mul_le_mul_of_nonneg_right (by omega) (by omega)
 unfold domI
 rw [if_neg (by omega),if_neg (by omega)]
 exact ⟨Int.zero_ediv _,Int.ediv_self (by omega)⟩
theorem trims_pool {g : Gm} (s : Sm g) : (((Mi.new g).give 0).give g.Z).ps = upd (upd (fun _=>[]) 0 [0]) 1 [g.Z]:=by
 obtain ⟨d0,d1⟩:=dom_zero s
 have:=s.d0; have:=s.z0; have:=s.z1
 have h1 : (giveF g g.D.toNat (fun _=>[]) 0).2 = upd (fun _=>[]) 0 [0]:=by
  unfold giveF
  rw [d0,if_neg (by omega),if_neg (by rw [hasB_true]; rintro ⟨d,_,hx⟩; cases hx),if_pos (by show 0 < g.Z.toNat; omega)]
  rfl
 show (giveF g g.D.toNat (giveF g g.D.toNat (fun _=>[]) 0).2 g.Z).2 = _
 rw [h1]
 unfold giveF
 rw [d1,if_neg (by omega),if_neg ?_,if_pos ?_]
 ·rfl
 ·show (upd (fun _=>[]) 0 [0] 1).length < g.Z.toNat
  unfold upd; rw [if_neg (by omega)]; show 0 < g.Z.toNat; omega
 ·rw [hasB_true]
  rintro ⟨d,_,hx⟩
  unfold upd at hx
  split at hx
  ·have:=List.mem_singleton.1 hx; omega
  ·cases hx
theorem trims_open {g : Gm} (hr : rtB g = true) : ∃ T,(((Mi.new g).give 0).give g.Z).open1 = some T/\T.u = 0/\(T.a = 0\/T.b = 0)/\∀ i,(T.dr.dv.zs i).l = []/\(T.dr.dv.zs i).st = 0:=by
 have s:=rtB_sm hr
 obtain ⟨d0,d1⟩:=dom_zero s
 have:=s.d0
 have hps:=trims_pool s
 have f:=((fresh_new hr).give 0).give g.Z
 generalize hS : ((Mi.new g).give 0).give g.Z = S at hps f ⊢
 have hg : S.g = g:=by rw [<-hS]; rfl
 have hp : ¬ pairsF S.ps S.g.D.toNat = 0:=by
  rw [hps,hg]
  exact pairsF_pos (a:=0) (b:=1) (by omega) (by omega) (by omega) (by simp [upd]) (by simp [upd])
 unfold Mi.open1
 rw [if_neg (by rintro ⟨y,_⟩; exact y f.cl.1)]
 cases hpg : pairG S.ps S.g.D.toNat with
 | none=>unfold pairG at hpg; rw [if_neg hp] at hpg; cases hpg
 | some t=>
  obtain ⟨x,y,ps'⟩:=t
  obtain ⟨i,j,hi,hj,hij,ex,ey,_,_,_,_,_⟩:=pairG_dom f.calm.wf.ps hpg
  refine ⟨_,rfl,rfl,?_,fun k=>?_⟩
  ·rw [hps] at ex ey
   have key : ∀ k v r,upd (upd (fun _=>[]) 0 [0]) 1 [g.Z] k = v :: r->(k = 0/\v = 0)\/k = 1:=fun k v r h=>by
    unfold upd at h
    split at h
    ·right; assumption
    ·split at h
     ·left; injection h with h1 h2; exact ⟨by assumption,h1.symm⟩
     ·cases h
   rcases key _ _ _ ex with y | y
   ·exact .inl y.2
   ·rcases key _ _ _ ey with z | z
    ·exact .inr z.2
    ·omega
  ·show (S.dr.dv.zs k).flush.l = []/\(S.dr.dv.zs k).flush.st = 0
   rw [f.zs]; exact ⟨rfl,rfl⟩
theorem fill_trim (seq block many : Int) : fillR (nthPR [(0,1),(1,1),(2,1),(3,1),(4,1),(5,1),(6,32)]) [(0,I 2),(1,I seq),(2,I 1),(3,I block),(4,I many)] En.zero.cells = some (⟨2,seq,1,block,many,0,zs32⟩ : En).cells:=rfl
theorem trims_law (A : Agree disp) (hK : 10000 < K) {d : Nat} (hd : 22<=d) (h23 : ∀ h,callC TT disp K d false 23 [] h = some (.bool true,h)) (g : Gm) (seq block many : Int) {h : AHeap} (hb : HB h) :
 Ok (revetmentlaw14_MirrorTrims (callC TT disp K d false) (callC TT disp K d true) K (gV g) (I seq) (I block) (I many) h) fun v h'=>v = .bool true:=by
 simp only [revetmentlaw14_MirrorTrims,gV,walkE,h23,revetmentlaw14_MirrorTrims_j6]
 have x1 : Ext h (h.new (.cells (gL g) 23)):=Chg.new _ _
 have g4 : (h.new (.cells (gL g) 23)).get h.next = some (.cells (gL g) 23):=get_new_same _ _
 have n1 : (h.new (.cells (gL g) 23)).next = h.next + 1:=rfl
 generalize h.new (.cells (gL g) 23) = h1 at x1 g4 n1 ⊢
 have hb1:=x1.hb hb
 rw [ldsN g4 rfl,cutR_all (n:=6) rfl]
 try simp only [walkE]
 rw [show EV.agg (gL g) = gV g from rfl]
 refine (started14_ok (K:=K) (by omega) g hb1).andE ?_
 rintro v h2 ⟨x2,hb2,l,hl,hv⟩
 have g42:=x2.at hb1 g4
 have st : ∀ (v8 ok : EV) (k : AHeap->R) (Q : EV->AHeap->Prop),(∀ h',Ext h2 h'->HB h'->Ok (k h') Q)->Ok (stE 20 (.ptr h2.next 0) (.agg l) (h2.new (.cells z20 42)) k) Q:=fun v8 ok k Q hk=>by
  refine Ok.st l (get_new_same _ _) rfl (by show lenR l = 20; rw [len_length,hl]) (laidR_all (by show z20.length = l.length; rw [hl]; rfl)) ?_
  have x3 : Ext h2 ((h2.new (.cells z20 42)).put h2.next (.cells l 42)):=(Chg.new h2 _ : Ext _ _).andPut (.inr (Nat.le_refl _)) (Nat.lt_succ_self _) _
  exact hk _ x3 (x3.hb hb2)
 by_cases hy : rtB g = true/\g.D * g.Z<=64
 ·rw [if_pos hy] at hv
  obtain ⟨m,rfl,M2⟩:=hv
  simp only [walkE]
  refine st .nilptr .nilptr _ _ ?_
  intro h3 x3 hb3
  have M3:=(M2.ext hb2 x3).less fun i (hi : i < h1.next)=>Or.inl hi
  have g43:=x3.at hb2 g42
  have s:=rtB_sm hy.1
  obtain ⟨d0,d1⟩:=dom_zero s
  have sd:=s.d0; have sz:=s.z0; have sz1:=s.z1
  simp only [walkE,revetmentlaw14_MirrorTrims_j5]
  obtain ⟨p,ep,give⟩:=mir_pool (K:=K) M3 hb3 A hK
  rw [ep,andE_some]
  refine (give (d:=d) (by omega) (z:=0) ⟨by omega,by omega⟩ (fun _ y=>by cases y)).andE ?_
  rintro _ h4 ⟨_,M4,k4,hb4⟩
  have f4 : h.next < h1.next:=by omega
  have g44:=k4.at hb3 g43 f4
  have M4l:=M4.same (Same.lift h4)
  obtain ⟨p',ep',give'⟩:=mir_pool (K:=K) M4l (lift_hb hb4) A hK
  obtain ⟨p4,ep4,_⟩:=mir_pool (K:=K) M4 hb4 A hK
  try simp only [walkE,walkD]
  rw [bigE_pure (by kernel_rfl) (by kernel_rfl) ep']
  try simp only [walkE,walkD]
  have l4:=hb4 _ _ g44
  rw [loadE_lt l4 (by kernel_rfl),ld1E_at g44 rfl (v:=I g.Z) rfl]
  try simp only [walkE,walkD]
  refine Ok.bigC (S:=fun i=>¬ i < h1.next) (by kernel_rfl) (by kernel_rfl) (fun _=>by kernel_rfl) (give' (d:=d) (by omega) (z:=g.Z) ⟨by omega,by omega⟩ (fun _ y=>by cases y)) (fun _ _ p=>p.2.2.1) ?_
  rintro _ h5' h5 s' ⟨_,M5',_,hb5'⟩ sm k5 _
  have hb5:=sm.hb hb5'
  have M5:=M5'.same sm
  have f5:=((fresh_new hy.1).give 0).give g.Z
  have fe : (List.replicate 6 (EV.int .i64 0) ++ List.replicate 32 (EV.int .u8 0)) = En.zero.cells:=En.zero_cells
  rw [fe,buildE_at (fill_trim seq block many)]
  have we : (⟨2,seq,1,block,many,0,zs32⟩ : En).Wf:=⟨rfl,fun b hb=>by rw [List.eq_of_mem_replicate hb]; decide⟩
  refine (mir_place A hK (by omega) M5 hb5 we 1 seq).andE ?_
  rintro _ h6 ⟨rfl,M6,k6,hb6⟩
  have hS : ((Mi.new g).give 0).give g.Z = (((Mi.new g).give 0).give g.Z):=rfl
  have hgg : (((Mi.new g).give 0).give g.Z).g = g:=rfl
  change MirF h6 m ((((Mi.new g).give 0).give g.Z).place _ 1 seq).1 _ at M6
  by_cases he : EOk (⟨2,seq,1,block,many,0,zs32⟩ : En) 1 seq
  ·obtain ⟨T,eo,hu,hab,hz⟩:=trims_open hy.1
   obtain ⟨cT,rT,eg,eb,_⟩:=open1_ok f5.calm eo
   rw [place_calm f5.calm he,eo] at M6 ⊢
   simp only at M6 ⊢
   have hTg : T.g = g:=eg.trans hgg
   obtain ⟨nd1,nd2,nd3,nd4,nd5,_,_⟩:=cT.ne rT
   have cA:=cT.app2 rT ⟨2,seq,1,block,many,0,zs32⟩ 1 seq
   simp only [walkE,I,walkI,not_true_eq_false,decide_false]
   rw [show (EV.agg (⟨1,T.a,T.b,T.u,seq,((sumN zs32 : Nat) : Int)⟩ : Me).cells) = .agg (⟨1,T.a,T.b,T.u,seq,((sumN zs32 : Nat) : Int)⟩ : Me).cells from rfl]
   refine Ok.st (⟨1,T.a,T.b,T.u,seq,((sumN zs32 : Nat) : Int)⟩ : Me).cells (get_new_same _ _) rfl rfl (laidR_all rfl) ?_
   have x7 : Ext h6 ((h6.new (.cells [EV.int .i64 0,.int .i64 0,.int .i64 0,.int .i64 0,.int .i64 0,.int .i64 0] 83)).put h6.next (.cells (⟨1,T.a,T.b,T.u,seq,((sumN zs32 : Nat) : Int)⟩ : Me).cells 83)):=(Chg.new h6 _ : Ext _ _).andPut (.inr (Nat.le_refl _)) (Nat.lt_succ_self _) _
   have g12 : ((h6.new (.cells [EV.int .i64 0,.int .i64 0,.int .i64 0,.int .i64 0,.int .i64 0,.int .i64 0] 83)).put h6.next (.cells (⟨1,T.a,T.b,T.u,seq,((sumN zs32 : Nat) : Int)⟩ : Me).cells 83)).get h6.next = some (.cells (⟨1,T.a,T.b,T.u,seq,((sumN zs32 : Nat) : Int)⟩ : Me).cells 83):=get_put_same _ _ _
   generalize (h6.new (.cells [EV.int .i64 0,.int .i64 0,.int .i64 0,.int .i64 0,.int .i64 0,.int .i64 0] 83)).put h6.next (.cells (⟨1,T.a,T.b,T.u,seq,((sumN zs32 : Nat) : Int)⟩ : Me).cells 83) = h7 at x7 g12 ⊢
   have hb7:=x7.hb hb6
   have M7:=(M6.ext hb6 x7).less fun i (hi : i < h1.next)=>Or.inl hi
   simp only [revetmentlaw14_MirrorTrims_j4]
   rw [ldsN g12 rfl,cutR_all (n:=6) rfl]
   try simp only [walkE]
   have ra : Rng T.a:=domI_rng cT.sm nd1
   have rb : Rng T.b:=domI_rng cT.sm nd2
   refine (mir_read A hK (by omega) M7 hb7 (x:=⟨1,T.a,T.b,T.u,seq,((sumN zs32 : Nat) : Int)⟩) ra rb).andE ?_
   rintro _ h8 ⟨rfl,bl,M8,k8,hb8⟩
   have hza : ((T.app2 ⟨2,seq,1,block,many,0,zs32⟩ 1 seq).dr.dv.zs T.a.toNat) = (T.dr.dv.zs T.a.toNat).app T.dr.dv.size (recE ⟨2,seq,1,block,many,0,zs32⟩ T.a T.b T.u 1 seq):=by
    show updZ (updZ T.dr.dv.zs T.a.toNat _) T.b.toNat _ T.a.toNat = _
    unfold updZ; rw [if_neg nd5,if_pos rfl]
   have hzb : ((T.app2 ⟨2,seq,1,block,many,0,zs32⟩ 1 seq).dr.dv.zs T.b.toNat) = (T.dr.dv.zs T.b.toNat).app T.dr.dv.size (recE ⟨2,seq,1,block,many,0,zs32⟩ T.b T.a T.u 1 seq):=by
    show updZ (updZ T.dr.dv.zs T.a.toNat _) T.b.toNat _ T.b.toNat = _
    unfold updZ; rw [if_pos rfl]
   obtain ⟨a1,a2,a3,a4⟩:=dom_has cA (z:=T.a) nd1
   obtain ⟨b1,b2,b3,b4⟩:=dom_has cA (z:=T.b) nd2
   have s0:=s.s0
   have s1:=s.s1
   have hsz : T.dr.dv.size = g.S.toNat:=by rw [cT.size,hTg]
   have hst : ∀ z x,((T.dr.dv.zs z).app T.dr.dv.size x).st = 1/\((T.dr.dv.zs z).app T.dr.dv.size x).l = [x]:=fun z x=>by
    simp only [Zn.app]
    rw [(hz z).1,if_neg (by show ¬ 0 + 1 = T.dr.dv.size; omega)]
    exact ⟨rfl,rfl⟩
   have hread : ((T.app2 ⟨2,seq,1,block,many,0,zs32⟩ 1 seq).read ⟨1,T.a,T.b,T.u,seq,((sumN zs32 : Nat) : Int)⟩).2.2 = (if seq < 1 then 10 else 41)/\∀ i,((T.app2 ⟨2,seq,1,block,many,0,zs32⟩ 1 seq).read ⟨1,T.a,T.b,T.u,seq,((sumN zs32 : Nat) : Int)⟩).1.dr.dv.zs i = (T.app2 ⟨2,seq,1,block,many,0,zs32⟩ 1 seq).dr.dv.zs i/\((T.app2 ⟨2,seq,1,block,many,0,zs32⟩ 1 seq).read ⟨1,T.a,T.b,T.u,seq,((sumN zs32 : Nat) : Int)⟩).1.dr.dv.n = (T.app2 ⟨2,seq,1,block,many,0,zs32⟩ 1 seq).dr.dv.n:=by
    obtain ⟨q1,q2,q3⟩:=he.seq
    unfold Mi.read livesB
    by_cases hs : seq < 1
    ·have : meB (T.app2 ⟨2,seq,1,block,many,0,zs32⟩ 1 seq).g ⟨1,T.a,T.b,T.u,seq,((sumN zs32 : Nat) : Int)⟩ = false:=by
      unfold meB
      rw [decide_eq_false (show ¬ 1<=seq by omega)]
      simp
     rw [this,Bool.and_false,if_pos rfl,if_pos hs]
     exact ⟨rfl,fun i=>⟨rfl,rfl⟩⟩
    ·have hrt : rtB (T.app2 ⟨2,seq,1,block,many,0,zs32⟩ 1 seq).g = true:=cT.rt
     have hsl : sumN zs32 < 4294967296:=sum_lt fun b hb=>by rw [List.eq_of_mem_replicate hb]; decide
     have : meB (T.app2 ⟨2,seq,1,block,many,0,zs32⟩ 1 seq).g ⟨1,T.a,T.b,T.u,seq,((sumN zs32 : Nat) : Int)⟩ = true:=by
      unfold meB
      simp only
      rw [holds_ok (z:=T.a) hrt nd1 nd4 (by show T.u < T.g.S; rw [hTg]; omega),holds_ok (z:=T.b) hrt nd2 nd4 (by show T.u < T.g.S; rw [hTg]; omega),decide_eq_true (show ¬ domI (T.app2 ⟨2,seq,1,block,many,0,zs32⟩ 1 seq).g T.a = domI (T.app2 ⟨2,seq,1,block,many,0,zs32⟩ 1 seq).g T.b from nd3),decide_eq_true (show 1<=seq by omega),decide_eq_true (show seq<=281474976710655 by omega),decide_eq_true (show (0 : Int)<=((sumN zs32 : Nat) : Int) by omega),decide_eq_true (show ((sumN zs32 : Nat) : Int)<=4294967295 by omega)]
      rfl
     rw [this]
     have fa:=he.at (z:=T.a) (mt:=T.b) (off:=T.u) a1 (by omega) b1 (by omega) nd4 (by omega)
     have fb:=he.at (z:=T.b) (mt:=T.a) (off:=T.u) b1 (by omega) a1 (by omega) nd4 (by omega)
     have ca:=copy_calm (S:=T.app2 ⟨2,seq,1,block,many,0,zs32⟩ 1 seq) cA.ev cA.up we fa (x:=⟨1,T.a,T.b,T.u,seq,((sumN zs32 : Nat) : Int)⟩) rfl a3 (by rw [hza,(hst _ _).1]; decide) nd4 (by rw [hza,(hst _ _).2,hu]; rfl)
     have cb:=copy_calm (S:={ T.app2 ⟨2,seq,1,block,many,0,zs32⟩ 1 seq with dr:={ (T.app2 ⟨2,seq,1,block,many,0,zs32⟩ 1 seq).dr with dv:=(T.app2 ⟨2,seq,1,block,many,0,zs32⟩ 1 seq).dr.dv.tick } }) cA.ev cA.up we fb (x:=⟨1,T.a,T.b,T.u,seq,((sumN zs32 : Nat) : Int)⟩) rfl b3 (by show ¬ ((T.app2 ⟨2,seq,1,block,many,0,zs32⟩ 1 seq).dr.dv.zs T.b.toNat).st = 4; rw [hzb,(hst _ _).1]; decide) nd4 (by show ((T.app2 ⟨2,seq,1,block,many,0,zs32⟩ 1 seq).dr.dv.zs T.b.toNat).l[T.u.toNat]? = _; rw [hzb,(hst _ _).2,hu]; rfl)
     simp only [not_true_eq_false,false_and,if_false] at ca cb
     simp only [decide_true,Bool.true_and,Bool.true_eq_false,if_false,ca,cb,Bool.false_eq_true,not_true_eq_false,or_self,hs]
     exact ⟨trivial,fun i=>⟨rfl,rfl⟩⟩
   obtain ⟨hr1,hr2⟩:=hread
   generalize (T.app2 ⟨2,seq,1,block,many,0,zs32⟩ 1 seq).read ⟨1,T.a,T.b,T.u,seq,((sumN zs32 : Nat) : Int)⟩ = R at M8 hr1 hr2 bl ⊢
   obtain ⟨U,bs,er⟩:=R
   simp only at M8 hr1 hr2 bl ⊢
   have ul : (u8s bs).length = 32:=by rw [u8s_len,bl]
   simp only [walkE]
   refine Ok.st (u8s bs) (get_new_same _ _) rfl (by show lenR (u8s bs) = 32; rw [len_length,ul]) (laidR_all (by show (List.replicate 32 (EV.int .u8 0)).length = (u8s bs).length; rw [ul,List.length_replicate])) ?_
   have x9 : Ext h8 ((h8.new (.cells (List.replicate 32 (EV.int .u8 0)) 87)).put h8.next (.cells (u8s bs) 87)):=(Chg.new h8 _ : Ext _ _).andPut (.inr (Nat.le_refl _)) (Nat.lt_succ_self _) _
   generalize (h8.new (.cells (List.replicate 32 (EV.int .u8 0)) 87)).put h8.next (.cells (u8s bs) 87) = h9 at x9 ⊢
   have hb9:=x9.hb hb8
   have M9:=M8.ext hb8 x9
   have last : Ok (revetmentlaw14_MirrorTrims_j1 (callC TT disp K d false) (callC TT disp K d true) K (.ptr m 0) (.bool true) (.tuple []) h9) (fun v h'=>v = .bool true)/\Ok (revetmentlaw14_MirrorTrims_j1 (callC TT disp K d false) (callC TT disp K d true) K (.ptr m 0) (.bool false) (.bool true) h9) (fun v h'=>v = .bool true):=by
    obtain ⟨D,V,G,F',e1,e2,_,dv⟩:=mir_dev (K:=K) M9
    have hst0 : (if U.dr.dv.has 0 = true then (((U.dr.dv.zs (0 : Int).toNat).st : Nat) : Int) else 4) = 1:=by
     have hn : U.dr.dv.has 0 = true:=by
      unfold Dv.has
      rw [(hr2 0).2]
      exact decide_eq_true ⟨by omega,by have : (T.app2 ⟨2,seq,1,block,many,0,zs32⟩ 1 seq).dr.dv.n = T.dr.dv.n:=rfl; omega⟩
     rw [if_pos hn,(hr2 _).1]
     rcases hab with y | y
     ·rw [show (0 : Int).toNat = T.a.toNat by rw [y],hza,(hst _ _).1]; rfl
     ·rw [show (0 : Int).toNat = T.b.toNat by rw [y],hzb,(hst _ _).1]; rfl
    have e3:=dev_state_eq (K:=K) dv 0
    rw [hst0] at e3
    simp only [I] at e3
    have : Ok (andE (mirror_Mirror_Drive K (.ptr m 0) h9) fun v66 h=>andE (plan_Drive_Device K v66 h) fun v67 h=>andE (zdev_Device_State K v67 (.int .i64 0) h) fun v68 h=>intE gEql (bin TT .eql 3) v68 (.int .i64 1) fun v69=>revetmentlaw14_MirrorTrims_j0 (callC TT disp K d false) (callC TT disp K d true) K (.bool true) v69 h) (fun v h'=>v = .bool true):=by
     rw [e1,andE_some,e2,andE_some,e3,andE_some]
     simp only [walkI,revetmentlaw14_MirrorTrims_j0,walkE]
     exact .ret rfl
    constructor
    ·simp only [revetmentlaw14_MirrorTrims_j1,walkE,walkI]; exact this
    ·simp only [revetmentlaw14_MirrorTrims_j1,walkE,walkI]; exact this
   rw [hr1]
   by_cases hs : seq < 1
   ·simp only [hs,if_true,I,walkI,decide_true,show decide ((10 : Int) = 41) = false from rfl,walkE,revetmentlaw14_MirrorTrims_j3,revetmentlaw14_MirrorTrims_j2]
    exact last.2
   ·simp only [hs,if_false,I,walkI,decide_true,walkE,revetmentlaw14_MirrorTrims_j3,revetmentlaw14_MirrorTrims_j2]
    exact last.1
  ·have hp : (((Mi.new g).give 0).give g.Z).place ⟨2,seq,1,block,many,0,zs32⟩ 1 seq = (((Mi.new g).give 0).give g.Z,Me.zero,10):=by
    unfold Mi.place
    rw [if_pos (show ¬ (frameE ⟨2,seq,1,block,many,0,zs32⟩ 0 0 1 seq).2 = 0 from he)]
    congr 2
    unfold EOk at he
    unfold frameE at he ⊢
    split
    ·rename_i hc; rw [if_pos hc] at he; exact absurd rfl he
    ·rfl
   rw [hp]
   simp only [walkE,I,walkI,show decide (¬ (10 : Int) = 0) = true from rfl]
   refine Ok.st Me.zero.cells (get_new_same _ _) rfl rfl (laidR_all rfl) ?_
   simp only [walkE,walkI,decide_true]
   exact .ret rfl
 ·rw [if_neg hy] at hv
  subst hv
  simp only [walkE]
  refine st .nilptr .nilptr _ _ ?_
  intro h3 x3 hb3
  try simp only [walkE]
  exact .ret rfl
end Go.Ev
