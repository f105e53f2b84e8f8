import Derived.Test.YtpkcfamminlmaaaGreatVa
import Derived.Test.YtpkcfamminlmaaaGreatXb
set_option linter.unusedVariables false
set_option linter.unusedSimpArgs false
set_option linter.unusedSectionVars false
namespace Go.Ev
open Go.Proofs
set_option maxRecDepth 100000
variable {K:Nat}{disp:Nat->Option FT}
def Baj:EV->Nat
 | .int _ n=>n.toNat
 | _=>0
def Zp(x:List EV):List Nat:=x.map Baj
theorem Agz(l:List Nat):Zp (Bj l)=l:=by
 unfold Zp Bj
 rw[List.map_map]
 exact(List.map_congr_left (fun a _=>rfl)).trans (List.map_id l)
theorem U8.Bcx {x:List EV}(u:U8 x):Bj (Zp x)=x/\∀ b ∈ Zp x,b<256:=by
 obtain⟨l,h,rfl⟩:=u
 rw[Agz];exact⟨rfl,h⟩
theorem Ax6(x:List EV):(Zp x).length=x.length:=List.length_map ..
theorem Yv {h:Aa}{i t n:Nat}{l:List EV}{v w:EV}(hg:h.get i=some (.cells l t))(hs:TT.size t=some n)(ha:TT.agg t=some true)(hl:l.length=n):Cx TT [.c (.ptr i 0) t,.v v,.v w] h=some (.tuple [.agg l,v,w],h):=by
 have hr:Gs h i 0 n=some l:=by
  unfold Gs;rw[hg];simp only;rw[<-Re];exact Av hl
 unfold Cx
 simp only[Aok,hs,hr,ha]
noncomputable def Aik(s:List Nat)(x:Me)(Ao By:Int):Bool × List Nat:=
 if (atF s Ao x.off).2=0/\¬ (atF s Ao x.off).1.kind=2/\(atF s Ao x.off).1.seq=x.seq/\(P9 (atF s Ao x.off).1).2=0/\(P9 (atF s Ao x.off).1).1.By=By/\((Du (P9 (atF s Ao x.off).1).1.bytes:Nat):Int)=x.sum
 then (true,(P9 (atF s Ao x.off).1).1.bytes) else (false,E8)
noncomputable def Mi.Jk(S:Mi)(x:Me)(Ao By:Int):Mi × List Nat × Bool × Int:=
 if (S.dr.read Ao x.off).2.2=0 then ({ S with dr:=(S.dr.read Ao x.off).1 },(Aik (Zp (S.dr.read Ao x.off).2.1) x Ao By).2,(Aik (Zp (S.dr.read Ao x.off).2.1) x Ao By).1,0) else
 if (S.dr.read Ao x.off).2.2=34 then ({ S with dr:=(S.dr.read Ao x.off).1 },E8,false,34) else
 if (S.dr.read Ao x.off).2.2=32 then ((({ S with dr:=(S.dr.read Ao x.off).1 }:Mi).Bw Ao).1,E8,false,if (({ S with dr:=(S.dr.read Ao x.off).1 }:Mi).Bw Ao).2=34 then 34 else 0) else
 ({ S with dr:=(S.dr.read Ao x.off).1 },E8,false,0)
theorem A6i(A:Aw disp)(hK:10000<K){d:Nat}(hd:19<=d){h:Aa}{m:Nat}{S:Mi}{F:Nat->Prop}(M:Fv h m S F)(hb:HB h){z:Int}(hz:Rng z):
 Ok (Ae TT disp K d false 134 [.ptr m 0,I z] h) fun v h'=>v=I (if (S.Bw z).2=34 then 34 else 0)/\Fv h' m (S.Bw z).1 F/\Kf F h h'/\HB h':=by
 obtain⟨e,rfl⟩:∃ k,d=k+1:=⟨d-1,by omega⟩
 rw[Acf A (by omega)]
 simp only[Xj]
 refine(Aeq A hK M hb (by omega) hz).Aj ?_
 rintro _ h1 ⟨rfl,M1,k1,hb1⟩
 simp only[I,Af,Sv]
 by_cases h0:(S.Bw z).2=34
 ·simp only[h0,decide_true,Ab,if_true]
  exact .ret ⟨rfl,M1,k1,hb1⟩
 ·simp only[h0,decide_false,Ab,if_false]
  exact .ret ⟨rfl,M1,k1,hb1⟩
theorem Apw:TT.size 87=some 32/\TT.agg 87=some true:=⟨by kernel_rfl,by kernel_rfl⟩
theorem Anb:E8.length=32:=rfl
theorem Avh {f:Fr}(w:f.Wf):(P9 f).1.Wf:=by
 unfold P9
 split
 ·exact En.F9
 ·split
  ·exact En.F9
  ·exact A30 w.len w.u8
theorem A46 {s:List Nat}(hl:s.length=64)(hu:∀ b ∈ s,b<256)(x:Me)(Ao By:Int)(w:(atF s Ao x.off).1.Wf):(Aik s x Ao By).2.length=32/\∀ b ∈ (Aik s x Ao By).2,b<256:=by
 unfold Aik
 split
 ·exact⟨(Avh w).len,(Avh w).u8⟩
 ·exact⟨rfl,fun b hb=>by rw[List.eq_of_mem_replicate hb];decide⟩
theorem A5p(A:Aw disp)(hK:10000<K){d:Nat}(hd:20<=d){h:Aa}{m:Nat}{S:Mi}{F:Nat->Prop}(M:Fv h m S F)(hb:HB h)(x:Me){Ao:Int}(hz:Rng Ao)(By:Int):
 Ok (Ae TT disp K d false 84 [.ptr m 0,.agg x.cells,I Ao,I By] h) fun v h'=>v=.tuple [.agg (Bj (S.Jk x Ao By).2.1),.bool (S.Jk x Ao By).2.2.1,I (S.Jk x Ao By).2.2.2]/\(S.Jk x Ao By).2.1.length=32/\(∀ b ∈ (S.Jk x Ao By).2.1,b<256)/\Fv h' m (S.Jk x Ao By).1 F/\Kf F h h'/\HB h':=by
 obtain⟨dd,rfl⟩:∃ k,d=k+1:=⟨d-1,by omega⟩
 rw[Aa6 A (by omega)]
 simp only[Wx,Ab]
 rw[show (h.new (.cells x.cells 83)).next=h.next+1 from rfl,Ql]
 have x1:Ext h ((h.new (.cells x.cells 83)).new (.cells (Bj E8) 87)):=(A0.new _ _).Fa _
 have g5:((h.new (.cells x.cells 83)).new (.cells (Bj E8) 87)).get h.next=some (.cells x.cells 83):=by
  rw[A4 _ (Nat.lt_succ_self _)];exact Ac _ _
 have g8:((h.new (.cells x.cells 83)).new (.cells (Bj E8) 87)).get (h.next+1)=some (.cells (Bj E8) 87):=Ac _ _
 have n1:((h.new (.cells x.cells 83)).new (.cells (Bj E8) 87)).next=h.next+2:=rfl
 generalize (h.new (.cells x.cells 83)).new (.cells (Bj E8) 87)=h1 at x1 g5 g8 n1 ⊢
 have hb1:=x1.hb hb
 have M1:=M.ext hb x1
 obtain⟨_,D,p,bl,ql,np,q,c,G,a⟩:=M1.s
 have lm:=hb1 _ _ a.I8.I8
 have l5:=hb1 _ _ g5
 have F5:A6 F h h1 h.next:=.inr ⟨Nat.le_refl _,by omega⟩
 have F8:A6 F h h1 (h.next+1):=.inr ⟨by omega,by omega⟩
 rw[Au lm (by kernel_rfl),a.I8.C6]
 try simp only[Ab,Bg]
 rw[Au l5 (by kernel_rfl),Dy g5 rfl (v:=I x.off) rfl]
 try simp only[Ab,Bg]
 refine Ok.Ake (S:=G) (by kernel_rfl) (by kernel_rfl) (fun _=>by kernel_rfl) (Aui (K:=K) A (d:=dd) (by omega) (fun k hk=>Awn A (by omega) S.dr k hk) a.drv.lift (D6 hb1) Ao x.off) (fun _ _ p=>p.2.2.2.1) ?_
 rintro _ h2 h3 s' ⟨rfl,hlen,d2,_,hb2⟩ sm c3 hs'
 have hb3:=sm.hb hb2
 have hu8:U8 (S.dr.read Ao x.off).2.1:=by
  obtain⟨V,M',qc,qh,cs,hs,ms,F',a'⟩:=d2.O1
  have w:=a'.dev.wf
  have wz:∀ i,i<(S.dr.begin Ao).dv.n->((S.dr.begin Ao).dv.zs i).Wf (S.dr.begin Ao).dv.size:=by
   have e1:(S.dr.read Ao x.off).1.dv=(S.dr.begin Ao).dv.begin Ao:=rfl
   rw[e1]at w
   unfold Dv.begin at w
   split at w
   ·exact w.zs
   ·exact w.zs
  show U8 (Dv.read _ Ao x.off).1
  unfold Dv.read
  split
  ·exact U8.zs
  ·rename_i hbe
   obtain⟨j,rfl,hj⟩:=Dv.Axu (show (S.dr.begin Ao).dv.Ga Ao=0 by
    rcases Decidable.em ((S.dr.begin Ao).dv.Ga Ao=0) with y|y
    ·exact y
    ·exact absurd y hbe)
   unfold Xp
   split
   ·exact U8.zs
   ·split
    ·rename_i hc
     have:x.off.toNat<((S.dr.begin (j:Int)).dv.zs j).l.length:=by
      have:=hc.2;rw[Int.toNat_natCast]at this;omega
     rw[Int.toNat_natCast,List.getElem?_eq_getElem this]
     exact(wz j hj).u8 _ (List.getElem_mem _)
    ·exact U8.zs
 obtain⟨M3,k3⟩:=M1.drv hb1 a (d2.same sm) c3
 have g5:=k3.at hb1 g5 F5
 have g8:=k3.at hb1 g8 F8
 obtain⟨hs,hsu⟩:=hu8.Bcx
 have hsl:(Zp (S.dr.read Ao x.off).2.1).length=64:=by rw[Ax6,hlen]
 unfold Mi.Jk
 rw[<-hs]
 generalize hR:S.dr.read Ao x.off=R at M3 hs hsu hsl ⊢
 obtain⟨dr,sec,er⟩:=R
 simp only at M3 hs hsu hsl ⊢
 rw[Agz]
 generalize Zp sec=s at hs hsu hsl ⊢
 simp only[Ab,Bg]
 rw[R5 (by rcases hs' with rfl|⟨w,rfl,_⟩ <;> kernel_rfl)]
 have ul:(Bj s).length=64:=by rw[Bt,hsl]
 refine Ok.st (Bj s) (Ac _ _) rfl (by show Gx (Bj s)=64;rw[Bf,ul]) (Bb (by rw[List.length_replicate];exact ul.symm)) ?_
 have x4:Ext h3 ((h3.new (.cells (List.replicate 64 (EV.int .u8 0)) 103)).put h3.next (.cells (Bj s) 103)):=(A0.new h3 _:Ext _ _).Az (.inr (Nat.le_refl _)) (Nat.lt_succ_self _) _
 have g11:((h3.new (.cells (List.replicate 64 (EV.int .u8 0)) 103)).put h3.next (.cells (Bj s) 103)).get h3.next=some (.cells (Bj s) 103):=Ah _ _ _
 generalize (h3.new (.cells (List.replicate 64 (EV.int .u8 0)) 103)).put h3.next (.cells (Bj s) 103)=h4 at x4 g11 ⊢
 have hb4:=x4.hb hb3
 have g5:=x4.at hb3 g5
 have g8:=x4.at hb3 g8
 have M4:=(M3.ext hb3 x4).less fun i (hi:A6 F h h1 i)=>Or.inl hi
 have k04:Kf F h h4:=(x1.Aon k3).trans x4.kf
 have ln:h.next+2<=h4.next:=by have:=x4.next;have:=k3.next;omega
 have sub:∀ i,F i->A6 F h h1 i:=fun i hi=>.inl hi
 have fin:∀ (l:List Nat) (ok:Bool) (er:Int) (h5:Aa) (S5:Mi),l.length=32->(∀ b ∈ l,b<256)->Fv h5 m S5 (A6 F h h1)->Kf F h h5->HB h5->h5.get (h.next+1)=some (.cells (Bj E8) 87) ->
  Ok (D5 32 (.ptr (h.next+1) 0) (.agg (Bj l)) h5 fun h'=>Cx TT [.c (.ptr (h.next+1) 0) 87,.v (.bool ok),.v (I er)] h') fun v h'=>v=.tuple [.agg (Bj l),.bool ok,I er]/\l.length=32/\(∀ b ∈ l,b<256)/\Fv h' m S5 F/\Kf F h h'/\HB h':=by
  intro l ok er h5 S5 hl hlu M5 k5 hb5 g85
  have ul:(Bj l).length=32:=by rw[Bt,hl]
  have l8:=hb5 _ _ g85
  refine Ok.st (Bj l) g85 rfl (by show Gx (Bj l)=32;rw[Bf,ul]) (Bb (by show (Bj E8).length=(Bj l).length;rw[ul,Bt,Anb])) ?_
  rw[Yv (Ah _ _ _) Apw.1 Apw.2 ul]
  have nF:¬ F (h.next+1):=fun y=>by have:=M.lt _ y;omega
  have c8:A0 (fun i=>i=h.next+1) h5 (h5.put (h.next+1) (.cells (Bj l) 87)):=(A0.refl (S:=fun i=>i=h.next+1) h5).Az (.inl rfl) l8 _
  exact .ret ⟨rfl,hl,hlu,(M5.Am4 c8 fun i hi _=>hi ▸ F8).less sub,k5.trans (c8.mono fun i hi y=>nF (hi ▸ y)),hb5.put l8 _⟩
 have no:∀ (er:Int) (h5:Aa) (S5:Mi),Fv h5 m S5 (A6 F h h1)->Kf F h h5->HB h5->h5.get (h.next+1)=some (.cells (Bj E8) 87) ->
  Ok (Bu (Pz 1) (List.replicate 32 (EV.int .u8 0)) [] fun v=>D5 32 (.ptr (h.next+1) 0) v h5 fun h'=>Cx TT [.c (.ptr (h.next+1) 0) 87,.v (.bool false),.v (I er)] h') fun v h'=>v=.tuple [.agg (Bj E8),.bool false,I er]/\E8.length=32/\(∀ b ∈ E8,b<256)/\Fv h' m S5 F/\Kf F h h'/\HB h':=fun er h5 S5 M5 k5 hb5 g85=>by
  rw[Ql,Bi (l:=Bj E8) rfl]
  exact fin E8 false er h5 S5 rfl (fun b hb=>by rw[List.eq_of_mem_replicate hb];decide) M5 k5 hb5 g85
 simp only[I,Af]
 by_cases h0:er=0
 ·rw[if_pos h0]
  simp only[h0,decide_true,Ab,Sx]
  have l11:=hb4 _ _ g11
  have l54:=hb4 _ _ g5
  obtain⟨_,D,p,bl,ql,np,q,c,G,a⟩:=M4.s
  have lm4:=hb4 _ _ a.I8.I8
  try simp only[Bg]
  rw[Au lm4 (by kernel_rfl),a.I8.table]
  try simp only[Ab,Bg]
  rw[Au l11 (by kernel_rfl),C0 g11 rfl,Av ul]
  try simp only[Ab,Bg]
  rw[Au l54 (by kernel_rfl),Dy g5 rfl (v:=I x.off) rfl]
  try simp only[Ab,Bg]
  refine Ok.Ci (by kernel_rfl) (by kernel_rfl) (Auy (K:=K) hsl hsu (D6 hb4) hK Ao x.off) (fun _ _ p=>p.2.2) ?_
  rintro _ h5' h5 ⟨rfl,fw,_⟩ _ x5
  have gw:=A46 hsl hsu x Ao By fw
  have hG:Aik s x Ao By=if (atF s Ao x.off).2=0/\¬ (atF s Ao x.off).1.kind=2/\(atF s Ao x.off).1.seq=x.seq/\(P9 (atF s Ao x.off).1).2=0/\(P9 (atF s Ao x.off).1).1.By=By/\((Du (P9 (atF s Ao x.off).1).1.bytes:Nat):Int)=x.sum
   then (true,(P9 (atF s Ao x.off).1).1.bytes) else (false,E8):=rfl
  generalize Aik s x Ao By=gd at hG gw ⊢
  generalize atF s Ao x.off=O1 at fw hG ⊢
  obtain⟨f,er'⟩:=O1
  simp only at fw hG ⊢
  have hb5:=x5.hb hb4
  have fl:=Fr.B4 fw
  have zl:=Fr.B4 Fr.F9
  simp only[Ab,Ahv,Bg]
  rw[R5 (by kernel_rfl)]
  refine Ok.st f.cells (Ac _ _) rfl (by show Gx f.cells=49;rw[Bf,fl]) (Bb (by rw[zl];exact fl.symm)) ?_
  have x6:Ext h5 ((h5.new (.cells Fr.zero.cells 120)).put h5.next (.cells f.cells 120)):=(A0.new h5 _:Ext _ _).Az (.inr (Nat.le_refl _)) (Nat.lt_succ_self _) _
  have g13:((h5.new (.cells Fr.zero.cells 120)).put h5.next (.cells f.cells 120)).get h5.next=some (.cells f.cells 120):=Ah _ _ _
  generalize (h5.new (.cells Fr.zero.cells 120)).put h5.next (.cells f.cells 120)=h6 at x6 g13 ⊢
  have hb6:=x6.hb hb5
  have x46:Ext h4 h6:=x5.trans x6
  have g5:=x46.at hb4 g5
  have g8:=x46.at hb4 g8
  have M6:=(M4.ext hb4 x46).less fun i (hi:A6 F h h1 i)=>Or.inl hi
  have k06:Kf F h h6:=k04.trans x46.kf
  have stop:=no 0 h6 _ M6 k06 hb6 g8
  have l0:f.cells[0]? = some (I f.kind):=rfl
  have l4:f.cells[4]? = some (I f.seq):=rfl
  simp only[I,Af]at stop ⊢
  by_cases c1:er'=0
  ·by_cases c2:f.kind=2
   ·rw[if_neg (by rintro⟨_,y,_⟩;exact y c2)]at hG;subst hG
    simp only[c1,not_true_eq_false,decide_false,Ab,B8 g13 rfl,l0,I,Af,c2,decide_true,Fw,Fy]
    exact stop
   ·by_cases c3:f.seq=x.seq
    ·simp only[c1,not_true_eq_false,decide_false,Ab,B8 g13 rfl,l0,I,Af,c2,Fw,l4,Fy]
     rw[Dy g5 rfl (v:=I x.seq) rfl]
     simp only[I,Af,c3,not_true_eq_false,decide_false,Ab,Sn]
     rw[C0 g13 rfl,Av fl]
     try simp only[Ab]
     refine(Aqa (K:=K) fw hb6 hK).Aj ?_
     rintro _ h7 ⟨rfl,ew,x7⟩
     generalize P9 f=re at ew hG ⊢
     obtain⟨e,er2⟩:=re
     simp only at ew hG ⊢
     have hb7:=x7.hb hb6
     have el:=En.B4 ew
     have zel:=En.B4 En.F9
     simp only[Ab]
     rw[En.Ju]
     refine Ok.st e.cells (Ac _ _) rfl (by show Gx e.cells=38;rw[Bf,el]) (Bb (by rw[zel];exact el.symm)) ?_
     have x8:Ext h7 ((h7.new (.cells En.zero.cells 89)).put h7.next (.cells e.cells 89)):=(A0.new h7 _:Ext _ _).Az (.inr (Nat.le_refl _)) (Nat.lt_succ_self _) _
     have g14:((h7.new (.cells En.zero.cells 89)).put h7.next (.cells e.cells 89)).get h7.next=some (.cells e.cells 89):=Ah _ _ _
     generalize (h7.new (.cells En.zero.cells 89)).put h7.next (.cells e.cells 89)=h8 at x8 g14 ⊢
     have hb8:=x8.hb hb7
     have x68:Ext h6 h8:=x7.trans x8
     have g5:=x68.at hb6 g5
     have g8:=x68.at hb6 g8
     have M8:=(M6.ext hb6 x68).less fun i (hi:A6 F h h1 i)=>Or.inl hi
     have k08:Kf F h h8:=k06.trans x68.kf
     have stop:=no 0 h8 _ M8 k08 hb8 g8
     have l14:=hb8 _ _ g14
     have l58:=hb8 _ _ g5
     simp only[I,Af]at stop ⊢
     by_cases c4:er2=0
     ·simp only[c4,not_true_eq_false,decide_false,Ab,Bg]
      rw[Au l14 (by kernel_rfl),Dy g14 rfl (v:=I e.By) rfl]
      simp only[I,Af]
      by_cases c5:e.By=By
      ·simp only[c5,not_true_eq_false,decide_false,Hs,Ab,Bg]
       obtain⟨_,D,p,bl,ql,np,q,c,G,a⟩:=M8.s
       have lm8:=hb8 _ _ a.I8.I8
       rw[Au lm8 (by kernel_rfl),a.I8.table]
       try simp only[Ab,Bg]
       rw[show ∀ k:EV->R,Mu 32 1 (.ptr h7.next 6) none none none k=k (.slice h7.next 6 32 32 false) from fun k=>rfl]
       try simp only[Ab,Bg]
       have bs:Bs h8.lift (.slice h7.next 6 32 32 false) h7.next 6 e.bytes:=by
        refine⟨32,false,_,e.cells,by rw[ew.len],by rw[ew.len];omega,by rw[C5];exact g14,rfl,by rw[el,ew.len];exact Nat.le_refl _,?_⟩
        unfold En.cells
        rw[ew.len]
        show (Bj e.bytes).take 32=_
        rw[List.take_of_length_le (by rw[Bt,ew.len];omega)]
       refine Ok.Ci (by kernel_rfl) (by kernel_rfl) (Atg (K:=K) hK bs (D6 hb8) ew.u8 (by rw[ew.len];omega)) (fun _ _ p=>p.2) ?_
       rintro _ h9' h9 ⟨rfl,_⟩ _ x9
       have hb9:=x9.hb hb8
       have g5:=x9.at hb8 g5
       have g8:=x9.at hb8 g8
       have g14:=x9.at hb8 g14
       have M9:=(M8.ext hb8 x9).less fun i (hi:A6 F h h1 i)=>Or.inl hi
       have k09:Kf F h h9:=k08.trans x9.kf
       have stop:=no 0 h9 _ M9 k09 hb9 g8
       have hsl:=Att ew.u8
       simp only[Nk,Ab,Bg]
       rw[show Cv .i64 (Int.ofNat (Du e.bytes))=(Du e.bytes:Int) from Cq (by show -9223372036854775808<=((Du e.bytes:Nat):Int);omega) (by show ((Du e.bytes:Nat):Int)<=_;omega)]
       rw[Au l58 (by kernel_rfl),Dy g5 rfl (v:=I x.sum) rfl]
       simp only[I,Af]at stop ⊢
       by_cases c6:((Du e.bytes:Nat):Int)=x.sum
       ·rw[if_pos ⟨c1,c2,c3,c4,c5,c6⟩]at hG;subst hG
        simp only[c6,not_true_eq_false,decide_false,Fx,Ab,S0]
        rw[C0 g14 rfl,show Of e.cells (0+6) 32=some (Bj e.bytes) from by
         rw[Ff (by rw[el];omega)]
         show some ((Bj e.bytes).take 32)=_
         rw[List.take_of_length_le (by rw[Bt,ew.len];omega)]]
        try simp only[Ab]
        exact fin e.bytes true 0 h9 _ ew.len ew.u8 M9 k09 hb9 g8
       ·rw[if_neg (by rintro⟨_,_,_,_,_,y⟩;exact c6 y)]at hG;subst hG
        simp only[c6,not_false_eq_true,decide_true,Fx,Ab]
        exact stop
      ·rw[if_neg (by rintro⟨_,_,_,_,y,_⟩;exact c5 y)]at hG;subst hG
       simp only[c5,not_false_eq_true,decide_true,Hs,Ab,Fx]
       exact stop
     ·rw[if_neg (by rintro⟨_,_,_,y,_⟩;exact c4 y)]at hG;subst hG
      simp only[c4,not_false_eq_true,decide_true,Hs,Ab,Fx]
      exact stop
    ·rw[if_neg (by rintro⟨_,_,y,_⟩;exact c3 y)]at hG;subst hG
     simp only[c1,not_true_eq_false,decide_false,Ab,B8 g13 rfl,l0,I,Af,c2,Fw,l4,Fy]
     rw[Dy g5 rfl (v:=I x.seq) rfl]
     simp only[I,Af,c3,not_false_eq_true,decide_true,Ab]
     exact stop
  ·rw[if_neg (by rintro⟨y,_⟩;exact c1 y)]at hG;subst hG
   simp only[c1,not_false_eq_true,decide_true,Ab,Fw,Fy]
   exact stop
 ·rw[if_neg h0]
  simp only[h0,decide_false,Ab,Af]
  by_cases h34:er=34
  ·rw[if_pos h34]
   simp only[h34,decide_true,Ab]
   exact no 34 h4 _ M4 k04 hb4 g8
  ·rw[if_neg h34]
   simp only[h34,decide_false,Ab,Af]
   by_cases h32:er=32
   ·rw[if_pos h32]
    simp only[h32,decide_true,Ab]
    rw[Bi (l:=Bj E8) rfl]
    refine(A6i A hK (by omega) M4 hb4 hz).Aj ?_
    rintro _ h5 ⟨rfl,M5,k5,hb5⟩
    have g8:=k5.at hb4 g8 F8
    have k5':Kf F h4 h5:=k5.less sub
    exact fin E8 false _ h5 _ rfl (fun b hb=>by rw[List.eq_of_mem_replicate hb];decide) M5 (k04.trans k5') hb5 g8
   ·rw[if_neg h32]
    simp only[h32,decide_false,Ab]
    exact no 0 h4 _ M4 k04 hb4 g8
end Go.Ev

namespace Go.Ev
open Go.Proofs
set_option maxRecDepth 100000
variable {K:Nat}{disp:Nat->Option FT}
def Aj4(g:Gm)(x:Me):Bool:=decide (x.state=1) && meB g x
theorem A05 {h:Aa}{m:Nat}{S:Mi}{F:Nat->Prop}(M:Fv h m S F)(hb:HB h){x:Me}(hz:Rng x.Ao)(hm:Rng x.By):
 Ok (I4 K (.ptr m 0) (.agg x.cells) h) fun v h'=>v=.bool (Aj4 S.g x)/\Ext h h':=by
 simp only[I4,Ab]
 have x1:Ext h (h.new (.cells x.cells 83)):=A0.new _ _
 have g3:(h.new (.cells x.cells 83)).get h.next=some (.cells x.cells 83):=Ac _ _
 generalize h.new (.cells x.cells 83)=h1 at x1 g3 ⊢
 have hb1:=x1.hb hb
 obtain⟨_,D,p,bl,ql,np,q,c,G,a⟩:=M.s.ext hb x1
 have l3:=hb1 _ _ g3
 have lm:=hb1 _ _ a.I8.I8
 rw[Au l3 (by kernel_rfl),Dy g3 rfl (v:=I x.state) rfl]
 simp only[I,Af]
 unfold Aj4
 by_cases h0:x.state=1
 ·simp only[h0,decide_true,Ab,Bg,Bool.true_and]
  rw[Au l3 (by kernel_rfl),C0 g3 rfl,Av (n:=6) rfl]
  try simp only[Ab,Bg]
  rw[Au lm (by kernel_rfl),a.I8.A2n]
  try simp only[Ab,Bg]
  refine Ok.Ci (by kernel_rfl) (by kernel_rfl) (Apy (K:=K) (D6 hb1) h0 hz hm) (fun _ _ p=>p.2) ?_
  rintro _ h2' h2 ⟨rfl,_⟩ _ x2
  simp only[Jg,Ab]
  exact .ret ⟨rfl,x1.trans x2⟩
 ·simp only[h0,decide_false,Ab,Bg,Bool.false_and,Jg]
  exact .ret ⟨rfl,x1⟩
section
variable (A:Aw disp)(hK:10000<K){d:Nat}(hd:20<=d){h:Aa}{m b3 b4:Nat}{S:Mi}{F:Nat->Prop}(M:Fv h m S F)(hb:HB h)(x:Me)
include A hK hd M hb
end
section
variable (A:Aw disp)(hK:10000<K){d:Nat}(hd:20<=d){h:Aa}{m b3 b4 b7:Nat}{S:Mi}{F:Nat->Prop}(M:Fv h m S F)(hb:HB h)(x:Me)
include A hK hd M hb
theorem Ao3 {ih:EV->EV->EV->EV->EV->EV->EV->EV->Aa->R}{Q:EV->Aa->Prop}{v30:EV}{i:Nat}{z mt:Int}{l0:List Nat}{n gd:Nat}(hn:n<=10)(hgd:gd<=10)(hl0:l0.length=32)(hz:Rng z)(hix:∀ k:EV->R,Ayx 2 2 true 2 v30 (.int .i64 (i:Int)) k=k (.agg [I z,I mt]))(f3:F b3)(f4:F b4)(f7:F b7)(n47:b4 ≠ b7)
 (g3:h.get b3=some (.cells x.cells 83)) (g4:h.get b4=some (.cells (Bj E8) 87)) (g7:h.get b7=some (.cells (Bj l0) 87))
 (hst:¬ (S.Jk x z mt).2.2.2=0->∀ h',Fv h' m (S.Jk x z mt).1 F->Kf (fun i=>F i/\¬ i=b4/\¬ i=b7) h h'->HB h'->Q (.tuple [.agg (Bj E8),I 0,I (S.Jk x z mt).2.2.2]) h')
 (hgo:(S.Jk x z mt).2.2.2=0->∀ h',Fv h' m (S.Jk x z mt).1 F->Kf (fun i=>F i/\¬ i=b7) h h'->HB h'->(if (S.Jk x z mt).2.2.1=true then (S.Jk x z mt).2.1 else l0).length=32 ->
  h'.get b7=some (.cells (Bj (if (S.Jk x z mt).2.2.1=true then (S.Jk x z mt).2.1 else l0)) 87) ->
  Ok (Fg (Ae TT disp K d false) (Ae TT disp K d true) K ih (.ptr m 0) (.ptr b3 0) (.ptr b4 0) (.ptr b7 0) (I ((if (S.Jk x z mt).2.2.1=true/\(S.Jk x z mt).1.N5 z=false then n+1 else n:Nat):Int)) (I ((if (S.Jk x z mt).2.2.1=true then gd+1 else gd:Nat):Int)) v30 (.int .i64 (i:Int)) h') Q) :
 Ok (Mn (Ae TT disp K d false) (Ae TT disp K d true) K ih (.ptr m 0) (.ptr b3 0) (.ptr b4 0) (.ptr b7 0) (I (n:Int)) (I (gd:Int)) v30 (.int .i64 (i:Int)) h) Q:=by
 simp only[Mn,hix,Ab]
 refine Ok.st [I z,I mt] (Ac _ _) rfl rfl rfl ?_
 have x1:Ext h ((h.new (.cells [EV.int .i64 0,.int .i64 0] 176)).put h.next (.cells [I z,I mt] 176)):=(A0.new h _:Ext _ _).Az (.inr (Nat.le_refl _)) (Nat.lt_succ_self _) _
 have g11:((h.new (.cells [EV.int .i64 0,.int .i64 0] 176)).put h.next (.cells [I z,I mt] 176)).get h.next=some (.cells [I z,I mt] 176):=Ah _ _ _
 have n1:((h.new (.cells [EV.int .i64 0,.int .i64 0] 176)).put h.next (.cells [I z,I mt] 176)).next=h.next+1:=rfl
 generalize (h.new (.cells [EV.int .i64 0,.int .i64 0] 176)).put h.next (.cells [I z,I mt] 176)=h1 at x1 g11 n1 ⊢
 have hb1:=x1.hb hb
 have M1:=M.ext hb x1
 have F11:A6 F h h1 h.next:=.inr ⟨Nat.le_refl _,by omega⟩
 have sub:∀ i,F i->A6 F h h1 i:=fun i hi=>.inl hi
 rw[C0 (x1.at hb g3) rfl,Av (n:=6) rfl]
 try simp only[Ab]
 rw[show ∀ k:EV->R,Adg 2 1 (.ptr h.next 0) (.int .i64 0) k=k (.ptr h.next 0) from fun k=>rfl,Dy g11 rfl (v:=I z) rfl]
 rw[show ∀ k:EV->R,Adg 2 1 (.ptr h.next 0) (.int .i64 1) k=k (.ptr h.next 1) from fun k=>rfl,Dy g11 rfl (v:=I mt) rfl]
 refine(A5p A hK hd M1 hb1 x hz mt).Aj ?_
 rintro _ h2 ⟨rfl,bl,bu,M2,k2,hb2⟩
 have k02:Kf F h h2:=x1.Aon k2
 have g11:=k2.at hb1 g11 F11
 generalize S.Jk x z mt=C at hst hgo bl bu M2 ⊢
 obtain⟨T,l,ok,er⟩:=C
 simp only at hst hgo bl bu M2 ⊢
 have ul:(Bj l).length=32:=by rw[Bt,bl]
 have ul0:(Bj l0).length=32:=by rw[Bt,hl0]
 simp only[Ab,Ql]
 refine Ok.st (Bj l) (Ac _ _) rfl (by show Gx (Bj l)=32;rw[Bf,ul]) (Bb (by show (Bj E8).length=(Bj l).length;rw[ul,Bt,Anb])) ?_
 have x3:Ext h2 ((h2.new (.cells (Bj E8) 87)).put h2.next (.cells (Bj l) 87)):=(A0.new h2 _:Ext _ _).Az (.inr (Nat.le_refl _)) (Nat.lt_succ_self _) _
 have g12:((h2.new (.cells (Bj E8) 87)).put h2.next (.cells (Bj l) 87)).get h2.next=some (.cells (Bj l) 87):=Ah _ _ _
 generalize (h2.new (.cells (Bj E8) 87)).put h2.next (.cells (Bj l) 87)=h3 at x3 g12 ⊢
 have hb3:=x3.hb hb2
 have g11:=x3.at hb2 g11
 have M3':=(M2.ext hb2 x3).less fun i (hi:A6 F h h1 i)=>Or.inl hi
 have M3:=M3'.less sub
 have k03:Kf F h h3:=k02.trans x3.kf
 have g4:=k03.at hb g4 f4
 have g7:=k03.at hb g7 f7
 have l4:=hb3 _ _ g4
 have l7:=hb3 _ _ g7
 simp only[I,Af]
 by_cases h0:er=0
 ·simp only[h0,not_true_eq_false,decide_false,Ab,Q8]
  have hgo:=hgo h0
  cases ok with
  | false=>
   simp only[Ab]
   have:=hgo h3 M3 (k03.less fun i hi=>hi.1) hb3 (by simp[hl0]) (by simpa using g7)
   simpa [I] using this
  | true=>
   simp only[Ab,Rm]
   rw[C0 g12 rfl,Av ul]
   try simp only[Ab]
   refine Ok.st (Bj l) g7 rfl (by show Gx (Bj l)=32;rw[Bf,ul]) (Bb (by show (Bj l0).length=(Bj l).length;rw[ul,ul0])) ?_
   have c7:A0 (fun i=>i=b7) h3 (h3.put b7 (.cells (Bj l) 87)):=(A0.refl (S:=fun i=>i=b7) h3).Az (.inl rfl) l7 _
   have M4:=M3'.Am4 c7 fun i hi _=>by
    have hi:i=b7:=hi
    subst hi;exact sub _ f7
   have g7':(h3.put b7 (.cells (Bj l) 87)).get b7=some (.cells (Bj l) 87):=Ah _ _ _
   have g11:(h3.put b7 (.cells (Bj l) 87)).get h.next=some (.cells [I z,I mt] 176):=by
    rw[Aq _ (fun y=>by have:=M.lt _ f7;omega)];exact g11
   have k04:Kf (fun i=>F i/\¬ i=b7) h (h3.put b7 (.cells (Bj l) 87)):=(k03.less fun i hi=>hi.1).trans (c7.mono fun i hi y=>y.2 hi)
   have hb4:HB (h3.put b7 (.cells (Bj l) 87)):=hb3.put l7 _
   generalize h3.put b7 (.cells (Bj l) 87)=h4 at M4 g7' g11 k04 hb4 ⊢
   simp only[I,Af]
   rw[Cq (n:=(gd:Int)+1) (by omega) (by omega),Cq (n:=(n:Int)+1) (by omega) (by omega)]
   rw[show ∀ k:EV->R,Adg 2 1 (.ptr h.next 0) (.int .i64 0) k=k (.ptr h.next 0) from fun k=>rfl,Dy g11 rfl (v:=I z) rfl]
   refine(Y7 (K:=K) M4.s hb4 hz).Aj ?_
   rintro _ h5 ⟨rfl,x5⟩
   have hb5:=x5.hb hb4
   have M5:=(M4.ext hb4 x5).less fun i (hi:A6 F h h1 i)=>Or.inl hi
   have this:=hgo h5 (M5.less sub) (k04.trans x5.kf) hb5 (by simpa using bl) (by simpa using x5.at hb4 g7')
   cases hbd:T.N5 z with
   | true=>
    simp only[Ab]
    simpa [I,hbd] using this
   | false=>
    simp only[Ab,Af]
    simpa [I,hbd] using this
 ·simp only[h0,not_false_eq_true,decide_true,Ab]
  rw[Bi (l:=Bj E8) rfl]
  refine Ok.st (Bj E8) g4 rfl rfl (Bb rfl) ?_
  rw[Yv (Ah _ _ _) Apw.1 Apw.2 rfl]
  have c8:A0 (fun i=>i=b4) h3 (h3.put b4 (.cells (Bj E8) 87)):=(A0.refl (S:=fun i=>i=b4) h3).Az (.inl rfl) l4 _
  exact .ret (hst h0 _ (M3.Am4 c8 fun i hi _=>hi ▸ f4) ((k03.less fun i hi=>hi.1).trans (c8.mono fun i hi y=>y.2.1 hi)) (hb3.put l4 _))
end
noncomputable def Mi.Asp(x:Me)(C D:Mi × List Nat × Bool × Int):Mi × List Nat × Int × Int:=
 if ¬ D.2.2.2=0 then (D.1,E8,0,D.2.2.2) else
 if C.2.2.1=false/\D.2.2.1=false then (D.1,E8,0,41) else
 (D.1,if D.2.2.1=true then D.2.1 else C.2.1,(if C.2.2.1=true/\C.1.N5 x.Ao=false then 1 else 0)+(if D.2.2.1=true/\D.1.N5 x.By=false then 1 else 0),0)
noncomputable def Mi.check(S:Mi)(x:Me):Mi × List Nat × Int × Int:=
 if Aj4 S.g x=false then (S,E8,0,10) else
 if ¬ (S.Jk x x.Ao x.By).2.2.2=0 then ((S.Jk x x.Ao x.By).1,E8,0,(S.Jk x x.Ao x.By).2.2.2) else
 Mi.Asp x (S.Jk x x.Ao x.By) ((S.Jk x x.Ao x.By).1.Jk x x.By x.Ao)
theorem A1e(A:Aw disp)(hK:10000<K){d:Nat}(hd:21<=d){h:Aa}{m:Nat}{S:Mi}{F:Nat->Prop}(M:Fv h m S F)(hb:HB h){x:Me}(hz:Rng x.Ao)(hm:Rng x.By):
 Ok (Ae TT disp K d false 41 [.ptr m 0,.agg x.cells] h) fun v h'=>v=.tuple [.agg (Bj (S.check x).2.1),I (S.check x).2.2.1,I (S.check x).2.2.2]/\(S.check x).2.1.length=32/\Fv h' m (S.check x).1 F/\Kf F h h'/\HB h':=by
 obtain⟨dd,rfl⟩:∃ k,d=k+1:=⟨d-1,by omega⟩
 rw[Aai A (by omega)]
 simp only[Vs,Ab]
 rw[show (h.new (.cells x.cells 83)).next=h.next+1 from rfl,Ql]
 have x1:Ext h ((h.new (.cells x.cells 83)).new (.cells (Bj E8) 87)):=(A0.new _ _).Fa _
 have g3:((h.new (.cells x.cells 83)).new (.cells (Bj E8) 87)).get h.next=some (.cells x.cells 83):=by
  rw[A4 _ (Nat.lt_succ_self _)];exact Ac _ _
 have g4:((h.new (.cells x.cells 83)).new (.cells (Bj E8) 87)).get (h.next+1)=some (.cells (Bj E8) 87):=Ac _ _
 have n1:((h.new (.cells x.cells 83)).new (.cells (Bj E8) 87)).next=h.next+2:=rfl
 generalize (h.new (.cells x.cells 83)).new (.cells (Bj E8) 87)=h1 at x1 g3 g4 n1 ⊢
 have hb1:=x1.hb hb
 have M1:=M.ext hb x1
 rw[C0 g3 rfl,Av (n:=6) rfl]
 try simp only[Ab]
 refine(A05 (K:=K) M1 hb1 hz hm).Aj ?_
 rintro _ h2 ⟨rfl,x2⟩
 have hb2:=x2.hb hb1
 have x02:Ext h h2:=x1.trans x2
 have M2:=M.ext hb x02
 have g3:=x2.at hb1 g3
 have g4:=x2.at hb1 g4
 have ln:=x2.next
 have f4':A6 F h h2 (h.next+1):=.inr ⟨by omega,by omega⟩
 have l4:=hb2 _ _ g4
 unfold Mi.check
 cases hl:Aj4 S.g x with
 | false=>
  simp only[Ab,if_true]
  rw[Bi (l:=Bj E8) rfl]
  refine Ok.st (Bj E8) g4 rfl rfl (Bb rfl) ?_
  rw[Yv (Ah _ _ _) Apw.1 Apw.2 rfl]
  have x3:Ext h (h2.put (h.next+1) (.cells (Bj E8) 87)):=x02.Az (.inr (by omega)) l4 _
  exact .ret ⟨rfl,rfl,(M.ext hb x3).less fun i (hi:F i)=>Or.inl hi,x3.kf,hb2.put l4 _⟩
 | true=>
  rw[if_neg (by simp)]
  simp only[Ab,Rx,Ql]
  have x3:Ext h2 (h2.new (.cells (Bj E8) 87)):=A0.new _ _
  have g7:(h2.new (.cells (Bj E8) 87)).get h2.next=some (.cells (Bj E8) 87):=Ac _ _
  have n3:(h2.new (.cells (Bj E8) 87)).next=h2.next+1:=rfl
  generalize h2.new (.cells (Bj E8) 87)=h3 at x3 g7 n3 ⊢
  have hb3:=x3.hb hb2
  have x03:Ext h h3:=x02.trans x3
  have M3:=M.ext hb x03
  have g3:=x3.at hb2 g3
  have g4:=x3.at hb2 g4
  have f3:A6 F h h3 h.next:=.inr ⟨Nat.le_refl _,by omega⟩
  have f4:A6 F h h3 (h.next+1):=.inr ⟨by omega,by omega⟩
  have f7:A6 F h h3 h2.next:=.inr ⟨by omega,by omega⟩
  have n47:h.next+1 ≠ h2.next:=by omega
  have sub:∀ i,F i->A6 F h h3 i:=fun i hi=>.inl hi
  have back:∀ h',Kf (fun i=>A6 F h h3 i/\¬ i=h.next+1/\¬ i=h2.next) h3 h'->Kf F h h':=fun h' k=>
   A0.then (S:=fun i=>¬ F i) (Ext.to x03) k fun i y hl z=>y ⟨.inl z,fun y=>by have:=M.lt i z;omega,fun y=>by have:=M.lt i z;omega⟩
  rw[Dy g3 rfl (v:=I x.Ao) rfl]
  try simp only[Ab]
  rw[Dy g3 rfl (v:=I x.By) rfl,Bi (l:=[I x.Ao,I x.By]) rfl]
  try simp only[Ab]
  rw[Dy g3 rfl (v:=I x.By) rfl]
  try simp only[Ab]
  rw[Dy g3 rfl (v:=I x.Ao) rfl,Bi (l:=[I x.By,I x.Ao]) rfl,Bi (l:=[I x.Ao,I x.By,I x.By,I x.Ao]) rfl]
  obtain⟨k,rfl⟩:∃ k,K=k+3:=⟨K-3,by omega⟩
  rw[show Bq (Ae TT disp (k+3) dd false) (Ae TT disp (k+3) dd true) (k+3) (k+3)=Bq (Ae TT disp (k+3) dd false) (Ae TT disp (k+3) dd true) (k+3) (k+2+1) from rfl]
  rw[Bq];simp only[Af,show decide ((0:Int)<2)=true from rfl,Ab]
  refine Ao3 A hK (by omega) M3 hb3 x (i:=0) (n:=0) (gd:=0) (l0:=E8) (by omega) (by omega) rfl hz (fun k=>rfl) f3 f4 f7 n47 g3 g4 g7 ?_ ?_
  ·intro hc h4 M4 k4 hb4
   rw[if_pos hc]
   exact⟨rfl,rfl,M4.less sub,back _ k4,hb4⟩
  ·intro hc h4 M4 k4 hb4 bl1 g74
   rw[if_neg (show ¬ ¬ (S.Jk x x.Ao x.By).2.2.2=0 from fun y=>y hc)]
   have g34:=k4.at hb3 g3 ⟨f3,by omega⟩
   have g44:=k4.at hb3 g4 ⟨f4,n47⟩
   generalize S.Jk x x.Ao x.By=C at M4 bl1 g74 ⊢
   simp only[Fg,Af]
   rw[show Cv .i64 (((0:Nat):Int)+1)=((1:Nat):Int) from rfl]
   rw[show Bq (Ae TT disp (k+3) dd false) (Ae TT disp (k+3) dd true) (k+3) (k+2)=Bq (Ae TT disp (k+3) dd false) (Ae TT disp (k+3) dd true) (k+3) (k+1+1) from rfl]
   rw[Bq];simp only[Af,show decide (((1:Nat):Int)<2)=true from rfl,Ab]
   have hn1:(if C.2.2.1=true/\C.1.N5 x.Ao=false then 0+1 else 0)<=10:=by split <;> omega
   have hg1:(if C.2.2.1=true then 0+1 else 0)<=10:=by split <;> omega
   refine Ao3 A hK (by omega) M4 hb4 x (i:=1) hn1 hg1 bl1 hm (fun k=>rfl) f3 f4 f7 n47 g34 g44 g74 ?_ ?_
   ·intro hc h5 M5 k5 hb5
    unfold Mi.Asp
    rw[if_pos hc]
    exact⟨rfl,rfl,M5.less sub,back _ ((k4.less fun i hi=>⟨hi.1,hi.2.2⟩).trans k5),hb5⟩
   ·intro hc h5 M5 k5 hb5 bl2 g75
    unfold Mi.Asp
    rw[if_neg (show ¬ ¬ (C.1.Jk x x.By x.Ao).2.2.2=0 from fun y=>y hc)]
    have g45:=k5.at hb4 g44 ⟨f4,n47⟩
    have l45:=hb5 _ _ g45
    generalize C.1.Jk x x.By x.Ao=D at M5 bl2 g75 ⊢
    simp only[Fg,Af]
    rw[show Cv .i64 (((1:Nat):Int)+1)=((2:Nat):Int) from rfl]
    rw[Bq];simp only[Af,show decide (((2:Nat):Int)<2)=false from rfl,Ab,Mg,I]
    have k35:Kf (fun i=>A6 F h h3 i/\¬ i=h.next+1/\¬ i=h2.next) h3 h5:=(k4.less fun i hi=>⟨hi.1,hi.2.2⟩).trans (k5.less fun i hi=>⟨hi.1,hi.2.2⟩)
    have fin:∀ (l:List Nat) (n er:Int),l.length=32->Ok (D5 32 (.ptr (h.next+1) 0) (.agg (Bj l)) h5 fun h'=>Cx TT [.c (.ptr (h.next+1) 0) 87,.v (I n),.v (I er)] h') fun v h'=>v=.tuple [.agg (Bj l),I n,I er]/\l.length=32/\Fv h' m D.1 F/\Kf F h h'/\HB h':=by
     intro l n er hl
     have ul:(Bj l).length=32:=by rw[Bt,hl]
     refine Ok.st (Bj l) g45 rfl (by show Gx (Bj l)=32;rw[Bf,ul]) (Bb (by show (Bj E8).length=(Bj l).length;rw[ul,Bt,Anb])) ?_
     rw[Yv (Ah _ _ _) Apw.1 Apw.2 ul]
     have c8:A0 (fun i=>i=h.next+1) h5 (h5.put (h.next+1) (.cells (Bj l) 87)):=(A0.refl (S:=fun i=>i=h.next+1) h5).Az (.inl rfl) l45 _
     exact .ret ⟨rfl,hl,(M5.Am4 c8 fun i hi _=>hi ▸ f4).less sub,back _ (k35.trans (c8.mono fun i hi y=>y.2.1 hi)),hb5.put l45 _⟩
    cases c1:C.2.2.1 with
    | false=>
     rw[c1]at bl2 g75
     cases c2:D.2.2.1 with
     | false=>
      simp only[Bool.false_eq_true,false_and,if_false,and_self,if_true,show ((0:Nat):Int)=0 from rfl,decide_true,Ab,Ql]
      rw[Bi (l:=Bj E8) rfl]
      exact fin E8 0 41 rfl
     | true=>
      rw[c2]at bl2 g75
      simp only[if_true]at bl2 g75
      simp only[Bool.false_eq_true,false_and,if_false,Bool.true_eq_false,and_false,true_and,if_true,Ab,Jh,show decide (((0+1:Nat):Int)=0)=false from rfl]
      rw[C0 g75 rfl,Av (by rw[Bt,bl2])]
      simp only[Ab]
      have:=fin D.2.1 ((if D.1.N5 x.By=false then 0+1 else 0:Nat):Int) 0 bl2
      simp only[I]at this
      cases hbd:D.1.N5 x.By <;> simpa [hbd] using this
    | true=>
     rw[c1]at bl1 bl2 g75
     simp only[if_true]at bl1
     cases c2:D.2.2.1 with
     | false=>
      rw[c2]at bl2 g75
      simp only[if_true,Bool.false_eq_true,if_false]at bl2 g75
      simp only[Bool.true_eq_false,false_and,if_false,true_and,if_true,Bool.false_eq_true,Ab,Jh,show decide (((0+1:Nat):Int)=0)=false from rfl]
      rw[C0 g75 rfl,Av (by rw[Bt,bl2])]
      simp only[Ab]
      have:=fin C.2.1 ((if C.1.N5 x.Ao=false then 0+1 else 0:Nat):Int) 0 bl1
      simp only[I]at this
      cases hbd:C.1.N5 x.Ao <;> simpa [hbd] using this
     | true=>
      rw[c2]at bl2 g75
      simp only[if_true]at bl2 g75
      simp only[Bool.true_eq_false,false_and,if_false,true_and,if_true,Ab,Jh,show decide (((0+1+1:Nat):Int)=0)=false from rfl]
      rw[C0 g75 rfl,Av (by rw[Bt,bl2])]
      simp only[Ab]
      have:=fin D.2.1 (((if C.1.N5 x.Ao=false then 1 else 0)+(if D.1.N5 x.By=false then 1 else 0):Nat):Int) 0 bl2
      simp only[I]at this
      cases hbc:C.1.N5 x.Ao <;> cases hbd:D.1.N5 x.By <;> simpa [hbc,hbd] using this
end Go.Ev

namespace Go.Ev
open Go.Proofs
set_option maxRecDepth 100000
variable {K:Nat}{disp:Nat->Option FT}
theorem A93:TT.size 33=some 5/\TT.agg 33=some true:=⟨by kernel_rfl,by kernel_rfl⟩
theorem A1j:TT.size 42=some 20/\TT.agg 42=some true:=⟨by kernel_rfl,by kernel_rfl⟩
theorem Ayh {h0:Aa}{b6 b7 n:Nat}{size op:Int}(l6:h0.next<=b6)(l67:b6<b7)(hn:n<=1000):∀ (m i:Nat) (h:Aa) (s:EV) (q:Nat) (l:List EV),n-i<m->i<=n->HB h->Ext h0 h->h.get b6=some (.cells [.Ag,.int .i64 0,.int .i64 0,.int .i64 0,.bool false] 33) ->
 h.get b7=some (.cells [s,I size,I op,.int .i64 0,.bool false] 33)->B7 h s q 215 4 i l->(0<i->b7<q) ->
 Ok (C9 K m (I n) (.ptr b6 0) (.ptr b7 0) (.int .i64 (i:Int)) h) fun v h'=>∃ s,v=.agg [s,I size,I op,I 0,.bool false]/\Ext h0 h'/\HB h':=by
 intro m
 induction m with
 | zero=>intro i h s q l hm;omega
 | succ m ih=>
  intro i h s q l hm hi hb x g6 g7 r hq
  have l7:=hb _ _ g7
  simp only[C9,I,Af]
  by_cases hlt:(i:Int)<n
  ·simp only[hlt,decide_true,Ab,Sl,B8 g7 rfl]
   rw[Bi (l:=[.Ag,.int .i64 0,.int .i64 0,.bool false]) rfl]
   refine S2 (z:=[.Ag,.int .i64 0,.int .i64 0,.bool false]) r hb rfl rfl rfl (by omega) (by omega) ?_
   intro h2 r2 n2 c2
   have nq:∀ {j o},h.get j=some o->(∀ l,o ≠ .vec l 215 4)->¬ (0<i/\j=q):=fun gj ho y=>by
    have:=r.block y.1
    rw[y.2,this]at gj;cases gj;exact ho _ rfl
   have hb2:=c2.hb hb
   have x2:Ext h0 h2:=x.then c2 fun j hj hl=>by
    have:=hq hj.1;omega
   have g62:=c2.at hb g6 (nq g6 (by intros;simp))
   have g72:=c2.at hb g7 (nq g7 (by intros;simp))
   have l72:=hb2 _ _ g72
   try simp only[Ab]
   refine Ok.st1 g72 rfl rfl (by show 0<5;decide) ?_
   simp only[List.set,Ss,Af]
   rw[Cq (by omega) (by omega)]
   have hs:(EV.slice (h.next+1) 0 (i+1) (i+1) true)=.slice (h.next+1) 0 (i+1) (i+1) true:=rfl
   refine ih (i+1) _ _ (h.next+1) _ (by omega) (by omega) (hb2.put l72 _) (x2.Az (.inr (by omega)) l72 _) ?_ (Ah _ _ _) (r2.frame fun _=>Aq _ ?_) (fun _=>by omega)
   ·rw[Aq _ (by omega)];exact g62
   ·omega
  ·simp only[hlt,decide_false,Ab,Nw]
   rw[C0 g7 rfl,Av (n:=5) rfl]
   try simp only[Ab]
   have l6':=hb _ _ g6
   refine Ok.st [s,I size,I op,.int .i64 0,.bool false] g6 rfl rfl (Bb rfl) ?_
   rw[Z1 (Ah _ _ _) A93.1 A93.2 rfl]
   exact .ret ⟨s,rfl,x.Az (.inr l6) l6' _,hb.put l6' _⟩
theorem Asc {n:Nat}{size op:Int}(hn:n<=1000)(hK:2000<K){h:Aa}(hb:HB h):Ok (Mr K (I n) (I size) (I op) h) fun v h'=>∃ s,v=.agg [s,I size,I op,I 0,.bool false]/\Ext h h'/\HB h':=by
 simp only[Mr,Ab]
 rw[Bi (l:=[.Ag,I size,I op,.int .i64 0,.bool false]) rfl]
 refine Ok.st [.Ag,I size,I op,.int .i64 0,.bool false] (Ac _ _) rfl rfl (Bb rfl) ?_
 have g6:((h.new (.cells [.Ag,.int .i64 0,.int .i64 0,.int .i64 0,.bool false] 33)).new (.cells [.Ag,.int .i64 0,.int .i64 0,.int .i64 0,.bool false] 33)).get h.next=some (.cells [.Ag,.int .i64 0,.int .i64 0,.int .i64 0,.bool false] 33):=by
  rw[A4 _ (Nat.lt_succ_self _)];exact Ac _ _
 have x1:Ext h ((h.new (.cells [.Ag,.int .i64 0,.int .i64 0,.int .i64 0,.bool false] 33)).new (.cells [.Ag,.int .i64 0,.int .i64 0,.int .i64 0,.bool false] 33)):=(A0.new _ _).Fa _
 have n1:((h.new (.cells [.Ag,.int .i64 0,.int .i64 0,.int .i64 0,.bool false] 33)).new (.cells [.Ag,.int .i64 0,.int .i64 0,.int .i64 0,.bool false] 33)).next=h.next+2:=rfl
 rw[show (h.new (.cells [.Ag,.int .i64 0,.int .i64 0,.int .i64 0,.bool false] 33)).next=h.next+1 from rfl]
 generalize (h.new (.cells [.Ag,.int .i64 0,.int .i64 0,.int .i64 0,.bool false] 33)).new (.cells [.Ag,.int .i64 0,.int .i64 0,.int .i64 0,.bool false] 33)=h1 at g6 x1 n1 ⊢
 have l7:h.next+1<h1.next:=by omega
 refine Ayh (h0:=h) (b6:=h.next) (b7:=h.next+1) (n:=n) (size:=size) (op:=op) (Nat.le_refl _) (by omega) hn K 0 _ .Ag 0 [] (by omega) (by omega) ((x1.hb hb).put l7 _) (x1.Az (.inr (by omega)) l7 _) ?_ (Ah _ _ _) (.nil _ _ _ _) (fun y=>absurd y (Nat.lt_irrefl _))
 rw[Aq _ (by omega)];exact g6
def Akp(s:EV)(size op:Int)(g:Gm):List EV:=[s,I size,I op,I 0,.bool false,.Ag,.Ag]++gL g++[I g.D,I g.Z,.Ag,.Ag,I (-1),I (-1),I 0]
theorem Atm {s:EV}{size op:Int}{g:Gm}{h:Aa}(hb:HB h):Ok (Mq K (.agg [s,I size,I op,I 0,.bool false,.Ag,.Ag]) (gV g) h) fun v h'=>v=.agg (Akp s size op g)/\Ext h h'/\HB h':=by
 simp only[Mq,gV,Ab]
 rw[show (h.new (.cells [s,I size,I op,I 0,.bool false,.Ag,.Ag] 36)).next=h.next+1 from rfl]
 rw[show ((h.new (.cells [s,I size,I op,I 0,.bool false,.Ag,.Ag] 36)).new (.cells (gL g) 37)).next=h.next+2 from rfl]
 generalize hz:([EV.Ag]++List.replicate 3 (EV.int .i64 0)++[EV.bool false]++List.replicate 2 EV.Ag++List.replicate 8 (EV.int .i64 0)++List.replicate 2 EV.Ag++List.replicate 3 (EV.int .i64 0))=z20
 have x1:Ext h (((h.new (.cells [s,I size,I op,I 0,.bool false,.Ag,.Ag] 36)).new (.cells (gL g) 37)).new (.cells z20 42)):=((A0.new _ _).Fa _).Fa _
 have g2:(((h.new (.cells [s,I size,I op,I 0,.bool false,.Ag,.Ag] 36)).new (.cells (gL g) 37)).new (.cells z20 42)).get h.next=some (.cells [s,I size,I op,I 0,.bool false,.Ag,.Ag] 36):=by
  rw[A4 _ (by show h.next<h.next+1+1;omega),A4 _ (Nat.lt_succ_self _)];exact Ac _ _
 have g3:(((h.new (.cells [s,I size,I op,I 0,.bool false,.Ag,.Ag] 36)).new (.cells (gL g) 37)).new (.cells z20 42)).get (h.next+1)=some (.cells (gL g) 37):=by
  rw[A4 _ (by show h.next+1<h.next+1+1;omega)];exact Ac _ _
 have g4:(((h.new (.cells [s,I size,I op,I 0,.bool false,.Ag,.Ag] 36)).new (.cells (gL g) 37)).new (.cells z20 42)).get (h.next+2)=some (.cells z20 42):=Ac _ _
 generalize ((h.new (.cells [s,I size,I op,I 0,.bool false,.Ag,.Ag] 36)).new (.cells (gL g) 37)).new (.cells z20 42)=h1 at x1 g2 g3 g4 ⊢
 have hb1:=x1.hb hb
 rw[C0 g2 rfl,Av (n:=7) rfl]
 try simp only[Ab]
 rw[C0 g3 rfl,Av (n:=6) rfl]
 simp only[B8 g3 rfl,gL,Ab,I]
 rw[Bi (l:=[.int .i64 g.D,.int .i64 g.Z,.Ag]) rfl]
 subst hz
 rw[Bi (l:=Akp s size op g) rfl]
 have l4:=hb1 _ _ g4
 refine Ok.st (Akp s size op g) g4 rfl rfl (Bb rfl) ?_
 rw[Z1 (Ah _ _ _) A1j.1 A1j.2 rfl]
 exact .ret ⟨rfl,x1.Az (.inr (by omega)) l4 _,hb1.put l4 _⟩
theorem At5 {h:Aa}{i t n:Nat}{l:List EV}{v w:EV}(hg:h.get i=some (.cells l t))(hs:TT.size t=some n)(ha:TT.agg t=some true)(hl:l.length=n):Cx TT [.v v,.c (.ptr i 0) t,.v w] h=some (.tuple [v,.agg l,w],h):=by
 have hr:Gs h i 0 n=some l:=by
  unfold Gs;rw[hg];simp only;rw[<-Re];exact Av hl
 unfold Cx
 simp only[Aok,hs,hr,ha]
noncomputable def K6.new(n size:Nat)(op:Int):K6:=⟨⟨n,size,op,0,false,fun _=>Zn.empty⟩,[],[]⟩
noncomputable def Mi.new(g:Gm):Mi:=⟨g,K6.new (g.D*g.Z).toNat g.S.toNat g.O,fun _=>[],fun _=>0,-1,-1,0⟩
theorem A64 {g:Gm}(s:Sm g){h0 h:Aa}(hb:HB h){D V M zl m p bl ql:Nat}{z q c:Nat->Nat}(d:Yb h D V M zl (g.D*g.Z).toNat z (fun _=>0) g.S g.O 0 false .Ag .Ag [] (fun _=>Zn.empty))
 (nd:(h0.next<=D/\h0.next<=M)/\h0.next<=V/\h0.next<=zl/\∀ d,d<(g.D*g.Z).toNat->h0.next<=z d) (MA:Ye h m D p bl (g.D*g.Z).toNat g (-1) (-1) 0 (fun _=>0)) (PA:Dw h p ql g.D.toNat q c g (fun _=>[]))
 (nm:(h0.next<=m/\h0.next<=bl)/\h0.next<=p/\h0.next<=ql/\∀ d,d<g.D.toNat->h0.next<=q d/\h0.next<=c d) (le:h0.next<=h.next):Fv h m (Mi.new g) (fun i=>i<h0.next):=by
 have:=s.d0;have:=s.d1;have:=s.z0;have:=s.z1;have:=s.s0;have:=s.s1
 obtain⟨m0,m1⟩:=U7 (a:=g.D) (b:=g.Z) (A:=8) (B:=64) (by omega) (by omega) (by omega) (by omega)
 have hdev:=d.dev
 have hzone:∀ i,i<(g.D*g.Z).toNat->∃ s,h.get (z i)=some (.cells [s,I g.S,I 0,I 0,.bool false] 240):=fun i hi=>by
  obtain⟨s,a,_⟩:=(hdev.Ao i hi).Ao;exact⟨s,a⟩
 have hF:∀ i,Apr V zl (g.D*g.Z).toNat z (fun _=>0) (fun _=>Zn.empty) i->i=V\/i=zl\/∃ d,d<(g.D*g.Z).toNat/\i=z d:=fun i hi=>by
  rcases hi with y|y|⟨d,hd,y|y⟩
  ·exact .inl y
  ·exact .inr (.inl y)
  ·exact .inr (.inr ⟨d,hd,y⟩)
  ·exact absurd rfl y.1
 have kind:∀ i o,h.get i=some o->(∀ l,o ≠ .cells l 183)->(∀ l,o ≠ .vec l 180 1)->(∀ l,o ≠ .cells l 240)->¬ Apr V zl (g.D*g.Z).toNat z (fun _=>0) (fun _=>Zn.empty) i:=fun i o g1 h1 h2 h3 hi=>by
  rcases hF i hi with y|y|⟨d,hd,y⟩
  ·subst y;rw[hdev.dev]at g1;cases g1;exact h1 _ rfl
  ·subst y;rw[hdev.row]at g1;cases g1;exact h2 _ rfl
  ·subst y
   obtain⟨s,hs⟩:=hzone d hd
   rw[hs]at g1;cases g1;exact h3 _ rfl
 have kindG:∀ i o,h.get i=some o->(∀ l,o ≠ .cells l 183)->(∀ l,o ≠ .vec l 180 1)->(∀ l,o ≠ .cells l 240)->(∀ l,o ≠ .cells l 166)->(∀ l,o ≠ .map l)->¬ (i=D\/i=M\/Apr V zl (g.D*g.Z).toNat z (fun _=>0) (fun _=>Zn.empty) i):=fun i o g1 h1 h2 h3 h4 h5 hi=>by
  rcases hi with y|y|y
  ·subst y;rw[d.C6]at g1;cases g1;exact h4 _ rfl
  ·subst y;rw[d.marks]at g1;cases g1;exact h5 _ rfl
  ·exact kind i o g1 h1 h2 h3 y
 have lowF:∀ i,Apr V zl (g.D*g.Z).toNat z (fun _=>0) (fun _=>Zn.empty) i->i<h.next/\h0.next<=i:=fun i hi=>by
  rcases hF i hi with y|y|⟨d,hd,y⟩
  ·subst y;exact⟨hb _ _ hdev.dev,nd.2.1⟩
  ·subst y;exact⟨hb _ _ hdev.row,nd.2.2.1⟩
  ·subst y
   obtain⟨s,hs⟩:=hzone d hd
   exact⟨hb _ _ hs,nd.2.2.2 d hd⟩
 have hS:g.S=((g.S.toNat:Nat):Int):=by omega
 have drvS:Ep h D (K6.new (g.D*g.Z).toNat g.S.toNat g.O) (fun i=>i=D\/i=M\/Apr V zl (g.D*g.Z).toNat z (fun _=>0) (fun _=>Zn.empty) i):=by
  have zw:∀ size:Nat,0<size->Zn.empty.Wf size:=fun size hs=>⟨fun x hx=>(by cases hx),by show 0<=4;omega,Nat.le_refl _,Nat.zero_le _,fun _=>hs⟩
  have dw:Dv.Wf ⟨(g.D*g.Z).toNat,g.S.toNat,g.O,0,false,fun _=>Zn.empty⟩:=⟨by show g.S.toNat<=64;omega,by show (g.D*g.Z).toNat<=512;omega,fun i _=>zw _ (by show 0<g.S.toNat;omega)⟩
  refine⟨fun i hi=>?_,⟨by show 0+0<=200;omega,fun e he=>(by cases he),fun e he=>(by cases he)⟩,V,M,0,0,.Ag,.Ag,[],_,d.C6,d.marks,fun e he=>(by cases he),.nil _ _ _ _,.nil _ _ _ _,⟨dw,fun i hi=>(lowF i hi).1,zl,z,fun _=>0,?_,fun i hi=>hi⟩,⟨fun i hi=>.inr (.inr hi),.inl rfl,.inr (.inl rfl),fun y=>absurd y (Nat.lt_irrefl _),fun y=>absurd y (Nat.lt_irrefl _)⟩,⟨kind _ _ d.C6 (by intros;simp) (by intros;simp) (by intros;simp),kind _ _ d.marks (by intros;simp) (by intros;simp) (by intros;simp),fun y=>absurd y (Nat.lt_irrefl _),fun y=>absurd y (Nat.lt_irrefl _),fun y=>absurd y (Nat.lt_irrefl _)⟩⟩
  ·rcases hi with y|y|y
   ·subst y;exact hb _ _ d.C6
   ·subst y;exact hb _ _ d.marks
   ·exact(lowF i y).1
  ·show Jy h V zl (g.D*g.Z).toNat z (fun _=>0) ((g.S.toNat:Nat):Int) g.O 0 false (fun _=>Zn.empty)
   rw[<-hS];exact hdev
 refine⟨⟨fun i hi=>hi.1,D,p,bl,ql,g.D.toNat,q,c,_,MA,PA,⟨rfl,s,fun d _=>Nat.zero_le _⟩,drvS,?_,?_⟩,fun i hi=>Nat.lt_of_lt_of_le hi le,{ toWp:=⟨s,fun d _ x hx=>by cases hx⟩,op:=.inl ⟨rfl,rfl⟩ }⟩
 ·have k:=kindG
  exact⟨k _ _ MA.I8 (by intros;simp) (by intros;simp) (by intros;simp) (by intros;simp) (by intros;simp),k _ _ MA.Amb (by intros;simp) (by intros;simp) (by intros;simp) (by intros;simp) (by intros;simp),k _ _ PA.Gb (by intros;simp) (by intros;simp) (by intros;simp) (by intros;simp) (by intros;simp),k _ _ PA.row (by intros;simp) (by intros;simp) (by intros;simp) (by intros;simp) (by intros;simp),
   fun d hd=>⟨k _ _ (PA.que d hd) (by intros;simp) (by intros;simp) (by intros;simp) (by intros;simp) (by intros;simp),k _ _ (PA.chan d hd) (by intros;simp) (by intros;simp) (by intros;simp) (by intros;simp) (by intros;simp)⟩⟩
 ·refine⟨fun i hi=>?_,⟨hb _ _ MA.I8,by omega⟩,⟨hb _ _ MA.Amb,by omega⟩,⟨hb _ _ PA.Gb,by omega⟩,⟨hb _ _ PA.row,by omega⟩,fun d hd=>⟨⟨hb _ _ (PA.que d hd),by have:=nm.2.2.2 d hd;omega⟩,⟨hb _ _ (PA.chan d hd),by have:=nm.2.2.2 d hd;omega⟩⟩⟩
  rcases hi with y|y|y
  ·subst y;exact⟨hb _ _ d.C6,by omega⟩
  ·subst y;exact⟨hb _ _ d.marks,by omega⟩
  ·exact⟨(lowF i y).1,by have:=(lowF i y).2;omega⟩
end Go.Ev

namespace Go.Ev
open Go.Proofs
set_option maxRecDepth 100000
variable {K:Nat}{disp:Nat->Option FT}
def z20:List EV:=[EV.Ag]++List.replicate 3 (EV.int .i64 0)++[EV.bool false]++List.replicate 2 EV.Ag++List.replicate 8 (EV.int .i64 0)++List.replicate 2 EV.Ag++List.replicate 3 (EV.int .i64 0)
theorem Ar9(hK:2000<K)(g:Gm){h:Aa}(hb:HB h):Ok (G6 K (gV g) h) fun v h'=>Ext h h'/\HB h'/\∃ l:List EV,l.length=20 /\
 if rtB g=true/\g.D*g.Z<=64 then ∃ m,v=.tuple [.ptr m 0,.agg l,.bool true]/\Fv h' m (Mi.new g) (fun i=>i<h.next) else v=.tuple [.Ej,.agg l,.bool false]:=by
 have hz : [EV.Ag]++List.replicate 3 (EV.int .i64 0)++[EV.bool false]++List.replicate 2 EV.Ag++List.replicate 8 (EV.int .i64 0)++List.replicate 2 EV.Ag++List.replicate 3 (EV.int .i64 0)=z20:=rfl
 have zl:z20.length=20:=rfl
 simp only[G6,gV,Ab,hz]
 rw[show (h.new (.cells (gL g) 23)).next=h.next+1 from rfl]
 have x1:Ext h ((h.new (.cells (gL g) 23)).new (.cells z20 42)):=(A0.new _ _).Fa _
 have g1:((h.new (.cells (gL g) 23)).new (.cells z20 42)).get h.next=some (.cells (gL g) 23):=by
  rw[A4 _ (Nat.lt_succ_self _)];exact Ac _ _
 have g3:((h.new (.cells (gL g) 23)).new (.cells z20 42)).get (h.next+1)=some (.cells z20 42):=Ac _ _
 have n1:((h.new (.cells (gL g) 23)).new (.cells z20 42)).next=h.next+2:=rfl
 generalize (h.new (.cells (gL g) 23)).new (.cells z20 42)=h1 at x1 g1 g3 n1 ⊢
 have hb1:=x1.hb hb
 rw[C0 g1 rfl,Av (n:=6) rfl]
 try simp only[Ab]
 refine Ok.st (gL g) (Ac _ _) rfl rfl (Bb rfl) ?_
 have x2:Ext h1 ((h1.new (.cells [EV.int .i64 0,.int .i64 0,.int .i64 0,.int .i64 0,.int .i64 0,.int .i64 0] 37)).put h1.next (.cells (gL g) 37)):=(A0.new h1 _:Ext _ _).Az (.inr (Nat.le_refl _)) (Nat.lt_succ_self _) _
 have g5:((h1.new (.cells [EV.int .i64 0,.int .i64 0,.int .i64 0,.int .i64 0,.int .i64 0,.int .i64 0] 37)).put h1.next (.cells (gL g) 37)).get h1.next=some (.cells (gL g) 37):=Ah _ _ _
 generalize (h1.new (.cells [EV.int .i64 0,.int .i64 0,.int .i64 0,.int .i64 0,.int .i64 0,.int .i64 0] 37)).put h1.next (.cells (gL g) 37)=h2 at x2 g5 ⊢
 have hb2:=x2.hb hb1
 rw[C0 g5 rfl,Av (n:=6) rfl]
 try simp only[Ab]
 rw[show EV.agg (gL g)=gV g from rfl]
 refine(A3c g (by omega) h2).Aj ?_
 rintro _ h3 ⟨rfl,x3⟩
 have hb3:=x3.hb hb2
 have x03:Ext h h3:=(x1.trans x2).trans x3
 have x13:Ext h1 h3:=x2.trans x3
 have no:∀ h4,Ext h3 h4->¬ (rtB g=true/\g.D*g.Z<=64)->Ok (Bu (D3 [(0,7),(7,6),(13,3),(16,1),(17,1),(18,1),(19,1)]) z20 [] fun v22=>D5 20 (.ptr (h.next+1) 0) v22 h4 fun h=>Cx TT [.v .Ej,.c (.ptr (h1.next-1) 0) 42,.v (.bool false)] h) fun v h'=>Ext h h'/\HB h'/\∃ l:List EV,l.length=20 /\
  if rtB g=true/\g.D*g.Z<=64 then ∃ m,v=.tuple [.ptr m 0,.agg l,.bool true]/\Fv h' m (Mi.new g) (fun i=>i<h.next) else v=.tuple [.Ej,.agg l,.bool false]:=by
  intro h4 x4 hn
  have hb4:=x4.hb hb3
  have g34:=x4.at hb3 (x13.at hb1 g3)
  have l3:=hb4 _ _ g34
  rw[Bi (l:=z20) rfl]
  refine Ok.st z20 g34 rfl rfl (Bb rfl) ?_
  rw[show h1.next-1=h.next+1 by omega,At5 (Ah _ _ _) A1j.1 A1j.2 rfl]
  refine .ret ⟨(x03.trans x4).Az (.inr (by omega)) l3 _,hb4.put l3 _,z20,rfl,?_⟩
  rw[if_neg hn]
 rw[show h1.next-1=h.next+1 by omega]at no
 cases hr:rtB g with
 | false=>
  simp only[Ab,Af,Fi,hz]
  have:=no h3 (A0.refl _) (by rw[hr];simp)
  rw[hr]at this
  exact this
 | true=>
  have s:=Xo hr
  have:=s.d0;have:=s.d1;have:=s.z0;have:=s.z1;have:=s.s0;have:=s.s1;have:=s.o0;have:=s.o1
  obtain⟨m0,m1⟩:=U7 (a:=g.D) (b:=g.Z) (A:=8) (B:=64) (by omega) (by omega) (by omega) (by omega)
  have m2:3<=g.D*g.Z:=by
   have:3*1<=g.D*g.Z:=Int.mul_le_mul (by omega) (by omega) (by omega) (by omega)
   omega
  have g13:=x13.at hb1 g1
  simp only[Ab,Af,B8 g13 rfl,gL,I]
  rw[Cq (by omega) (by omega)]
  by_cases h64:64<g.D*g.Z
  ·have hn:¬ (rtB g=true/\g.D*g.Z<=64):=fun y=>by omega
   have:=no h3 (A0.refl _) hn
   rw[hr]at this
   simp only[h64,decide_true,Ab,Fi,hz]
   simpa using this
  ·have hy:rtB g=true/\g.D*g.Z<=64:=⟨hr,by omega⟩
   simp only[h64,decide_false,Ab,Fi,Pn,B8 g13 rfl,gL,I,Af]
   rw[Cq (by omega) (by omega)]
   have hd:Ae0 (g.D*g.Z) g.S g.O=true:=by
    unfold Ae0
    rw[Gt.2 ⟨by omega,by omega⟩,Gt.2 ⟨by omega,by omega⟩,Gt.2 ⟨by omega,by omega⟩];rfl
   refine(As9 (K:=K) hd (by omega) hb3).Aj ?_
   rintro _ h4 ⟨D,V,M,zl',z,rfl,x4,hb4,dr,nd⟩
   have g14:=x4.at hb3 g13
   have g34:=x4.at hb3 (x13.at hb1 g3)
   have g54:=x4.at hb3 (x3.at hb2 g5)
   simp only[Ab,I,Af,not_true_eq_false,decide_false,Pg,Bg]
   have l14:=hb4 _ _ g14
   rw[Au l14 (by kernel_rfl),C0 g14 rfl,Av (n:=6) rfl]
   try simp only[Ab,Bg]
   rw[Wm (v:=We) (by kernel_rfl) (by kernel_rfl) rfl]
   have dr':Yb h4.lift D V M zl' (g.D*g.Z).toNat z (fun _=>0) g.S g.O 0 false .Ag .Ag [] (fun _=>Zn.empty):=dr.ext fun i o g=>by rw[C5];exact g
   refine Ok.Ci (by kernel_rfl) (by kernel_rfl) (Aql (K:=K) (g:=g) (by omega) (D6 hb4) dr') (fun _ _ p=>p.1) ?_
   rintro v h5' h5 ⟨_,hb5',hv⟩ sm x5
   have hb5:=x5.hb hb4
   rw[if_pos ⟨hr,by omega,rfl⟩]at hv
   obtain⟨m,p,bl,ql,q,c,rfl,MA,PA,nm⟩:=hv
   have k5:∀ i o,h5'.get i=some o->h5.get i=some o:=fun i o g=>by rw[sm.get];exact g
   have MA:=MA.ext k5
   have PA:=PA.ext k5
   have M5:=A64 s (h0:=h3) hb5 (dr.ext fun i o g=>x5.at hb4 g) nd MA PA (by
    have t2:=x4.next
    have t3:h4.lift.next=h4.next:=rfl
    exact⟨⟨by omega,by omega⟩,by omega,by omega,fun d hd=>by have:=nm.2.2.2 d hd;omega⟩) (by have:=x4.next;have:=x5.next;omega)
   have g15:=x5.at hb4 g14
   have g35:=x5.at hb4 g34
   have g55:=x5.at hb4 g54
   have l15:=hb5 _ _ g15
   have l55:=hb5 _ _ g55
   simp only[Ab,I,Af,not_true_eq_false,decide_false]
   rw[show ∀ k:EV->R,An Fj (bin TT .eql 29) (.ptr m 0) .Ej k=k (.bool false) from fun k=>by kernel_rfl]
   simp only[Ka,Ab,Po,Bg]
   rw[Au l15 (by kernel_rfl),Dy g15 rfl (v:=I g.D) rfl]
   try simp only[Ab,Bg]
   rw[Au l15 (by kernel_rfl),Dy g15 rfl (v:=I g.Z) rfl]
   simp only[Ab,Bg,I,Af]
   rw[Au l15 (by kernel_rfl),Dy g15 rfl (v:=I g.S) rfl]
   try simp only[Ab,Bg]
   rw[Au l15 (by kernel_rfl),Dy g15 rfl (v:=I g.O) rfl]
   try simp only[Ab,Bg]
   rw[Cq (by omega) (by omega)]
   have hn:(EV.int .i64 (g.D*g.Z))=I (((g.D*g.Z).toNat:Nat):Int):=by unfold I;congr 1;omega
   rw[hn]
   refine Ok.Ci (by kernel_rfl) (by kernel_rfl) (Asc (K:=K) (n:=(g.D*g.Z).toNat) (size:=g.S) (op:=g.O) (by omega) hK (D6 hb5)) (fun _ _ p=>by obtain⟨_,_,x,_⟩:=p;exact x) ?_
   rintro _ h6' h6 ⟨sl,rfl,_,_⟩ _ x6
   have hb6:=x6.hb hb5
   rw[Bi (l:=[sl,I g.S,I g.O,I 0,.bool false,.Ag,.Ag]) rfl]
   have g56:=x6.at hb5 g55
   have l56:=hb6 _ _ g56
   try simp only[Ab,Bg]
   rw[Au l55 (by kernel_rfl),C0 g56 rfl,Av (n:=6) rfl]
   try simp only[Ab,Bg]
   refine Ok.Ci (by kernel_rfl) (by kernel_rfl) (Atm (K:=K) (s:=sl) (size:=g.S) (op:=g.O) (g:=g) (D6 hb6)) (fun _ _ p=>p.2.1) ?_
   rintro _ h7' h7 ⟨rfl,_,_⟩ _ x7
   have hb7:=x7.hb hb6
   have g37:=x7.at hb6 (x6.at hb5 g35)
   have l37:=hb7 _ _ g37
   have x57:Ext h5 h7:=x6.trans x7
   rw[R5 (by kernel_rfl)]
   refine Ok.st (Akp sl g.S g.O g) g37 rfl rfl (Bb rfl) ?_
   rw[At5 (Ah _ _ _) A1j.1 A1j.2 rfl]
   have x07:Ext h h7:=((x03.trans x4).trans x5).trans x57
   refine .ret ⟨x07.Az (.inr (by omega)) l37 _,hb7.put l37 _,Akp sl g.S g.O g,rfl,?_⟩
   rw[if_pos (by simpa using hy.2)]
   refine⟨m,rfl,?_⟩
   have c8:A0 (fun i=>i=h.next+1) h7 (h7.put (h.next+1) (.cells (Akp sl g.S g.O g) 42)):=(A0.refl (S:=fun i=>i=h.next+1) h7).Az (.inl rfl) l37 _
   have t3:=x13.next
   have M8:=((M5.ext hb5 x57).less fun i (hi:i<h3.next)=>Or.inl hi).Am4 c8 fun i hi _=>by
    have hi:i=h.next+1:=hi
    omega
   exact M8.less fun i hi=>by omega
end Go.Ev

namespace Go.Ev
open Go.Proofs
set_option maxRecDepth 100000
variable {K:Nat}{disp:Nat->Option FT}
theorem Akk {zs:Nat->Zn}{a b:Nat}:∀ n,(∀ i,i<n->(zs i).st=1->i=a\/i=b)->Pj zs n<=(if a<n then 1 else 0)+(if b<n then 1 else 0)
 | 0,_=>by unfold Pj;simp
 | n+1,h=>by
  rw[Aog]
  have ih:=Akk n fun i hi=>h i (by omega)
  by_cases h1:(zs n).st=1
  ·rw[if_pos h1]
   rcases h n (Nat.lt_succ_self _) h1 with y|y
   ·subst y
    rw[if_neg (Nat.lt_irrefl _)]at ih
    rw[if_pos (Nat.lt_succ_self _)]
    have:(if b<n then 1 else 0)<=(if b<n+1 then 1 else 0):=by split <;> split <;> omega
    omega
   ·subst y
    rw[if_neg (Nat.lt_irrefl n)]at ih
    rw[if_pos (Nat.lt_succ_self n)]
    have:(if a<n then 1 else 0)<=(if a<n+1 then 1 else 0):=by split <;> split <;> omega
    omega
  ·rw[if_neg h1]
   have t1:(if b<n then 1 else 0)<=(if b<n+1 then 1 else 0):=by split <;> split <;> omega
   have t2:(if a<n then 1 else 0)<=(if a<n+1 then 1 else 0):=by split <;> split <;> omega
   omega
noncomputable def Ah1(e:En)(z mt off Ar seq:Int):List EV:=Bj (Oe (Dk { e with By:=mt } z off Ar seq).1)
def EOk(e:En)(Ar seq:Int):Prop:=(Dk e 0 0 Ar seq).2=0
theorem EOk.at {e:En}{Ar seq:Int}(h:EOk e Ar seq){z mt off:Int}(hz:0<=z)(hz':z<=65535)(hm:0<=mt)(hm':mt<=65535)(ho:0<=off)(ho':off<=65535):(Dk { e with By:=mt } z off Ar seq).2=0:=by
 unfold EOk Dk at h
 by_cases hc:erB e=true/\frB ⟨e.kind,0,0,Ar,seq,(Cr e).1⟩=true/\e.first<=seq/\seq-e.count<e.first
 ·obtain⟨c1,c2,c3,c4⟩:=hc
  unfold Dk
  rw[if_pos]
  refine⟨?_,?_,c3,c4⟩
  ·unfold erB at c1 ⊢
   simp only[Bool.and_eq_true]at c1 ⊢
   exact⟨c1.1,c1.2.1,Gt.2 ⟨hm,hm'⟩,c1.2.2.2⟩
  ·unfold frB at c2 ⊢
   simp only[Bool.and_eq_true]at c2 ⊢
   exact⟨c2.1,Gt.2 ⟨hz,hz'⟩,Gt.2 ⟨ho,ho'⟩,c2.2.2.2⟩
 ·rw[if_neg hc]at h
  exact absurd h (by decide)
theorem EOk.seq {e:En}{Ar seq:Int}(h:EOk e Ar seq):0<=seq/\seq<=281474976710655/\erB e=true:=by
 unfold EOk Dk at h
 by_cases hc:erB e=true/\frB ⟨e.kind,0,0,Ar,seq,(Cr e).1⟩=true/\e.first<=seq/\seq-e.count<e.first
 ·obtain⟨c1,c2,c3,c4⟩:=hc
  unfold frB at c2
  simp only[Bool.and_eq_true]at c2
  have:=Gt.1 c2.2.2.2.2
  exact⟨this.1,this.2,c1⟩
 ·rw[if_neg hc]at h
  exact absurd h (by decide)
structure Calm(S:Mi):Prop where
 wf:S.Wf
 rt:rtB S.g=true
 ev:S.dr.ev = []
 up:S.dr.dv.down=false
 n:S.dr.dv.n=(S.g.D*S.g.Z).toNat
 size:S.dr.dv.size=S.g.S.toNat
 op:S.dr.dv.op=S.g.O
 bad:∀ i,¬ S.bad i=1
 nd:∀ d,d<S.g.D.toNat->(S.ps d).Nodup
 fr:∀ d,d<S.g.D.toNat->∀ x ∈ S.ps d,(S.dr.dv.zs x.toNat).l = []/\(S.dr.dv.zs x.toNat).st=0
 opn:(S.a = -1/\S.b = -1)\/(0<=Db S.g S.a/\0<=Db S.g S.b/\¬ Db S.g S.a=Db S.g S.b/\0<=S.u/\S.u<=S.g.S /\
  (∀ d,d<S.g.D.toNat->S.a ∉ S.ps d/\S.b ∉ S.ps d)/\(∀ z,z=S.a\/z=S.b->((S.dr.dv.zs z.toNat).l.length:Int)=S.u/\(S.dr.dv.zs z.toNat).st=if S.u=S.g.S then 2 else if S.u=0 then 0 else 1))
 few:∀ i,i<S.dr.dv.n->(S.dr.dv.zs i).st=1->(i:Int)=S.a\/(i:Int)=S.b
theorem Calm.sm {S:Mi}(c:Calm S):Sm S.g:=Xo c.rt
theorem Ams {S:Mi}(c:Calm S){z:Int}(h:0<=Db S.g z):0<=z/\z.toNat<S.dr.dv.n/\S.dr.dv.has z=true/\z<=511:=by
 have h1:=c.sm.d1;have h2:=c.sm.z1;have h3:=c.sm.d0;have h4:=c.sm.z0
 obtain⟨m0,m1⟩:=U7 (a:=S.g.D) (b:=S.g.Z) (A:=8) (B:=64) (by omega) (by omega) (by omega) (by omega)
 rcases Ti c.sm z with y|⟨_,_,_,y1,y2⟩
 ·omega
 ·have hn:=c.n
  refine⟨y1,by omega,?_,by omega⟩
  unfold Dv.has
  exact decide_eq_true ⟨y1,by omega⟩
theorem Anj {S:K6}(h:S.ev = [])(i:Int):S.begin i=S:=by
 have hd:S.due=S:=by
  unfold K6.due;rw[h];unfold Ass;rw[<-h]
 unfold K6.begin
 split
 ·exact hd
 ·rfl
theorem Aly {D:Dv}(h:D.down=false){i:Int}(hh:D.has i=true):D.Ga i=0:=by
 unfold Dv.Ga;rw[h,hh];simp
theorem Auk {D:Dv}(h:D.down=false){i:Int}(hh:D.has i=true)(hs:(D.zs i.toNat).st<2)(ho:¬ D.op<=Pj D.zs D.n)(x:List EV):
 D.append i x=(D.tick.set i.toNat ((D.zs i.toNat).app D.size x),(((D.zs i.toNat).l.length:Nat):Int),0):=by
 unfold Dv.append
 rw[Aly h hh,if_neg (fun y=>y rfl),if_neg (fun y=>ho y.2),if_neg (by omega)]
theorem Au4 {S:Mi}(ev:S.dr.ev = [])(up:S.dr.dv.down=false){e:En}{Ao By Ar seq:Int}(hf:(Dk { e with By:=By } Ao S.u Ar seq).2=0)(hh:S.dr.dv.has Ao=true)(hs:(S.dr.dv.zs Ao.toNat).st<2)(ho:¬ S.dr.dv.op<=Pj S.dr.dv.zs S.dr.dv.n)
 (hl:((S.dr.dv.zs Ao.toNat).l.length:Int)=S.u) :
 S.put e Ao By Ar seq=({ S with dr:={ S.dr with dv:=S.dr.dv.tick.set Ao.toNat ((S.dr.dv.zs Ao.toNat).app S.dr.dv.size (Ah1 e Ao By S.u Ar seq)) } },0):=by
 unfold Mi.put K6.append
 rw[if_neg (fun y=>y hf),Anj ev]
 have ha:=Auk up hh hs ho (Bj (Oe (Dk { e with By:=By } Ao S.u Ar seq).1))
 simp only[ha,hl,not_true_eq_false,and_false,if_false]
 rfl
noncomputable def Mi.Adt(S:Mi)(e:En)(Ar seq:Int):Mi:=
 { S with dr:={ S.dr with dv:=((S.dr.dv.tick.set S.a.toNat ((S.dr.dv.zs S.a.toNat).app S.dr.dv.size (Ah1 e S.a S.b S.u Ar seq))).tick.set S.b.toNat ((S.dr.dv.zs S.b.toNat).app S.dr.dv.size (Ah1 e S.b S.a S.u Ar seq))) },u:=S.u+1 }
def Roomy(S:Mi):Prop:=¬ S.a = -1/\S.u<S.g.S
theorem Calm.ne {S:Mi}(c:Calm S)(r:Roomy S):0<=Db S.g S.a/\0<=Db S.g S.b/\¬ Db S.g S.a=Db S.g S.b/\0<=S.u/\S.a.toNat ≠ S.b.toNat /\
 (∀ d,d<S.g.D.toNat->S.a ∉ S.ps d/\S.b ∉ S.ps d)/\(∀ z,z=S.a\/z=S.b->((S.dr.dv.zs z.toNat).l.length:Int)=S.u/\(S.dr.dv.zs z.toNat).st=if S.u=0 then 0 else 1):=by
 rcases c.opn with y|⟨y1,y2,y3,y4,y5,y6,y7⟩
 ·exact absurd y.1 r.1
 ·have h1:=Ams c y1
  have h2:=Ams c y2
  refine⟨y1,y2,y3,y4,fun y=>y3 ?_,y6,fun z hz=>?_⟩
  ·have:S.a=S.b:=by omega
   rw[this]
  ·have:=y7 z hz
   have hu:=r.2
   rw[if_neg (by omega)]at this
   exact this
theorem A2v {S:Mi}(c:Calm S)(r:Roomy S){e:En}{Ar seq:Int}(he:EOk e Ar seq):
 S.both e Ar seq=({ S.Adt e Ar seq with u:=S.u },S.b,0):=by
 obtain⟨n1,n2,n3,n4,n5,n6,n7⟩:=c.ne r
 obtain⟨a1,a2,a3,a4⟩:=Ams c n1
 obtain⟨b1,b2,b3,b4⟩:=Ams c n2
 have hs:=c.sm
 have:=hs.s1;have:=hs.o0;have hr:=r.2
 have hop:=c.op
 obtain⟨la,sa⟩:=n7 _ (.inl rfl)
 obtain⟨lb,sb⟩:=n7 _ (.inr rfl)
 have f1:=he.at (z:=S.a) (mt:=S.b) (off:=S.u) a1 (by omega) b1 (by omega) n4 (by omega)
 have f2:=he.at (z:=S.b) (mt:=S.a) (off:=S.u) b1 (by omega) a1 (by omega) n4 (by omega)
 have o1:¬ S.dr.dv.op<=Pj S.dr.dv.zs S.dr.dv.n:=by
  have:=Akk (zs:=S.dr.dv.zs) (a:=S.a.toNat) (b:=S.b.toNat) S.dr.dv.n fun i hi h=>by
   rcases c.few i hi h with y|y <;> omega
  have h1:(if S.a.toNat<S.dr.dv.n then 1 else 0)<=1:=by split <;> omega
  have h2:(if S.b.toNat<S.dr.dv.n then 1 else 0)<=1:=by split <;> omega
  omega
 have p1:=Au4 c.ev c.up f1 a3 (by rw[sa];split <;> omega) o1 la
 unfold Mi.both
 rw[p1,if_neg (fun y=>y rfl)]
 have hzb:(Jo S.dr.dv.zs S.a.toNat ((S.dr.dv.zs S.a.toNat).app S.dr.dv.size (Ah1 e S.a S.b S.u Ar seq)) S.b.toNat)=S.dr.dv.zs S.b.toNat:=by
  unfold Jo;rw[if_neg (Ne.symm n5)]
 have o2:¬ S.dr.dv.op<=Pj (Jo S.dr.dv.zs S.a.toNat ((S.dr.dv.zs S.a.toNat).app S.dr.dv.size (Ah1 e S.a S.b S.u Ar seq))) S.dr.dv.n:=by
  have:=Akk (zs:=Jo S.dr.dv.zs S.a.toNat ((S.dr.dv.zs S.a.toNat).app S.dr.dv.size (Ah1 e S.a S.b S.u Ar seq))) (a:=S.a.toNat) (b:=S.b.toNat) S.dr.dv.n fun i hi h=>by
   unfold Jo at h
   split at h
   ·rename_i y;exact .inl y
   ·rcases c.few i hi h with y|y <;> omega
  have h1:(if S.a.toNat<S.dr.dv.n then 1 else 0)<=1:=by split <;> omega
  have h2:(if S.b.toNat<S.dr.dv.n then 1 else 0)<=1:=by split <;> omega
  omega
 have p2:=Au4 (S:={ S with dr:={ S.dr with dv:=S.dr.dv.tick.set S.a.toNat ((S.dr.dv.zs S.a.toNat).app S.dr.dv.size (Ah1 e S.a S.b S.u Ar seq)) } }) (Ao:=S.b) (By:=S.a) c.ev c.up f2 b3
  (by show (Jo S.dr.dv.zs S.a.toNat _ S.b.toNat).st<2;rw[hzb,sb];split <;> omega) o2 (by show ((Jo S.dr.dv.zs S.a.toNat _ S.b.toNat).l.length:Int)=S.u;rw[hzb];exact lb)
 rw[p2]
 have e1:(({ S with dr:={ S.dr with dv:=S.dr.dv.tick.set S.a.toNat ((S.dr.dv.zs S.a.toNat).app S.dr.dv.size (Ah1 e S.a S.b S.u Ar seq)) } }:Mi).dr.dv.zs S.b.toNat)=S.dr.dv.zs S.b.toNat:=hzb
 rw[e1]
 rfl
noncomputable def Mi.Pa(S:Mi):Mi:={ S with dr:={ S.dr with dv:={ S.dr.dv.tick with zs:=fun i=>(S.dr.dv.zs i).flush } } }
theorem Ayq {S:Mi}(ev:S.dr.ev = [])(up:S.dr.dv.down=false):S.dr.flush=(S.Pa.dr,0):=by
 have hd:S.dr.due=S.dr:=by
  unfold K6.due;rw[ev];unfold Ass;rw[<-ev]
 unfold K6.flush
 rw[hd]
 unfold Dv.flush
 rw[up]
 rfl
theorem Calm.Pa {S:Mi}(c:Calm S):Calm S.Pa:=⟨{ toWp:=⟨c.wf.sm,c.wf.ps⟩,op:=c.wf.op },c.rt,c.ev,c.up,c.n,c.size,c.op,c.bad,c.nd,c.fr,c.opn,c.few⟩
noncomputable def Mi.Ad5(S:Mi):Option Mi:=
 open Classical in if Roomy S then some S else match Aav S.ps S.g.D.toNat with
  | none=>none
  | some (x,y,ps')=>some { S.Pa with ps:=ps',a:=x,b:=y,u:=0 }
theorem Avl {g:Gm}(s:Sm g){x y:Int}(hx:0<=Db g x)(hy:0<=Db g y)(h:x.toNat=y.toNat):x=y:=by
 have:=R4 s hx
 have:=R4 s hy
 omega
theorem Ao0 {S T:Mi}(c:Calm S)(h:S.Ad5=some T):Calm T/\Roomy T/\T.g=S.g/\T.bad=S.bad/\T.dr.ev=S.dr.ev/\T.dr.Qq=S.dr.Qq:=by
 unfold Mi.Ad5 at h
 split at h
 ·rename_i r
  cases h
  exact⟨c,r,rfl,rfl,rfl,rfl⟩
 ·rename_i hr
  cases hp:Aav S.ps S.g.D.toNat with
  | none=>rw[hp]at h;cases h
  | some t=>
   obtain⟨x,y,ps'⟩:=t
   rw[hp]at h
   cases h
   obtain⟨i,j,hi,hj,hij,ex,ey,ek,_,_,dx,dy⟩:=Aj5 c.wf.ps hp
   have sub:∀ d,d<S.g.D.toNat->∀ z,z ∈ ps' d->z ∈ S.ps d/\z ≠ x/\z ≠ y:=fun d hd z hz=>by
    have nd:=c.nd d hd
    have key:z ∈ S.ps d:=by
     by_cases h1:d=i
     ·subst h1;rw[ex];exact List.mem_cons_of_mem _ hz
     ·by_cases h2:d=j
      ·subst h2;rw[ey];exact List.mem_cons_of_mem _ hz
      ·rw[<-ek d h1 h2];exact hz
    have dz:=(c.wf.ps d hd z key).1
    refine⟨key,fun y'=>?_,fun y'=>?_⟩
    ·subst y'
     have:d=i:=by omega
     subst this
     rw[ex]at nd
     exact(List.nodup_cons.1 nd).1 hz
    ·subst y'
     have:d=j:=by omega
     subst this
     rw[ey]at nd
     exact(List.nodup_cons.1 nd).1 hz
   have mx:x ∈ S.ps i:=by rw[ex];exact List.mem_cons_self ..
   have my:y ∈ S.ps j:=by rw[ey];exact List.mem_cons_self ..
   have fx:=c.fr i hi x mx
   have fy:=c.fr j hj y my
   have s0:=c.sm.s0
   have full:∀ z:Int,(z=S.a\/z=S.b)->¬ S.a = -1->(S.dr.dv.zs z.toNat).st=2:=fun z hz ha=>by
    rcases c.opn with y|⟨y1,y2,y3,y4,y5,y6,y7⟩
    ·exact absurd y.1 ha
    ·have:=(y7 z hz).2
     have hu:S.u=S.g.S:=by
      rcases Decidable.em (S.u<S.g.S) with y|y
      ·exact absurd ⟨ha,y⟩ hr
      ·omega
     rw[if_pos hu]at this
     exact this
   refine⟨⟨{ toWp:=⟨c.wf.sm,fun d hd z hz=>c.wf.ps d hd z (sub d hd z hz).1⟩,op:=.inr ⟨⟨by show 0<=Db S.g x;omega,c.bad _⟩,⟨by show 0<=Db S.g y;omega,c.bad _⟩⟩ },c.rt,c.ev,c.up,c.n,c.size,c.op,c.bad,fun d hd=>?_,fun d hd z hz=>c.fr d hd z (sub d hd z hz).1,.inr ⟨by show 0<=Db S.g x;omega,by show 0<=Db S.g y;omega,by show ¬ Db S.g x=Db S.g y;omega,Int.le_refl _,by show 0<=S.g.S;omega,fun d hd=>⟨fun hz=>(sub d hd x hz).2.1 rfl,fun hz=>(sub d hd y hz).2.2 rfl⟩,fun z hz=>?_⟩,fun k hk hs=>?_⟩,⟨?_,by show 0<S.g.S;omega⟩,rfl,rfl,rfl,rfl⟩
   ·show (ps' d).Nodup
    have nd:=c.nd d hd
    by_cases h1:d=i
    ·subst h1;rw[ex]at nd;exact(List.nodup_cons.1 nd).2
    ·by_cases h2:d=j
     ·subst h2;rw[ey]at nd;exact(List.nodup_cons.1 nd).2
     ·rw[ek d h1 h2];exact nd
   ·show (((S.dr.dv.zs z.toNat).flush.l.length:Nat):Int)=0/\((S.dr.dv.zs z.toNat).flush).st=if (0:Int)=S.g.S then 2 else if (0:Int)=0 then 0 else 1
    rw[if_neg (by omega),if_pos rfl]
    have hz:z=x\/z=y:=hz
    rcases hz with hz|hz
    ·subst hz;exact⟨by show (((S.dr.dv.zs z.toNat).l.length:Nat):Int)=0;rw[fx.1];rfl,fx.2⟩
    ·subst hz;exact⟨by show (((S.dr.dv.zs z.toNat).l.length:Nat):Int)=0;rw[fy.1];rfl,fy.2⟩
   ·exfalso
    have hs:(S.dr.dv.zs k).st=1:=hs
    have ho:=c.few k hk hs
    have ha:¬ S.a = -1:=fun y=>by
     rcases c.opn with z|z
     ·omega
     ·rw[y]at z
      have:=R4 c.sm z.1
      omega
    have:=full k ho ha
    rw[show ((k:Nat):Int).toNat=k from rfl]at this
    omega
   ·have:=R4 c.sm (z:=x) (by omega)
    show ¬ x = -1
    omega
theorem Calm.Adt {S:Mi}(c:Calm S)(r:Roomy S)(e:En)(Ar seq:Int):Calm (S.Adt e Ar seq):=by
 obtain⟨n1,n2,n3,n4,n5,n6,n7⟩:=c.ne r
 have hsz:=c.size
 have s0:=c.sm.s0
 have hr:=r.2
 have za:((S.Adt e Ar seq).dr.dv.zs S.a.toNat)=(S.dr.dv.zs S.a.toNat).app S.dr.dv.size (Ah1 e S.a S.b S.u Ar seq):=by
  show Jo (Jo S.dr.dv.zs S.a.toNat _) S.b.toNat _ S.a.toNat=_
  unfold Jo;rw[if_neg n5,if_pos rfl]
 have zb:((S.Adt e Ar seq).dr.dv.zs S.b.toNat)=(S.dr.dv.zs S.b.toNat).app S.dr.dv.size (Ah1 e S.b S.a S.u Ar seq):=by
  show Jo (Jo S.dr.dv.zs S.a.toNat _) S.b.toNat _ S.b.toNat=_
  unfold Jo;rw[if_pos rfl]
 have zo:∀ i,i ≠ S.a.toNat->i ≠ S.b.toNat->((S.Adt e Ar seq).dr.dv.zs i)=S.dr.dv.zs i:=fun i h1 h2=>by
  show Jo (Jo S.dr.dv.zs S.a.toNat _) S.b.toNat _ i=_
  unfold Jo;rw[if_neg h2,if_neg h1]
 have hst:∀ z x,z=S.a\/z=S.b->(((S.dr.dv.zs z.toNat).app S.dr.dv.size x).l.length:Int)=S.u+1/\((S.dr.dv.zs z.toNat).app S.dr.dv.size x).st=if S.u+1=S.g.S then 2 else if S.u+1=0 then 0 else 1:=fun z x hz=>by
  obtain⟨l,s⟩:=n7 z hz
  refine⟨by simp only[Zn.app,List.length_append,List.length_singleton];omega,?_⟩
  simp only[Zn.app]
  by_cases h:S.u+1=S.g.S
  ·rw[if_pos h,if_pos (by omega)]
  ·rw[if_neg h,if_neg (by omega),if_neg (by omega)]
 refine⟨{ toWp:=⟨c.wf.sm,c.wf.ps⟩,op:=c.wf.op },c.rt,c.ev,c.up,c.n,c.size,c.op,c.bad,c.nd,fun d hd x hx=>?_,.inr ⟨n1,n2,n3,by show 0<=S.u+1;omega,by show S.u+1<=S.g.S;omega,n6,fun z hz=>?_⟩,fun i hi hs=>?_⟩
 ·have hx:x ∈ S.ps d:=hx
  have dx:=(c.wf.ps d hd x hx).1
  have h1:x ≠ S.a:=fun y=>(n6 d hd).1 (y ▸ hx)
  have h2:x ≠ S.b:=fun y=>(n6 d hd).2 (y ▸ hx)
  rw[zo _ (fun y=>h1 (Avl c.sm (by omega) n1 y)) (fun y=>h2 (Avl c.sm (by omega) n2 y))]
  exact c.fr d hd x hx
 ·have hz:z=S.a\/z=S.b:=hz
  show ((((S.Adt e Ar seq).dr.dv.zs z.toNat).l.length:Nat):Int)=S.u+1/\((S.Adt e Ar seq).dr.dv.zs z.toNat).st=if S.u+1=S.g.S then 2 else if S.u+1=0 then 0 else 1
  rcases hz with hz|hz
  ·subst hz;rw[za];exact hst _ _ (.inl rfl)
  ·subst hz;rw[zb];exact hst _ _ (.inr rfl)
 ·show (i:Int)=S.a\/(i:Int)=S.b
  have ga:=R4 c.sm n1
  have gb:=R4 c.sm n2
  by_cases h1:i=S.a.toNat
  ·exact .inl (by omega)
  ·by_cases h2:i=S.b.toNat
   ·exact .inr (by omega)
   ·rw[zo i h1 h2]at hs
    exact c.few i hi hs
theorem Awy {S:Mi}(c:Calm S):S.ready=match S.Ad5 with|some T=>(T,0)|none=>(S.Pa,40):=by
 have hf:=Ayq c.ev c.up
 unfold Mi.ready Mi.Ad5
 by_cases r:Roomy S
 ·rw[if_pos r]
  simp only[r,if_true]
  exact if_pos r
 ·simp only[r,if_false]
  rw[if_neg (show ¬ (¬ S.a = -1/\S.u<S.g.S) from r),hf]
  simp only[not_true_eq_false,if_false]
  cases Aav S.ps S.g.D.toNat with
  | none=>rfl
  | some t=>rfl
theorem Aw2 {S:Mi}(c:Calm S){e:En}{Ar seq:Int}(he:EOk e Ar seq):S.place e Ar seq=match S.Ad5 with
 | some T=>(T.Adt e Ar seq,⟨1,T.a,T.b,T.u,seq,Du e.bytes⟩,0)
 | none=>(S.Pa,Me.zero,40):=by
 unfold Mi.place
 rw[if_neg (fun y=>y he)]
 show Mi.Qp e Ar seq (999+1) S=_
 unfold Mi.Qp
 rw[Awy c]
 cases ho:S.Ad5 with
 | none=>rfl
 | some T=>
  obtain⟨cT,rT,_⟩:=Ao0 c ho
  simp only[not_true_eq_false,if_false]
  rw[A2v cT rT he,if_pos rfl]
  have:=cT.sm.s1
  have hu:=rT.2
  have hu0:=(cT.ne rT).2.2.2.1
  have:(({ T.Adt e Ar seq with u:=T.u }:Mi).Ait)=T.Adt e Ar seq:=by
   unfold Mi.Ait
   simp only
   rw[Cq (by omega) (by omega)]
   rfl
  rw[this]
  rfl
end Go.Ev

namespace Go.Ev
open Go.Proofs
set_option maxRecDepth 100000
variable {K:Nat}{disp:Nat->Option FT}
noncomputable def Mi.Ano(S:Mi)(z:Int):Mi:={ S with ps:=(Acu S.g S.g.D.toNat S.ps z).2 }
theorem Mi.Wf.Ano {S:Mi}(w:S.Wf){z:Int}(hz:0<=Db S.g z->¬ S.bad z.toNat=1):(S.Ano z).Wf:={ toWp:=⟨w.sm,Ari w.ps _ _ hz⟩,op:=w.op }
section
variable {h:Aa}{m:Nat}{S:Mi}{F:Nat->Prop}(M:Fv h m S F)(hb:HB h)
include M
theorem Au3:Hx K (.ptr m 0) h=some (.tuple [I S.a,I S.b,I S.u],h):=by
 obtain⟨_,D,p,bl,ql,np,q,c,G,a⟩:=M.s
 exact Anr a.I8
include hb
theorem A3w(A:Aw disp)(hK:10000<K):∃ p,Hz K (.ptr m 0) h=some (.ptr p 0,h)/\∀ {d:Nat},8<=d->∀ {z:Int},Rng z->(0<=Db S.g z->¬ S.bad z.toNat=1) ->
 Ok (Ae TT disp K d false 15 [.ptr p 0,I z] h) fun v h'=>v=I (Acu S.g S.g.D.toNat S.ps z).1/\Fv h' m (S.Ano z) F/\Kf F h h'/\HB h':=by
 obtain⟨lt,D,p,bl,ql,np,q,c,G,a⟩:=M.s
 refine⟨p,Apa a.I8,fun {d} hd {z} hz nb=>?_⟩
 have hnp:=a.psz.nd
 subst hnp
 refine(Azz (K:=K) A a.Gb hb a.psz (by omega) hd z hz).mono ?_
 rintro v h' ⟨c3,hb3,rfl,P3,Z3⟩
 obtain⟨a3,cH⟩:=a.Ajv hb P3 Z3 c3
 obtain⟨M3,k3⟩:=M.made (O9.mono (H:=Out F h) ⟨fun i hi=>Nat.lt_of_lt_of_le hi.1 cH.next,D,p,bl,ql,_,q,c,G,a3⟩ (fun _=>.inl) (A6.lt lt cH.next)) cH (M.wf.Ano nb)
 exact⟨rfl,M3,k3,hb3⟩
end
structure Aqs(S:Mi):Prop where
 calm:Calm S
 cl:S.a = -1/\S.b = -1
 zs:∀ i,S.dr.dv.zs i=Zn.empty
theorem A00 {g:Gm}(hr:rtB g=true):Aqs (Mi.new g):=by
 have s:=Xo hr
 refine⟨⟨{ toWp:=⟨s,fun d _ x hx=>(by cases hx)⟩,op:=.inl ⟨rfl,rfl⟩ },hr,rfl,rfl,rfl,rfl,rfl,fun i y=>(by cases y),fun d _=>List.nodup_nil,fun d _ x hx=>(by cases hx),.inl ⟨rfl,rfl⟩,fun i _ y=>(by cases y)⟩,⟨rfl,rfl⟩,fun _=>rfl⟩
theorem Aqs.Ano {S:Mi}(f:Aqs S)(z:Int):Aqs (S.Ano z):=by
 have c:=f.calm
 have nd:∀ d,d<S.g.D.toNat->((S.Ano z).ps d).Nodup:=fun d hd=>by
  show ((Acu S.g S.g.D.toNat S.ps z).2 d).Nodup
  unfold Acu
  split
  ·exact c.nd d hd
  ·split
   ·exact c.nd d hd
   ·rename_i h0 hh
    split
    ·simp only[upd]
     split
     ·rename_i e
      rw[List.nodup_append]
      refine⟨by rw[<-e];exact c.nd d hd,by simp,fun a ha b hb y=>?_⟩
      rw[List.mem_singleton.1 hb]at y
      subst y
      exact hh (Aq7.2 ⟨d,hd,by rw[e];exact ha⟩)
     ·exact c.nd d hd
    ·exact c.nd d hd
 refine⟨⟨c.wf.Ano fun _=>c.bad _,c.rt,c.ev,c.up,c.n,c.size,c.op,c.bad,nd,fun d hd x hx=>?_,.inl f.cl,c.few⟩,f.cl,f.zs⟩
 show (S.dr.dv.zs x.toNat).l = []/\(S.dr.dv.zs x.toNat).st=0
 rw[f.zs];exact⟨rfl,rfl⟩
theorem A0s {e:En}(w:e.Wf){Ao mt off Ar seq:Int}(hf:(Dk { e with By:=mt } Ao off Ar seq).2=0){x:Me}(ho:x.off=off):
 Aik (Oe (Dk { e with By:=mt } Ao off Ar seq).1) x Ao mt=if ¬ e.kind=2/\seq=x.seq/\((Du e.bytes:Nat):Int)=x.sum then (true,e.bytes) else (false,E8):=by
 have w':({ e with By:=mt }:En).Wf:=⟨w.len,w.u8⟩
 obtain⟨h1,h2,h3,h4⟩:=Aim w' hf
 have fw:=Aku w' Ao off Ar seq
 rw[h1]at fw ⊢
 have ha:=A4y fw h2
 subst ho
 unfold Aik
 simp only at ha
 rw[ha]
 simp only[h4,true_and]
theorem Aqq {S:Mi}(ev:S.dr.ev = [])(up:S.dr.dv.down=false){e:En}(w:e.Wf){Ao mt off Ar seq:Int}(hf:(Dk { e with By:=mt } Ao off Ar seq).2=0){x:Me}(ho:x.off=off)
 (hh:S.dr.dv.has Ao=true) (hs:¬ (S.dr.dv.zs Ao.toNat).st=4) (h0:0<=off) (hl:(S.dr.dv.zs Ao.toNat).l[off.toNat]? = some (Ah1 e Ao mt off Ar seq)) :
 S.Jk x Ao mt=({ S with dr:={ S.dr with dv:=S.dr.dv.tick } },(if ¬ e.kind=2/\seq=x.seq/\((Du e.bytes:Nat):Int)=x.sum then (true,e.bytes) else (false,E8)).2,(if ¬ e.kind=2/\seq=x.seq/\((Du e.bytes:Nat):Int)=x.sum then (true,e.bytes) else (false,E8)).1,0):=by
 have hlen:off.toNat<(S.dr.dv.zs Ao.toNat).l.length:=by
  rcases Nat.lt_or_ge off.toNat (S.dr.dv.zs Ao.toNat).l.length with y|y
  ·exact y
  ·rw[List.getElem?_eq_none y]at hl;cases hl
 have hr:S.dr.read Ao off=({ S.dr with dv:=S.dr.dv.tick },Ah1 e Ao mt off Ar seq,0):=by
  unfold K6.read
  rw[Anj ev]
  unfold Dv.begin Dv.read
  rw[Aly up hh,if_pos rfl,if_neg (fun y=>y rfl)]
  unfold Xp
  rw[if_neg hs,if_pos (by omega),hl]
  rfl
 unfold Mi.Jk
 rw[ho,hr]
 simp only[if_true]
 have hg:=A0s w hf ho
 rw[show Zp (Ah1 e Ao mt off Ar seq)=Oe (Dk { e with By:=mt } Ao off Ar seq).1 from Agz _,hg]
theorem Aup {g:Gm}(hr:rtB g=true){z off:Int}(hz:0<=Db g z)(h0:0<=off)(h1:off<g.S):Abs g z off=true:=by
 unfold Abs
 rcases Ti (Xo hr) z with y|⟨_,_,_,y1,y2⟩
 ·omega
 ·rw[hr,Gt.2 ⟨y1,by omega⟩,Gt.2 ⟨h0,by omega⟩];rfl
end Go.Ev
