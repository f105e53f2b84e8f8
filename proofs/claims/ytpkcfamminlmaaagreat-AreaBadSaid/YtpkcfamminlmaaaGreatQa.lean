import Derived.Test.YtpkcfamminlmaaaGreatVb
import Derived.Test.YtpkcfamminlmaaaGreatDd
set_option linter.unusedVariables false
set_option linter.unusedSimpArgs false
set_option linter.unusedSectionVars false
namespace Go.Ev
open Go.Proofs
set_option maxRecDepth 100000
variable {K:Nat}{disp:Nat->Option FT}
theorem Anp {h:Aa}{z q:Nat}{size:Int}{Z:Zn}(zz:Ej h z q size Z)(hb:HB h):
 Ok (E8 K (.ptr z 0) h) fun v h'=>v=I (Ht Z.st)/\Ej h' z q size (if Ht Z.st=0 then Zn.empty else Z)/\A1 (fun i=>i=z) h h'/\HB h':=by
 obtain⟨s,g,r⟩:=zz.B4
 have lz:=hb _ _ g
 simp only[E8,Qn zz,Ab,I,Ah]
 by_cases hf:Ht Z.st=0
 ·simp only[hf,not_true_eq_false,decide_false,Ab,if_true,Jw]
  refine Ok.st1 g rfl rfl (by show 0<5;decide) ?_
  refine Ok.st1 (Ai _ _ _) rfl rfl (by show 2<5;decide) ?_
  refine Ok.st1 (Ai _ _ _) rfl rfl (by show 3<5;decide) ?_
  refine Ok.st1 (Ai _ _ _) rfl rfl (by show 4<5;decide) ?_
  refine .ret ⟨rfl,⟨⟨.Af,Ai _ _ _,Bz.nil _ _ _ _⟩,fun x hx=>by cases hx⟩,((((A1.refl (S:=fun i=>i=z) h).Az (.inl rfl) lz _).Az (.inl rfl) lz _).Az (.inl rfl) lz _).Az (.inl rfl) lz _,(((hb.put lz _).put lz _).put lz _).put lz _⟩
 ·simp only[hf,not_false_eq_true,decide_true,Ab,if_false]
  exact .ret ⟨rfl,zz,A1.refl _,hb⟩
noncomputable def Dv.reset(D:Dv)(i:Int):Dv × Int:=
 if D.Fm i ≠ 0 then (D,D.Fm i) else
 (if Ht (D.zs i.toNat).st=0 then D.tick.set i.toNat Zn.empty else D.tick,Ht (D.zs i.toNat).st)
theorem Zn.Wf.empty {size:Nat}(h:0<size):Zn.empty.Wf size:=⟨fun x hx=>(by cases hx),by show 0<=4;omega,Nat.le_refl _,Nat.zero_le _,fun _=>h⟩
theorem Aqs {h:Aa}{V:Nat}{D:Dv}{F:Nat->Prop}(d:F8 h V D F)(hb:HB h)(hs:0<D.size)(i:Int):
 Ok (Mh K (.ptr V 0) (I i) h) fun v h'=>v=I (D.reset i).2/\F8 h' V (D.reset i).1 (Bo F h h')/\A1 F h h'/\HB h':=by
 simp only[Mh]
 refine(Z2 (K:=K) d hb i).Aj ?_
 rintro _ h2 ⟨rfl,d2,c2,hb2,n2⟩
 unfold Dv.reset
 by_cases hbe:D.Fm i=0
 ·rw[if_neg (by rw[hbe];exact fun y=>y rfl),hbe]
  have hbg:D.begin i=D.tick:=by unfold Dv.begin;rw[if_pos hbe]
  rw[hbg]at d2
  obtain⟨j,rfl,hj⟩:=Dv.A29 hbe
  obtain⟨zl,z,q,a,b⟩:=d2.Q0
  obtain⟨hix,hzp⟩:=a.Aw0 (j:=j) hj
  simp only[I,Ah,not_true_eq_false,decide_false,Ab,Rz,a.list,hix,hzp]
  refine(Anp (K:=K) (a.B4 j hj) hb2).Aj ?_
  rintro _ h3 ⟨rfl,zz,c3,hb3⟩
  try simp only[Ab]
  rw[show (j:Int).toNat=j from rfl]
  have zz:Ej h3 (z j) (q j) D.size (if Ht (D.zs j).st=0 then Zn.empty else D.zs j):=zz
  by_cases hf:Ht (D.zs j).st=0
  ·simp only[hf,if_true]at zz ⊢
   obtain⟨d3,c23⟩:=F8.B4 d2.wf a b d2.lt hb2 hj (Zn.Wf.empty hs) zz (c3.mono fun _=>.inl) hb3 (fun y=>absurd rfl y)
   refine .ret ⟨by rw[show Ht (D.tick.zs j).st=Ht (D.zs j).st from rfl,hf],d3.mono (fun i hi=>?_) (Bo.lt d.lt (c2.trans c23).next),c2.trans c23,hb3⟩
   rcases hi with y|y
   ·exact .inl y
   ·exact .inr ⟨Nat.le_trans c2.next y.1,y.2⟩
  ·simp only[hf,if_false]at zz ⊢
   obtain⟨d3,c23⟩:=F8.B4 d2.wf a b d2.lt hb2 hj (d2.wf.zs j hj) zz (c3.mono fun _=>.inl) hb3 (fun y=>.inr ⟨rfl,y⟩)
   have e:D.tick.set j (D.zs j)=D.tick:=by
    unfold Dv.set
    have:N9 D.tick.zs j (D.zs j)=D.tick.zs:=by funext k;unfold N9;split <;> simp_all [Dv.tick]
    rw[this]
   have d3:F8 h3 V (D.tick.set j (D.zs j)) (Bo F h2 h3):=d3
   rw[e]at d3
   refine .ret ⟨rfl,d3.mono (fun i hi=>?_) (Bo.lt d.lt (c2.trans c23).next),c2.trans c23,hb3⟩
   rcases hi with y|y
   ·exact .inl y
   ·exact .inr ⟨Nat.le_trans c2.next y.1,y.2⟩
 ·rw[if_pos hbe]
  have hbg:D.begin i=D:=by unfold Dv.begin;rw[if_neg hbe]
  rw[hbg]at d2
  simp only[I,Ah,hbe,not_false_eq_true,decide_true,Ab]
  exact .ret ⟨rfl,d2.grow d.lt c2.next,c2,hb2⟩
noncomputable def I8.reset(S:I8)(i:Int):I8 × Int:=({ S.begin i with dv:=((S.begin i).dv.reset i).1 },((S.begin i).dv.reset i).2)
theorem Aqe(H:An disp)(hK:1000<K){d:Nat}(hd:14<=d){h:Aa}{D:Nat}{S:I8}{G:Nat->Prop}(hdue:As5 disp K S)(s:Ew h D S G)(hb:HB h)(i:Int)(hs:0<(S.begin i).dv.size):
 Ok (Ad TT disp K d false 202 [.ptr D 0,I i] h) fun v h'=>v=I (S.reset i).2/\Ew h' D (S.reset i).1 (Bo G h h')/\A1 G h h'/\HB h':=by
 obtain⟨e,rfl⟩:∃ k,d=k+1:=⟨d-1,by omega⟩
 rw[Adr H (by omega)]
 simp only[X7]
 refine(Aab (K:=K) H (by omega) hdue s hb i).Aj ?_
 rintro _ h2 ⟨s2,c2,hb2⟩
 unfold I8.reset
 generalize S.begin i=T at s2 hs ⊢
 obtain⟨V,M,qc,qh,cs,hs',ms,F,a⟩:=s2.Q0
 simp only[Ab,Cl a.Cz rfl]
 refine(Aqs (K:=K) a.dev hb2 hs i).Aj ?_
 rintro _ h3 ⟨rfl,d3,c3,hb3⟩
 obtain⟨s3,c23⟩:=s2.put a hb2 d3 c3
 have s4:=s3.A07 c2.next c23.next s.lt
 have c4:=c2.grow c23
 simp only[I,Ah]
 by_cases he:(T.dv.reset i).2=0
 ·simp only[he,decide_true,Ab,Qf]
  have hsz:(T.dv.reset i).1.size<=64:=d3.wf.size
  refine(Asj (K:=K) i K 0 h3 (by show (T.dv.reset i).1.size-0<K;omega) s4 hb3).Aj ?_
  rintro _ h5 ⟨s5,c5,hb5⟩
  simp only[J5]
  refine .ret ⟨by rw[<-he],s5.mono (fun j hj=>Bo.le c5.next hj) (Bo.lt s.lt (Nat.le_trans c4.next c5.next)),c4.grow c5,hb5⟩
 ·simp only[he,decide_false,Ab,J5]
  exact .ret ⟨rfl,s4,c4,hb3⟩
end Go.Ev

namespace Go.Ev
open Go.Proofs
set_option maxRecDepth 100000
variable {K:Nat}{disp:Nat->Option FT}
theorem Ok.A98 {i b:Nat}{s:DX}{h:Aa}{call:Aa->R}{k:EV->Aa->DX->R}{P Q:EV->Aa->Prop}(hb:Q5 b s=true)(hc:Ok (call (Et b s h)) P)(he:∀ v h1,P v h1->Ext (Et b s h) h1)
 (hk:∀ v h1 h2,P v h1->(∀ i,h2.get i=if i ∈ loose b s.nw then h.get i else h1.get i)->h2.next=h1.next->Ext h h2->Ok (k v h2 (s.Tu i)) Q):Ok (Ev.Ct i b s h call k) Q:=by
 obtain⟨v,h1,e,p⟩:=hc
 have x:=he v h1 p
 have hm:h.next<=h1.mw:=x.mw h.next (Nat.le_refl _) (Nat.le_refl _) fun _ y=>y.elim
 have fg:∀ j,(Et b s h).get j=if j ∈ loose b s.nw then none else h.get j:=fun j=>by rw[Vs];exact(Agc _ _ _).trans (by rw[Vs])
 have hE:Ev.Ct i b s h call k=k v ⟨Px h.t h1.t (loose b s.nw),h1.next,h.mw⟩ (s.Tu i):=by
  show Ar (Q5 b s) (Ev.Aj (call (Et b s h)) fun v h'=>Hm i b s h h' fun s h=>k v h s) none=_
  rw[hb,Ak,e]
  show Hm i b s h h1 (fun s h=>k v h s)=_
  unfold Hm
  rw[Nat.ble_eq_true_of_le hm,Ak]
 rw[hE]
 have hg:∀ j,(⟨Px h.t h1.t (loose b s.nw),h1.next,h.mw⟩:Aa).get j=if j ∈ loose b s.nw then h.get j else h1.get j:=fun j=>by
  rw[Vs];exact(Af9 _ _ _ _).trans (by rw[Vs,Vs])
 refine hk v h1 _ p hg rfl ⟨fun j hj hn=>?_,x.next,fun w w1 _ _=>w1,fun y q o ho=>?_⟩
 ·rw[hg]
  split
  ·rfl
  ·rename_i hl
   rw[x.get j hj hn,fg,if_neg hl]
 ·rw[hg]at ho
  split at ho
  ·exact Nat.lt_of_lt_of_le (y q o ho) x.next
  ·exact x.hb (fun q o ho=>by
    rw[fg]at ho
    split at ho
    ·cases ho
    ·exact y q o ho) q o ho
structure Oi(h:Aa)(b ml ll:Nat)(g:Gm):Prop where
 map:h.get b=some (.cells (gL g++[.slice ml 0 g.B.toNat g.B.toNat false,.slice ll 0 (g.D*g.Z).toNat (g.D*g.Z).toNat false]) 155)
 row:h.get ml=some (.cells (rep (List.replicate 6 (.int .i64 0)) g.B.toNat) 83)
theorem Oi.frame {h h':Aa}{b ml ll:Nat}{g:Gm}(m:Oi h b ml ll g)(e1:h'.get b=h.get b)(e2:h'.get ml=h.get ml):Oi h' b ml ll g:=⟨by rw[e1];exact m.map,by rw[e2];exact m.row⟩
theorem Ahd {z:List EV}{e n:Nat}(hn:n<=65536)(h:Aa):O4 z e (I n) (I n) h=some (.slice h.next 0 n n false,h.new (.cells (rep z n) e)):=by
 show Ar (Nat.ble n n) (Ar (Nat.ble n 65536) _ none) none=_
 rw[Nat.ble_eq_true_of_le (Nat.le_refl _),Ak,Nat.ble_eq_true_of_le hn,Ak]
theorem As2 {g:Gm}(hr:rtB g=true){h:Aa}(hb:HB h):Ok (Acy K (gV g) h) fun v h'=>∃ b ml ll,v=.tuple [.ptr b 0,I 0]/\Oi h' b ml ll g/\Ext h h'/\HB h'/\h.next<=b/\h.next<=ml:=by
 have s:=Qs hr
 have:=s.b0;have:=s.b1;have:=s.d0;have:=s.d1;have:=s.z0;have:=s.z1
 obtain⟨m0,m1⟩:=S7 (a:=g.D) (b:=g.Z) (A:=8) (B:=64) (by omega) (by omega) (by omega) (by omega)
 simp only[Acy,gV,Ab]
 have x1:Ext h (h.new (.cells (gL g) 23)):=A1.new _ _
 have g1:(h.new (.cells (gL g) 23)).get h.next=some (.cells (gL g) 23):=Ae _ _
 have n1:(h.new (.cells (gL g) 23)).next=h.next+1:=rfl
 generalize h.new (.cells (gL g) 23)=h1 at x1 g1 n1 ⊢
 have hb1:=x1.hb hb
 rw[Gf g1 rfl,Ax (n:=6) rfl]
 try simp only[Ab]
 rw[show EV.agg (gL g)=gV g from rfl]
 refine(Rt (K:=K) g h1).Aj ?_
 rintro _ h2 ⟨rfl,x2⟩
 have hb2:=x2.hb hb1
 have g2:=x2.at hb1 g1
 have l2:=hb2 _ _ g2
 simp only[hr,Ab,Akh]
 rw[As l2 (by kernel_rfl),Gf g2 rfl,Ax (n:=6) rfl]
 simp only[Ab,Bh]
 rw[As l2 (by kernel_rfl),A3 g2 rfl (v:=I g.B) rfl]
 simp only[Ab,Bh]
 have hB:I g.B=I (g.B.toNat:Int):=by rw[Int.toNat_of_nonneg (by omega)]
 rw[hB,Ahd (by omega),A0]
 have x3:Ext h2 (h2.new (.cells (rep (List.replicate 6 (.int .i64 0)) g.B.toNat) 83)):=A1.new _ _
 have g3:(h2.new (.cells (rep (List.replicate 6 (.int .i64 0)) g.B.toNat) 83)).get h2.next=some (.cells (rep (List.replicate 6 (.int .i64 0)) g.B.toNat) 83):=Ae _ _
 have n3:(h2.new (.cells (rep (List.replicate 6 (.int .i64 0)) g.B.toNat) 83)).next=h2.next+1:=rfl
 have e3:([EV.int .i64 0,.int .i64 0,.int .i64 0,.int .i64 0,.int .i64 0,.int .i64 0]:List EV)=List.replicate 6 (.int .i64 0):=rfl
 rw[e3]
 generalize h2.new (.cells (rep (List.replicate 6 (.int .i64 0)) g.B.toNat) 83)=h3 at x3 g3 n3 ⊢
 have hb3:=x3.hb hb2
 have g23:=x3.at hb2 g2
 have l3:=hb3 _ _ g23
 rw[As (show h.next<h2.next from l2) (by kernel_rfl),Gf g23 rfl,Ax (n:=6) rfl]
 simp only[Ab,Bh]
 rw[show EV.agg (gL g)=gV g from rfl]
 refine Ok.A98 (P:=fun v h'=>v=I (g.D*g.Z)/\Ext (Et 16 ⟨0,[(Nat.shiftLeft 1 3,h2.next)],[(Nat.shiftLeft 1 4,h.next),(Nat.shiftLeft 1 2,h.next),(Nat.shiftLeft 1 0,h.next)],[],[]⟩ h3) h') (by kernel_rfl) ?_ (fun _ _ p=>p.2) ?_
 ·rw[R5 s]
  exact .ret ⟨rfl,A1.new _ _⟩
 ·rintro _ h4' h4 ⟨rfl,x4'⟩ eg en x4
  have hb4:=x4.hb hb3
  have g34:=x4.at hb3 g3
  have hN:I (g.D*g.Z)=I ((g.D*g.Z).toNat:Int):=by rw[Int.toNat_of_nonneg (by omega)]
  try simp only[Ab,Bh]
  rw[hN,Ahd (by omega),A0]
  have x5:Ext h4 (h4.new (.cells (rep [.int .i64 0] (g.D*g.Z).toNat) 3)):=A1.new _ _
  have n5:(h4.new (.cells (rep [.int .i64 0] (g.D*g.Z).toNat) 3)).next=h4.next+1:=rfl
  generalize h4.new (.cells (rep [.int .i64 0] (g.D*g.Z).toNat) 3)=h5 at x5 n5 ⊢
  have hb5:=x5.hb hb4
  rw[Ca (l:=gL g++[.slice h2.next 0 g.B.toNat g.B.toNat false,.slice h4.next 0 (g.D*g.Z).toNat (g.D*g.Z).toNat false]) rfl]
  simp only[Ab,Bh]
  have x6:Ext h5 (h5.new (.cells (gL g++[.slice h2.next 0 g.B.toNat g.B.toNat false,.slice h4.next 0 (g.D*g.Z).toNat (g.D*g.Z).toNat false]) 155)):=A1.new _ _
  refine .ret ⟨h5.next,h2.next,h4.next,rfl,⟨Ae _ _,x6.at hb5 (x5.at hb4 g34)⟩,((((x1.trans x2).trans x3).trans x4).trans x5).trans x6,x6.hb hb5,?_,?_⟩
  ·have:=x1.next;have:=x2.next;have:=x3.next;have:=x4.next;have:=x5.next;omega
  ·have:=x1.next;have:=x2.next;omega
theorem Up {h:Aa}{b ml ll:Nat}{g:Gm}(m:Oi h b ml ll g)(hb:HB h):Ok (G8 K (.ptr b 0) h) fun v h'=>v=gV g/\Ext h h'/\HB h':=by
 simp only[G8,Ab]
 have x1:Ext h (h.new (.cells [EV.int .i64 0,.int .i64 0,.int .i64 0,.int .i64 0,.int .i64 0,.int .i64 0] 23)):=A1.new _ _
 have hb1:=x1.hb hb
 rw[Gf (x1.at hb m.map) rfl,show Na (gL g++[.slice ml 0 g.B.toNat g.B.toNat false,.slice ll 0 (g.D*g.Z).toNat (g.D*g.Z).toNat false]) 0 6=some (gL g) from rfl]
 simp only[Ab]
 refine Ok.st (gL g) (Ae _ _) rfl rfl (Gc rfl) ?_
 rw[Ls (Ai _ _ _) A4w.1 A4w.2 rfl]
 have x2:=x1.Az (i:=h.next) (.inr (Nat.le_refl _)) (Nat.lt_succ_self _) (.cells (gL g) 23)
 exact .ret ⟨rfl,x2,x2.hb hb⟩
end Go.Ev

namespace Go.Ev
open Go.Proofs
set_option maxRecDepth 100000
variable {K:Nat}{disp:Nat->Option FT}
theorem Ahe:∀ (B2 new:List EV),new.length<=B2.length->G4 B2 new=some (new++B2.drop new.length)
 | B2,[],_=>by cases B2 <;> rfl
 | [],b::r,h=>by simp at h
 | a::B2,b::r,h=>by
  show (match G4 B2 r with|some x=>some (b::x)|none=>none)=_
  rw[Ahe B2 r (by simpa using h)];rfl
theorem Az7 {h:Aa}{i n m r:Nat}{op:Bool}{t:TypeId}{B2 new:List EV}{y:EV}(g:h.get i=some (.cells B2 t))(hy:lenOf y=some n)(hn:0<n)(hm:n<=m)(hc:N4 h 1 n y=some new)(hl:new.length=n)(ho:B2.length=m):
 builtin TT .copy #[174,174] [.slice i 0 m r op,y] h=some (I n,h.put i (.cells (new++B2.drop n) t)):=by
 have hu:TT.Hs 174=some (.slice 5):=by kernel_rfl
 have hs:TT.size 5=some 1:=by kernel_rfl
 have hb:Nat.ble n m=true:=Nat.ble_eq_true_of_le hm
 have h0:Nat.beq n 0=false:=by cases n with|zero=>omega|succ n=>rfl
 have hw:J0 h i 0 new=some (h.put i (.cells (new++B2.drop n) t)):=by
  unfold J0;rw[g];simp only
  have:E2 B2 0 new=G4 B2 new:=by cases B2 <;> rfl
  rw[this,Ahe B2 new (by omega),hl]
 rw[Aix]at hc
 have hld:lenOf (.slice i 0 m r op)=some m:=rfl
 unfold builtin
 simp only[hu,hs,hld,hy,hb,Ak,h0,Av,hc,hw]
 rfl
structure A1i(h:Aa)(P t:Nat)(out:List Nat)(S:Nat->Prop):Prop where
 Q0:∃ s q,h.get P=some (.cells [s,.bool false] t)/\Bz h s q 5 1 out.length (Jx out)/\(0<out.length->P ≠ q/\S q)
 own:S P
theorem Ax0 {P t w:Nat}{a:Nat}(ha:a<9223372036854775808)(hw:w<=7){out:List Nat}(ho:out.length<=60000){S:Nat->Prop}(h0:Aa)(hS:∀ i,h0.next<=i->S i):∀ (m i:Nat) (h:Aa),w-i<m->i<=w->HB h->A1 S h0 h->A1i h P t (out++T1 i a) S ->
 Ok (Dp K m (.ptr P 0) (Nk .i64 (a / 256 ^ i)) (I w) (I i) h) fun _ h'=>A1i h' P t (out++T1 w a) S/\A1 S h0 h'/\HB h':=by
 intro m
 induction m with
 | zero=>intro i h hm;omega
 | succ m ih=>
  intro i h hm hi hb c p
  obtain⟨s,q,g,r,l⟩:=p.Q0
  simp only[Dp,I,Ah,Ab]
  by_cases hlt:(i:Int)<w
  ·simp only[hlt,decide_true,Ab,Rf,Cl g rfl]
   rw[wrap_u8]
   have hlen:(out++T1 i a).length=out.length+i:=by rw[List.length_append,Nr]
   refine Ml (z:=[.int .u8 0]) r hb rfl rfl rfl (by omega) (by omega) ?_
   intro h2 r2 n2 c2
   have g2:=c2.at hb g fun y=>(l y.1).1 y.2
   have lP:=(c2.hb hb) _ _ g2
   refine Ok.st1 g2 rfl rfl (by show 0<2;decide) ?_
   rw[Adc]
   simp only[Q9,I,Ah]
   rw[Cx (by omega) (by omega),Nat.div_div_eq_div_mul,<-Nat.pow_succ]
   have c3:A1 S h (h2.put P (.cells ([s,EV.bool false].set 0 (.slice (h.next+1) 0 ((out++T1 i a).length+1) ((out++T1 i a).length+1) true)) t)):=(c2.mono fun j hj=>hj.2 ▸ (l hj.1).2).Az (.inl p.own) lP _
   refine ih (i+1) _ (by omega) (by omega) ((c2.hb hb).put lP _) (c.trans c3) ?_
   rw[Asz,<-List.append_assoc]
   have lt:=hb _ _ g
   refine⟨⟨_,h.next+1,Ai _ _ _,?_,fun _=>⟨by omega,hS _ (by have:=c.next;omega)⟩⟩,p.own⟩
   have e1:((out++T1 i a)++[a / 256 ^ i % 256]).length=(out++T1 i a).length+1:=by rw[List.length_append];rfl
   have e2:Jx ((out++T1 i a)++[a / 256 ^ i % 256])=Jx (out++T1 i a)++EV.cells (Nk .u8 (a / 256 ^ i % 256)):=by rw[Agl];rfl
   rw[e1,e2]
   exact r2.frame fun _=>Al _ (by omega)
  ·have:i=w:=by omega
   subst this
   simp only[hlt,decide_false,Ab]
   exact .ret ⟨p,c,hb⟩
def Xr(h:Aa)(P n:Nat)(S:Nat->Prop):Prop:=∃ out,A1i h P 278 out S/\out.length=n/\∀ b ∈ out,b<256
theorem Xr.chg {h h':Aa}{P n:Nat}{S T:Nat->Prop}(p:Xr h P n S)(hb:HB h)(c:A1 T h h')(no:∀ i,S i->i<h.next->¬ T i):Xr h' P n S:=by
 obtain⟨out,⟨⟨s,q,g,r,l⟩,o⟩,b⟩:=p
 exact⟨out,⟨⟨s,q,c.at hb g (no _ o (hb _ _ g)),r.frame fun y=>c.get _ (hb _ _ (r.block y)) (no _ (l y).2 (hb _ _ (r.block y))),l⟩,o⟩,b⟩
theorem Xr.mono {h:Aa}{P n:Nat}{S T:Nat->Prop}(p:Xr h P n S)(s:∀ i,S i->T i):Xr h P n T:=by
 obtain⟨out,⟨⟨e,q,g,r,l⟩,o⟩,b⟩:=p
 exact⟨out,⟨⟨e,q,g,r,fun y=>⟨(l y).1,s _ (l y).2⟩⟩,s _ o⟩,b⟩
def A58(S:Nat->Prop)(h:Aa):Nat->Prop:=fun i=>S i\/h.next<=i
theorem A2f {P n w:Nat}{S:Nat->Prop}(hK:1000<K){h:Aa}(p:Xr h P n S)(hb:HB h)(hn:n<=1000)(h1:1<=w)(h7:w<=7){v:Int}(v0:0<=v)(hv:v<=9223372036854775807)(hf:v<(256 ^ w:Nat)):
 Ok (Bf K (.ptr P 0) (.int .i64 w) (.int .i64 v) h) fun _ h'=>Xr h' P (n+w) (A58 S h)/\A1 S h h'/\HB h':=by
 obtain⟨out,p,hl,hu⟩:=p.mono (T:=A58 S h) fun i=>.inl
 obtain⟨a,rfl⟩:=Int.eq_ofNat_of_zero_le v0
 have ha:a<9223372036854775808:=by omega
 have hfit:=(Aor ha h1 h7).2 (by omega)
 simp only[Bf]
 have cw:=Aaq (K:=K) (w:Int) h
 simp only[I]at cw
 rw[cw,decide_eq_true ⟨by omega,by omega⟩]
 simp only[Ab,Ah]
 have wp:=Ao0 (K:=K) ha hK h
 rw[show (EV.int .i64 (a:Int))=.int .i64 (Int.ofNat a) from rfl,wp,A0]
 simp only[Nk,Ah]
 rw[show decide ((w:Int)<Int.ofNat (Vl a))=false from decide_eq_false (by show ¬ (w:Int)<((Vl a:Nat):Int);omega)]
 simp only[Ab,Ic,Q8]
 have:=Ax0 (K:=K) (P:=P) (t:=278) (w:=w) ha h7 (out:=out) (by omega) (S:=A58 S h) h (fun i=>.inr) K 0 h (by omega) (Nat.zero_le _) hb (A1.refl _) (by simpa [T1] using p)
 rw[Nat.pow_zero,Nat.div_one]at this
 refine this.mono ?_
 rintro _ h' ⟨a',c,hb'⟩
 exact⟨⟨_,a',by rw[List.length_append,Nr,hl],fun b hb=>by
  rcases List.mem_append.1 hb with y|y
  ·exact hu b y
  ·exact Aca _ _ b y⟩,⟨fun i hi hs=>c.get i hi fun y=>by
   rcases y with y|y
   ·exact hs y
   ·omega,c.next,fun w1 e1 e2 e3=>c.mw w1 e1 e2 fun i hi=>by
   rcases hi with hi|hi
   ·exact e3 i hi
   ·omega,c.hb⟩,hb'⟩
theorem Asb {h:Aa}{S:Nat->Prop}(o:S h.next):Xr (h.new (.cells [.Af,.bool false] 278)) h.next 0 S:=⟨[],⟨⟨.Af,0,Ae _ _,Bz.nil _ _ _ _,fun y=>absurd y (Nat.lt_irrefl _)⟩,o⟩,rfl,fun b hb=>by cases hb⟩
def Agh(v:EV):Prop:=∃ l:List Nat,v=.agg (Jx l)/\l.length=44/\∀ b ∈ l,b<256
theorem Agq {h:Aa}{P n:Nat}{S:Nat->Prop}(p:Xr h P n S)(hb:HB h)(h0:0<n)(hn:n<=44):Ok (Ur K (.ptr P 0) h) fun v h'=>Agh v/\Ext h h'/\HB h':=by
 obtain⟨out,a,hl,hu⟩:=p
 simp only[Ur,Ab]
 rw[show (h.new (.cells (List.replicate 44 (EV.int .u8 0)) 118)).next=h.next+1 from rfl]
 have x1:Ext h ((h.new (.cells (List.replicate 44 (EV.int .u8 0)) 118)).new (.cells (List.replicate 44 (EV.int .u8 0)) 118)):=(A1.new _ _).Gg _
 have g2:((h.new (.cells (List.replicate 44 (EV.int .u8 0)) 118)).new (.cells (List.replicate 44 (EV.int .u8 0)) 118)).get h.next=some (.cells (List.replicate 44 (EV.int .u8 0)) 118):=by
  rw[Bj _ (Nat.lt_succ_self _)];exact Ae _ _
 have g3:((h.new (.cells (List.replicate 44 (EV.int .u8 0)) 118)).new (.cells (List.replicate 44 (EV.int .u8 0)) 118)).get (h.next+1)=some (.cells (List.replicate 44 (EV.int .u8 0)) 118):=Ae _ _
 generalize (h.new (.cells (List.replicate 44 (EV.int .u8 0)) 118)).new (.cells (List.replicate 44 (EV.int .u8 0)) 118)=h1 at x1 g2 g3 ⊢
 have hb1:=x1.hb hb
 obtain⟨⟨s,q,g,r,l⟩,_⟩:=a
 refine(Ajx (K:=K) (x1.at hb g) (r.frame fun y=>x1.get _ (hb _ _ (r.block y)) id) hb1 (by omega)).Aj ?_
 rintro _ h2 ⟨y,q',rfl,ry,x2,hb2,lq⟩
 have g2:=x2.at hb1 g2
 have g3:=x2.at hb1 g3
 simp only[Ab]
 rw[show ∀ k:EV->R,Acs 44 1 (.ptr (h.next+1) 0) none none none k=k (.slice (h.next+1) 0 44 44 false) from fun k=>rfl]
 have bsy:=ry.bs (by omega)
 have hcp:=Az7 (h:=h2) (i:=h.next+1) (n:=n) (m:=44) (r:=44) (op:=false) (t:=118) (B2:=List.replicate 44 (EV.int .u8 0)) g3 (by rw[<-hl];exact bsy.len) h0 hn (by rw[<-hl];exact bsy.cells) (by rw[F2,hl]) (by simp)
 rw[hcp,A0]
 have l3:=hb2 _ _ g3
 have ee:Jx out++(List.replicate 44 (EV.int .u8 0)).drop n=Jx (out++List.replicate (44-n) 0):=by
  rw[Agl,List.drop_replicate];unfold Jx;rw[List.map_replicate];rfl
 rw[ee]
 have hl':(out++List.replicate (44-n) 0).length=44:=by rw[List.length_append,List.length_replicate,hl];omega
 have hu':∀ b ∈ out++List.replicate (44-n) 0,b<256:=fun b hb=>by
  rcases List.mem_append.1 hb with y|y
  ·exact hu b y
  ·rw[List.eq_of_mem_replicate y];decide
 generalize out++List.replicate (44-n) 0=l at hl' hu' ⊢
 have g5:(h2.put (h.next+1) (.cells (Jx l) 118)).get (h.next+1)=some (.cells (Jx l) 118):=Ai _ _ _
 have g6:(h2.put (h.next+1) (.cells (Jx l) 118)).get h.next=some (.cells (List.replicate 44 (EV.int .u8 0)) 118):=by rw[Al _ (by omega)];exact g2
 have x12:=x1.trans x2
 have x5:=x12.Az (i:=h.next+1) (.inr (by omega)) l3 (.cells (Jx l) 118)
 generalize h2.put (h.next+1) (.cells (Jx l) 118)=h5 at g5 g6 x5 ⊢
 have hb5:=x5.hb hb
 have ul:(Jx l).length=44:=by rw[F2,hl']
 rw[Gf g5 rfl,Ax ul]
 simp only[Ue]
 have l6:=hb5 _ _ g6
 refine Ok.st (Jx l) g6 rfl (by show K9 (Jx l)=44;rw[Dx,ul]) (Gc (by show (List.replicate 44 (EV.int .u8 0)).length=(Jx l).length;rw[ul,List.length_replicate])) ?_
 rw[Ls (Ai _ _ _) Awu.1 Awu.2 ul]
 exact .ret ⟨⟨l,rfl,hl',hu'⟩,x5.Az (.inr (Nat.le_refl _)) l6 _,hb5.put l6 _⟩
theorem Ate {h:Aa}{i:Nat}{z:List EV}{v:EV}(hv:Agh v)(hg:h.get i=some (.cells z 118))(hz:z.length=44){h0:Aa}(x:Ext h0 h)(hb:HB h)(hi:h0.next<=i):Ok (I9 44 (.ptr i 0) v h fun h=>Iz TT [.c (.ptr i 0) 118] h) fun v h'=>Agh v/\Ext h0 h'/\HB h':=by
 obtain⟨l,rfl,hl,hu⟩:=hv
 have ul:(Jx l).length=44:=by rw[F2,hl]
 have lt:=hb _ _ hg
 refine Ok.st (Jx l) hg rfl (by show K9 (Jx l)=44;rw[Dx,ul]) (Gc (by show z.length=(Jx l).length;rw[ul,hz])) ?_
 rw[Ls (Ai _ _ _) Awu.1 Awu.2 ul]
 exact .ret ⟨⟨l,rfl,hl,hu⟩,x.Az (.inr hi) lt _,hb.put lt _⟩
end Go.Ev

namespace Go.Ev
open Go.Proofs
set_option maxRecDepth 100000
variable {K:Nat}{disp:Nat->Option FT}
theorem Af3 {n:Nat}:∀ (l:List (List EV)) (j:Nat) (x:List EV),(∀ x ∈ l,x.length=n)->l[j]? = some x->Na l.flatten (j*n) n=some x:=by
 have len:∀ l:List (List EV),(∀ x ∈ l,x.length=n)->l.flatten.length=l.length*n:=fun l=>by
  induction l with
  | nil=>intro _;simp
  | cons a r ih=>intro h;rw[List.flatten_cons,List.length_append,h a (List.mem_cons_self ..),ih fun x hx=>h x (List.mem_cons_of_mem _ hx),List.length_cons,Nat.succ_mul];omega
 intro l j x hl hx
 have hj:=(List.getElem?_eq_some_iff.1 hx).1
 rw[Ki (by rw[len l hl];have:=Nat.mul_le_mul_right n (show j+1<=l.length from hj);rw[Nat.succ_mul]at this;exact this)]
 congr 1
 induction l generalizing j with
 | nil=>cases hx
 | cons a r ih=>
  have ha:=hl a (List.mem_cons_self ..)
  cases j with
  | zero=>
   rw[List.getElem?_cons_zero]at hx;cases hx
   rw[Nat.zero_mul,List.drop_zero,List.flatten_cons,<-ha,List.take_left]
  | succ j=>
   rw[List.getElem?_cons_succ]at hx
   rw[List.flatten_cons,Nat.succ_mul,show j*n+n=a.length+j*n by omega,<-List.drop_drop,List.drop_left]
   exact ih j (fun x hx=>hl x (List.mem_cons_of_mem _ hx)) hx (List.getElem?_eq_some_iff.1 hx).1
theorem Axb(z:List EV):∀ n,rep z n=(List.replicate n z).flatten
 | 0=>rfl
 | n+1=>by rw[List.replicate_succ,List.flatten_cons,<-Axb z n];rfl
theorem Av4 {n j:Nat}(h:j<n):Na (rep (List.replicate 6 (.int .i64 0)) n) (j*6) 6=some Me.zero.cells:=by
 rw[Axb]
 refine Af3 (n:=6) _ j _ (fun x hx=>by rw[List.eq_of_mem_replicate hx];rfl) ?_
 rw[List.getElem?_replicate,if_pos h];rfl
theorem Ok.stW {h:Aa}{i t n:Nat}{z xs:List EV}{kk:Aa->R}{Q:EV->Aa->Prop}(hg:h.get i=some (.cells z t))(hz:z.length=n)(hl:xs.length=n)(hk:Ok (kk (h.put i (.cells xs t))) Q):Ok (I9 n (.ptr i 0) (.agg xs) h kk) Q:=
 Ok.st xs hg rfl (by show K9 xs=n;rw[Dx,hl]) (Gc (by show z.length=xs.length;rw[hl,hz])) hk
theorem Ar5 {h:Aa}{b ml ll:Nat}{g:Gm}(s:Sm g)(m:Oi h b ml ll g)(hb:HB h){j:Int}(hj:0<=j):Ok (Py K (.ptr b 0) (I j) h) fun v h'=>∃ e,v=.tuple [.agg Me.zero.cells,I e]/\Ext h h'/\HB h':=by
 have:=s.b0;have:=s.b1
 simp only[Py,I,Ab,Ah]
 rw[A4l]
 have x1:Ext h (h.new (.cells Me.zero.cells 83)):=A1.new _ _
 have g4:(h.new (.cells Me.zero.cells 83)).get h.next=some (.cells Me.zero.cells 83):=Ae _ _
 generalize h.new (.cells Me.zero.cells 83)=h1 at x1 g4 ⊢
 have hb1:=x1.hb hb
 have gm:=x1.at hb m.map
 have gr:=x1.at hb m.row
 have l4:=hb1 _ _ g4
 have c0:¬ j<0:=by omega
 have st:∀ e:Int,Ok (I9 6 (.ptr h.next 0) (.agg Me.zero.cells) h1 fun h_1=>Iz TT [.c (.ptr h.next 0) 83,.v (.int .i64 e)] h_1) fun v h'=>∃ e,v=.tuple [.agg Me.zero.cells,I e]/\Ext h h'/\HB h':=by
  intro e
  refine Ok.stW g4 rfl rfl ?_
  rw[Anb (Ai _ _ _) A8r.1 A8r.2 rfl]
  exact .ret ⟨e,rfl,x1.Az (.inr (Nat.le_refl _)) l4 _,hb1.put l4 _⟩
 simp only[c0,decide_false,Ab,Ah]
 rw[A3 gm rfl (v:=.slice ml 0 g.B.toNat g.B.toNat false) rfl]
 rw[show ∀ k:EV->R,H8 (.slice ml 0 g.B.toNat g.B.toNat false) k=k (I g.B.toNat) from fun _=>rfl]
 simp only[I,Ah,Ab,Td]
 by_cases hlt:j<g.B
 ·obtain⟨n,rfl⟩:=Int.eq_ofNat_of_zero_le hj
  have:decide ((n:Int) ≥ (g.B.toNat:Int))=false:=by simp;omega
  simp only[this,Ab,Aap]
  rw[A3 gm rfl (v:=.slice ml 0 g.B.toNat g.B.toNat false) rfl,Sw (by omega),Nat.zero_add,Gn gr rfl (Av4 (by omega))]
  exact st 0
 ·have:decide ((j:Int) ≥ (g.B.toNat:Int))=true:=by simp;omega
  simp only[this,Ab]
  exact st 13
theorem Xr.less {h:Aa}{P n:Nat}{S T:Nat->Prop}(p:Xr h P n S)(hb:HB h)(t:∀ i,S i->i<h.next->T i):Xr h P n T:=by
 obtain⟨out,⟨⟨e,q,g,r,l⟩,o⟩,b⟩:=p
 exact⟨out,⟨⟨e,q,g,r,fun y=>⟨(l y).1,t _ (l y).2 (hb _ _ (r.block y))⟩⟩,t _ o (hb _ _ g)⟩,b⟩
theorem L7 {P n w:Nat}{S:Nat->Prop}(hK:1000<K){h:Aa}(p:Xr h P n S)(hb:HB h)(hS:∀ i,h.next<=i->S i)(hn:n<=1000)(h1:1<=w)(h7:w<=7){v:Int}(v0:0<=v)(hv:v<=9223372036854775807)(hf:v<(256 ^ w:Nat)):
 Ok (Bf K (.ptr P 0) (.int .i64 w) (.int .i64 v) h) fun _ h'=>Xr h' P (n+w) S/\A1 S h h'/\HB h'/\∀ i,h'.next<=i->S i:=
 (A2f hK p hb hn h1 h7 v0 hv hf).mono fun _ _ ⟨a,c,b⟩=>⟨a.mono fun i hi=>hi.elim id (hS i),c,b,fun i hi=>hS i (Nat.le_trans c.next hi)⟩
theorem Asy {S:Nat->Prop}(hK:1000<K){h:Aa}{P n:Nat}(p:Xr h P n S)(hb:HB h)(hS:∀ i,h.next<=i->S i)(hn:n<=900):
 Ok (Ac6 K (.ptr P 0) (.agg Me.zero.cells) h) fun _ h'=>Xr h' P (n+16) S/\A1 S h h'/\HB h'/\∀ i,h'.next<=i->S i:=by
 simp only[Ac6,Ab]
 have x1:Ext h (h.new (.cells Me.zero.cells 83)):=A1.new _ _
 have g1:(h.new (.cells Me.zero.cells 83)).get h.next=some (.cells Me.zero.cells 83):=Ae _ _
 have n1:(h.new (.cells Me.zero.cells 83)).next=h.next+1:=rfl
 generalize h.new (.cells Me.zero.cells 83)=h1 at x1 g1 n1 ⊢
 have hb1:=x1.hb hb
 have t1:∀ i,h1.next<=i->S i/\i ≠ h.next:=fun i hi=>⟨hS i (by omega),by omega⟩
 have p1:Xr h1 P n (fun i=>S i/\i ≠ h.next):=(p.less hb (T:=fun i=>S i/\i ≠ h.next) fun i a b=>⟨a,by omega⟩).chg hb x1 fun _ _ _=>id
 rw[A3 g1 rfl (v:=I 0) rfl]
 refine(L7 hK p1 hb1 t1 (by omega) (w:=1) (by omega) (by omega) (v:=0) (by omega) (by omega) (by omega)).Aj ?_
 rintro _ h2 ⟨p2,c2,hb2,t2⟩
 have g2:=c2.at hb1 g1 fun y=>y.2 rfl
 rw[A3 g2 rfl (v:=I 0) rfl]
 refine(L7 hK p2 hb2 t2 (by omega) (w:=2) (by omega) (by omega) (v:=0) (by omega) (by omega) (by omega)).Aj ?_
 rintro _ h3 ⟨p3,c3,hb3,t3⟩
 have g3:=c3.at hb2 g2 fun y=>y.2 rfl
 rw[A3 g3 rfl (v:=I 0) rfl]
 refine(L7 hK p3 hb3 t3 (by omega) (w:=2) (by omega) (by omega) (v:=0) (by omega) (by omega) (by omega)).Aj ?_
 rintro _ h4 ⟨p4,c4,hb4,t4⟩
 have g4:=c4.at hb3 g3 fun y=>y.2 rfl
 rw[A3 g4 rfl (v:=I 0) rfl]
 refine(L7 hK p4 hb4 t4 (by omega) (w:=1) (by omega) (by omega) (v:=0) (by omega) (by omega) (by omega)).Aj ?_
 rintro _ h5 ⟨p5,c5,hb5,t5⟩
 have g5:=c5.at hb4 g4 fun y=>y.2 rfl
 rw[A3 g5 rfl (v:=I 0) rfl]
 refine(L7 hK p5 hb5 t5 (by omega) (w:=6) (by omega) (by omega) (v:=0) (by omega) (by omega) (by omega)).Aj ?_
 rintro _ h6 ⟨p6,c6,hb6,t6⟩
 have g6:=c6.at hb5 g5 fun y=>y.2 rfl
 rw[A3 g6 rfl (v:=I 0) rfl]
 refine(L7 hK p6 hb6 t6 (by omega) (w:=4) (by omega) (by omega) (v:=0) (by omega) (by omega) (by omega)).Aj ?_
 rintro _ h7 ⟨p7,c7,hb7,t7⟩
 exact .ret ⟨p7.mono fun i hi=>hi.1,(x1.mono fun _=>False.elim).trans (((((c2.trans c3).trans c4).trans c5).trans c6).trans c7 |>.mono fun i hi=>hi.1),hb7,fun i hi=>(t7 i hi).1⟩
theorem Apy(hK:1000<K){h:Aa}{b ml ll:Nat}{g:Gm}(s:Sm g)(m:Oi h b ml ll g)(hb:HB h){x y:EV}{sq:Int}(q0:0<=sq)(q1:sq<=281474976710655):
 Ok (Xv K (.agg [x,y,I sq,.ptr b 0]) h) fun v h'=>Agh v/\Ext h h'/\HB h':=by
 simp only[Xv,Ab]
 have x1:Ext h ((h.new (.cells [x,y,I sq,.ptr b 0] 60)).new (.cells (List.replicate 44 (.int .u8 0)) 118)):=(A1.new _ _).Gg _
 have g1:((h.new (.cells [x,y,I sq,.ptr b 0] 60)).new (.cells (List.replicate 44 (.int .u8 0)) 118)).get h.next=some (.cells [x,y,I sq,.ptr b 0] 60):=by rw[Bj _ (Nat.lt_succ_self _)];exact Ae _ _
 have f1:((h.new (.cells [x,y,I sq,.ptr b 0] 60)).new (.cells (List.replicate 44 (.int .u8 0)) 118)).get (h.next+1)=some (.cells (List.replicate 44 (.int .u8 0)) 118):=Ae _ _
 have n1:((h.new (.cells [x,y,I sq,.ptr b 0] 60)).new (.cells (List.replicate 44 (.int .u8 0)) 118)).next=h.next+2:=rfl
 generalize (h.new (.cells [x,y,I sq,.ptr b 0] 60)).new (.cells (List.replicate 44 (.int .u8 0)) 118)=h1 at x1 g1 f1 n1 ⊢
 have hb1:=x1.hb hb
 rw[A3 g1 rfl (v:=.ptr b 0) rfl]
 refine(Up (K:=K) (m.frame (x1.get _ (hb _ _ m.map) id) (x1.get _ (hb _ _ m.row) id)) hb1).Aj ?_
 rintro _ h2 ⟨rfl,x2,hb2⟩
 have g2:=x2.at hb1 g1
 have f2:=x2.at hb1 f1
 refine Ok.stW (xs:=gL g) (Ae _ _) rfl rfl ?_
 rw[Ca (l:=[.Af,.bool false]) rfl]
 simp only[Ab]
 have x3:Ext h2 ((h2.new (.cells [EV.int .i64 0,.int .i64 0,.int .i64 0,.int .i64 0,.int .i64 0,.int .i64 0] 23)).put h2.next (.cells (gL g) 23)):=(A1.new h2 _:Ext _ _).Az (.inr (Nat.le_refl _)) (Nat.lt_succ_self _) _
 have e3:((h2.new (.cells [EV.int .i64 0,.int .i64 0,.int .i64 0,.int .i64 0,.int .i64 0,.int .i64 0] 23)).put h2.next (.cells (gL g) 23)).get h2.next=some (.cells (gL g) 23):=Ai _ _ _
 have n3:((h2.new (.cells [EV.int .i64 0,.int .i64 0,.int .i64 0,.int .i64 0,.int .i64 0,.int .i64 0] 23)).put h2.next (.cells (gL g) 23)).next=h2.next+1:=rfl
 generalize (h2.new (.cells [EV.int .i64 0,.int .i64 0,.int .i64 0,.int .i64 0,.int .i64 0,.int .i64 0] 23)).put h2.next (.cells (gL g) 23)=h3 at x3 e3 n3 ⊢
 have hb3:=x3.hb hb2
 have x4:Ext h3 (h3.new (.cells [.Af,.bool false] 278)):=A1.new _ _
 have p4:Xr (h3.new (.cells [.Af,.bool false] 278)) h3.next 0 (fun i=>h3.next<=i):=Asb (Nat.le_refl _)
 have n4:(h3.new (.cells [.Af,.bool false] 278)).next=h3.next+1:=rfl
 generalize h3.new (.cells [.Af,.bool false] 278)=h4 at x4 p4 n4 ⊢
 have hb4:=x4.hb hb3
 have g4:=x4.at hb3 (x3.at hb2 g2)
 have f4:=x4.at hb3 (x3.at hb2 f2)
 have e4:=x4.at hb3 e3
 have l1:=x2.next
 have k1:¬ h3.next<=h.next:=by omega
 have k2:¬ h3.next<=h.next+1:=by omega
 have k3:¬ h3.next<=h2.next:=by omega
 have:=s.d0;have:=s.d1;have:=s.z0;have:=s.z1;have:=s.s0;have:=s.s1;have:=s.b0;have:=s.b1;have:=s.p0;have:=s.p1;have:=s.o0;have:=s.o1
 have t4:∀ i,h4.next<=i->h3.next<=i:=fun i hi=>by omega
 rw[A3 g4 rfl (v:=I sq) rfl]
 refine(L7 hK p4 hb4 t4 (by omega) (w:=6) (by omega) (by omega) (v:=sq) (by omega) (by omega) (by omega)).Aj ?_
 rintro _ h5 ⟨p5,c5,hb5,t5⟩
 have g5:=c5.at hb4 g4 k1
 have f5:=c5.at hb4 f4 k2
 have e5:=c5.at hb4 e4 k3
 rw[A3 e5 rfl (v:=I g.D) rfl]
 refine(L7 hK p5 hb5 t5 (by omega) (w:=1) (by omega) (by omega) (v:=g.D) (by omega) (by omega) (by omega)).Aj ?_
 rintro _ h6 ⟨p6,c6,hb6,t6⟩
 have g6:=c6.at hb5 g5 k1
 have f6:=c6.at hb5 f5 k2
 have e6:=c6.at hb5 e5 k3
 rw[A3 e6 rfl (v:=I g.Z) rfl]
 refine(L7 hK p6 hb6 t6 (by omega) (w:=1) (by omega) (by omega) (v:=g.Z) (by omega) (by omega) (by omega)).Aj ?_
 rintro _ h7 ⟨p7,c7,hb7,t7⟩
 have g7:=c7.at hb6 g6 k1
 have f7:=c7.at hb6 f6 k2
 have e7:=c7.at hb6 e6 k3
 rw[A3 e7 rfl (v:=I g.S) rfl]
 refine(L7 hK p7 hb7 t7 (by omega) (w:=1) (by omega) (by omega) (v:=g.S) (by omega) (by omega) (by omega)).Aj ?_
 rintro _ h8 ⟨p8,c8,hb8,t8⟩
 have g8:=c8.at hb7 g7 k1
 have f8:=c8.at hb7 f7 k2
 have e8:=c8.at hb7 e7 k3
 rw[A3 e8 rfl (v:=I g.B) rfl]
 refine(L7 hK p8 hb8 t8 (by omega) (w:=2) (by omega) (by omega) (v:=g.B) (by omega) (by omega) (by omega)).Aj ?_
 rintro _ h9 ⟨p9,c9,hb9,t9⟩
 have g9:=c9.at hb8 g8 k1
 have f9:=c9.at hb8 f8 k2
 have e9:=c9.at hb8 e8 k3
 rw[A3 e9 rfl (v:=I g.P) rfl]
 refine(L7 hK p9 hb9 t9 (by omega) (w:=1) (by omega) (by omega) (v:=g.P) (by omega) (by omega) (by omega)).Aj ?_
 rintro _ h10 ⟨p10,c10,hb10,t10⟩
 have g10:=c10.at hb9 g9 k1
 have f10:=c10.at hb9 f9 k2
 have e10:=c10.at hb9 e9 k3
 rw[A3 e10 rfl (v:=I g.O) rfl]
 refine(L7 hK p10 hb10 t10 (by omega) (w:=1) (by omega) (by omega) (v:=g.O) (by omega) (by omega) (by omega)).Aj ?_
 rintro _ h11 ⟨p11,c11,hb11,t11⟩
 have g11:=c11.at hb10 g10 k1
 have f11:=c11.at hb10 f10 k2
 have e11:=c11.at hb10 e10 k3
 refine(Agq p11 hb11 (by omega) (by omega)).Aj ?_
 rintro v h12 ⟨hv,x12,hb12⟩
 have x5:Ext h h4:=((x1.trans x2).trans x3).trans x4
 have c11:=((((((c5.trans c6).trans c7).trans c8).trans c9).trans c10).trans c11)
 have x:Ext h h12:=(x5.then c11 fun i a b=>by have:=x1.next;omega).trans x12
 exact Ate hv (x12.at hb11 f11) (by simp) x hb12 (by show h.next<=h.next+1;omega)
theorem Amd(hK:1000<K){h0 h4:Aa}{b ml ll n3 P t r:Nat}{g:Gm}(s:Sm g){l:List EV}(hl:l[3]? = some (.ptr b 0)){j:Int}(j0:1<=j)(j1:j<=255)(hx:∀ h,A1 (fun i=>n3<=i) h4 h->Ext h0 h)(hr:h0.next<=r)(k1:t<n3)(k2:r<n3)(k3:b<n3)(k4:ml<n3):∀ (n i:Nat) (h:Aa),2-i<n->i<=2->HB h->(∀ i,h.next<=i->n3<=i)->A1 (fun i=>n3<=i) h4 h->Xr h P (1+16*i) (fun i=>n3<=i)->Oi h b ml ll g->h.get t=some (.cells l 60)->h.get r=some (.cells (List.replicate 44 (.int .u8 0)) 118) ->
 Ok (Jl K n (I j) (.ptr t 0) (.ptr r 0) (.ptr P 0) (I i) h) fun v h'=>Agh v/\Ext h0 h'/\HB h':=by
 intro n
 induction n with
 | zero=>intro i h hn;omega
 | succ n ih=>
  intro i h hn hi hb ht c p m gt gr
  rw[Jl]
  simp only[I,Ah,Ab]
  by_cases hlt:i<2
  ·have:decide ((i:Int)<2)=true:=by simp;omega
   simp only[this,Ab,Ah3]
   rw[A3 gt rfl hl]
   simp only[Ah]
   rw[show Dk .i64 (j-1)=j-1 from Cx (by omega) (by omega),show Dk .i64 (2*(j-1))=2*(j-1) from Cx (by omega) (by omega),show Dk .i64 (2*(j-1)+i)=2*(j-1)+i from Cx (by omega) (by omega)]
   refine(Ar5 (K:=K) s m hb (by omega)).Aj ?_
   rintro _ h2 ⟨e,rfl,x2,hb2⟩
   simp only[Ab]
   refine Ok.stW (Ae _ _) rfl rfl ?_
   have x3:Ext h2 ((h2.new (.cells [EV.int .i64 0,.int .i64 0,.int .i64 0,.int .i64 0,.int .i64 0,.int .i64 0] 83)).put h2.next (.cells Me.zero.cells 83)):=(A1.new h2 _:Ext _ _).Az (.inr (Nat.le_refl _)) (Nat.lt_succ_self _) _
   have e3:((h2.new (.cells [EV.int .i64 0,.int .i64 0,.int .i64 0,.int .i64 0,.int .i64 0,.int .i64 0] 83)).put h2.next (.cells Me.zero.cells 83)).get h2.next=some (.cells Me.zero.cells 83):=Ai _ _ _
   generalize (h2.new (.cells [EV.int .i64 0,.int .i64 0,.int .i64 0,.int .i64 0,.int .i64 0,.int .i64 0] 83)).put h2.next (.cells Me.zero.cells 83)=h3 at x3 e3 ⊢
   have hb3:=x3.hb hb2
   rw[Gn e3 rfl (Ax (n:=6) rfl)]
   have x23:=x2.trans x3
   refine(Asy hK (p.chg hb x23 fun _ _ _=>id) hb3 (fun i hi=>ht i (Nat.le_trans x23.next hi)) (by omega)).Aj ?_
   rintro _ h5 ⟨p5,c5,hb5,t5⟩
   have c35:A1 (fun i=>n3<=i) h h5:=(Ext.to x23).trans c5
   simp only[Ahr,I,Ah]
   rw[Cx (by omega) (by omega),show ((i:Nat):Int)+1=((i+1:Nat):Int) by omega]
   refine ih (i+1) h5 (by omega) (by omega) hb5 t5 (c.trans c35) ?_ ?_ ?_ ?_
   ·rw[Nat.mul_succ,<-Nat.add_assoc];exact p5
   ·exact m.frame (c35.get _ (hb _ _ m.map) (by omega)) (c35.get _ (hb _ _ m.row) (by omega))
   ·exact c35.at hb gt (by omega)
   ·exact c35.at hb gr (by omega)
  ·have:decide ((i:Int)<2)=false:=by simp;omega
   have:i=2:=by omega
   subst this
   simp only[this,Ab,Yy]
   refine(Agq p hb (by omega) (by omega)).Aj ?_
   rintro v h12 ⟨hv,x12,hb12⟩
   exact Ate hv (x12.at hb gr) (by simp) ((hx h c).trans x12) hb12 hr
theorem Aqv(hK:1000<K){h:Aa}{b ml ll:Nat}{g:Gm}(s:Sm g)(m:Oi h b ml ll g)(hb:HB h){x y z:EV}{j:Int}(j0:1<=j)(j1:j<=255):
 Ok (Yh K (.agg [x,y,z,.ptr b 0]) (I j) h) fun v h'=>Agh v/\Ext h h'/\HB h':=by
 simp only[Yh,Ab]
 rw[Ca (l:=[.Af,.bool false]) rfl]
 simp only[Ab]
 have x1:Ext h ((h.new (.cells [x,y,z,.ptr b 0] 60)).new (.cells (List.replicate 44 (.int .u8 0)) 118)):=(A1.new _ _).Gg _
 have g1:((h.new (.cells [x,y,z,.ptr b 0] 60)).new (.cells (List.replicate 44 (.int .u8 0)) 118)).get h.next=some (.cells [x,y,z,.ptr b 0] 60):=by rw[Bj _ (Nat.lt_succ_self _)];exact Ae _ _
 have f1:((h.new (.cells [x,y,z,.ptr b 0] 60)).new (.cells (List.replicate 44 (.int .u8 0)) 118)).get (h.next+1)=some (.cells (List.replicate 44 (.int .u8 0)) 118):=Ae _ _
 have n1:((h.new (.cells [x,y,z,.ptr b 0] 60)).new (.cells (List.replicate 44 (.int .u8 0)) 118)).next=h.next+2:=rfl
 rw[show (h.new (Cu.cells [x,y,z,EV.ptr b 0] 60)).next=h.next+1 from rfl]
 generalize (h.new (.cells [x,y,z,.ptr b 0] 60)).new (.cells (List.replicate 44 (.int .u8 0)) 118)=h3 at x1 g1 f1 n1 ⊢
 have hb3:=x1.hb hb
 have x4:Ext h3 (h3.new (.cells [.Af,.bool false] 278)):=A1.new _ _
 have p4:Xr (h3.new (.cells [.Af,.bool false] 278)) h3.next 0 (fun i=>h3.next<=i):=Asb (Nat.le_refl _)
 have n4:(h3.new (.cells [.Af,.bool false] 278)).next=h3.next+1:=rfl
 generalize h3.new (.cells [.Af,.bool false] 278)=h4 at x4 p4 n4 ⊢
 have hb4:=x4.hb hb3
 have l1:=hb _ _ m.map
 have l2:=hb _ _ m.row
 have x5:=x1.trans x4
 refine(L7 hK p4 hb4 (fun i hi=>by omega) (by omega) (w:=1) (by omega) (by omega) (v:=j) (by omega) (by omega) (by omega)).Aj ?_
 rintro _ h5 ⟨p5,c5,hb5,t5⟩
 refine Amd (n3:=h3.next) hK s rfl j0 j1 (h0:=h) (h4:=h4) (b:=b) (ml:=ml) (ll:=ll) (fun h' c=>x5.then c fun i a b=>by omega) (Nat.le_succ _) (by omega) (by omega) (by omega) (by omega) K 0 h5 (by omega) (by omega) hb5 t5 c5 p5 ?_ (c5.at hb4 (x4.at hb3 g1) (by omega)) (c5.at hb4 (x4.at hb3 f1) (by omega))
 have m4:=m.frame (x5.get _ l1 id) (x5.get _ l2 id)
 exact m4.frame (c5.get _ (hb4 _ _ m4.map) (by omega)) (c5.get _ (hb4 _ _ m4.row) (by omega))
end Go.Ev

namespace Go.Ev
open Go.Proofs
set_option maxRecDepth 100000
variable {K:Nat}{disp:Nat->Option FT}
theorem Ba8:(B8 TT 64 0).2.1 = [29,30]:=by kernel_rfl
section
variable (H:An disp)
include H
theorem Avd {e:Nat}(he:2<=e){h:Aa}{l0 d0 b1 b2:Nat}{tm:Ag}{x y w:EV}{sq i:Int}(hsq:1<=sq)(hg:h.get l0=some (A2 TT 64 36 0 tm .ready none d0))(t1:tmp tm 1=.ptr b1 0)(t2:tmp tm 2=.ptr b2 0)(g1:h.get b1=some (.cells [x,y,I sq,w] 60))(hb:HB h):
 Ok (Ad TT disp K (e+1) true l0 [I i,.agg Me.zero.cells] h) fun v h'=>v=.bool true/\h'.get l0=some (A2 TT 64 36 0 tm .ready none d0)/\A1 (fun j=>j=l0) h h'/\HB h':=by
 have hg':=hg
 unfold A2 at hg'
 rw[Ba8]at hg'
 rw[Zg H he tm h (I i) _ hg',t1,t2]
 have l0l:=hb _ _ hg
 have n01:l0 ≠ b1:=Ba hg g1 (by simp[A2])
 simp only[Kz,Ab]
 refine Ok.stW (Ae _ _) rfl rfl ?_
 have x3:Ext h ((h.new (.cells [EV.int .i64 0,.int .i64 0,.int .i64 0,.int .i64 0,.int .i64 0,.int .i64 0] 83)).put h.next (.cells Me.zero.cells 83)):=(A1.new h _:Ext _ _).Az (.inr (Nat.le_refl _)) (Nat.lt_succ_self _) _
 have e3:((h.new (.cells [EV.int .i64 0,.int .i64 0,.int .i64 0,.int .i64 0,.int .i64 0,.int .i64 0] 83)).put h.next (.cells Me.zero.cells 83)).get h.next=some (.cells Me.zero.cells 83):=Ai _ _ _
 generalize (h.new (.cells [EV.int .i64 0,.int .i64 0,.int .i64 0,.int .i64 0,.int .i64 0,.int .i64 0] 83)).put h.next (.cells Me.zero.cells 83)=h3 at x3 e3 ⊢
 have hb3:=x3.hb hb
 have q0:=x3.at hb hg
 have l3:=hb3 _ _ q0
 rw[Ad6 q0]
 have c4:A1 (fun j=>j=l0) h (h3.put l0 (A2 TT 64 36 0 tm .busy none d0)):=(Ext.to (S:=fun j=>j=l0) x3).Az (.inl rfl) l3 _
 have r0:(h3.put l0 (A2 TT 64 36 0 tm .busy none d0)).get l0=some (A2 TT 64 36 0 tm .busy none d0):=Ai _ _ _
 have r1:(h3.put l0 (A2 TT 64 36 0 tm .busy none d0)).get b1=some (.cells [x,y,I sq,w] 60):=by rw[Al _ n01];exact x3.at hb g1
 have re:(h3.put l0 (A2 TT 64 36 0 tm .busy none d0)).get h.next=some (.cells Me.zero.cells 83):=by rw[Al _ (by omega)];exact e3
 have l4:l0<(h3.put l0 (A2 TT 64 36 0 tm .busy none d0)).next:=l3
 have hb4:HB (h3.put l0 (A2 TT 64 36 0 tm .busy none d0)):=hb3.put l3 _
 generalize h3.put l0 (A2 TT 64 36 0 tm .busy none d0)=h4 at c4 r0 r1 re l4 hb4 ⊢
 simp only[H2,Ab]
 rw[A3 re rfl (v:=I 0) rfl,A3 r1 rfl (v:=I sq) rfl]
 simp only[I,Ah]
 have:decide ((0:Int) ≥ sq)=false:=by simp;omega
 simp only[this,Ab]
 rw[Zm r0]
 exact .ret ⟨rfl,Ai _ _ _,c4.Az (.inl rfl) l4 _,hb4.put l4 _⟩
theorem Auy {e:Nat}(he:3<=e){n:Nat}{ml:Nat}{l0 d0 b1 b2:Nat}{tm:Ag}{x y w:EV}{sq:Int}(hn:n<=256)(hsq:1<=sq)(t1:tmp tm 1=.ptr b1 0)(t2:tmp tm 2=.ptr b2 0):∀ (m i:Nat) (h:Aa),n-i<m->i<=n->HB h->h.get l0=some (A2 TT 64 36 0 tm .ready none d0)->h.get b1=some (.cells [x,y,I sq,w] 60) ->
 h.get ml=some (.cells (rep (List.replicate 6 (.int .i64 0)) n) 83) ->
 Ok (Bb (Ad TT disp K e false) (Ad TT disp K e true) K m (.Rm l0) (.slice ml 0 n n false) (I n) (I i) h) fun _ h'=>h'.get l0=some (A2 TT 64 36 0 tm .ready none d0)/\A1 (fun j=>j=l0) h h'/\HB h':=by
 intro m
 induction m with
 | zero=>intro i h hm;omega
 | succ m ih=>
  intro i h hm hi hb hg g1 gm
  rw[Bb]
  simp only[I,Ah,Ab]
  by_cases hlt:i<n
  ·have:decide ((i:Int)<(n:Int))=true:=by simp;omega
   simp only[this,Ab,Hg]
   rw[Sw hlt,Nat.zero_add,Gn gm rfl (Av4 hlt)]
   try simp only[Ab]
   refine Ok.stW (Ae _ _) rfl rfl ?_
   have x3:Ext h ((h.new (.cells [EV.int .i64 0,.int .i64 0,.int .i64 0,.int .i64 0,.int .i64 0,.int .i64 0] 83)).put h.next (.cells Me.zero.cells 83)):=(A1.new h _:Ext _ _).Az (.inr (Nat.le_refl _)) (Nat.lt_succ_self _) _
   have e3:((h.new (.cells [EV.int .i64 0,.int .i64 0,.int .i64 0,.int .i64 0,.int .i64 0,.int .i64 0] 83)).put h.next (.cells Me.zero.cells 83)).get h.next=some (.cells Me.zero.cells 83):=Ai _ _ _
   generalize (h.new (.cells [EV.int .i64 0,.int .i64 0,.int .i64 0,.int .i64 0,.int .i64 0,.int .i64 0] 83)).put h.next (.cells Me.zero.cells 83)=h3 at x3 e3 ⊢
   have hb3:=x3.hb hb
   rw[Gn e3 rfl (Ax (n:=6) rfl)]
   obtain⟨e,rfl⟩:∃ k,e=k+1:=⟨e-1,by omega⟩
   have hc:P0 (Ad TT disp K (e+1) false) (Ad TT disp K (e+1) true) (.Rm l0) [.int .i64 (i:Int),.agg Me.zero.cells] h3=Ad TT disp K (e+1) true l0 [I i,.agg Me.zero.cells] h3:=rfl
   rw[hc]
   refine(Avd (K:=K) H (e:=e) (by omega) hsq (x3.at hb hg) t1 t2 (x3.at hb g1) hb3).Aj ?_
   rintro _ h4 ⟨rfl,q0,c4,hb4⟩
   simp only[Ab,Hc,Ah]
   rw[Cx (by omega) (by omega),show ((i:Nat):Int)+1=((i+1:Nat):Int) by omega]
   have c:A1 (fun j=>j=l0) h h4:=(Ext.to x3).trans c4
   refine(ih (i+1) h4 (by omega) (by omega) hb4 q0 (c.at hb g1 fun y=>Ba hg g1 (by simp[A2]) y.symm) (c.at hb gm fun y=>Ba hg gm (by simp[A2]) y.symm)).mono ?_
   rintro _ h5 ⟨a,c5,b⟩
   exact⟨a,c.trans c5,b⟩
  ·have:decide ((i:Int)<(n:Int))=false:=by simp;omega
   simp only[this,Ab]
   exact .ret ⟨hg,A1.refl _,hb⟩
omit H in
theorem Pv {v l:Int}(h:Aa):Pc K (I v) (I l) h=some (.bool (decide (1<=v) && decide (v<=l)),h):=by
 simp only[Pc,U1,I,Ah,Ab]
 by_cases h1:1<=v <;> by_cases h2:v<=l <;> simp[h1,h2,Ab]
theorem Amc {e:Nat}(he:4<=e)(hK:1000<K){h0 h1:Aa}(w1:Ext h0 h1){b ml ll b1 b2:Nat}{g:Gm}(s:Sm g)(m:Oi h1 b ml ll g)(hb1:HB h1)(l2:h0.next<=b2){x y:EV}{z:Int}(z0:1<=z)(g1:h1.get b1=some (.cells [x,y,I z,.ptr b 0] 60))(f1:h1.get b2=some (.cells [.bool false] 4)){tm:Ag}(t1:tmp tm 1=.ptr b1 0)(t2:tmp tm 2=.ptr b2 0):
 Ok (Ii (Ad TT disp K e false) (Ad TT disp K e true) K tm (.ptr b1 0) (.ptr b2 0) h1 []) fun v h'=>v=.bool true/\Ext h0 h'/\HB h':=by
 have:=s.b0;have:=s.b1
 simp only[Ii,Ab]
 rw[A3 g1 rfl (v:=.ptr b 0) rfl]
 simp only[Y5,Ab,Fo]
 rw[A3 m.map rfl (v:=.slice ml 0 g.B.toNat g.B.toNat false) rfl]
 simp only[Ab]
 have x2:Ext h1 (h1.new (.cells [.slice ml 0 g.B.toNat g.B.toNat false] 95)):=A1.new _ _
 have q2:(h1.new (.cells [.slice ml 0 g.B.toNat g.B.toNat false] 95)).get h1.next=some (.cells [.slice ml 0 g.B.toNat g.B.toNat false] 95):=Ae _ _
 have n2:(h1.new (.cells [.slice ml 0 g.B.toNat g.B.toNat false] 95)).next=h1.next+1:=rfl
 generalize h1.new (.cells [.slice ml 0 g.B.toNat g.B.toNat false] 95)=h2 at x2 q2 n2 ⊢
 have hb2:=x2.hb hb1
 have t1':tmp (((tm.put 26 (some (.ptr b1 3))).put 27 (some (.ptr b 0))).put 28 (some (.func 201 [] [.ptr h1.next 0]))) 1=.ptr b1 0:=by simp only[Jd,reduceIte,Nat.reduceEqDiff];exact t1
 have t2':tmp (((tm.put 26 (some (.ptr b1 3))).put 27 (some (.ptr b 0))).put 28 (some (.func 201 [] [.ptr h1.next 0]))) 2=.ptr b2 0:=by simp only[Jd,reduceIte,Nat.reduceEqDiff];exact t2
 generalize (((tm.put 26 (some (.ptr b1 3))).put 27 (some (.ptr b 0))).put 28 (some (.func 201 [] [.ptr h1.next 0])))=tm at t1' t2' ⊢
 obtain⟨e,rfl⟩:∃ k,e=k+1:=⟨e-1,by omega⟩
 refine Ok.range ?_
 have x3:Ext h2 (B9 TT 64 36 0 tm h2):=Ol
 have k0:(B9 TT 64 36 0 tm h2).get h2.next=some (.deferred true):=On
 have k1:(B9 TT 64 36 0 tm h2).get (h2.next+1)=some (A2 TT 64 36 0 tm .ready none h2.next):=Nh
 generalize B9 TT 64 36 0 tm h2=h3 at x3 k0 k1 ⊢
 have hb3:=x3.hb hb2
 have x13:Ext h1 h3:=x2.trans x3
 have g3:=x13.at hb1 g1
 rw[Mj H (Nat.zero_le _)]
 simp only[H7]
 rw[A3 (x3.at hb2 q2) rfl (v:=.slice ml 0 g.B.toNat g.B.toNat false) rfl]
 simp only[Ab]
 have lr:=Auy (K:=K) H (e:=e) (by omega) (n:=g.B.toNat) (ml:=ml) (by omega) z0 t1' t2' K 0 h3 (by omega) (by omega) hb3 k1 g3 (x13.at hb1 m.row)
 refine lr.mono ?_
 rintro _ h4 ⟨a,c4,hb4⟩
 refine .inl ⟨a,?_⟩
 have l4:=hb4 _ _ a
 have k2:h2.next<h3.next:=hb3 _ _ k0
 have d4:h4.get h2.next=some (.deferred true):=c4.at hb3 k0 (by omega)
 have f4:h4.get b2=some (.cells [.bool false] 4):=c4.at hb3 (x13.at hb1 f1) (by have:=hb1 _ _ f1;omega)
 have x4:Ext h0 h4:=(w1.trans x13).then c4 fun i hi a=>by have:=w1.next;omega
 have x5:Ext h0 (h4.put (h2.next+1) (A2 TT 64 36 0 tm .exhausted none h2.next)):=x4.Az (.inr (by have:=w1.next;omega)) l4 _
 have hb5:HB (h4.put (h2.next+1) (A2 TT 64 36 0 tm .exhausted none h2.next)):=hb4.put l4 _
 have d5:(h4.put (h2.next+1) (A2 TT 64 36 0 tm .exhausted none h2.next)).get h2.next=some (.deferred true):=by rw[Al _ (by omega)];exact d4
 have f5:(h4.put (h2.next+1) (A2 TT 64 36 0 tm .exhausted none h2.next)).get b2=some (.cells [.bool false] 4):=by rw[Al _ (by have:=hb1 _ _ f1;omega)];exact f4
 generalize h4.put (h2.next+1) (A2 TT 64 36 0 tm .exhausted none h2.next)=h5 at x5 hb5 d5 f5 ⊢
 simp only[Iq]
 refine Ok.st1 f5 rfl rfl (by show 0<1;decide) ?_
 have l5:=hb5 _ _ f5
 have ne:h2.next ≠ b2:=by have:=hb1 _ _ f1;omega
 have hb6:HB (h5.put b2 (.cells ([EV.bool false].set 0 (.bool true)) 4)):=hb5.put l5 _
 refine Ok.unwind (List.nodup_cons.2 ⟨by simp,List.nodup_nil⟩) (fun d hd=>by rw[List.mem_singleton]at hd;subst hd;rw[Al _ (Ne.symm ne)];exact d5) hb6 fun h6 ch hn6=>?_
 have g6:h6.get b2=some (.cells [.bool true] 4):=A1.at ch hb6 (Ai _ _ _) (by rw[List.mem_singleton];exact Ne.symm ne)
 have hr:Fl h6 b2 0 1=some [.bool true]:=by unfold Fl;rw[g6];rfl
 have cr:Iz TT [.c (.ptr b2 0) 4] h6=some (.bool true,h6):=by
  unfold Iz
  simp only[Ale,show TT.size 4=some 1 by kernel_rfl,show TT.agg 4=some false by kernel_rfl,hr]
 rw[cr]
 refine .ret ⟨rfl,(x5.Az (.inr l2) l5 _).then ch fun i hi a=>?_,ch.hb hb6⟩
 rw[List.mem_singleton]at hi
 have:=w1.next
 omega
theorem Aez {d:Nat}(hd:5<=d)(hK:1000<K){h:Aa}{b ml ll:Nat}{g:Gm}(s:Sm g)(m:Oi h b ml ll g)(hb:HB h){x y z:Int}(x0:1<=x)(x1:x<=281474976710655)(y0:1<=y)(y1:y<=4294967295)(z0:1<=z)(z1:z<=281474976710655):
 Ok (Ad TT disp K d false 64 [.agg [I x,I y,I z,.ptr b 0]] h) fun v h'=>v=.bool true/\Ext h h'/\HB h':=by
 obtain⟨e,rfl⟩:∃ k,d=k+1:=⟨d-1,by omega⟩
 rw[Aes H (by omega)]
 simp only[Tg,Ab]
 have w1:Ext h ((h.new (.cells [I x,I y,I z,.ptr b 0] 60)).new (.cells [.bool false] 4)):=(A1.new _ _).Gg _
 have g1:((h.new (.cells [I x,I y,I z,.ptr b 0] 60)).new (.cells [.bool false] 4)).get h.next=some (.cells [I x,I y,I z,.ptr b 0] 60):=by rw[Bj _ (Nat.lt_succ_self _)];exact Ae _ _
 have f1:((h.new (.cells [I x,I y,I z,.ptr b 0] 60)).new (.cells [.bool false] 4)).get (h.next+1)=some (.cells [.bool false] 4):=Ae _ _
 have n1:((h.new (.cells [I x,I y,I z,.ptr b 0] 60)).new (.cells [.bool false] 4)).next=h.next+2:=rfl
 rw[show (h.new (Cu.cells [I x,I y,I z,EV.ptr b 0] 60)).next=h.next+1 from rfl]
 generalize (h.new (.cells [I x,I y,I z,.ptr b 0] 60)).new (.cells [.bool false] 4)=h1 at w1 g1 f1 n1 ⊢
 have hb1:=w1.hb hb
 rw[A3 g1 rfl (v:=.ptr b 0) rfl,show ∀ k:EV->R,Aq G7 (bin TT .eql 52) (.ptr b 0) .Db k=k (.bool false) from fun k=>Ane (by intros;simp) (by kernel_rfl)]
 simp only[Ab,Ah]
 have sw:=fun(v l:Int) (a:1<=v) (c:v<=l)=>Pv (K:=K) (v:=v) (l:=l) h1
 rw[A3 g1 rfl (v:=I x) rfl]
 rw[show EV.int .i64 281474976710655=I 281474976710655 from rfl,Pv,decide_eq_true x0,decide_eq_true x1,A0]
 simp only[Ab,Ah,Bool.and_self,Im]
 rw[A3 g1 rfl (v:=I y) rfl]
 rw[show EV.int .i64 4294967295=I 4294967295 from rfl,Pv,decide_eq_true y0,decide_eq_true y1,A0]
 simp only[Ab,Ah,Bool.and_self,Ir]
 rw[A3 g1 rfl (v:=I z) rfl]
 rw[show EV.int .i64 281474976710655=I 281474976710655 from rfl,Pv,decide_eq_true z0,decide_eq_true z1,A0]
 simp only[Ab,Ah,Bool.and_self,Il]
 have m1:=m.frame (w1.get _ (hb _ _ m.map) id) (w1.get _ (hb _ _ m.row) id)
 exact Amc H (by omega) hK w1 s m1 hb1 (Nat.le_succ _) z0 g1 f1 (by simp only[Jd,reduceIte,Nat.reduceEqDiff]) (by simp only[Jd,reduceIte,Nat.reduceEqDiff])
end
end Go.Ev

namespace Go.Ev
open Go.Proofs
set_option maxRecDepth 100000
variable {K:Nat}{disp:Nat->Option FT}
def Aeq(h:Aa)(s:EV)(q:Nat)(e:TypeId)(sz len:Nat)(l:List EV):Prop:=
 Bz h s q e sz len l\/(len=1/\s=.slice q 0 1 1 false/\h.get q=some (.cells l e)/\l.length=sz)
theorem Aeq.frame {h h':Aa}{s:EV}{q:Nat}{e:TypeId}{sz len:Nat}{l:List EV}(r:Aeq h s q e sz len l)(g:0<len->h'.get q=h.get q):Aeq h' s q e sz len l:=by
 rcases r with r|⟨a,b,c,d⟩
 ·exact .inl (r.frame g)
 ·exact .inr ⟨a,b,by rw[g (by omega)];exact c,d⟩
theorem Aeq.lt {h:Aa}{s:EV}{q:Nat}{e:TypeId}{sz len:Nat}{l:List EV}(r:Aeq h s q e sz len l)(hb:HB h)(hl:0<len):q<h.next:=by
 rcases r with r|⟨a,b,c,d⟩
 ·exact hb _ _ (r.block hl)
 ·exact hb _ _ c
theorem Au6 {h:Aa}{s v:EV}{q:Nat}{e:TypeId}{sz len:Nat}{l z:List EV}{k:EV->Aa->R}{Q:EV->Aa->Prop}(r:Aeq h s q e sz len l)(hb:HB h)(hp:v.plain=true)(hz:z.length=sz)(hv:v.cells.length=sz)(hs:sz<=65536)(hl:len<=65535)
 (hk:∀ h',Bz h' (.slice (h.next+1) 0 (len+1) (len+1) true) (h.next+1) e sz (len+1) (l++v.cells)->h'.next=h.next+2->A1 (fun i=>0<len/\i=q) h h'->Ok (k (.slice (h.next+1) 0 (len+1) (len+1) true) h') Q) :
 Ok (Aj (B3 z e sz 1 [(0,v)] h) fun w h=>Aj (Da e sz s w h) k) Q:=by
 rcases r with r|⟨rfl,rfl,g,ll⟩
 ·exact Ml r hb hp hz hv hs hl hk
 ·rw[Sc hp hz hv hs,A0]
  have g1:(h.new (.cells v.cells e)).get q=some (.cells l e):=by rw[Bj _ (hb _ _ g)];exact g
  have c1:=Ql (sz:=sz) (Ae h (.cells v.cells e)) hv
  have c2:=Ql (sz:=sz) g1 ll
  have e1:Da e sz (.slice q 0 1 1 false) (.slice h.next 0 1 1 false) (h.new (.cells v.cells e))=some (.slice (h.next+1) 0 2 2 true,(h.new (.cells v.cells e)).new (.vec (l++v.cells) e sz)):=by
   unfold Da
   simp only[lenOf,Ue,c1,c2,Ahl]
   rfl
  rw[e1,A0]
  refine hk _ (.inr ⟨by omega,rfl,Ae _ _,by rw[List.length_append,ll,hv];omega⟩) rfl ((A1.new _ _).Gg _)
def A2x(L:List Fr):Prop:=∀ f ∈ L,f.Wf/\frB f=true
theorem As1(a b c d e:EV){x y:List EV}(h:x.length=y.length):Kl ([a,b,c,d,e]++x) 5 y=some ([a,b,c,d,e]++y):=by
 rw[Y7 (by rw[List.length_append,h];exact Nat.le_refl _)]
 have:([a,b,c,d,e]++x).drop (5+y.length) = []:=List.drop_of_length_le (by rw[List.length_append,h];exact Nat.le_refl _)
 rw[this,List.append_nil];rfl
theorem A43 {zn x y:Int}{l:List Nat}(hl:l.length=44):Ww (G3 [(0,1),(1,1),(2,1),(3,1),(4,1),(5,44)]) [(0,EV.int .i64 4),(1,I zn),(3,I y),(4,I x),(5,.agg (Jx l))] (List.replicate 5 (EV.int .i64 0)++List.replicate 44 (EV.int .u8 0))=some (Fr.mk 4 zn 0 y x l).cells:=by
 show Ar (Nat.beq (K9 (Jx l)) 44) (oB (fun z=>some z) (Kl ([I 4,I zn,I 0,I y,I x]++List.replicate 44 (.int .u8 0)) 5 (Jx l))) none=_
 rw[Dx,F2,hl,As1 _ _ _ _ _ (by rw[F2,hl,List.length_replicate])]
 rfl
section
variable (H:An disp)
theorem As8(hK:1000<K){c r:Ac}{h0:Aa}{b ml ll t f:Nat}{g:Gm}(s:Sm g)(m:Oi h0 b ml ll g)(hb0:HB h0){x y z:Int}{zn:Int}(x0:1<=x)(x1:x<=281474976710655)(y0:1<=y)(y1:y<=4294967295)(z0:0<=zn)(z1:zn<=65535)(lt:h0.next<=t)(lf:h0.next<=f)(tf:t ≠ f):
 ∀ (n i:Nat) (h:Aa) (v:EV) (q:Nat) (L:List Fr) (F:Fr),g.parts.toNat-i<n->1<=i->i<=g.parts->Ext h0 h->HB h->h.get t=some (.cells [I x,I y,I z,.ptr b 0] 60)->h.get f=some (.cells F.cells 120)->F.Wf->F.B4=zn->F.Ko=y->F.seq=x->L.length=i->A2x L->Aeq h v q 120 49 i (L.map Fr.cells).flatten->h0.next<=q->q ≠ t->q ≠ f ->
 Ok (Hb c r K n (.ptr t 0) (.ptr f 0) v (I i) h) fun w h'=>∃ v q L,w=.tuple [v,I 0]/\Aeq h' v q 120 49 L.length (L.map Fr.cells).flatten/\h0.next<=q/\(L.length:Int)=g.parts/\A2x L/\Ext h0 h'/\HB h':=by
 have:=s.b0;have:=s.b1
 have hp:2<=g.parts/\g.parts<=200:=by unfold Gm.parts;omega
 intro n
 induction n with
 | zero=>intro i h v q L F hn;omega
 | succ n ih=>
  intro i h v q L F hn i1 hi xx hb gt gf w fz fe fs hL hI row lq qt qf
  rw[Hb]
  simp only[Ab]
  rw[A3 gt rfl (v:=.ptr b 0) rfl]
  have mh:=m.frame (xx.get _ (hb0 _ _ m.map) id) (xx.get _ (hb0 _ _ m.row) id)
  refine(Up (K:=K) mh hb).Aj ?_
  rintro _ h2 ⟨rfl,x2,hb2⟩
  rw[Ae6 s,A0]
  have x3:Ext h (h2.new (.cells (gL g) 23)):=x2.Gg _
  generalize h2.new (.cells (gL g) 23)=h3 at x3 ⊢
  have hb3:=x3.hb hb
  have gt3:=x3.at hb gt
  have gf3:=x3.at hb gf
  have row3:=row.frame (h':=h3) fun y=>x3.get _ (row.lt hb y) id
  simp only[I,Ah]
  by_cases hlt:(i:Int)<g.parts
  ·simp only[hlt,decide_true,Ab,Acn]
   rw[Gf gt3 rfl,Ax (n:=4) rfl]
   simp only[Ab]
   have xx3:Ext h0 h3:=xx.trans x3
   refine(Aqv hK s (m.frame (xx3.get _ (hb0 _ _ m.map) id) (xx3.get _ (hb0 _ _ m.row) id)) hb3 (by omega) (by omega)).Aj ?_
   rintro _ h4 ⟨⟨l,rfl,hl,hu⟩,x4,hb4⟩
   have gf4:=x4.at hb3 gf3
   have l4:=hb4 _ _ gf4
   have xx4:Ext h0 h4:=xx3.trans x4
   have row4:=row3.frame (h':=h4) fun y=>x4.get _ (row3.lt hb3 y) id
   have gt4:=x4.at hb3 gt3
   refine Ok.st1 gf4 rfl rfl (by rw[Fr.I5 w];decide) ?_
   refine Ok.st1 (Ai _ _ _) rfl rfl (by rw[List.length_set,Fr.I5 w];decide) ?_
   have e5:((F.cells.set 0 (.int .i64 5)).set 2 (.int .i64 (i:Int))) = [I 5,I F.B4,I i,I F.Ko,I F.seq]++Jx F.body:=rfl
   rw[e5]
   refine Ok.st ([I 5,I F.B4,I i,I F.Ko,I F.seq]++Jx l) (Ai _ _ _) rfl (by show K9 (Jx l)=44;rw[Dx,F2,hl]) (As1 (y:=Jx l) _ _ _ _ _ (by rw[F2,F2,w.len,hl])) ?_
   have x5:Ext h0 (((h4.put f (.cells (F.cells.set 0 (.int .i64 5)) 120)).put f (.cells ([I 5,I F.B4,I i,I F.Ko,I F.seq]++Jx F.body) 120)).put f (.cells ([I 5,I F.B4,I i,I F.Ko,I F.seq]++Jx l) 120)):=((xx4.Az (.inr lf) l4 _).Az (.inr lf) l4 _).Az (.inr lf) l4 _
   have gf5:(((h4.put f (.cells (F.cells.set 0 (.int .i64 5)) 120)).put f (.cells ([I 5,I F.B4,I i,I F.Ko,I F.seq]++Jx F.body) 120)).put f (.cells ([I 5,I F.B4,I i,I F.Ko,I F.seq]++Jx l) 120)).get f=some (.cells (Fr.mk 5 F.B4 i F.Ko F.seq l).cells 120):=Ai _ _ _
   have gt5:(((h4.put f (.cells (F.cells.set 0 (.int .i64 5)) 120)).put f (.cells ([I 5,I F.B4,I i,I F.Ko,I F.seq]++Jx F.body) 120)).put f (.cells ([I 5,I F.B4,I i,I F.Ko,I F.seq]++Jx l) 120)).get t=some (.cells [I x,I y,I z,.ptr b 0] 60):=by
    rw[Al _ (Ne.symm tf),Al _ (Ne.symm tf),Al _ (Ne.symm tf)];exact gt4
   have row5:=row4.frame (h':=(((h4.put f (.cells (F.cells.set 0 (.int .i64 5)) 120)).put f (.cells ([I 5,I F.B4,I i,I F.Ko,I F.seq]++Jx F.body) 120)).put f (.cells ([I 5,I F.B4,I i,I F.Ko,I F.seq]++Jx l) 120))) fun y=>by
    rw[Al _ (Ne.symm qf),Al _ (Ne.symm qf),Al _ (Ne.symm qf)]
   generalize (((h4.put f (.cells (F.cells.set 0 (.int .i64 5)) 120)).put f (.cells ([I 5,I F.B4,I i,I F.Ko,I F.seq]++Jx F.body) 120)).put f (.cells ([I 5,I F.B4,I i,I F.Ko,I F.seq]++Jx l) 120))=h5 at x5 gf5 gt5 row5 ⊢
   have hb5:=x5.hb hb0
   have w5:(Fr.mk 5 F.B4 i F.Ko F.seq l).Wf:=⟨hl,hu⟩
   rw[Gn gf5 rfl (Ax (Fr.I5 w5))]
   refine Au6 row5 hb5 rfl rfl (Fr.I5 w5) (by omega) (by omega) ?_
   intro h6 row6 n6 c6
   simp only[Acr,I,Ah]
   rw[Cx (by omega) (by omega),show ((i:Nat):Int)+1=((i+1:Nat):Int) by omega]
   have t5:=hb5 _ _ gt5
   have f5:=hb5 _ _ gf5
   refine ih (i+1) h6 _ (h5.next+1) (L++[Fr.mk 5 F.B4 i F.Ko F.seq l]) _ (by omega) (by omega) (by omega) (x5.then c6 fun j hj a=>by omega) (c6.hb hb5) (c6.at hb5 gt5 fun y=>qt y.2.symm) (c6.at hb5 gf5 fun y=>qf y.2.symm) w5 fz fe fs (by rw[List.length_append,hL];rfl) ?_ ?_ (by have:=x5.next;omega) (by omega) (by omega)
   ·intro fr hfr
    rcases List.mem_append.1 hfr with y|y
    ·exact hI fr y
    ·rw[List.mem_singleton]at y
     subst y
     refine⟨w5,?_⟩
     simp only[frB,wi,Bool.and_eq_true,decide_eq_true_eq,fz,fe,fs]
     omega
   ·rw[List.map_append,List.flatten_append,show ([Fr.mk 5 F.B4 i F.Ko F.seq l].map Fr.cells).flatten=(Fr.mk 5 F.B4 i F.Ko F.seq l).cells from List.append_nil _];exact .inl row6
  ·simp only[hlt,decide_false,Ab,U7]
   exact .ret ⟨v,q,L,rfl,by rw[hL];exact row3,lq,by rw[hL];omega,hI,xx.trans x3,hb3⟩
include H
theorem Azp {d:Nat}(hd:7<=d)(hK:1000<K){h:Aa}{b ml ll:Nat}{g:Gm}(hr:rtB g=true)(m:Oi h b ml ll g)(hb:HB h){x y z:Int}{zn:Int}(x0:1<=x)(x1:x<=281474976710655)(y0:1<=y)(y1:y<=4294967295)(z0:1<=z)(z1:z<=281474976710655)(n0:0<=zn)(n1:zn<g.D*g.Z):
 Ok (Ad TT disp K d false 110 [.agg [I x,I y,I z,.ptr b 0],I zn] h) fun w h'=>∃ v q L,w=.tuple [v,I 0]/\Aeq h' v q 120 49 L.length (L.map Fr.cells).flatten/\h.next<=q/\(L.length:Int)=g.parts/\A2x L/\Ext h h'/\HB h':=by
 have s:=Qs hr
 have:=s.b0;have:=s.b1;have:=s.s0;have:=s.d0;have:=s.d1;have:=s.z0;have:=s.z1
 obtain⟨m0,m1⟩:=S7 (a:=g.D) (b:=g.Z) (A:=8) (B:=64) (by omega) (by omega) (by omega) (by omega)
 obtain⟨e,rfl⟩:∃ k,d=k+1:=⟨d-1,by omega⟩
 rw[Akr H (by omega)]
 simp only[Ajy,Ab]
 have w1:Ext h (h.new (.cells [I x,I y,I z,.ptr b 0] 60)):=A1.new _ _
 have g1:(h.new (.cells [I x,I y,I z,.ptr b 0] 60)).get h.next=some (.cells [I x,I y,I z,.ptr b 0] 60):=Ae _ _
 have n1':(h.new (.cells [I x,I y,I z,.ptr b 0] 60)).next=h.next+1:=rfl
 generalize h.new (.cells [I x,I y,I z,.ptr b 0] 60)=h1 at w1 g1 n1' ⊢
 have hb1:=w1.hb hb
 have m1':=m.frame (w1.get _ (hb _ _ m.map) id) (w1.get _ (hb _ _ m.row) id)
 rw[Gf g1 rfl,Ax (n:=4) rfl]
 simp only[Ab]
 refine(Aez (K:=K) H (d:=e) (by omega) hK s m1' hb1 x0 x1 y0 y1 z0 z1).Aj ?_
 rintro _ h2 ⟨rfl,x2,hb2⟩
 have g2:=x2.at hb1 g1
 simp only[Ab,Ah]
 rw[A3 g2 rfl (v:=.ptr b 0) rfl]
 have m2:=m1'.frame (x2.get _ (hb1 _ _ m1'.map) id) (x2.get _ (hb1 _ _ m1'.row) id)
 refine(Up (K:=K) m2 hb2).Aj ?_
 rintro _ h3 ⟨rfl,x3,hb3⟩
 refine(An0 (K:=K) (g:=g) hb3 zn 0).Aj ?_
 rintro _ h4 ⟨rfl,x4⟩
 have hh:Ap9 g zn 0=true:=by
  simp only[Ap9,hr,wi,Bool.true_and,Bool.and_eq_true,decide_eq_true_eq];omega
 rw[hh]
 have hb4:=x4.hb hb3
 simp only[Ab,Vh,Adj]
 have x34:Ext h2 h4:=x3.trans x4
 have g4:=x34.at hb2 g2
 have l4:=hb4 _ _ g4
 have m4:=m2.frame (x34.get _ (hb2 _ _ m2.map) id) (x34.get _ (hb2 _ _ m2.row) id)
 rw[As l4 (by kernel_rfl),A3 g4 rfl (v:=I y) rfl]
 try simp only[Ab,Bh]
 rw[As l4 (by kernel_rfl),A3 g4 rfl (v:=I x) rfl]
 try simp only[Ab,Bh]
 rw[As l4 (by kernel_rfl),Gf g4 rfl,Ax (n:=4) rfl]
 try simp only[Ab,Bh]
 refine Ok.Ct (by kernel_rfl) (by kernel_rfl) (P:=fun v h'=>Agh v/\Ext h4.lift h') ((Apy hK s (m4.frame (Cq _ _) (Cq _ _)) (Fh hb4) (by omega) (by omega)).mono fun _ _ a=>⟨a.1,a.2.1⟩) (fun _ _ p=>p.2) ?_
 rintro _ h5' h5 ⟨⟨l,rfl,hl,hu⟩,_⟩ _ x5
 have hb5:=x5.hb hb4
 have g5:=x5.at hb4 g4
 have w5:(Fr.mk 4 zn 0 y x l).Wf:=⟨hl,hu⟩
 rw[Ca (l:=(Fr.mk 4 zn 0 y x l).cells) ?_]
 ·simp only[Ab,Bh]
  rw[Wd (by kernel_rfl)]
  refine Ok.stW (xs:=(Fr.mk 4 zn 0 y x l).cells) (Ae _ _) (by simp) (Fr.I5 w5) ?_
  have x6:Ext h5 ((h5.new (.cells (List.replicate 5 (EV.int .i64 0)++List.replicate 44 (.int .u8 0)) 120)).put h5.next (.cells (Fr.mk 4 zn 0 y x l).cells 120)):=(A1.new h5 _:Ext _ _).Az (.inr (Nat.le_refl _)) (Nat.lt_succ_self _) _
  have g6:((h5.new (.cells (List.replicate 5 (EV.int .i64 0)++List.replicate 44 (.int .u8 0)) 120)).put h5.next (.cells (Fr.mk 4 zn 0 y x l).cells 120)).get h5.next=some (.cells (Fr.mk 4 zn 0 y x l).cells 120):=Ai _ _ _
  have n6:((h5.new (.cells (List.replicate 5 (EV.int .i64 0)++List.replicate 44 (.int .u8 0)) 120)).put h5.next (.cells (Fr.mk 4 zn 0 y x l).cells 120)).next=h5.next+1:=rfl
  generalize (h5.new (.cells (List.replicate 5 (EV.int .i64 0)++List.replicate 44 (.int .u8 0)) 120)).put h5.next (.cells (Fr.mk 4 zn 0 y x l).cells 120)=h6 at x6 g6 n6 ⊢
  have hb6:=x6.hb hb5
  rw[Gf g6 rfl,Ax (Fr.I5 w5)]
  simp only[Ab]
  rw[Sc (v:=.agg (Fr.mk 4 zn 0 y x l).cells) rfl (by simp) (Fr.I5 w5) (by omega),A0]
  have x7:Ext h6 (h6.new (.cells (Fr.mk 4 zn 0 y x l).cells 120)):=A1.new _ _
  have x16:Ext h h6:=(((w1.trans x2).trans x34).trans x5).trans x6
  have x17:Ext h (h6.new (.cells (Fr.mk 4 zn 0 y x l).cells 120)):=x16.trans x7
  have k1:=(w1.trans x2).next
  have k2:=x34.next
  have k3:=x5.next
  have lg:=hb5 _ _ g5
  refine As8 hK s m hb x0 x1 y0 y1 n0 (by omega) (Nat.le_refl _) (f:=h5.next) (by omega) (by omega) K 1 _ (.slice h6.next 0 1 1 false) h6.next [Fr.mk 4 zn 0 y x l] (Fr.mk 4 zn 0 y x l) (by unfold Gm.parts;omega) (Nat.le_refl _) (by unfold Gm.parts;omega) x17 (x7.hb hb6) (x7.at hb6 (x6.at hb5 g5)) (x7.at hb6 g6) w5 rfl rfl rfl rfl ?_ (.inr ⟨rfl,rfl,?_,?_⟩) (by omega) (by omega) (by omega)
  ·intro fr hfr
   rw[List.mem_singleton]at hfr
   subst hfr
   refine⟨w5,?_⟩
   simp only[frB,wi,Bool.and_eq_true,decide_eq_true_eq]
   omega
  ·rw[show ([Fr.mk 4 zn 0 y x l].map Fr.cells).flatten=(Fr.mk 4 zn 0 y x l).cells from List.append_nil _];exact Ae _ _
  ·rw[show ([Fr.mk 4 zn 0 y x l].map Fr.cells).flatten=(Fr.mk 4 zn 0 y x l).cells from List.append_nil _];exact Fr.I5 w5
 ·exact A43 hl
end
end Go.Ev

namespace Go.Ev
open Go.Proofs
set_option maxRecDepth 100000
variable {K:Nat}{disp:Nat->Option FT}
def Av8(X:List (List EV)):Prop:=∀ x ∈ X,x.length=64/\U8 x
theorem Aeq.ix {h:Aa}{s:EV}{q:Nat}{e:TypeId}{sz len:Nat}{l:List EV}(r:Aeq h s q e sz len l){j:Nat}(hj:j<len)(k:EV->R):Ib sz s (I j) k=k (.ptr q (j*sz)):=by
 rcases r with r|⟨rfl,rfl,c,d⟩
 ·exact r.ix hj .i64 k
 ·unfold I;rw[Sw hj,Nat.zero_add]
theorem Aeq.ldN {h:Aa}{s:EV}{q:Nat}{e:TypeId}{sz len n:Nat}{l x:List EV}(r:Aeq h s q e sz len l)(hl:0<len){o:Nat}(hx:Na l o n=some x)(k:EV->R):Ck n (.ptr q o) h k=k (.agg x):=by
 rcases r with r|⟨rfl,rfl,c,d⟩
 ·exact Gn (r.block hl) rfl hx
 ·exact Gn c rfl hx
theorem Aeq.H8 {h:Aa}{s:EV}{q:Nat}{e:TypeId}{sz len:Nat}{l:List EV}(r:Aeq h s q e sz len l)(k:EV->R):Ev.H8 s k=k (I len):=by
 rcases r with r|⟨rfl,rfl,c,d⟩
 ·exact r.H8 k
 ·rfl
theorem A6b {L:List Fr}(hI:A2x L){i:Nat}{f:Fr}(hf:L[i]? = some f):Na (L.map Fr.cells).flatten (i*49) 49=some f.cells:=
 Af3 (n:=49) _ _ _ (fun x hx=>by obtain⟨f,hf,rfl⟩:=List.mem_map.1 hx;exact Fr.I5 (hI f hf).1) (by rw[List.getElem?_map,hf];rfl)
theorem Apn(hK:10000<K){c r:Ac}{h0:Aa}{v3 qf:Nat}{fv:EV}{L:List Fr}(hI:A2x L)(hL:L.length<=200)(l3:h0.next<=v3)(lq:h0.next<=qf):
 ∀ (n i:Nat) (h:Aa) (v:EV) (q:Nat) (X:List (List EV)),L.length-i<n->i<=L.length->Ext h0 h->HB h0->HB h->h.get v3=some (.cells Bc 72)->Aeq h fv qf 120 49 L.length (L.map Fr.cells).flatten->X.length=i->Av8 X->Bz h v q 103 64 i X.flatten->(0<i->h0.next<=q/\q ≠ qf/\q ≠ v3) ->
 Ok (Ge c r K n (.ptr v3 0) v fv (I L.length) (I i) h) fun w h'=>∃ v q X,w=.tuple [v,I 0]/\Bz h' v q 103 64 X.length X.flatten/\(0<X.length->h0.next<=q)/\X.length=L.length/\Av8 X/\Ext h0 h'/\HB h':=by
 intro n
 induction n with
 | zero=>intro i h v q X hn;omega
 | succ n ih=>
  intro i h v q X hn hi xx hb0 hb gv rf hX hS row hq
  rw[Ge]
  simp only[I,Ah]
  by_cases hlt:i<L.length
  ·have:decide ((i:Int)<(L.length:Int))=true:=by simp;omega
   simp only[this,Ab,Aar]
   have w:(L[i]).Wf:=(hI _ (List.getElem_mem hlt)).1
   have fr:=(hI _ (List.getElem_mem hlt)).2
   have e1:=A6b hI (List.getElem?_eq_getElem hlt)
   have ix:=rf.ix hlt
   simp only[I]at ix
   rw[ix,rf.ldN (by omega) e1]
   generalize L[i]=f at w fr e1 ⊢
   try simp only[Ab]
   refine Ok.stW (Ae _ _) (by simp) (Fr.I5 w) ?_
   have x2:Ext h ((h.new (.cells (List.replicate 5 (EV.int .i64 0)++List.replicate 44 (.int .u8 0)) 120)).put h.next (.cells f.cells 120)):=(A1.new h _:Ext _ _).Az (.inr (Nat.le_refl _)) (Nat.lt_succ_self _) _
   have g2:((h.new (.cells (List.replicate 5 (EV.int .i64 0)++List.replicate 44 (.int .u8 0)) 120)).put h.next (.cells f.cells 120)).get h.next=some (.cells f.cells 120):=Ai _ _ _
   generalize (h.new (.cells (List.replicate 5 (EV.int .i64 0)++List.replicate 44 (.int .u8 0)) 120)).put h.next (.cells f.cells 120)=h2 at x2 g2 ⊢
   have hb2:=x2.hb hb
   rw[Gf (x2.at hb gv) rfl,Ax (n:=256) Ru]
   simp only[Ab]
   rw[Gn g2 rfl (Ax (Fr.I5 w))]
   refine(Akl w fr hb2 hK).Aj ?_
   rintro _ h3 ⟨rfl,x3⟩
   have hb3:=x3.hb hb2
   simp only[Ab]
   refine Ok.stW (Ae _ _) (by simp) (by rw[F2,Am9 w]) ?_
   have x4:Ext h3 ((h3.new (.cells (List.replicate 64 (EV.int .u8 0)) 103)).put h3.next (.cells (Jx (V8 f)) 103)):=(A1.new h3 _:Ext _ _).Az (.inr (Nat.le_refl _)) (Nat.lt_succ_self _) _
   have g4:((h3.new (.cells (List.replicate 64 (EV.int .u8 0)) 103)).put h3.next (.cells (Jx (V8 f)) 103)).get h3.next=some (.cells (Jx (V8 f)) 103):=Ai _ _ _
   generalize (h3.new (.cells (List.replicate 64 (EV.int .u8 0)) 103)).put h3.next (.cells (Jx (V8 f)) 103)=h4 at x4 g4 ⊢
   have hb4:=x4.hb hb3
   have x24:Ext h h4:=(x2.trans x3).trans x4
   have el:(Jx (V8 f)).length=64:=by rw[F2,Am9 w]
   simp only[I,Ah,not_true_eq_false,decide_false,Ab,Aal]
   rw[Gn g4 rfl (Ax el)]
   have row4:=row.frame (h':=h4) fun y=>x24.get _ (hb _ _ (row.block y)) id
   refine Ml row4 hb4 rfl (by simp) el (by omega) (by omega) ?_
   intro h5 row5 n5 c5
   simp only[Aao,Ah]
   rw[Cx (by omega) (by omega),show ((i:Nat):Int)+1=((i+1:Nat):Int) by omega]
   have lv:=hb _ _ gv
   have lqf:=rf.lt hb (by omega)
   have nx:=x24.next
   have c:A1 (fun j=>0<i/\j=q) h h5:=(Ext.to x24).trans c5
   refine ih (i+1) h5 _ (h4.next+1) (X++[Jx (V8 f)]) (by omega) (by omega) (xx.then c fun j hj a=>?_) hb0 (c5.hb hb4) (c.at hb gv fun y=>(hq y.1).2.2 y.2.symm) (rf.frame fun _=>c.get _ lqf fun y=>(hq y.1).2.1 y.2.symm) (by rw[List.length_append,hX];rfl) ?_ ?_ (fun _=>⟨by have:=xx.next;omega,by omega,by omega⟩)
   ·have:=(hq hj.1).1
    have:=hj.2
    omega
   ·intro x hx
    rcases List.mem_append.1 hx with y|y
    ·exact hS x y
    ·rw[List.mem_singleton]at y
     subst y
     exact⟨el,_,A5h w,rfl⟩
   ·rw[List.flatten_append,show ([Jx (V8 f)]).flatten=Jx (V8 f) from List.append_nil _];exact row5
  ·have:i=L.length:=by omega
   subst this
   have:decide ((L.length:Int)<(L.length:Int))=false:=by simp
   simp only[this,Ab,S9]
   exact .ret ⟨v,q,X,rfl,by rw[hX];exact row,fun y=>(hq (by omega)).1,hX,hS,xx,hb⟩
section
variable (H:An disp)
include H
theorem Avu {d:Nat}(hd:8<=d)(hK:10000<K){h:Aa}{b ml ll:Nat}{g:Gm}(hr:rtB g=true)(m:Oi h b ml ll g)(hb:HB h){x y z:Int}{zn:Int}(x0:1<=x)(x1:x<=281474976710655)(y0:1<=y)(y1:y<=4294967295)(z0:1<=z)(z1:z<=281474976710655)(n0:0<=zn)(n1:zn<g.D*g.Z):
 Ok (Ad TT disp K d false 162 [Ug,.agg [I x,I y,I z,.ptr b 0],I zn] h) fun w h'=>∃ v q X,w=.tuple [v,I 0]/\Bz h' v q 103 64 X.length X.flatten/\(0<X.length->h.next<=q)/\(X.length:Int)=g.parts/\Av8 X/\Ext h h'/\HB h':=by
 have s:=Qs hr
 have:=s.b0;have:=s.b1
 obtain⟨e,rfl⟩:∃ k,d=k+1:=⟨d-1,by omega⟩
 rw[Ai5 H (by omega)]
 simp only[Agv,Ug,Ab]
 have w1:Ext h ((h.new (.cells Bc 72)).new (.cells [I x,I y,I z,.ptr b 0] 60)):=(A1.new _ _).Gg _
 have c1:((h.new (.cells Bc 72)).new (.cells [I x,I y,I z,.ptr b 0] 60)).get h.next=some (.cells Bc 72):=by rw[Bj _ (Nat.lt_succ_self _)];exact Ae _ _
 have g1:((h.new (.cells Bc 72)).new (.cells [I x,I y,I z,.ptr b 0] 60)).get (h.next+1)=some (.cells [I x,I y,I z,.ptr b 0] 60):=Ae _ _
 have n1':((h.new (.cells Bc 72)).new (.cells [I x,I y,I z,.ptr b 0] 60)).next=h.next+2:=rfl
 rw[show (h.new (.cells Bc 72)).next=h.next+1 from rfl]
 generalize (h.new (.cells Bc 72)).new (.cells [I x,I y,I z,.ptr b 0] 60)=h1 at w1 c1 g1 n1' ⊢
 have hb1:=w1.hb hb
 rw[Gf g1 rfl,Ax (n:=4) rfl]
 simp only[Ab]
 refine(Azp (K:=K) H (d:=e) (by omega) (by omega) hr (m.frame (w1.get _ (hb _ _ m.map) id) (w1.get _ (hb _ _ m.row) id)) hb1 x0 x1 y0 y1 z0 z1 n0 n1).Aj ?_
 rintro _ h2 ⟨v,q,L,rfl,row,lq,hL,hI,x2,hb2⟩
 simp only[Ab,I,Ah,not_true_eq_false,decide_false,Aam]
 rw[row.H8]
 have hp:g.parts<=200:=by unfold Gm.parts;omega
 have x12:Ext h h2:=w1.trans x2
 refine(Apn hK hI (by omega) (Nat.le_refl h.next) (by have:=w1.next;omega) K 0 h2 _ 0 [] (by omega) (by omega) x12 hb hb2 (x2.at hb1 c1) row rfl (fun x hx=>by cases hx) (Bz.nil _ _ _ _) (fun y=>absurd y (Nat.lt_irrefl _))).mono ?_
 rintro _ h3 ⟨v',q',X,rfl,row',lq',hX,hS,xx,hb3⟩
 exact⟨v',q',X,rfl,row',lq',by rw[hX];exact hL,hS,xx,hb3⟩
end
end Go.Ev

namespace Go.Ev
open Go.Proofs
set_option maxRecDepth 100000
variable {K:Nat}{disp:Nat->Option FT}
structure Aev(S:I8)(size n:Nat)(o:Int)(k:Nat):Prop where
 ev:S.ev = []
 up:S.dv.down=false
 cnt:S.dv.n=n
 sz:S.dv.size=size
 op:4<=S.dv.op
 zs:∀ i:Nat,i<n->(i:Int) ≠ o->((S.dv.zs i).st=0/\(S.dv.zs i).l = [])\/(S.dv.zs i).st=2
 here:0<=o->(S.dv.zs o.toNat).l.length=k/\(S.dv.zs o.toNat).st=if k=size then 2 else if k=0 then 0 else 1
def Ack(S:I8)(size n:Nat):Prop:=Aev S size n (-1) 0
theorem Ab8 {S:I8}{size n:Nat}{o:Int}{k:Nat}(c:Aev S size n o k){z:Int}(h0:0<=z)(h1:z<n):S.dv.has z=true:=by
 unfold Dv.has;rw[c.cnt];exact decide_eq_true ⟨h0,h1⟩
theorem At7 {S:I8}{size n:Nat}(c:Ack S size n)(hs:0<size){z:Int}(h0:0<=z)(h1:z<n):(S.reset z).2=0/\Aev (S.reset z).1 size n z 0:=by
 have hh:=Ab8 c h0 h1
 have be:=Aby c.up hh
 have hn:z.toNat<n:=by omega
 have hz:=c.zs z.toNat hn (by omega)
 have hf:Ht (S.dv.zs z.toNat).st=0:=by
  rcases hz with ⟨y,_⟩|y <;> rw[y] <;> rfl
 unfold I8.reset
 rw[Yv c.ev]
 unfold Dv.reset
 rw[if_neg (by rw[be];exact fun y=>y rfl),if_pos hf,hf]
 refine⟨rfl,c.ev,c.up,c.cnt,c.sz,c.op,fun i hi ho=>?_,fun _=>?_⟩
 ·have e:((S.dv.tick.set z.toNat Zn.empty).zs i)=S.dv.zs i:=by
   show N9 S.dv.zs z.toNat Zn.empty i=_
   unfold N9;rw[if_neg (by omega)]
  show ((S.dv.tick.set z.toNat Zn.empty).zs i).st=0/\_\/_
  rw[e];exact c.zs i hi (by omega)
 ·have e:((S.dv.tick.set z.toNat Zn.empty).zs z.toNat)=Zn.empty:=by
   show N9 S.dv.zs z.toNat Zn.empty z.toNat=_
   unfold N9;rw[if_pos rfl]
  show ((S.dv.tick.set z.toNat Zn.empty).zs z.toNat).l.length=0/\((S.dv.tick.set z.toNat Zn.empty).zs z.toNat).st=_
  rw[e]
  refine⟨rfl,?_⟩
  rw[if_neg (by omega),if_pos rfl];rfl
theorem Avg {S:I8}{size n:Nat}(c:Ack S size n)(hs:0<size){z:Int}(h0:0<=z)(h1:z<n)(he:(S.dv.zs z.toNat).st=0):Aev S size n z 0:=by
 refine⟨c.ev,c.up,c.cnt,c.sz,c.op,fun i hi ho=>c.zs i hi (by omega),fun _=>?_⟩
 rcases c.zs z.toNat (by omega) (by omega) with y|y
 ·rw[y.2,y.1]
  refine⟨rfl,?_⟩
  rw[if_neg (by omega),if_pos rfl]
 ·rw[he]at y;cases y
theorem Asm {S:I8}{size n k:Nat}{z:Int}(c:Aev S size n z k)(h0:0<=z)(h1:z<n)(hk:k<size)(x:List EV):(S.append z x).2=((k:Int),0)/\Aev (S.append z x).1 size n z (k+1):=by
 have hh:=Ab8 c h0 h1
 obtain⟨hl,hst⟩:=c.here h0
 have h2:(S.dv.zs z.toNat).st<2:=by rw[hst,if_neg (by omega)];split <;> omega
 have ho:¬ S.dv.op<=Pg S.dv.zs S.dv.n:=by
  have:=Ao5 (a:=z.toNat) (b:=S.dv.n) S.dv.n (zs:=S.dv.zs) fun i hi y=>by
   by_cases e:(i:Int)=z
   ·exact .inl (by omega)
   ·rcases c.zs i (by rw[<-c.cnt];exact hi) e with w|w
    ·rw[w.1]at y;cases y
    ·rw[w]at y;cases y
  have op:=c.op
  rw[if_neg (Nat.lt_irrefl _)]at this
  split at this <;> omega
 unfold I8.append
 rw[Yv c.ev,Arv c.up hh h2 ho]
 have e1:∀ i:Nat,(i:Int) ≠ z->((S.dv.tick.set z.toNat ((S.dv.zs z.toNat).app S.dv.size x)).zs i)=S.dv.zs i:=fun i hi=>by
  show N9 S.dv.zs z.toNat _ i=_
  unfold N9;rw[if_neg (by omega)]
 have e2:((S.dv.tick.set z.toNat ((S.dv.zs z.toNat).app S.dv.size x)).zs z.toNat)=(S.dv.zs z.toNat).app S.dv.size x:=by
  show N9 S.dv.zs z.toNat _ z.toNat=_
  unfold N9;rw[if_pos rfl]
 refine⟨by rw[hl],c.ev,c.up,c.cnt,c.sz,c.op,fun i hi hne=>?_,fun _=>?_⟩
 ·show ((S.dv.tick.set z.toNat ((S.dv.zs z.toNat).app S.dv.size x)).zs i).st=0/\_\/_
  rw[e1 i hne];exact c.zs i hi hne
 ·show ((S.dv.tick.set z.toNat ((S.dv.zs z.toNat).app S.dv.size x)).zs z.toNat).l.length=k+1/\((S.dv.tick.set z.toNat ((S.dv.zs z.toNat).app S.dv.size x)).zs z.toNat).st=_
  rw[e2]
  unfold Zn.app
  refine⟨by simp[hl],?_⟩
  show (if (S.dv.zs z.toNat).l.length+1=S.dv.size then 2 else 1)=_
  rw[hl,c.sz]
  split
  ·rfl
  ·rw[if_neg (by omega)]
theorem A0d {S:I8}{size n k:Nat}{z:Int}(c:Aev S size n z k)(h0:0<=z)(hs:(S.dv.zs z.toNat).st=2):Ack S size n:=by
 refine⟨c.ev,c.up,c.cnt,c.sz,c.op,fun i hi _=>?_,fun y=>by omega⟩
 by_cases e:(i:Int)=z
 ·subst e;exact .inr hs
 ·exact c.zs i hi e
theorem Ar0 {S:I8}{size n k:Nat}{z:Int}(c:Aev S size n z k)(h0:0<=z)(h1:z<n):(S.finish z).2=0/\Ack (S.finish z).1 size n:=by
 have hh:=Ab8 c h0 h1
 have be:=Aby c.up hh
 obtain⟨hl,hst⟩:=c.here h0
 have hf:Ht (S.dv.zs z.toNat).st=0:=by
  rw[hst]
  split
  ·rfl
  ·split <;> rfl
 unfold I8.finish
 rw[Yv c.ev]
 unfold Dv.finish
 rw[if_neg (by rw[be];exact fun y=>y rfl),if_pos hf,hf]
 refine⟨rfl,c.ev,c.up,c.cnt,c.sz,c.op,fun i hi _=>?_,fun y=>by omega⟩
 show ((S.dv.tick.set z.toNat (S.dv.zs z.toNat).finish).zs i).st=0/\_\/_
 by_cases e:(i:Int)=z
 ·right
  have e2:((S.dv.tick.set z.toNat (S.dv.zs z.toNat).finish).zs i)=(S.dv.zs z.toNat).finish:=by
   show N9 S.dv.zs z.toNat _ i=_
   unfold N9;rw[if_pos (by omega)]
  show ((S.dv.tick.set z.toNat (S.dv.zs z.toNat).finish).zs i).st=2
  rw[e2];rfl
 ·have e1:((S.dv.tick.set z.toNat (S.dv.zs z.toNat).finish).zs i)=S.dv.zs i:=by
   show N9 S.dv.zs z.toNat _ i=_
   unfold N9;rw[if_neg (by omega)]
  rw[e1];exact c.zs i hi e
theorem Au7 {S:I8}{size n:Nat}(c:Ack S size n):S.flush.2=0/\Ack S.flush.1 size n:=by
 have hd:S.due=S:=by unfold I8.due;rw[c.ev];unfold Aq9;rw[<-c.ev]
 unfold I8.flush
 rw[hd]
 unfold Dv.flush
 rw[if_neg (show ¬ S.dv.down=true by rw[c.up];decide)]
 exact⟨rfl,c.ev,c.up,c.cnt,c.sz,c.op,fun i hi y=>c.zs i hi y,fun y=>by omega⟩
structure A53(disp:Nat->Option FT)(K:Nat)(h:Aa)(m:Nat)(S:Mi)(F:Nat->Prop)(D V:Nat):Prop where
 Cz:∀ k:EV->Aa->R,Aj (Bx K (.ptr m 0) h) k=k (.ptr D 0) h
 A56:Bx K (.ptr m 0) h.lift=some (.ptr D 0,h.lift)
 table:Ok (Gb K (.ptr m 0) h.lift) fun v h'=>v=Ug/\Ext h.lift h'
 device:∀ k:EV->Aa->R,Aj (Cw K (.ptr D 0) h) k=k (.ptr V 0) h
 state:∀ (i:Int) (k:EV->Aa->R),Aj (F4 K (.ptr V 0) (I i) h) k=k (I (if S.dr.dv.has i=true then (S.dr.dv.zs i.toNat).st else 4)) h
 reset:∀ {d:Nat},14<=d->∀ i:Int,0<(S.dr.begin i).dv.size->Ok (Ad TT disp K d false 202 [.ptr D 0,I i] h) fun v h'=>v=I (S.dr.reset i).2/\Er h' m { S with dr:=(S.dr.reset i).1 } F/\Kf F h h'/\HB h'
 finish:∀ {d:Nat},14<=d->∀ i:Int,Ok (Ad TT disp K d false 165 [.ptr D 0,I i] h) fun v h'=>v=I (S.dr.finish i).2/\Er h' m { S with dr:=(S.dr.finish i).1 } F/\Kf F h h'/\HB h'
 flush:∀ {d:Nat},14<=d->Ok (Ad TT disp K d false 67 [.ptr D 0] h) fun v h'=>v=I S.dr.flush.2/\Er h' m { S with dr:=S.dr.flush.1 } F/\Kf F h h'/\HB h'
 append:∀ {d:Nat},14<=d->∀ (z:Int) {x:List EV},x.length=64->U8 x->∀ {i b:Nat} {s:DX} {k:EV->Aa->DX->R} {Q:EV->Aa->Prop},Q5 b s=true->loose b s.nw = []->(∀ w,Qg b w s.Cl=true) ->
  (∀ h' s',Er h' m { S with dr:=(S.dr.append z x).1 } F->Kf F h h'->HB h'->Ok (k (.tuple [I (S.dr.append z x).2.1,I (S.dr.append z x).2.2]) h' s') Q)->Ok (Ev.Ct i b s h (fun h=>Ad TT disp K d false 164 [.ptr D 0,I z,.agg x] h) k) Q
theorem Ah1(A:An disp)(hK:10000<K){h:Aa}{m:Nat}{S:Mi}{F:Nat->Prop}(M:Er h m S F)(hb:HB h):∃ D V,A53 disp K h m S F D V:=by
 obtain⟨lt,D,p,bl,ql,np,q,c,G,a⟩:=M.s
 obtain⟨V,M',qc,qh,cs,hs,ms,F',b⟩:=a.drv.Q0
 have due:As5 disp K S.dr:=A0m A (by omega) S.dr
 have mL:=a.Pp.ext (h':=h.lift) fun i o g=>by rw[Cq];exact g
 refine⟨D,V,⟨fun k=>by rw[Aaj a.Pp,A0],Aaj mL,Akp mL (Fh hb),fun k=>by rw[Anq b,A0],fun i k=>by rw[Aqt b.dev,A0],?_,?_,?_,?_⟩⟩
 ·intro d hd i hs
  refine(Aqe A (by omega) hd due a.drv hb i hs).mono ?_
  rintro _ h' ⟨rfl,s2,c2,hb2⟩
  obtain⟨M2,k2⟩:=M.drv hb a s2 c2
  exact⟨rfl,M2,k2,hb2⟩
 ·intro d hd i
  refine(Ae7 A hd due a.drv hb i).mono ?_
  rintro _ h' ⟨rfl,s2,c2,hb2⟩
  obtain⟨M2,k2⟩:=M.drv hb a s2 c2
  exact⟨rfl,M2,k2,hb2⟩
 ·intro d hd
  refine(Aqm A (by omega) hd due a.drv hb).mono ?_
  rintro _ h' ⟨rfl,s2,c2,hb2⟩
  obtain⟨M2,k2⟩:=M.drv hb a s2 c2
  exact⟨rfl,M2,k2,hb2⟩
 ·intro d hd z x hx hu i b' s k Q b0 b1 b2 hk
  refine Ok.Aqi (S:=G) b0 b1 b2 (Anj (K:=K) A (by omega) (d:=d) hd due a.drv.lift (Fh hb) z hx hu) (fun _ _ p=>p.2.2.1) ?_
  rintro _ h6 h7 s' ⟨rfl,d6,_,hb6⟩ sm c7 _
  obtain⟨M7,k7⟩:=M.drv hb a (d6.same sm) c7
  exact hk h7 s' M7 k7 (sm.hb hb6)
end Go.Ev

namespace Go.Ev
open Go.Proofs
set_option maxRecDepth 100000
variable {K:Nat}{disp:Nat->Option FT}
def Pz(m:Nat)(cur B2:Nat->Int):List EV:=[.ptr m 0,I (cur 0),I (B2 0),I (cur 1),I (B2 1),I (cur 2),I (B2 2)]
section
variable (A:An disp)(hK:10000<K){h:Aa}{ar m:Nat}{cur B2:Nat->Int}{S:Mi}{F:Nat->Prop}(M:Er h m S F)(hb:HB h)(hA:h.get ar=some (.cells (Pz m cur B2) 147))(fA:F ar){size n:Nat}(hs:0<size){z:Int}(h0:0<=z)(h1:z<n)
include A hK M hb hA hs h0 h1
theorem A0x {d:Nat}(hd:15<=d)(c:Ack S.dr size n):Ok (Ad TT disp K d false 163 [.ptr ar 0,I z] h) fun v h'=>v=I 0/\(∃ D',Er h' m { S with dr:=D' } F/\Aev D' size n z 0)/\Kf F h h'/\HB h':=by
 obtain⟨e,rfl⟩:∃ k,d=k+1:=⟨d-1,by omega⟩
 rw[Ab7 A (by omega)]
 simp only[Xw,Ab]
 rw[A3 hA rfl (v:=.ptr m 0) rfl]
 obtain⟨D,V,dr⟩:=Ah1 A hK M hb
 rw[dr.Cz,dr.device,dr.state,if_pos (Ab8 c h0 h1)]
 simp only[I,Ah]
 by_cases hz:(S.dr.dv.zs z.toNat).st=0
 ·rw[hz]
  simp only[show decide (((0:Nat):Int)=0)=true from rfl,Ab]
  exact .ret ⟨rfl,⟨S.dr,M,Avg c hs h0 h1 hz⟩,A1.refl _,hb⟩
 ·rw[decide_eq_false (by omega)]
  simp only[Ab,Tm]
  rw[A3 hA rfl (v:=.ptr m 0) rfl,dr.Cz]
  obtain⟨r1,r2⟩:=At7 c hs h0 h1
  have bs:(S.dr.begin z).dv.size=size:=by rw[Yv c.ev];exact c.sz
  refine(dr.reset (d:=e) (by omega) z (by rw[bs];exact hs)).Aj ?_
  rintro _ h' ⟨rfl,M2,k2,hb2⟩
  rw[r1]
  exact .ret ⟨rfl,⟨_,M2,r2⟩,k2,hb2⟩
omit hA hs h0 h1 hb M in
theorem Ayz {d:Nat}(hd:14<=d){X:List (List EV)}(hX:Av8 X)(hXs:X.length<=size)(hx0:0<X.length)(hsz:size<=64){v:EV}{q:Nat}(h0:0<=z)(h1:z<n):∀ (f i:Nat) (h:Aa) (S:Mi),X.length-i<f->i<=X.length->Er h m S F->HB h->h.get ar=some (.cells (Pz m cur B2) 147)->F ar->F q->Bz h v q 103 64 X.length X.flatten->Aev S.dr size n z i ->
 Ok (Ek (Ad TT disp K d false) (Ad TT disp K d true) K f (.ptr ar 0) (I z) v (I X.length) (I i) h) fun w h'=>w=I 0/\(∃ D',Er h' m { S with dr:=D' } F/\Ack D' size n)/\Kf F h h'/\HB h':=by
 intro f
 induction f with
 | zero=>intro i h S hf;omega
 | succ f ih=>
  intro i h S hf hi M hb hA fA fq row c
  rw[Ek]
  simp only[I,Ah]
  by_cases hlt:i<X.length
  ·have:decide ((i:Int)<(X.length:Int))=true:=by simp;omega
   simp only[this,Ab,Vm]
   obtain⟨xl,xu⟩:=hX _ (List.getElem_mem hlt)
   have e1:Na X.flatten (i*64) 64=some X[i]:=Af3 (n:=64) _ _ _ (fun x hx=>(hX x hx).1) (List.getElem?_eq_getElem hlt)
   have ix:=row.ix hlt .i64
   rw[ix,Gn (row.block (by omega)) rfl e1]
   generalize X[i]=x at xl xu
   try simp only[Ab]
   refine Ok.stW (Ae _ _) (by simp) xl ?_
   have x2:Ext h ((h.new (.cells (List.replicate 64 (EV.int .u8 0)) 103)).put h.next (.cells x 103)):=(A1.new h _:Ext _ _).Az (.inr (Nat.le_refl _)) (Nat.lt_succ_self _) _
   have g2:((h.new (.cells (List.replicate 64 (EV.int .u8 0)) 103)).put h.next (.cells x 103)).get h.next=some (.cells x 103):=Ai _ _ _
   generalize (h.new (.cells (List.replicate 64 (EV.int .u8 0)) 103)).put h.next (.cells x 103)=h2 at x2 g2 ⊢
   have hb2:=x2.hb hb
   have hA2:=x2.at hb hA
   have M2:=(M.ext hb x2).less fun j (hj:F j)=>Or.inl hj
   have l2:=hb2 _ _ hA2
   have l3:=hb2 _ _ g2
   obtain⟨D,V,dr⟩:=Ah1 A hK M2 hb2
   rw[As l2 (by kernel_rfl),A3 hA2 rfl (v:=.ptr m 0) rfl]
   try simp only[Ab,Bh]
   rw[Nq (by kernel_rfl) (by kernel_rfl) dr.A56]
   try simp only[Ab,Bh]
   rw[As l3 (by kernel_rfl),Gn g2 rfl (Ax xl)]
   try simp only[Ab,Bh]
   obtain⟨r1,r2⟩:=Asm c h0 h1 (by omega) x
   refine dr.append hd z xl xu (by kernel_rfl) (by kernel_rfl) (fun _=>by kernel_rfl) ?_
   intro h4 s4 M4 k4 hb4
   rw[r1]
   simp only[Ab,I,Ah,decide_true,not_true_eq_false,decide_false,O0,O5,V1]
   rw[Cx (by omega) (by omega),show ((i:Nat):Int)+1=((i+1:Nat):Int) by omega]
   have k24:Kf F h h4:=(Ext.kf x2).trans k4
   refine(ih (i+1) h4 _ (by omega) (by omega) M4 hb4 (k24.at hb hA fA) fA fq (row.frame fun y=>k24.get _ (hb _ _ (row.block y)) fun y=>y fq) r2).mono ?_
   rintro _ h5 ⟨rfl,⟨D',M5,c5⟩,k5,hb5⟩
   exact⟨rfl,⟨D',M5,c5⟩,k24.trans k5,hb5⟩
  ·have:i=X.length:=by omega
   subst this
   have:decide ((X.length:Int)<(X.length:Int))=false:=by simp
   simp only[this,Ab,O1]
   rw[A3 hA rfl (v:=.ptr m 0) rfl]
   obtain⟨D,V,dr⟩:=Ah1 A hK M hb
   rw[dr.Cz,dr.device]
   have st:=dr.state z
   simp only[I]at st
   rw[st,if_pos (Ab8 c h0 h1)]
   simp only[I,Ah]
   by_cases hz:(S.dr.dv.zs z.toNat).st=2
   ·rw[hz]
    simp only[show decide (((2:Nat):Int)=2)=true from rfl,Ab]
    exact .ret ⟨rfl,⟨S.dr,M,A0d c h0 hz⟩,A1.refl _,hb⟩
   ·rw[decide_eq_false (by omega)]
    simp only[Ab,Uw]
    rw[A3 hA rfl (v:=.ptr m 0) rfl,dr.Cz]
    obtain⟨r1,r2⟩:=Ar0 c h0 h1
    refine(dr.finish (d:=d) hd z).Aj ?_
    rintro _ h' ⟨rfl,M2,k2,hb2⟩
    rw[r1]
    exact .ret ⟨rfl,⟨_,M2,r2⟩,k2,hb2⟩
end
end Go.Ev
