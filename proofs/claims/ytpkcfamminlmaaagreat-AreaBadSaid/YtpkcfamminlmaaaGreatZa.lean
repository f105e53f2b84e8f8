import Derived.Test.YtpkcfamminlmaaaGreatYa
import Derived.Test.YtpkcfamminlmaaaGreatXc
import Derived.Test.YtpkcfamminlmaaaGreatXb
set_option linter.unusedVariables false
set_option linter.unusedSimpArgs false
set_option linter.unusedSectionVars false
namespace Go.Ev
open Go.Proofs
set_option maxRecDepth 100000
variable {K:Nat}
def Ap9(g:Gm)(z off:Int):Bool:=rtB g && (wi z 0 (g.D*g.Z-1) && wi off 0 (g.S-1))
theorem An0 {g:Gm}{h:Aa}(hb:HB h)(z off:Int):Ok (Ld K (gV g) (I z) (I off) h) fun v h'=>v=.bool (Ap9 g z off)/\Ext h h':=by
 simp only[Ld,gV,Ab]
 have x1:Ext h (h.new (.cells (gL g) 23)):=A1.new _ _
 have g1:(h.new (.cells (gL g) 23)).get h.next=some (.cells (gL g) 23):=Ae _ _
 generalize h.new (.cells (gL g) 23)=h1 at x1 g1 ⊢
 have hb1:=x1.hb hb
 rw[Gf g1 rfl,Ax (show (gL g).length=6 from rfl)]
 simp only[Ue]
 rw[show EV.agg (gL g)=gV g from rfl]
 refine(Rt (K:=K) g h1).Aj ?_
 rintro _ h2 ⟨rfl,x2⟩
 have hb2:=x2.hb hb1
 have g2:=x2.at hb1 g1
 unfold Ap9
 cases hr:rtB g with
 | false=>
  simp only[Ab,Ah,Ip,Io,Bool.false_and]
  exact .ret ⟨rfl,x1.trans x2⟩
 | true=>
  have s:=Qs hr
  have:=s.d0;have:=s.d1;have:=s.z0;have:=s.z1;have:=s.s0;have:=s.s1
  obtain⟨m0,m1⟩:=S7 (a:=g.D) (b:=g.Z) (A:=8) (B:=64) (by omega) (by omega) (by omega) (by omega)
  simp only[Ab,Ah,Bool.true_and]
  rw[Gf g2 rfl,Ax (show (gL g).length=6 from rfl)]
  simp only[Ue]
  rw[show EV.agg (gL g)=gV g from rfl,R5 s,A0]
  have x3:Ext h2 (h2.new (.cells (gL g) 23)):=A1.new _ _
  have g3:=x3.at hb2 g2
  generalize h2.new (.cells (gL g) 23)=h3 at x3 g3 ⊢
  simp only[I,Ah]
  rw[Cx (by omega) (by omega)]
  have w1:=Vt (K:=K) z 0 (g.D*g.Z-1) h3
  simp only[I]at w1
  rw[w1,A0]
  cases wi z 0 (g.D*g.Z-1) with
  | false=>
   simp only[Ab,Ah,Ip,Io,Bool.false_and]
   exact .ret ⟨rfl,(x1.trans x2).trans x3⟩
  | true=>
   simp only[Ab,Ah,Ip]
   rw[Cl g3 rfl,show (gL g)[2]? = some (I g.S) from rfl]
   simp only[Ue,I,Ah]
   rw[Cx (by omega) (by omega)]
   have w2:=Vt (K:=K) off 0 (g.S-1) h3
   simp only[I]at w2
   rw[w2,A0]
   simp only[Io,Ab,Bool.true_and]
   exact .ret ⟨rfl,(x1.trans x2).trans x3⟩
end Go.Ev

namespace Go.Ev
open Go.Proofs
set_option maxRecDepth 100000
variable {K:Nat}
structure Me where
 state:Int
 B4:Int
 A51:Int
 off:Int
 seq:Int
 sum:Int
def Me.cells(m:Me):List EV:=[I m.state,I m.B4,I m.A51,I m.off,I m.seq,I m.sum]
def Rng(z:Int):Prop:=-9223372036854775808<=z/\z<=9223372036854775807
end Go.Ev

namespace Go.Ev
open Go.Proofs
set_option maxRecDepth 100000
variable {K:Nat}
structure Mi where
 g:Gm
 dr:I8
 ps:Nat->List Int
 bad:Nat->Int
 a:Int
 b:Int
 u:Int
structure Agj(h:Aa)(m D p bl ql np:Nat)(q c:Nat->Nat)(S:Mi)(G H:Nat->Prop):Prop where
 Pp:Tp h m D p bl (S.g.D*S.g.Z).toNat S.g S.a S.b S.u S.bad
 Fe:E6 h p ql np q c S.g S.ps
 psz:Qp np S.g S.ps
 drv:Ew h D S.dr G
 apart:¬ G m/\¬ G bl/\¬ G p/\¬ G ql/\∀ d,d<np->¬ G (q d)/\¬ G (c d)
 sub:(∀ i,G i->H i)/\H m/\H bl/\H p/\H ql/\∀ d,d<np->H (q d)/\H (c d)
structure Qm(h:Aa)(m:Nat)(S:Mi)(H:Nat->Prop):Prop where
 lt:∀ i,H i->i<h.next
 Q0:∃ D p bl ql np q c G,Agj h m D p bl ql np q c S G H
def Mi.U2(S:Mi)(z:Int):Bool:=decide (0<=Fs S.g z) && decide (S.bad z.toNat=1)
theorem Rq {h:Aa}{m:Nat}{S:Mi}{H:Nat->Prop}(s:Qm h m S H)(hb:HB h){z:Int}(hz:Rng z):
 Ok (E3 K (.ptr m 0) (I z) h) fun v h'=>v=.bool (S.U2 z)/\Ext h h':=by
 obtain⟨D,p,bl,ql,np,q,c,G,a⟩:=s.Q0
 have sm:=a.psz.sm
 simp only[E3,Ab,a.Pp.Ay7]
 refine(Mu sm z hz h).Aj ?_
 rintro _ h1 ⟨rfl,x1⟩
 have M1:=a.Pp.ext fun i o g=>x1.at hb g
 unfold Mi.U2
 simp only[I,Ah]
 rcases Z0 sm z with hd|⟨d0,d1,d2,d3,d4⟩
 ·rw[hd]
  simp only[show ¬ ((0:Int)<=-1) by decide,decide_false,Ab,Jb,Bool.false_and]
  exact .ret ⟨rfl,x1⟩
 ·rw[decide_eq_true d0]
  simp only[Ab,M1.A8g]
  obtain⟨j,rfl⟩:∃ j:Nat,z=j:=⟨z.toNat,by omega⟩
  have hj:j<(S.g.D*S.g.Z).toNat:=by omega
  rw[Sw hj,Cl M1.Akm rfl]
  rw[show ((List.range (S.g.D*S.g.Z).toNat).map fun z=>I (S.bad z))[0+j*1]? = some (I (S.bad j)) by rw[Nat.zero_add,Nat.mul_one,List.getElem?_map,List.getElem?_range hj];rfl]
  simp only[Ue,I,Ah,Jb,Ab,Bool.true_and]
  exact .ret ⟨rfl,x1⟩
end Go.Ev

namespace Go.Ev
open Go.Proofs
set_option maxRecDepth 100000
variable {K:Nat}
section
variable {h h':Aa}{m D p bl ql np:Nat}{q c:Nat->Nat}{S:Mi}{G H:Nat->Prop}(a:Agj h m D p bl ql np q c S G H)(hb:HB h)
include a hb
theorem Agj.lts:m<h.next/\bl<h.next/\p<h.next/\ql<h.next/\∀ d,d<np->q d<h.next/\c d<h.next:=
 ⟨hb _ _ a.Pp.Pp,hb _ _ a.Pp.Akm,hb _ _ a.Fe.Fe,hb _ _ a.Fe.row,fun d hd=>⟨hb _ _ (a.Fe.que d hd),hb _ _ (a.Fe.chan d hd)⟩⟩
theorem Agj.A0y {dr:I8}(d:Ew h' D dr (Bo G h h'))(ch:A1 G h h'):Agj h' m D p bl ql np q c { S with dr:=dr } (Bo G h h') (Bo H h h'):=by
 obtain⟨l1,l2,l3,l4,l5⟩:=a.lts hb
 obtain⟨n1,n2,n3,n4,n5⟩:=a.apart
 have nf:∀ {i},¬ G i->i<h.next->¬ Bo G h h' i:=fun y l z=>by
  rcases z with z|z
  ·exact y z
  ·omega
 refine⟨⟨ch.at hb a.Pp.Pp n1,ch.at hb a.Pp.Akm n2⟩,?_,a.psz,d,⟨nf n1 l1,nf n2 l2,nf n3 l3,nf n4 l4,fun d hd=>⟨nf (n5 d hd).1 (l5 d hd).1,nf (n5 d hd).2 (l5 d hd).2⟩⟩,?_⟩
 ·exact⟨a.Fe.pos,ch.at hb a.Fe.Fe n3,ch.at hb a.Fe.row n4,fun d hd=>ch.at hb (a.Fe.que d hd) (n5 d hd).1,fun d hd=>ch.at hb (a.Fe.chan d hd) (n5 d hd).2,a.Fe.inj⟩
 ·obtain⟨s1,s2,s3,s4,s5,s6⟩:=a.sub
  refine⟨fun i hi=>?_,.inl s2,.inl s3,.inl s4,.inl s5,fun d hd=>⟨.inl (s6 d hd).1,.inl (s6 d hd).2⟩⟩
  rcases hi with hi|hi
  ·exact .inl (s1 i hi)
  ·exact .inr hi
theorem Agj.Akt {ps:Nat->List Int}(P:E6 h' p ql np q c S.g ps)(Z:Qp np S.g ps)(ch:A1 (Aj2 np c) h h'):Agj h' m D p bl ql np q c { S with ps:=ps } G H/\A1 H h h':=by
 have nG:∀ i,G i->¬ Aj2 np c i:=by
  rintro i hi ⟨d,hd,rfl⟩
  exact(a.apart.2.2.2.2 d hd).2 hi
 refine⟨⟨⟨ch.at hb a.Pp.Pp (a.Fe.A3v a.Pp.Pp trivial),ch.at hb a.Pp.Akm (a.Fe.A3v a.Pp.Akm trivial)⟩,P,Z,a.drv.chg ch nG,a.apart,a.sub⟩,ch.mono ?_⟩
 rintro i ⟨d,hd,rfl⟩
 exact(a.sub.2.2.2.2.2 d hd).2
end
theorem Qm.ext {h h':Aa}{m:Nat}{S:Mi}{H:Nat->Prop}(s:Qm h m S H)(hb:HB h)(x:Ext h h'):Qm h' m S H:=by
 obtain⟨D,p,bl,ql,np,q,c,G,a⟩:=s.Q0
 have g:∀ i o,h.get i=some o->h'.get i=some o:=fun i o g=>x.at hb g
 exact⟨fun i hi=>Nat.lt_of_lt_of_le (s.lt i hi) x.next,D,p,bl,ql,np,q,c,G,a.Pp.ext g,a.Fe.ext g,a.psz,a.drv.ext x,a.apart,a.sub⟩
end Go.Ev

namespace Go.Ev
open Go.Proofs
set_option maxRecDepth 100000
variable {K:Nat}{disp:Nat->Option FT}
theorem Qm.mono {h:Aa}{m:Nat}{S:Mi}{H H':Nat->Prop}(s:Qm h m S H)(f:∀ i,H i->H' i)(l:∀ i,H' i->i<h.next):Qm h m S H':=by
 obtain⟨D,p,bl,ql,np,q,c,G,a⟩:=s.Q0
 exact⟨l,D,p,bl,ql,np,q,c,G,a.Pp,a.Fe,a.psz,a.drv,a.apart,⟨fun i hi=>f _ (a.sub.1 i hi),f _ a.sub.2.1,f _ a.sub.2.2.1,f _ a.sub.2.2.2.1,f _ a.sub.2.2.2.2.1,fun d hd=>⟨f _ (a.sub.2.2.2.2.2 d hd).1,f _ (a.sub.2.2.2.2.2 d hd).2⟩⟩⟩
noncomputable def Mi.leave(S:Mi)(z u:Int):Mi × Int:=
 if z = -1\/S.U2 z=true\/u=S.g.S then (S,0) else
 if u=0 then ({ S with ps:=(Aeu S.g S.g.D.toNat S.ps z).2 },(Aeu S.g S.g.D.toNat S.ps z).1) else
 ({ S with dr:=(S.dr.finish z).1 },(S.dr.finish z).2)
theorem Aat(A:An disp)(hK:10000<K){d:Nat}(hd:16<=d){h:Aa}{m:Nat}{S:Mi}{H:Nat->Prop}(hdue:As5 disp K S.dr)(s:Qm h m S H)(hb:HB h){z:Int}(hz:Rng z)(u:Int):
 Ok (Ad TT disp K d false 123 [.ptr m 0,I z,I u] h) fun v h'=>v=I (S.leave z u).2/\Qm h' m (S.leave z u).1 (Bo H h h')/\A1 H h h'/\HB h':=by
 obtain⟨e,rfl⟩:∃ k,d=k+1:=⟨d-1,by omega⟩
 rw[X4 A (by omega)]
 have same:∀ h1,Ext h h1->(z = -1\/S.U2 z=true\/u=S.g.S)->Ok (some (.int .i64 0,h1)) fun v h'=>v=I (S.leave z u).2/\Qm h' m (S.leave z u).1 (Bo H h h')/\A1 H h h'/\HB h':=fun h1 x hc=>by
  unfold Mi.leave
  rw[if_pos hc]
  obtain⟨_,D,p,bl,ql,np,q,c,G,a⟩:=s.ext hb x
  refine .ret ⟨rfl,⟨Bo.lt s.lt x.next,D,p,bl,ql,np,q,c,G,⟨a.Pp,a.Fe,a.psz,a.drv,a.apart,⟨fun i hi=>.inl (a.sub.1 i hi),.inl a.sub.2.1,.inl a.sub.2.2.1,.inl a.sub.2.2.2.1,.inl a.sub.2.2.2.2.1,fun d hd=>⟨.inl (a.sub.2.2.2.2.2 d hd).1,.inl (a.sub.2.2.2.2.2 d hd).2⟩⟩⟩⟩,Ext.to x,x.hb hb⟩
 simp only[Tt,I,Ah]
 by_cases h1:z = -1
 ·rw[decide_eq_true h1]
  simp only[Ab,Ah,Fx,Ep]
  exact same h (A1.refl _) (.inl h1)
 ·rw[decide_eq_false h1]
  simp only[Ab]
  refine(Rq (K:=K) s hb hz).Aj ?_
  rintro _ h2 ⟨rfl,x2⟩
  have hb2:=x2.hb hb
  have s2:=s.ext hb x2
  obtain⟨lt2,D,p,bl,ql,np,q,c,G,a⟩:=s2
  have e1:Ao (.ptr m (1+2)) h2=fun k=>k (I S.g.S):=by
   funext k
   rw[Cl a.Pp.Pp rfl];rfl
  cases hbd:S.U2 z with
  | true=>
   simp only[Ab,Ah,Fx,Ep]
   exact same h2 x2 (.inr (.inl hbd))
  | false=>
   simp only[Ab,Ah,Fx]
   rw[e1]
   simp only[I,Ah]
   by_cases hu:u=S.g.S
   ·rw[decide_eq_true hu]
    simp only[Ab,Ah,Ep]
    exact same h2 x2 (.inr (.inr hu))
   ·rw[decide_eq_false hu]
    have hc:¬ (z = -1\/S.U2 z=true\/u=S.g.S):=by
     rintro(y|y|y)
     ·exact h1 y
     ·rw[hbd]at y;cases y
     ·exact hu y
    unfold Mi.leave
    rw[if_neg hc]
    simp only[Ab,Ah,Ep]
    by_cases h0:u=0
    ·rw[decide_eq_true h0,if_pos h0]
     simp only[Ab,a.Pp.Fe]
     refine(Awb (K:=K) A a.Fe hb2 a.psz (by omega) (d:=e) (by omega) z hz).Aj ?_
     rintro _ h3 ⟨c3,hb3,rfl,P3,Z3⟩
     obtain⟨a3,cH⟩:=a.Akt hb2 P3 Z3 c3
     have cc:A1 H h h3:=(Ext.to x2).trans cH
     have hn:=a.psz.nd
     subst hn
     refine .ret ⟨rfl,Qm.mono (H:=H) ⟨fun i hi=>Nat.lt_of_lt_of_le (s.lt i hi) cc.next,D,p,bl,ql,_,q,c,G,a3⟩ (fun _=>.inl) (Bo.lt s.lt cc.next),cc,hb3⟩
    ·rw[decide_eq_false h0,if_neg h0]
     simp only[Ab,Qi,a.Pp.Cz]
     refine(Ae7 (K:=K) A (d:=e) (by omega) hdue a.drv hb2 z).Aj ?_
     rintro _ h3 ⟨rfl,d3,c3,hb3⟩
     have a3:=a.A0y hb2 d3 c3
     have cH:A1 H h2 h3:=c3.mono a.sub.1
     have cc:A1 H h h3:=(Ext.to x2).trans cH
     refine .ret ⟨rfl,Qm.mono (H:=Bo H h2 h3) ⟨Bo.lt lt2 c3.next,D,p,bl,ql,np,q,c,_,a3⟩ (fun i hi=>?_) (Bo.lt s.lt cc.next),cc,hb3⟩
     rcases hi with hi|hi
     ·exact .inl hi
     ·exact .inr ⟨Nat.le_trans x2.next hi.1,hi.2⟩
end Go.Ev

namespace Go.Ev
open Go.Proofs
set_option maxRecDepth 100000
variable {K:Nat}{disp:Nat->Option FT}
theorem A0w(D:Nat)(g:Gm)(p bl n:Nat)(a b u a' b' u':Int):(((Abk D g p bl n a b u).set 265 (I a')).set 266 (I b')).set 267 (I u')=Abk D g p bl n a' b' u':=by
 unfold Abk
 have hl:([EV.ptr D 0]++gL g++Bc).length=263:=by rw[List.length_append,Ru];rfl
 rw[List.set_append_right _ _ (by omega),hl]
 show ((([EV.ptr D 0]++gL g++Bc)++[EV.ptr p 0,.slice bl 0 n n false,I a',I b,I u]).set 266 (I b')).set 267 (I u')=_
 rw[List.set_append_right _ _ (by omega),hl]
 show (([EV.ptr D 0]++gL g++Bc)++[EV.ptr p 0,.slice bl 0 n n false,I a',I b',I u]).set 267 (I u')=_
 rw[List.set_append_right _ _ (by omega),hl]
 rfl
theorem Agj.A5n {h h':Aa}{m D p bl ql np:Nat}{q c:Nat->Nat}{S:Mi}{G H:Nat->Prop}(a:Agj h m D p bl ql np q c S G H)(hb:HB h){a' b' u':Int}(g:h'.get m=some (.cells (Abk D S.g p bl (S.g.D*S.g.Z).toNat a' b' u') 149))(ch:A1 (fun i=>i=m) h h'):
 Agj h' m D p bl ql np q c { S with a:=a',b:=b',u:=u' } G H:=by
 have e:=a.Pp.Pp
 have k:∀ i o,h.get i=some o->(∀ l,o ≠ .cells l 149)->h'.get i=some o:=fun i o gi ho=>ch.at hb gi fun y=>by
  subst y;rw[e]at gi;cases gi;exact ho _ rfl
 refine⟨⟨g,k _ _ a.Pp.Akm (by intros;simp)⟩,⟨a.Fe.pos,k _ _ a.Fe.Fe (by intros;simp),k _ _ a.Fe.row (by intros;simp),fun d hd=>k _ _ (a.Fe.que d hd) (by intros;simp),fun d hd=>k _ _ (a.Fe.chan d hd) (by intros;simp),a.Fe.inj⟩,a.psz,a.drv.chg ch fun i hi y=>?_,a.apart,a.sub⟩
 subst y;exact a.apart.1 hi
def Alh(disp:Nat->Option FT)(K n:Nat):Prop:=∀ T:I8,T.ev.length<=n->As5 disp K T
theorem Ath:∀ (l:List V9) (D:Dv) (k:List V9),(Aq9 l D k).ev.length<=l.length
 | [],_,_=>Nat.le_refl _
 | e::r,D,k=>by
  unfold Aq9
  split
  ·exact Nat.le_refl _
  ·have:=Ath r (D.Qa e) (k++[e])
   exact Nat.le_succ_of_le this
theorem I8.Ayh(S:I8)(i:Int):(S.begin i).ev.length<=S.ev.length:=by
 unfold I8.begin
 split
 ·exact Ath _ _ _
 ·exact Nat.le_refl _
theorem Mi.Azv(S:Mi)(z u:Int):(S.leave z u).1.dr.ev.length<=S.dr.ev.length:=by
 unfold Mi.leave
 split
 ·exact Nat.le_refl _
 ·split
  ·exact Nat.le_refl _
  ·exact S.dr.Ayh z
noncomputable def Mi.close(S:Mi):Mi × Int:=
 (((({ S with a:=-1,b:=-1,u:=0 }:Mi).leave S.a S.u).1.leave S.b S.u).1,if (({ S with a:=-1,b:=-1,u:=0 }:Mi).leave S.a S.u).2=0 then ((({ S with a:=-1,b:=-1,u:=0 }:Mi).leave S.a S.u).1.leave S.b S.u).2 else (({ S with a:=-1,b:=-1,u:=0 }:Mi).leave S.a S.u).2)
theorem Akj(A:An disp)(hK:10000<K){d:Nat}(hd:17<=d){n:Nat}(hdue:Alh disp K n){h:Aa}{m:Nat}{S:Mi}{H:Nat->Prop}(hn:S.dr.ev.length<=n)(s:Qm h m S H)(hb:HB h)(ha:Rng S.a)(hbb:Rng S.b):
 Ok (Ad TT disp K d false 70 [.ptr m 0] h) fun v h'=>v=I S.close.2/\Qm h' m S.close.1 (Bo H h h')/\A1 H h h'/\HB h':=by
 obtain⟨e,rfl⟩:∃ k,d=k+1:=⟨d-1,by omega⟩
 rw[Yb A (by omega)]
 obtain⟨lt,D,p,bl,ql,np,q,c,G,a⟩:=s
 have ml:=A09 D S.g p bl (S.g.D*S.g.Z).toNat S.a S.b S.u
 simp only[Ti,Ab,a.Pp.oa,a.Pp.ob,a.Pp.ou]
 refine Ok.A3x a.Pp.Pp hb rfl rfl (by omega) ?_
 intro h1 g1 c1 hb1
 try simp only[Ab]
 refine Ok.A3x g1 hb1 rfl rfl (by rw[List.length_set];omega) ?_
 intro h2 g2 c2 hb2
 try simp only[Ab]
 refine Ok.A3x g2 hb2 rfl rfl (by rw[List.length_set,List.length_set];omega) ?_
 intro h3 g3 c3 hb3
 rw[show EV.int .i64 (-1)=I (-1) from rfl,show EV.int .i64 0=I 0 from rfl,A0w]at g3
 have c03:=(c1.trans c2).trans c3
 have a3:=a.A5n hb g3 c03
 have cH:A1 H h h3:=c03.mono fun i hi=>by subst hi;exact a.sub.2.1
 have s3:Qm h3 m { S with a:=-1,b:=-1,u:=0 } H:=⟨fun i hi=>Nat.lt_of_lt_of_le (lt i hi) cH.next,D,p,bl,ql,np,q,c,G,a3⟩
 unfold Mi.close
 refine(Aat (K:=K) (S:={ S with a:=-1,b:=-1,u:=0 }) A hK (d:=e) (by omega) (hdue S.dr hn) s3 hb3 ha S.u).Aj ?_
 have len1:=Mi.Azv { S with a:=-1,b:=-1,u:=0 } S.a S.u
 generalize ({ S with a:=-1,b:=-1,u:=0 }:Mi).leave S.a S.u=r at len1 ⊢
 rintro _ h4 ⟨rfl,s4,c4,hb4⟩
 refine(Aat (K:=K) A hK (d:=e) (by omega) (hdue _ (Nat.le_trans len1 hn)) s4 hb4 hbb S.u).Aj ?_
 rintro _ h5 ⟨rfl,s5,c5,hb5⟩
 have cc4:A1 H h h4:=cH.trans c4
 have cc:A1 H h h5:=cc4.then c5 fun i hi hl=>by
  rcases hi with y|y
  ·exact y
  ·have:=cH.next;omega
 have s6:Qm h5 m (r.1.leave S.b S.u).1 (Bo H h h5):=s5.mono (fun i hi=>by
  rcases hi with (y|y)|y
  ·exact .inl y
  ·have:=cH.next;have:=c5.next;exact .inr ⟨by omega,by omega⟩
  ·have:=cc4.next;exact .inr ⟨by omega,y.2⟩) (Bo.lt lt cc.next)
 simp only[I,Ah]
 by_cases h0:r.2=0
 ·rw[decide_eq_true h0,if_pos h0]
  simp only[Ab,H3]
  exact .ret ⟨rfl,s6,cc,hb5⟩
 ·rw[decide_eq_false h0,if_neg h0]
  simp only[Ab,H3]
  exact .ret ⟨rfl,s6,cc,hb5⟩
end Go.Ev

namespace Go.Ev
open Go.Proofs
set_option maxRecDepth 100000
variable {K:Nat}{disp:Nat->Option FT}
def Mi.dropped(S:Mi)(z:Int):Nat->List Int:=if Fs S.g z<0 then S.ps else upd S.ps (Fs S.g z).toNat (but z (S.ps (Fs S.g z).toNat))
def Mi.mark(S:Mi)(z:Int):Mi:={ S with bad:=fun i=>if i=z.toNat then 1 else S.bad i,ps:=S.dropped z }
noncomputable def Mi.Gz(S:Mi)(z:Int):Mi × Int:=
 if Fs S.g z<0 then (S,13) else if S.U2 z=true then (S,16) else
 if ¬ z=S.a/\¬ z=S.b then (S.mark z,0) else ((S.mark z).close.1,if (S.mark z).close.2=34 then 34 else 0)
theorem Agj.A6t {h h':Aa}{m D p bl ql np:Nat}{q c:Nat->Nat}{S:Mi}{G H:Nat->Prop}(a:Agj h m D p bl ql np q c S G H)(hb:HB h){bad':Nat->Int}(g:h'.get bl=some (.cells ((List.range (S.g.D*S.g.Z).toNat).map fun z=>I (bad' z)) 3))(ch:A1 (fun i=>i=bl) h h'):
 Agj h' m D p bl ql np q c { S with bad:=bad' } G H:=by
 have e:=a.Pp.Akm
 have k:∀ i o,h.get i=some o->(∀ l,o ≠ .cells l 3)->h'.get i=some o:=fun i o gi ho=>ch.at hb gi fun y=>by
  subst y;rw[e]at gi;cases gi;exact ho _ rfl
 refine⟨⟨k _ _ a.Pp.Pp (by intros;simp),g⟩,⟨a.Fe.pos,k _ _ a.Fe.Fe (by intros;simp),k _ _ a.Fe.row (by intros;simp),fun d hd=>k _ _ (a.Fe.que d hd) (by intros;simp),fun d hd=>k _ _ (a.Fe.chan d hd) (by intros;simp),a.Fe.inj⟩,a.psz,a.drv.chg ch fun i hi y=>?_,a.apart,a.sub⟩
 subst y;exact a.apart.2.1 hi
theorem Bo.up {H:Nat->Prop}{h h1 h2:Aa}(a:h.next<=h1.next)(b:h1.next<=h2.next){i:Nat}(g:Bo H h1 h2 i):Bo H h h2 i:=by
 rcases g with y|y
 ·exact .inl y
 ·exact .inr ⟨by omega,y.2⟩
theorem Ace(A:An disp)(hK:10000<K){d:Nat}(hd:18<=d){n:Nat}(hdue:Alh disp K n){h:Aa}{m:Nat}{S:Mi}{H:Nat->Prop}(hn:S.dr.ev.length<=n)(s:Qm h m S H)(hb:HB h)(ha:Rng S.a)(hbb:Rng S.b){z:Int}(hz:Rng z):
 Ok (Ad TT disp K d false 20 [.ptr m 0,I z] h) fun v h'=>v=I (S.Gz z).2/\Qm h' m (S.Gz z).1 (Bo H h h')/\A1 H h h'/\HB h':=by
 obtain⟨e,rfl⟩:∃ k,d=k+1:=⟨d-1,by omega⟩
 rw[S8 A (by omega)]
 obtain⟨lt,D,p,bl,ql,np,q,c,G,a⟩:=s
 have s:Qm h m S H:=⟨lt,D,p,bl,ql,np,q,c,G,a⟩
 have sm:=a.psz.sm
 simp only[Om,Ab,a.Pp.Ay7]
 refine(Mu sm z hz h).Aj ?_
 rintro _ h1 ⟨rfl,x1⟩
 have hb1:=x1.hb hb
 have s1:=s.ext hb x1
 unfold Mi.Gz
 simp only[I,Ah]
 rcases Z0 sm z with hdm|⟨d0,d1,d2,d3,d4⟩
 ·rw[hdm]
  simp only[show (-1:Int)<0 by decide,decide_true,Ab,if_true]
  exact .ret ⟨rfl,s1.mono (fun _=>.inl) (Bo.lt lt x1.next),Ext.to x1,hb1⟩
 ·rw[decide_eq_false (show ¬ Fs S.g z<0 by omega),if_neg (show ¬ Fs S.g z<0 by omega)]
  simp only[Ab]
  refine(Rq (K:=K) s1 hb1 hz).Aj ?_
  rintro _ h2 ⟨rfl,x2⟩
  have hb2:=x2.hb hb1
  have x12:=x1.trans x2
  cases hbd:S.U2 z with
  | true=>
   simp only[Ab,if_true]
   exact .ret ⟨rfl,(s1.ext hb1 x2).mono (fun _=>.inl) (Bo.lt lt x12.next),Ext.to x12,hb2⟩
  | false=>
   simp only[Ab,Bool.false_eq_true,if_false,L5]
   obtain⟨lt2,D,p,bl,ql,np,q,c,G,a⟩:=s1.ext hb1 x2
   obtain⟨j,rfl⟩:∃ j:Nat,z=j:=⟨z.toNat,by omega⟩
   have hj:j<(S.g.D*S.g.Z).toNat:=by omega
   rw[a.Pp.A8g,Sw hj,Nat.zero_add,Nat.mul_one]
   refine Ok.A3x a.Pp.Akm hb2 rfl rfl (by rw[List.length_map,List.length_range];exact hj) ?_
   intro h3 g3 c3 hb3
   have hset:((List.range (S.g.D*S.g.Z).toNat).map fun z=>I (S.bad z)).set j (.int .i64 1)=(List.range (S.g.D*S.g.Z).toNat).map fun z=>I ((S.mark j).bad z):=by
    apply List.ext_getElem?
    intro i
    rw[List.getElem?_set,List.getElem?_map,List.getElem?_map,List.length_map,List.length_range]
    by_cases hi:j=i
    ·subst hi
     rw[if_pos rfl,if_pos hj,List.getElem?_range hj]
     simp[Mi.mark,I]
    ·rw[if_neg hi]
     rcases Nat.lt_or_ge i (S.g.D*S.g.Z).toNat with hl|hg
     ·rw[List.getElem?_range hl]
      have:¬ i=j:=fun y=>hi y.symm
      simp[Mi.mark,this]
     ·rw[List.getElem?_eq_none (by rw[List.length_range];exact hg)];rfl
   rw[hset]at g3
   have a3:=a.A6t hb2 g3 c3
   have cH3:A1 H h h3:=(Ext.to x12).trans (c3.mono fun i hi=>by subst hi;exact a.sub.2.2.1)
   try simp only[Ab]
   rw[a3.Pp.Fe]
   refine(A35 (K:=K) A (by omega) a3.Fe hb3 a3.psz (d:=e) (by omega) j hz).Aj ?_
   rintro _ h4 ⟨⟨er,rfl⟩,c4,hb4,P4,Z4⟩
   obtain⟨a4,cH⟩:=a3.Akt hb3 P4 Z4 c4
   have a4:Agj h4 m D p bl ql np q c (S.mark j) G H:=a4
   have cc:A1 H h h4:=cH3.trans cH
   have s4:Qm h4 m (S.mark j) H:=⟨fun i hi=>Nat.lt_of_lt_of_le (lt i hi) cc.next,D,p,bl,ql,np,q,c,G,a4⟩
   try simp only[Ab]
   rw[a4.Pp.oa]
   have close:¬ (¬ (j:Int)=S.a/\¬ (j:Int)=S.b)->Ok (Hw (Ad TT disp K e false) (Ad TT disp K e true) K (.ptr m 0) h4) fun v h'=>v=I (if ¬ (j:Int)=S.a/\¬ (j:Int)=S.b then (S.mark j,(0:Int)) else ((S.mark j).close.1,if (S.mark j).close.2=34 then 34 else 0)).2/\Qm h' m (if ¬ (j:Int)=S.a/\¬ (j:Int)=S.b then (S.mark j,(0:Int)) else ((S.mark j).close.1,if (S.mark j).close.2=34 then 34 else 0)).1 (Bo H h h')/\A1 H h h'/\HB h':=by
    intro hno
    rw[if_neg hno]
    simp only[Hw]
    refine(Akj (K:=K) A hK (d:=e) (by omega) hdue (S:=S.mark j) hn s4 hb4 ha hbb).Aj ?_
    rintro _ h5 ⟨rfl,s5,c5,hb5⟩
    have cc5:=cc.trans c5
    have s6:=s5.mono (fun i hi=>Bo.up cc.next c5.next hi) (Bo.lt lt cc5.next)
    simp only[I,Ah]
    by_cases h34:(S.mark j).close.2=34
    ·rw[decide_eq_true h34,if_pos h34]
     simp only[Ab]
     exact .ret ⟨rfl,s6,cc5,hb5⟩
    ·rw[decide_eq_false h34,if_neg h34]
     simp only[Ab,Mb]
     exact .ret ⟨rfl,s6,cc5,hb5⟩
   simp only[I,Ah]at close ⊢
   rw[show (S.mark (j:Int)).a=S.a from rfl]
   by_cases e1:(j:Int)=S.a
   ·rw[show decide (¬ (j:Int)=S.a)=false from decide_eq_false fun y=>y e1]
    simp only[Ab,Ah,Fj]
    exact close fun y=>y.1 e1
   ·rw[show decide (¬ (j:Int)=S.a)=true from decide_eq_true e1]
    simp only[Ab,Ah]
    rw[a4.Pp.ob]
    simp only[I,Ah,Fj,Ab]
    rw[show (S.mark (j:Int)).b=S.b from rfl]
    by_cases e2:(j:Int)=S.b
    ·rw[show decide (¬ (j:Int)=S.b)=false from decide_eq_false fun y=>y e2]
     simp only[Ab]
     exact close fun y=>y.2 e2
    ·rw[show decide (¬ (j:Int)=S.b)=true from decide_eq_true e2]
     simp only[Ab]
     rw[if_pos ⟨e1,e2⟩]
     exact .ret ⟨rfl,s4.mono (fun _=>.inl) (Bo.lt lt cc.next),cc,hb4⟩
end Go.Ev

namespace Go.Ev
open Go.Proofs
set_option maxRecDepth 100000
variable {K:Nat}{disp:Nat->Option FT}
end Go.Ev
