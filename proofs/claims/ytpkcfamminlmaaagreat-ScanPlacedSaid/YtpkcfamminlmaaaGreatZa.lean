import Derived.Test.YtpkcfamminlmaaaGreatYa
import Derived.Test.YtpkcfamminlmaaaGreatXc
import Derived.Test.YtpkcfamminlmaaaGreatXb
set_option linter.unusedVariables false
set_option linter.unusedSimpArgs false
set_option linter.unusedSectionVars false
namespace Go.Ev
open Go.Proofs
set_option maxRecDepth 100000
variable {K:Nat}
end Go.Ev

namespace Go.Ev
open Go.Proofs
set_option maxRecDepth 100000
variable {K:Nat}
structure Me where
 state:Int
 A7:Int
 F6:Int
 off:Int
 seq:Int
 sum:Int
def Me.cells(m:Me):List EV:=[I m.state,I m.A7,I m.F6,I m.off,I m.seq,I m.sum]
def Rng(z:Int):Prop:=-9223372036854775808<=z/\z<=9223372036854775807
end Go.Ev

namespace Go.Ev
open Go.Proofs
set_option maxRecDepth 100000
variable {K:Nat}
structure Mi where
 g:Gm
 dr:K4
 ps:Nat->List Int
 bad:Nat->Int
 a:Int
 b:Int
 u:Int
structure Aid(h:Aa)(m D p bl ql np:Nat)(q c:Nat->Nat)(S:Mi)(G H:Nat->Prop):Prop where
 J4:V3 h m D p bl (S.g.D*S.g.Z).toNat S.g S.a S.b S.u S.bad
 G3:Ei h p ql np q c S.g S.ps
 psz:Om np S.g S.ps
 drv:Fe h D S.dr G
 apart:¬ G m/\¬ G bl/\¬ G p/\¬ G ql/\∀ d,d<np->¬ G (q d)/\¬ G (c d)
 sub:(∀ i,G i->H i)/\H m/\H bl/\H p/\H ql/\∀ d,d<np->H (q d)/\H (c d)
structure O6(h:Aa)(m:Nat)(S:Mi)(H:Nat->Prop):Prop where
 lt:∀ i,H i->i<h.next
 Pb:∃ D p bl ql np q c G,Aid h m D p bl ql np q c S G H
def Mi.Ag9(S:Mi)(z:Int):Bool:=decide (0<=E6 S.g z) && decide (S.bad z.toNat=1)
theorem Ahg {h:Aa}{m:Nat}{S:Mi}{H:Nat->Prop}(s:O6 h m S H)(hb:HB h){z:Int}(hz:Rng z):
 Ok (Ka K (.ptr m 0) (I z) h) fun v h'=>v=.bool (S.Ag9 z)/\Ext h h':=by
 obtain⟨D,p,bl,ql,np,q,c,G,a⟩:=s.Pb
 have sm:=a.psz.sm
 simp only[Ka,Ab,a.J4.A24]
 refine(R8 sm z hz h).Al ?_
 rintro _ h1 ⟨rfl,x1⟩
 have M1:=a.J4.ext fun i o g=>x1.at hb g
 unfold Mi.Ag9
 simp only[I,Ai]
 rcases Y5 sm z with hd|⟨d0,d1,d2,d3,d4⟩
 ·rw[hd]
  simp only[show ¬ ((0:Int)<=-1) by decide,decide_false,Ab,Kv,Bool.false_and]
  exact .ret ⟨rfl,x1⟩
 ·rw[decide_eq_true d0]
  simp only[Ab,M1.Bk8]
  obtain⟨j,rfl⟩:∃ j:Nat,z=j:=⟨z.toNat,by omega⟩
  have hj:j<(S.g.D*S.g.Z).toNat:=by omega
  rw[Aas hj,Ck M1.An3 rfl]
  rw[show ((List.range (S.g.D*S.g.Z).toNat).map fun z=>I (S.bad z))[0+j*1]? = some (I (S.bad j)) by rw[Nat.zero_add,Nat.mul_one,List.getElem?_map,List.getElem?_range hj];rfl]
  simp only[Ls,I,Ai,Kv,Ab,Bool.true_and]
  exact .ret ⟨rfl,x1⟩
end Go.Ev

namespace Go.Ev
open Go.Proofs
set_option maxRecDepth 100000
variable {K:Nat}
section
variable {h h':Aa}{m D p bl ql np:Nat}{q c:Nat->Nat}{S:Mi}{G H:Nat->Prop}(a:Aid h m D p bl ql np q c S G H)(hb:HB h)
include a hb
theorem Aid.lts:m<h.next/\bl<h.next/\p<h.next/\ql<h.next/\∀ d,d<np->q d<h.next/\c d<h.next:=
 ⟨hb _ _ a.J4.J4,hb _ _ a.J4.An3,hb _ _ a.G3.G3,hb _ _ a.G3.row,fun d hd=>⟨hb _ _ (a.G3.que d hd),hb _ _ (a.G3.chan d hd)⟩⟩
theorem Aid.Azq {dr:K4}(d:Fe h' D dr (Bq G h h'))(ch:A9 G h h'):Aid h' m D p bl ql np q c { S with dr:=dr } (Bq G h h') (Bq H h h'):=by
 obtain⟨l1,l2,l3,l4,l5⟩:=a.lts hb
 obtain⟨n1,n2,n3,n4,n5⟩:=a.apart
 have nf:∀ {i},¬ G i->i<h.next->¬ Bq G h h' i:=fun y l z=>by
  rcases z with z|z
  ·exact y z
  ·omega
 refine⟨⟨ch.at hb a.J4.J4 n1,ch.at hb a.J4.An3 n2⟩,?_,a.psz,d,⟨nf n1 l1,nf n2 l2,nf n3 l3,nf n4 l4,fun d hd=>⟨nf (n5 d hd).1 (l5 d hd).1,nf (n5 d hd).2 (l5 d hd).2⟩⟩,?_⟩
 ·exact⟨a.G3.pos,ch.at hb a.G3.G3 n3,ch.at hb a.G3.row n4,fun d hd=>ch.at hb (a.G3.que d hd) (n5 d hd).1,fun d hd=>ch.at hb (a.G3.chan d hd) (n5 d hd).2,a.G3.inj⟩
 ·obtain⟨s1,s2,s3,s4,s5,s6⟩:=a.sub
  refine⟨fun i hi=>?_,.inl s2,.inl s3,.inl s4,.inl s5,fun d hd=>⟨.inl (s6 d hd).1,.inl (s6 d hd).2⟩⟩
  rcases hi with hi|hi
  ·exact .inl (s1 i hi)
  ·exact .inr hi
theorem Aid.Aj8 {ps:Nat->List Int}(P:Ei h' p ql np q c S.g ps)(Z:Om np S.g ps)(ch:A9 (Akz np c) h h'):Aid h' m D p bl ql np q c { S with ps:=ps } G H/\A9 H h h':=by
 have nG:∀ i,G i->¬ Akz np c i:=by
  rintro i hi ⟨d,hd,rfl⟩
  exact(a.apart.2.2.2.2 d hd).2 hi
 refine⟨⟨⟨ch.at hb a.J4.J4 (a.G3.Bar a.J4.J4 trivial),ch.at hb a.J4.An3 (a.G3.Bar a.J4.An3 trivial)⟩,P,Z,a.drv.chg ch nG,a.apart,a.sub⟩,ch.mono ?_⟩
 rintro i ⟨d,hd,rfl⟩
 exact(a.sub.2.2.2.2.2 d hd).2
end
theorem O6.ext {h h':Aa}{m:Nat}{S:Mi}{H:Nat->Prop}(s:O6 h m S H)(hb:HB h)(x:Ext h h'):O6 h' m S H:=by
 obtain⟨D,p,bl,ql,np,q,c,G,a⟩:=s.Pb
 have g:∀ i o,h.get i=some o->h'.get i=some o:=fun i o g=>x.at hb g
 exact⟨fun i hi=>Nat.lt_of_lt_of_le (s.lt i hi) x.next,D,p,bl,ql,np,q,c,G,a.J4.ext g,a.G3.ext g,a.psz,a.drv.ext x,a.apart,a.sub⟩
end Go.Ev

namespace Go.Ev
open Go.Proofs
set_option maxRecDepth 100000
variable {K:Nat}{disp:Nat->Option FT}
theorem O6.mono {h:Aa}{m:Nat}{S:Mi}{H H':Nat->Prop}(s:O6 h m S H)(f:∀ i,H i->H' i)(l:∀ i,H' i->i<h.next):O6 h m S H':=by
 obtain⟨D,p,bl,ql,np,q,c,G,a⟩:=s.Pb
 exact⟨l,D,p,bl,ql,np,q,c,G,a.J4,a.G3,a.psz,a.drv,a.apart,⟨fun i hi=>f _ (a.sub.1 i hi),f _ a.sub.2.1,f _ a.sub.2.2.1,f _ a.sub.2.2.2.1,f _ a.sub.2.2.2.2.1,fun d hd=>⟨f _ (a.sub.2.2.2.2.2 d hd).1,f _ (a.sub.2.2.2.2.2 d hd).2⟩⟩⟩
noncomputable def Mi.leave(S:Mi)(z u:Int):Mi × Int:=
 if z = -1\/S.Ag9 z=true\/u=S.g.S then (S,0) else
 if u=0 then ({ S with ps:=(Adr S.g S.g.D.toNat S.ps z).2 },(Adr S.g S.g.D.toNat S.ps z).1) else
 ({ S with dr:=(S.dr.finish z).1 },(S.dr.finish z).2)
theorem Adu(A:Aq disp)(hK:10000<K){d:Nat}(hd:16<=d){h:Aa}{m:Nat}{S:Mi}{H:Nat->Prop}(hdue:Av3 disp K S.dr)(s:O6 h m S H)(hb:HB h){z:Int}(hz:Rng z)(u:Int):
 Ok (Ad TT disp K d false 123 [.ptr m 0,I z,I u] h) fun v h'=>v=I (S.leave z u).2/\O6 h' m (S.leave z u).1 (Bq H h h')/\A9 H h h'/\HB h':=by
 obtain⟨e,rfl⟩:∃ k,d=k+1:=⟨d-1,by omega⟩
 rw[Aa7 A (by omega)]
 have same:∀ h1,Ext h h1->(z = -1\/S.Ag9 z=true\/u=S.g.S)->Ok (some (.int .i64 0,h1)) fun v h'=>v=I (S.leave z u).2/\O6 h' m (S.leave z u).1 (Bq H h h')/\A9 H h h'/\HB h':=fun h1 x hc=>by
  unfold Mi.leave
  rw[if_pos hc]
  obtain⟨_,D,p,bl,ql,np,q,c,G,a⟩:=s.ext hb x
  refine .ret ⟨rfl,⟨Bq.lt s.lt x.next,D,p,bl,ql,np,q,c,G,⟨a.J4,a.G3,a.psz,a.drv,a.apart,⟨fun i hi=>.inl (a.sub.1 i hi),.inl a.sub.2.1,.inl a.sub.2.2.1,.inl a.sub.2.2.2.1,.inl a.sub.2.2.2.2.1,fun d hd=>⟨.inl (a.sub.2.2.2.2.2 d hd).1,.inl (a.sub.2.2.2.2.2 d hd).2⟩⟩⟩⟩,Ext.to x,x.hb hb⟩
 simp only[Vv,I,Ai]
 by_cases h1:z = -1
 ·rw[decide_eq_true h1]
  simp only[Ab,Ai,Hm,Fz]
  exact same h (A9.refl _) (.inl h1)
 ·rw[decide_eq_false h1]
  simp only[Ab]
  refine(Ahg (K:=K) s hb hz).Al ?_
  rintro _ h2 ⟨rfl,x2⟩
  have hb2:=x2.hb hb
  have s2:=s.ext hb x2
  obtain⟨lt2,D,p,bl,ql,np,q,c,G,a⟩:=s2
  have e1:Av (.ptr m (1+2)) h2=fun k=>k (I S.g.S):=by
   funext k
   rw[Ck a.J4.J4 rfl];rfl
  cases hbd:S.Ag9 z with
  | true=>
   simp only[Ab,Ai,Hm,Fz]
   exact same h2 x2 (.inr (.inl hbd))
  | false=>
   simp only[Ab,Ai,Hm]
   rw[e1]
   simp only[I,Ai]
   by_cases hu:u=S.g.S
   ·rw[decide_eq_true hu]
    simp only[Ab,Ai,Fz]
    exact same h2 x2 (.inr (.inr hu))
   ·rw[decide_eq_false hu]
    have hc:¬ (z = -1\/S.Ag9 z=true\/u=S.g.S):=by
     rintro(y|y|y)
     ·exact h1 y
     ·rw[hbd]at y;cases y
     ·exact hu y
    unfold Mi.leave
    rw[if_neg hc]
    simp only[Ab,Ai,Fz]
    by_cases h0:u=0
    ·rw[decide_eq_true h0,if_pos h0]
     simp only[Ab,a.J4.G3]
     refine(A1l (K:=K) A a.G3 hb2 a.psz (by omega) (d:=e) (by omega) z hz).Al ?_
     rintro _ h3 ⟨c3,hb3,rfl,P3,Z3⟩
     obtain⟨a3,cH⟩:=a.Aj8 hb2 P3 Z3 c3
     have cc:A9 H h h3:=(Ext.to x2).trans cH
     have hn:=a.psz.nd
     subst hn
     refine .ret ⟨rfl,O6.mono (H:=H) ⟨fun i hi=>Nat.lt_of_lt_of_le (s.lt i hi) cc.next,D,p,bl,ql,_,q,c,G,a3⟩ (fun _=>.inl) (Bq.lt s.lt cc.next),cc,hb3⟩
    ·rw[decide_eq_false h0,if_neg h0]
     simp only[Ab,Ru,a.J4.D6]
     refine(Aho (K:=K) A (d:=e) (by omega) hdue a.drv hb2 z).Al ?_
     rintro _ h3 ⟨rfl,d3,c3,hb3⟩
     have a3:=a.Azq hb2 d3 c3
     have cH:A9 H h2 h3:=c3.mono a.sub.1
     have cc:A9 H h h3:=(Ext.to x2).trans cH
     refine .ret ⟨rfl,O6.mono (H:=Bq H h2 h3) ⟨Bq.lt lt2 c3.next,D,p,bl,ql,np,q,c,_,a3⟩ (fun i hi=>?_) (Bq.lt s.lt cc.next),cc,hb3⟩
     rcases hi with hi|hi
     ·exact .inl hi
     ·exact .inr ⟨Nat.le_trans x2.next hi.1,hi.2⟩
end Go.Ev

namespace Go.Ev
open Go.Proofs
set_option maxRecDepth 100000
variable {K:Nat}{disp:Nat->Option FT}
theorem Aw5(D:Nat)(g:Gm)(p bl n:Nat)(a b u a' b' u':Int):(((U0 D g p bl n a b u).set 265 (I a')).set 266 (I b')).set 267 (I u')=U0 D g p bl n a' b' u':=by
 unfold U0
 have hl:([EV.ptr D 0]++gL g++A8).length=263:=by rw[List.length_append,Nw];rfl
 rw[List.set_append_right _ _ (by omega),hl]
 show ((([EV.ptr D 0]++gL g++A8)++[EV.ptr p 0,.slice bl 0 n n false,I a',I b,I u]).set 266 (I b')).set 267 (I u')=_
 rw[List.set_append_right _ _ (by omega),hl]
 show (([EV.ptr D 0]++gL g++A8)++[EV.ptr p 0,.slice bl 0 n n false,I a',I b',I u]).set 267 (I u')=_
 rw[List.set_append_right _ _ (by omega),hl]
 rfl
theorem Aid.Awe {h h':Aa}{m D p bl ql np:Nat}{q c:Nat->Nat}{S:Mi}{G H:Nat->Prop}(a:Aid h m D p bl ql np q c S G H)(hb:HB h){a' b' u':Int}(g:h'.get m=some (.cells (U0 D S.g p bl (S.g.D*S.g.Z).toNat a' b' u') 149))(ch:A9 (fun i=>i=m) h h'):
 Aid h' m D p bl ql np q c { S with a:=a',b:=b',u:=u' } G H:=by
 have e:=a.J4.J4
 have k:∀ i o,h.get i=some o->(∀ l,o ≠ .cells l 149)->h'.get i=some o:=fun i o gi ho=>ch.at hb gi fun y=>by
  subst y;rw[e]at gi;cases gi;exact ho _ rfl
 refine⟨⟨g,k _ _ a.J4.An3 (by intros;simp)⟩,⟨a.G3.pos,k _ _ a.G3.G3 (by intros;simp),k _ _ a.G3.row (by intros;simp),fun d hd=>k _ _ (a.G3.que d hd) (by intros;simp),fun d hd=>k _ _ (a.G3.chan d hd) (by intros;simp),a.G3.inj⟩,a.psz,a.drv.chg ch fun i hi y=>?_,a.apart,a.sub⟩
 subst y;exact a.apart.1 hi
def Ajh(disp:Nat->Option FT)(K n:Nat):Prop:=∀ T:K4,T.ev.length<=n->Av3 disp K T
theorem Axw:∀ (l:List Yy) (D:Dv) (k:List Yy),(Aud l D k).ev.length<=l.length
 | [],_,_=>Nat.le_refl _
 | e::r,D,k=>by
  unfold Aud
  split
  ·exact Nat.le_refl _
  ·have:=Axw r (D.Sa e) (k++[e])
   exact Nat.le_succ_of_le this
theorem K4.A4d(S:K4)(i:Int):(S.begin i).ev.length<=S.ev.length:=by
 unfold K4.begin
 split
 ·exact Axw _ _ _
 ·exact Nat.le_refl _
theorem Mi.A5n(S:Mi)(z u:Int):(S.leave z u).1.dr.ev.length<=S.dr.ev.length:=by
 unfold Mi.leave
 split
 ·exact Nat.le_refl _
 ·split
  ·exact Nat.le_refl _
  ·exact S.dr.A4d z
noncomputable def Mi.close(S:Mi):Mi × Int:=
 (((({ S with a:=-1,b:=-1,u:=0 }:Mi).leave S.a S.u).1.leave S.b S.u).1,if (({ S with a:=-1,b:=-1,u:=0 }:Mi).leave S.a S.u).2=0 then ((({ S with a:=-1,b:=-1,u:=0 }:Mi).leave S.a S.u).1.leave S.b S.u).2 else (({ S with a:=-1,b:=-1,u:=0 }:Mi).leave S.a S.u).2)
theorem Aoa(A:Aq disp)(hK:10000<K){d:Nat}(hd:17<=d){n:Nat}(hdue:Ajh disp K n){h:Aa}{m:Nat}{S:Mi}{H:Nat->Prop}(hn:S.dr.ev.length<=n)(s:O6 h m S H)(hb:HB h)(ha:Rng S.a)(hbb:Rng S.b):
 Ok (Ad TT disp K d false 70 [.ptr m 0] h) fun v h'=>v=I S.close.2/\O6 h' m S.close.1 (Bq H h h')/\A9 H h h'/\HB h':=by
 obtain⟨e,rfl⟩:∃ k,d=k+1:=⟨d-1,by omega⟩
 rw[Aa2 A (by omega)]
 obtain⟨lt,D,p,bl,ql,np,q,c,G,a⟩:=s
 have ml:=Api D S.g p bl (S.g.D*S.g.Z).toNat S.a S.b S.u
 simp only[V8,Ab,a.J4.oa,a.J4.ob,a.J4.ou]
 refine Ok.Apy a.J4.J4 hb rfl rfl (by omega) ?_
 intro h1 g1 c1 hb1
 try simp only[Ab]
 refine Ok.Apy g1 hb1 rfl rfl (by rw[List.length_set];omega) ?_
 intro h2 g2 c2 hb2
 try simp only[Ab]
 refine Ok.Apy g2 hb2 rfl rfl (by rw[List.length_set,List.length_set];omega) ?_
 intro h3 g3 c3 hb3
 rw[show EV.int .i64 (-1)=I (-1) from rfl,show EV.int .i64 0=I 0 from rfl,Aw5]at g3
 have c03:=(c1.trans c2).trans c3
 have a3:=a.Awe hb g3 c03
 have cH:A9 H h h3:=c03.mono fun i hi=>by subst hi;exact a.sub.2.1
 have s3:O6 h3 m { S with a:=-1,b:=-1,u:=0 } H:=⟨fun i hi=>Nat.lt_of_lt_of_le (lt i hi) cH.next,D,p,bl,ql,np,q,c,G,a3⟩
 unfold Mi.close
 refine(Adu (K:=K) (S:={ S with a:=-1,b:=-1,u:=0 }) A hK (d:=e) (by omega) (hdue S.dr hn) s3 hb3 ha S.u).Al ?_
 have len1:=Mi.A5n { S with a:=-1,b:=-1,u:=0 } S.a S.u
 generalize ({ S with a:=-1,b:=-1,u:=0 }:Mi).leave S.a S.u=r at len1 ⊢
 rintro _ h4 ⟨rfl,s4,c4,hb4⟩
 refine(Adu (K:=K) A hK (d:=e) (by omega) (hdue _ (Nat.le_trans len1 hn)) s4 hb4 hbb S.u).Al ?_
 rintro _ h5 ⟨rfl,s5,c5,hb5⟩
 have cc4:A9 H h h4:=cH.trans c4
 have cc:A9 H h h5:=cc4.then c5 fun i hi hl=>by
  rcases hi with y|y
  ·exact y
  ·have:=cH.next;omega
 have s6:O6 h5 m (r.1.leave S.b S.u).1 (Bq H h h5):=s5.mono (fun i hi=>by
  rcases hi with (y|y)|y
  ·exact .inl y
  ·have:=cH.next;have:=c5.next;exact .inr ⟨by omega,by omega⟩
  ·have:=cc4.next;exact .inr ⟨by omega,y.2⟩) (Bq.lt lt cc.next)
 simp only[I,Ai]
 by_cases h0:r.2=0
 ·rw[decide_eq_true h0,if_pos h0]
  simp only[Ab,Jc]
  exact .ret ⟨rfl,s6,cc,hb5⟩
 ·rw[decide_eq_false h0,if_neg h0]
  simp only[Ab,Jc]
  exact .ret ⟨rfl,s6,cc,hb5⟩
end Go.Ev

namespace Go.Ev
open Go.Proofs
set_option maxRecDepth 100000
variable {K:Nat}{disp:Nat->Option FT}
def Mi.dropped(S:Mi)(z:Int):Nat->List Int:=if E6 S.g z<0 then S.ps else upd S.ps (E6 S.g z).toNat (Ov z (S.ps (E6 S.g z).toNat))
def Mi.mark(S:Mi)(z:Int):Mi:={ S with bad:=fun i=>if i=z.toNat then 1 else S.bad i,ps:=S.dropped z }
noncomputable def Mi.Ch(S:Mi)(z:Int):Mi × Int:=
 if E6 S.g z<0 then (S,13) else if S.Ag9 z=true then (S,16) else
 if ¬ z=S.a/\¬ z=S.b then (S.mark z,0) else ((S.mark z).close.1,if (S.mark z).close.2=34 then 34 else 0)
theorem Aid.Bgc {h h':Aa}{m D p bl ql np:Nat}{q c:Nat->Nat}{S:Mi}{G H:Nat->Prop}(a:Aid h m D p bl ql np q c S G H)(hb:HB h){bad':Nat->Int}(g:h'.get bl=some (.cells ((List.range (S.g.D*S.g.Z).toNat).map fun z=>I (bad' z)) 3))(ch:A9 (fun i=>i=bl) h h'):
 Aid h' m D p bl ql np q c { S with bad:=bad' } G H:=by
 have e:=a.J4.An3
 have k:∀ i o,h.get i=some o->(∀ l,o ≠ .cells l 3)->h'.get i=some o:=fun i o gi ho=>ch.at hb gi fun y=>by
  subst y;rw[e]at gi;cases gi;exact ho _ rfl
 refine⟨⟨k _ _ a.J4.J4 (by intros;simp),g⟩,⟨a.G3.pos,k _ _ a.G3.G3 (by intros;simp),k _ _ a.G3.row (by intros;simp),fun d hd=>k _ _ (a.G3.que d hd) (by intros;simp),fun d hd=>k _ _ (a.G3.chan d hd) (by intros;simp),a.G3.inj⟩,a.psz,a.drv.chg ch fun i hi y=>?_,a.apart,a.sub⟩
 subst y;exact a.apart.2.1 hi
theorem Bq.up {H:Nat->Prop}{h h1 h2:Aa}(a:h.next<=h1.next)(b:h1.next<=h2.next){i:Nat}(g:Bq H h1 h2 i):Bq H h h2 i:=by
 rcases g with y|y
 ·exact .inl y
 ·exact .inr ⟨by omega,y.2⟩
theorem Afj(A:Aq disp)(hK:10000<K){d:Nat}(hd:18<=d){n:Nat}(hdue:Ajh disp K n){h:Aa}{m:Nat}{S:Mi}{H:Nat->Prop}(hn:S.dr.ev.length<=n)(s:O6 h m S H)(hb:HB h)(ha:Rng S.a)(hbb:Rng S.b){z:Int}(hz:Rng z):
 Ok (Ad TT disp K d false 20 [.ptr m 0,I z] h) fun v h'=>v=I (S.Ch z).2/\O6 h' m (S.Ch z).1 (Bq H h h')/\A9 H h h'/\HB h':=by
 obtain⟨e,rfl⟩:∃ k,d=k+1:=⟨d-1,by omega⟩
 rw[Vn A (by omega)]
 obtain⟨lt,D,p,bl,ql,np,q,c,G,a⟩:=s
 have s:O6 h m S H:=⟨lt,D,p,bl,ql,np,q,c,G,a⟩
 have sm:=a.psz.sm
 simp only[Py,Ab,a.J4.A24]
 refine(R8 sm z hz h).Al ?_
 rintro _ h1 ⟨rfl,x1⟩
 have hb1:=x1.hb hb
 have s1:=s.ext hb x1
 unfold Mi.Ch
 simp only[I,Ai]
 rcases Y5 sm z with hdm|⟨d0,d1,d2,d3,d4⟩
 ·rw[hdm]
  simp only[show (-1:Int)<0 by decide,decide_true,Ab,if_true]
  exact .ret ⟨rfl,s1.mono (fun _=>.inl) (Bq.lt lt x1.next),Ext.to x1,hb1⟩
 ·rw[decide_eq_false (show ¬ E6 S.g z<0 by omega),if_neg (show ¬ E6 S.g z<0 by omega)]
  simp only[Ab]
  refine(Ahg (K:=K) s1 hb1 hz).Al ?_
  rintro _ h2 ⟨rfl,x2⟩
  have hb2:=x2.hb hb1
  have x12:=x1.trans x2
  cases hbd:S.Ag9 z with
  | true=>
   simp only[Ab,if_true]
   exact .ret ⟨rfl,(s1.ext hb1 x2).mono (fun _=>.inl) (Bq.lt lt x12.next),Ext.to x12,hb2⟩
  | false=>
   simp only[Ab,Bool.false_eq_true,if_false,N0]
   obtain⟨lt2,D,p,bl,ql,np,q,c,G,a⟩:=s1.ext hb1 x2
   obtain⟨j,rfl⟩:∃ j:Nat,z=j:=⟨z.toNat,by omega⟩
   have hj:j<(S.g.D*S.g.Z).toNat:=by omega
   rw[a.J4.Bk8,Aas hj,Nat.zero_add,Nat.mul_one]
   refine Ok.Apy a.J4.An3 hb2 rfl rfl (by rw[List.length_map,List.length_range];exact hj) ?_
   intro h3 g3 c3 hb3
   have hset:((List.range (S.g.D*S.g.Z).toNat).map fun z=>I (S.bad z)).set j (.int .i64 1)=(List.range (S.g.D*S.g.Z).toNat).map fun z=>I ((S.mark j).bad z):=by
    apply List.ext_getElem?
    intro i
    rw[List.getElem?_set,List.getElem?_map,List.getElem?_map,List.length_map,List.length_range]
    by_cases hi:j=i
    ·subst hi
     rw[if_pos rfl,if_pos hj,List.getElem?_range hj]
     simp[Mi.mark,I]
    ·rw[if_neg hi]
     rcases Nat.lt_or_ge i (S.g.D*S.g.Z).toNat with hl|hg
     ·rw[List.getElem?_range hl]
      have:¬ i=j:=fun y=>hi y.symm
      simp[Mi.mark,this]
     ·rw[List.getElem?_eq_none (by rw[List.length_range];exact hg)];rfl
   rw[hset]at g3
   have a3:=a.Bgc hb2 g3 c3
   have cH3:A9 H h h3:=(Ext.to x12).trans (c3.mono fun i hi=>by subst hi;exact a.sub.2.2.1)
   try simp only[Ab]
   rw[a3.J4.G3]
   refine(Bcr (K:=K) A (by omega) a3.G3 hb3 a3.psz (d:=e) (by omega) j hz).Al ?_
   rintro _ h4 ⟨⟨er,rfl⟩,c4,hb4,P4,Z4⟩
   obtain⟨a4,cH⟩:=a3.Aj8 hb3 P4 Z4 c4
   have a4:Aid h4 m D p bl ql np q c (S.mark j) G H:=a4
   have cc:A9 H h h4:=cH3.trans cH
   have s4:O6 h4 m (S.mark j) H:=⟨fun i hi=>Nat.lt_of_lt_of_le (lt i hi) cc.next,D,p,bl,ql,np,q,c,G,a4⟩
   try simp only[Ab]
   rw[a4.J4.oa]
   have close:¬ (¬ (j:Int)=S.a/\¬ (j:Int)=S.b)->Ok (Je (Ad TT disp K e false) (Ad TT disp K e true) K (.ptr m 0) h4) fun v h'=>v=I (if ¬ (j:Int)=S.a/\¬ (j:Int)=S.b then (S.mark j,(0:Int)) else ((S.mark j).close.1,if (S.mark j).close.2=34 then 34 else 0)).2/\O6 h' m (if ¬ (j:Int)=S.a/\¬ (j:Int)=S.b then (S.mark j,(0:Int)) else ((S.mark j).close.1,if (S.mark j).close.2=34 then 34 else 0)).1 (Bq H h h')/\A9 H h h'/\HB h':=by
    intro hno
    rw[if_neg hno]
    simp only[Je]
    refine(Aoa (K:=K) A hK (d:=e) (by omega) hdue (S:=S.mark j) hn s4 hb4 ha hbb).Al ?_
    rintro _ h5 ⟨rfl,s5,c5,hb5⟩
    have cc5:=cc.trans c5
    have s6:=s5.mono (fun i hi=>Bq.up cc.next c5.next hi) (Bq.lt lt cc5.next)
    simp only[I,Ai]
    by_cases h34:(S.mark j).close.2=34
    ·rw[decide_eq_true h34,if_pos h34]
     simp only[Ab]
     exact .ret ⟨rfl,s6,cc5,hb5⟩
    ·rw[decide_eq_false h34,if_neg h34]
     simp only[Ab,Nv]
     exact .ret ⟨rfl,s6,cc5,hb5⟩
   simp only[I,Ai]at close ⊢
   rw[show (S.mark (j:Int)).a=S.a from rfl]
   by_cases e1:(j:Int)=S.a
   ·rw[show decide (¬ (j:Int)=S.a)=false from decide_eq_false fun y=>y e1]
    simp only[Ab,Ai,He]
    exact close fun y=>y.1 e1
   ·rw[show decide (¬ (j:Int)=S.a)=true from decide_eq_true e1]
    simp only[Ab,Ai]
    rw[a4.J4.ob]
    simp only[I,Ai,He,Ab]
    rw[show (S.mark (j:Int)).b=S.b from rfl]
    by_cases e2:(j:Int)=S.b
    ·rw[show decide (¬ (j:Int)=S.b)=false from decide_eq_false fun y=>y e2]
     simp only[Ab]
     exact close fun y=>y.2 e2
    ·rw[show decide (¬ (j:Int)=S.b)=true from decide_eq_true e2]
     simp only[Ab]
     rw[if_pos ⟨e1,e2⟩]
     exact .ret ⟨rfl,s4.mono (fun _=>.inl) (Bq.lt lt cc.next),cc,hb4⟩
end Go.Ev

namespace Go.Ev
open Go.Proofs
set_option maxRecDepth 100000
variable {K:Nat}{disp:Nat->Option FT}
def Adh(ps:Nat->List Int)(n:Nat):Option (Int × Int × (Nat->List Int)):=
 if Vs ps n=0 then none else
 some ((ps (E8 ps (-1) n).toNat).headD 0,(ps (E8 ps (E8 ps (-1) n) n).toNat).headD 0,
  upd (upd ps (E8 ps (-1) n).toNat (ps (E8 ps (-1) n).toNat).tail) (E8 ps (E8 ps (-1) n) n).toNat (ps (E8 ps (E8 ps (-1) n) n).toNat).tail)
noncomputable def Mi.ready(S:Mi):Mi × Int:=
 if ¬ S.a = -1/\S.u<S.g.S then (S,0) else
 if ¬ S.dr.flush.2=0 then ({ S with dr:=S.dr.flush.1 },S.dr.flush.2) else
 match Adh S.ps S.g.D.toNat with
 | none=>({ S with dr:=S.dr.flush.1 },40)
 | some (x,y,ps')=>({ S with dr:=S.dr.flush.1,ps:=ps',a:=x,b:=y,u:=0 },0)
theorem An6(A:Aq disp)(hK:10000<K){d:Nat}(hd:16<=d){n:Nat}(hdue:Ajh disp K n){h:Aa}{m:Nat}{S:Mi}{H:Nat->Prop}(hn:S.dr.ev.length<=n)(s:O6 h m S H)(hb:HB h):
 Ok (Ad TT disp K d false 80 [.ptr m 0] h) fun v h'=>v=I S.ready.2/\O6 h' m S.ready.1 (Bq H h h')/\A9 H h h'/\HB h':=by
 obtain⟨e,rfl⟩:∃ k,d=k+1:=⟨d-1,by omega⟩
 rw[Abk A (by omega)]
 obtain⟨lt,D,p,bl,ql,np,q,c,G,a⟩:=s
 have s:O6 h m S H:=⟨lt,D,p,bl,ql,np,q,c,G,a⟩
 have hnp:=a.psz.nd
 subst hnp
 have es:Av (.ptr m (1+2)) h=fun k=>k (I S.g.S):=by
  funext k
  rw[Ck a.J4.J4 rfl];rfl
 have two:¬ (¬ S.a = -1/\S.u<S.g.S)->Ok (Mj (Ad TT disp K e false) (Ad TT disp K e true) K (.ptr m 0) h) fun v h'=>v=I S.ready.2/\O6 h' m S.ready.1 (Bq H h h')/\A9 H h h'/\HB h':=by
  intro hno
  unfold Mi.ready
  rw[if_neg hno]
  simp only[Mj,Ab,a.J4.D6]
  refine(Ajy (K:=K) A (by omega) (d:=e) (by omega) (hdue _ hn) a.drv hb).Al ?_
  rintro _ h2 ⟨rfl,d2,c2,hb2⟩
  have a2:=a.Azq hb d2 c2
  have cH2:A9 H h h2:=c2.mono a.sub.1
  have lt2:=Bq.lt lt cH2.next
  simp only[I,Ai]
  by_cases hf:S.dr.flush.2=0
  ·rw[decide_eq_false (show ¬ ¬ S.dr.flush.2=0 from fun y=>y hf),if_neg (show ¬ ¬ S.dr.flush.2=0 from fun y=>y hf)]
   simp only[Ab,Rs,a2.J4.G3]
   refine(Bay (K:=K) a2.G3 hb2 a2.psz (by omega)).Al ?_
   rintro _ h3 ⟨c3,hb3,hh⟩
   rcases hh with ⟨p0,rfl,P3⟩|⟨x,y,vx,vy,r,t,hp,f1,f2,hx,hy,hxy,e1,e2,rfl,P3,Z3⟩
   ·obtain⟨a3,cH3⟩:=a2.Aj8 hb2 P3 a2.psz c3
    have cc:A9 H h h3:=cH2.grow cH3
    have hg:Adh S.ps S.g.D.toNat=none:=by unfold Adh;rw[if_pos p0]
    rw[hg]
    simp only[Ab,I,Ai]
    simp only[show ¬ ((15:Int)=0) by decide,not_false_eq_true,decide_true,Ab]
    refine .ret ⟨rfl,O6.mono (H:=Bq H h h2) ⟨fun i hi=>Nat.lt_of_lt_of_le (lt2 i hi) c3.next,D,p,bl,ql,_,q,c,_,a3⟩ (fun i hi=>Bq.le c3.next hi) (Bq.lt lt cc.next),cc,hb3⟩
   ·obtain⟨a3,cH3⟩:=a2.Aj8 hb2 P3 Z3 c3
    have cc:A9 H h h3:=cH2.grow cH3
    have hg:Adh S.ps S.g.D.toNat=some (vx,vy,upd (upd S.ps x r) y t):=by
     unfold Adh
     have e1:S.ps x=vx::r:=e1
     have e2:S.ps y=vy::t:=e2
     have f1:E8 S.ps (-1) S.g.D.toNat=x:=f1
     have f2:E8 S.ps x S.g.D.toNat=y:=f2
     rw[if_neg hp,f1,f2]
     simp only[Int.toNat_natCast,e1,e2,List.headD_cons,List.tail_cons]
    rw[hg]
    simp only[Ab,I,Ai]
    simp only[not_true_eq_false,decide_false,Ab,Q4]
    have ml:=Api D S.g p bl (S.g.D*S.g.Z).toNat S.a S.b S.u
    refine Ok.Apy a3.J4.J4 hb3 rfl rfl (by show 265<(U0 D S.g p bl (S.g.D*S.g.Z).toNat S.a S.b S.u).length;omega) ?_
    intro h4 g4 c4 hb4
    try simp only[Ab]
    refine Ok.Apy g4 hb4 rfl rfl (by rw[List.length_set];show 266<(U0 D S.g p bl (S.g.D*S.g.Z).toNat S.a S.b S.u).length;omega) ?_
    intro h5 g5 c5 hb5
    try simp only[Ab]
    refine Ok.Apy g5 hb5 rfl rfl (by rw[List.length_set,List.length_set];show 267<(U0 D S.g p bl (S.g.D*S.g.Z).toNat S.a S.b S.u).length;omega) ?_
    intro h6 g6 c6 hb6
    have g6:h6.get m=some (.cells ((((U0 D S.g p bl (S.g.D*S.g.Z).toNat S.a S.b S.u).set 265 (I vx)).set 266 (I vy)).set 267 (I 0)) 149):=g6
    rw[Aw5]at g6
    have c36:=(c4.trans c5).trans c6
    have a6:=a3.Awe hb3 g6 c36
    have cc6:A9 H h h6:=cc.then (c36.mono (T:=fun i=>i=m) fun i hi=>hi) fun i hi _=>by subst hi;exact a.sub.2.1
    exact .ret ⟨rfl,O6.mono (H:=Bq H h h2) ⟨fun i hi=>Nat.lt_of_lt_of_le (lt2 i hi) (Nat.le_trans c3.next c36.next),D,p,bl,ql,_,q,c,_,a6⟩ (fun i hi=>Bq.le (Nat.le_trans c3.next c36.next) hi) (Bq.lt lt cc6.next),cc6,hb6⟩
  ·rw[decide_eq_true hf,if_pos hf]
   simp only[Ab]
   exact .ret ⟨rfl,⟨lt2,D,p,bl,ql,_,q,c,_,a2⟩,cH2,hb2⟩
 have done:¬ S.a = -1/\S.u<S.g.S->Ok (some (.int .i64 0,h)) fun v h'=>v=I S.ready.2/\O6 h' m S.ready.1 (Bq H h h')/\A9 H h h'/\HB h':=fun hy=>by
  unfold Mi.ready
  rw[if_pos hy]
  exact .ret ⟨rfl,s.mono (fun _=>.inl) (Bq.lt lt (Nat.le_refl _)),A9.refl _,hb⟩
 simp only[V6,Ab,a.J4.oa,I,Ai]
 by_cases h1:S.a = -1
 ·rw[decide_eq_false (show ¬ ¬ S.a = -1 from fun y=>y h1)]
  simp only[Ab,Hq,Ai]
  exact two fun y=>y.1 h1
 ·rw[decide_eq_true h1]
  simp only[Ab,Ai,a.J4.ou,es,I]
  by_cases h2:S.u<S.g.S
  ·rw[decide_eq_true h2]
   simp only[Hq,Ab]
   exact done ⟨h1,h2⟩
  ·rw[decide_eq_false h2]
   simp only[Hq,Ab]
   exact two fun y=>h2 y.2
end Go.Ev
