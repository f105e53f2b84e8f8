import Derived.Test.YtpkcfamminlmaaaGreatVb
import Derived.Test.YtpkcfamminlmaaaGreatDd
import Derived.Test.YtpkcfamminlmaaaGreatXb
import Derived.WalkKit
import Derived.ProofKit
import Derived.OpenShut
import Derived.Carry
import Derived.Deep.Slices
import Derived.Deep.Fields
set_option linter.unusedVariables false
set_option linter.unusedSimpArgs false
set_option linter.unusedSectionVars false
namespace Go.Ev
open Go.Proofs
set_option maxRecDepth 100000
variable {K:Nat}
def z8(b:Nat):EV:=.int .u8 (Int.ofNat b)
theorem A2a {b:Nat}{v2 v3:Nat}(n23:v2 ≠ v3):∀ (m i:Nat) (h:Aa),32-i<m->i<=32->HB h->h.get v2=some (.cells (List.replicate 32 (z8 0)) 87)->h.get v3=some (.cells (List.replicate i (z8 b)++List.replicate (32-i) (z8 0)) 87) ->
 Ok (Jl K m (z8 b) (.ptr v2 0) (.ptr v3 0) (I i) h) fun v h'=>v=.agg (List.replicate 32 (z8 b))/\A0 (fun j=>j=v2\/j=v3) h h'/\HB h':=by
 intro m
 induction m with
 | zero=>intro i h hm;omega
 | succ m ih=>
  intro i h hm hi hb g2 g3
  rw[Jl]
  simp only[I,Af,Ab]
  by_cases hlt:i<32
  ·have:decide ((i:Int)<32)=true:=by simp;omega
   simp only[this,Ab,Agi]
   rw[Arz hlt]
   simp only[Ab,Nat.mul_one]
   have l3:=hb _ _ g3
   refine Ok.st1 g3 rfl rfl (by simp;omega) ?_
   simp only[Agx,Af]
   rw[Cq (by omega) (by omega),show ((i:Nat):Int)+1=((i+1:Nat):Int) by omega]
   have hl:((List.replicate i (z8 b)++List.replicate (32-i) (z8 0)).set i (z8 b))=List.replicate (i+1) (z8 b)++List.replicate (32-(i+1)) (z8 0):=by
    rw[List.set_append_right _ _ (by simp),List.length_replicate,Nat.sub_self,show 32-i=(32-(i+1))+1 by omega,List.replicate_succ,List.set_cons_zero,List.replicate_succ',List.append_assoc];rfl
   rw[hl]
   refine(ih (i+1) _ (by omega) (by omega) (hb.put l3 _) (by rw[Aq _ (Ne.symm n23)];exact g2) (Ah _ _ _)).mono ?_
   rintro v h' ⟨rfl,c,hb'⟩
   exact⟨rfl,((A0.refl (S:=fun j=>j=v2\/j=v3) h).Az (.inl (.inr rfl)) l3 _).trans c,hb'⟩
  ·have:decide ((i:Int)<32)=false:=by simp;omega
   have hi':i=32:=by omega
   subst hi'
   simp only[this,Ab,Zq]
   rw[C0 g3 rfl,Av (n:=32) (by simp)]
   simp only[Ab]
   have l2:=hb _ _ g2
   refine Ok.st (List.replicate 32 (z8 b)) g2 rfl rfl (Bb rfl) ?_
   rw[Z1 (Ah _ _ _) Apw.1 Apw.2 rfl]
   exact .ret ⟨rfl,(A0.refl (S:=fun j=>j=v2\/j=v3) h).Az (.inl (.inl rfl)) l2 _,hb.put l2 _⟩
theorem A0b(hK:100<K)(b:Nat){h:Aa}(hb:HB h):Ok (Tb K (z8 b) h) fun v h'=>v=.agg (Bj (List.replicate 32 b))/\Ext h h'/\HB h':=by
 simp only[Tb,Ab]
 rw[show (h.new (.cells (List.replicate 32 (EV.int .u8 0)) 87)).next=h.next+1 from rfl]
 have x1:Ext h ((h.new (.cells (List.replicate 32 (EV.int .u8 0)) 87)).new (.cells (List.replicate 32 (EV.int .u8 0)) 87)):=(A0.new _ _).Fa _
 have g2:((h.new (.cells (List.replicate 32 (EV.int .u8 0)) 87)).new (.cells (List.replicate 32 (EV.int .u8 0)) 87)).get h.next=some (.cells (List.replicate 32 (z8 0)) 87):=by
  rw[A4 _ (Nat.lt_succ_self _)];exact Ac _ _
 have g3:((h.new (.cells (List.replicate 32 (EV.int .u8 0)) 87)).new (.cells (List.replicate 32 (EV.int .u8 0)) 87)).get (h.next+1)=some (.cells (List.replicate 0 (z8 b)++List.replicate (32-0) (z8 0)) 87):=Ac _ _
 refine(A2a (K:=K) (b:=b) (v2:=h.next) (v3:=h.next+1) (by omega) K 0 _ (by omega) (by omega) (x1.hb hb) g2 g3).mono ?_
 rintro v h' ⟨rfl,c,hb'⟩
 refine⟨?_,x1.then c fun i hi hl=>?_,hb'⟩
 ·unfold Bj;rw[List.map_replicate];rfl
 ·rcases hi with hi|hi <;> omega
end Go.Ev

namespace Go.Ev
open Go.Proofs
set_option maxRecDepth 100000
def Iq(i:Nat):En:=⟨3,(i:Int)+1,1,0,0,0,List.replicate 32 (i % 256)⟩
theorem Anh(i:Nat):(Iq i).Wf:=⟨by simp[Iq],fun b hb=>by rw[List.eq_of_mem_replicate hb];omega⟩
structure Awm(S:Mi)(x:Me)(i:Nat):Prop where
 ok:EOk (Iq i) 1 ((i:Int)+1)
 st:x.state=1
 seq:x.seq=(i:Int)+1
 sum:x.sum=((Du (Iq i).bytes:Nat):Int)
 dz:0<=Db S.g x.Ao
 dm:0<=Db S.g x.By
 ne:¬ Db S.g x.Ao=Db S.g x.By
 o0:0<=x.off
 o1:x.off<S.g.S
 rz:(S.dr.dv.zs x.Ao.toNat).l[x.off.toNat]? = some (Ah1 (Iq i) x.Ao x.By x.off 1 ((i:Int)+1))
 rm:(S.dr.dv.zs x.By.toNat).l[x.off.toNat]? = some (Ah1 (Iq i) x.By x.Ao x.off 1 ((i:Int)+1))
def A3l(S:Mi)(x:Me):Prop:=x.off.toNat<(S.dr.dv.zs x.Ao.toNat).safe/\x.off.toNat<(S.dr.dv.zs x.By.toNat).safe
structure Kz(S:Mi)(L:List Me):Prop where
 calm:Calm S
 st3:∀ i,(S.dr.dv.zs i).st<=2
 held:∀ (j:Nat) (x:Me),L[j]? = some x->Awm S x j/\(A3l S x\/x.Ao=S.a)
theorem Ako {α:Type}{l:List α}{i:Nat}{x:α}(h:l[i]? = some x):i<l.length:=(List.getElem?_eq_some_iff.1 h).1
theorem Awm.grow {S T:Mi}{x:Me}{i:Nat}(H:Awm S x i)(g:T.g=S.g)(e:∀ k,∃ t,(T.dr.dv.zs k).l=(S.dr.dv.zs k).l++t):Awm T x i:=by
 have up:∀ k (j:Nat) v,(S.dr.dv.zs k).l[j]? = some v->(T.dr.dv.zs k).l[j]? = some v:=fun k j v h=>by
  obtain⟨t,ht⟩:=e k
  rw[ht,List.getElem?_append_left (Ako h),h]
 exact⟨H.ok,H.st,H.seq,H.sum,by rw[g];exact H.dz,by rw[g];exact H.dm,by rw[g];exact H.ne,H.o0,by rw[g];exact H.o1,up _ _ _ H.rz,up _ _ _ H.rm⟩
theorem Kz.Pa {S:Mi}{L:List Me}(I:Kz S L):Kz S.Pa L/\∀ (j:Nat) (x:Me),L[j]? = some x->A3l S.Pa x:=by
 have sf:∀ (j:Nat) (x:Me),L[j]? = some x->A3l S.Pa x:=fun j x h=>⟨Ako (I.held j x h).1.rz,Ako (I.held j x h).1.rm⟩
 exact⟨⟨I.calm.Pa,I.st3,fun j x h=>⟨(I.held j x h).1.grow rfl fun k=>⟨[],by rw[List.append_nil];rfl⟩,.inl (sf j x h)⟩⟩,sf⟩
theorem Kz.Ad5 {S T:Mi}{L:List Me}(I:Kz S L)(h:S.Ad5=some T):Kz T L:=by
 have cT:=(Ao0 I.calm h).1
 unfold Mi.Ad5 at h
 split at h
 ·cases h;exact I
 ·cases hp:Aav S.ps S.g.D.toNat with
  | none=>rw[hp]at h;cases h
  | some t=>
   obtain⟨x,y,ps'⟩:=t
   rw[hp]at h
   cases h
   obtain⟨F,sf⟩:=I.Pa
   exact⟨cT,F.st3,fun j x h=>⟨(F.held j x h).1.grow rfl fun k=>⟨[],by rw[List.append_nil]⟩,.inl (sf j x h)⟩⟩
theorem Ami(T:Mi)(e:En)(Ar seq:Int)(k:Nat):∃ t,((T.Adt e Ar seq).dr.dv.zs k).l=(T.dr.dv.zs k).l++t/\((T.Adt e Ar seq).dr.dv.zs k).safe=(T.dr.dv.zs k).safe/\((T.dr.dv.zs k).st<=2->((T.Adt e Ar seq).dr.dv.zs k).st<=2):=by
 have one:∀ (Z:Zn) s x,(Z.app s x).l=Z.l++[x]/\(Z.app s x).safe=Z.safe/\(Z.st<=2->(Z.app s x).st<=2):=fun Z s x=>⟨rfl,rfl,fun _=>by unfold Zn.app;simp only;split <;> omega⟩
 show ∃ t,(Jo (Jo T.dr.dv.zs T.a.toNat _) T.b.toNat _ k).l=_/\(Jo (Jo T.dr.dv.zs T.a.toNat _) T.b.toNat _ k).safe=_/\(_->(Jo (Jo T.dr.dv.zs T.a.toNat _) T.b.toNat _ k).st<=2)
 unfold Jo
 by_cases hb:k=T.b.toNat
 ·rw[if_pos hb];subst hb;exact⟨_,one _ _ _⟩
 ·rw[if_neg hb]
  by_cases ha:k=T.a.toNat
  ·rw[if_pos ha];subst ha;exact⟨_,one _ _ _⟩
  ·rw[if_neg ha];exact⟨[],by simp,rfl,id⟩
noncomputable def Bcz(T:Mi)(i:Nat):Me:=⟨1,T.a,T.b,T.u,(i:Int)+1,((Du (Iq i).bytes:Nat):Int)⟩
theorem Kz.Adt {T:Mi}{L:List Me}(I:Kz T L)(r:Roomy T)(he:EOk (Iq L.length) 1 ((L.length:Int)+1)):Kz (T.Adt (Iq L.length) 1 ((L.length:Int)+1)) (L++[Bcz T L.length]):=by
 obtain⟨n1,n2,n3,n4,n5,n6,n7⟩:=I.calm.ne r
 refine⟨I.calm.Adt r _ _ _,fun i=>?_,fun j x h=>?_⟩
 ·obtain⟨_,_,_,h⟩:=Ami T (Iq L.length) 1 ((L.length:Int)+1) i
  exact h (I.st3 i)
 ·rcases Nat.lt_or_ge j L.length with y|y
  ·rw[List.getElem?_append_left y]at h
   obtain⟨H,s⟩:=I.held j x h
   refine⟨H.grow rfl fun k=>?_,?_⟩
   ·obtain⟨t,h,_⟩:=Ami T (Iq L.length) 1 ((L.length:Int)+1) k;exact⟨t,h⟩
   ·rcases s with s|s
    ·refine .inl ⟨?_,?_⟩
     ·obtain⟨_,_,h,_⟩:=Ami T (Iq L.length) 1 ((L.length:Int)+1) x.Ao.toNat;rw[h];exact s.1
     ·obtain⟨_,_,h,_⟩:=Ami T (Iq L.length) 1 ((L.length:Int)+1) x.By.toNat;rw[h];exact s.2
    ·exact .inr s
  ·have hj:j=L.length:=by have:=Ako h;rw[List.length_append,List.length_singleton]at this;omega
   subst hj
   rw[List.getElem?_append_right (Nat.le_refl _),Nat.sub_self]at h
   cases h
   have la:=(n7 _ (.inl rfl)).1
   have lb:=(n7 _ (.inr rfl)).1
   have hu:=r.2
   refine⟨⟨he,rfl,rfl,rfl,n1,n2,n3,n4,hu,?_,?_⟩,.inr rfl⟩
   ·show (Jo (Jo T.dr.dv.zs T.a.toNat _) T.b.toNat _ T.a.toNat).l[T.u.toNat]? = _
    unfold Jo;rw[if_neg n5,if_pos rfl]
    show ((T.dr.dv.zs T.a.toNat).l++[_])[T.u.toNat]? = _
    rw[show T.u.toNat=(T.dr.dv.zs T.a.toNat).l.length by omega,List.getElem?_append_right (Nat.le_refl _),Nat.sub_self];rfl
   ·show (Jo (Jo T.dr.dv.zs T.a.toNat _) T.b.toNat _ T.b.toNat).l[T.u.toNat]? = _
    unfold Jo;rw[if_pos rfl]
    show ((T.dr.dv.zs T.b.toNat).l++[_])[T.u.toNat]? = _
    rw[show T.u.toNat=(T.dr.dv.zs T.b.toNat).l.length by omega,List.getElem?_append_right (Nat.le_refl _),Nat.sub_self];rfl
noncomputable def Mi.crashed(S:Mi)(keep:List Int):Mi:={ S with dr:={ S.dr with dv:=({ S.dr.dv with down:=true }:Dv).Abi keep } }
structure Xu(T:Mi)(L:List Me)(a:Int):Prop where
 rt:rtB T.g=true
 ev:T.dr.ev = []
 up:T.dr.dv.down=false
 n:T.dr.dv.n=(T.g.D*T.g.Z).toNat
 bad:∀ i,¬ T.bad i=1
 st3:∀ i,(T.dr.dv.zs i).st<=2
 held:∀ (j:Nat) (x:Me),L[j]? = some x->¬ x.Ao=a->Awm T x j
theorem Kz.crashed {S:Mi}{L:List Me}(I:Kz S L)(keep:List Int):Xu (S.crashed keep) L S.a:=by
 have zs:∀ k,(S.crashed keep).dr.dv.zs k=(S.dr.dv.zs k).Ul S.dr.dv.size (Nd keep k):=fun k=>rfl
 refine⟨I.calm.rt,I.calm.ev,rfl,I.calm.n,I.calm.bad,fun i=>?_,fun j x h hne=>?_⟩
 ·rw[zs];unfold Zn.Ul;simp only
  have:=I.st3 i
  split
  ·omega
  ·split
   ·omega
   ·split <;> omega
 ·obtain⟨H,s⟩:=I.held j x h
  have s:=s.resolve_right hne
  have up:∀ k (i:Nat) v,i<(S.dr.dv.zs k).safe->(S.dr.dv.zs k).l[i]? = some v->((S.crashed keep).dr.dv.zs k).l[i]? = some v:=fun k i v h1 h2=>by
   rw[zs]
   show ((S.dr.dv.zs k).l.take ((S.dr.dv.zs k).left (Nd keep k)))[i]? = some v
   rw[List.getElem?_take_of_lt,h2]
   unfold Zn.left;omega
  exact⟨H.ok,H.st,H.seq,H.sum,H.dz,H.dm,H.ne,H.o0,H.o1,up _ _ _ s.1 H.rz,up _ _ _ s.2 H.rm⟩
noncomputable def Mi.Aua(S:Mi):Mi:={ S with dr:={ S.dr with dv:=S.dr.dv.tick.tick } }
theorem Xu.Aua {T:Mi}{L:List Me}{a:Int}(I:Xu T L a):Xu T.Aua L a:=
 ⟨I.rt,I.ev,I.up,I.n,I.bad,I.st3,fun j x h hn=>by
  have H:=I.held j x h hn
  exact⟨H.ok,H.st,H.seq,H.sum,H.dz,H.dm,H.ne,H.o0,H.o1,H.rz,H.rm⟩⟩
theorem Awm.A99 {S:Mi}{x:Me}{i:Nat}(H:Awm S x i)(rt:rtB S.g=true):Aj4 S.g x=true:=by
 obtain⟨q1,q2,_⟩:=H.ok.seq
 have hsl:Du (Iq i).bytes<4294967296:=Att fun b hb=>by rw[List.eq_of_mem_replicate hb];omega
 have h1:=H.seq;have h2:=H.sum
 unfold Aj4 meB
 rw[decide_eq_true H.st,Aup rt H.dz H.o0 H.o1,Aup rt H.dm H.o0 H.o1,decide_eq_true H.ne,decide_eq_true (show 1<=x.seq by omega),decide_eq_true (show x.seq<=281474976710655 by omega),decide_eq_true (show (0:Int)<=x.sum by omega),decide_eq_true (show x.sum<=4294967295 by omega)]
 rfl
theorem A8l {S:Mi}(rt:rtB S.g=true)(n:S.dr.dv.n=(S.g.D*S.g.Z).toNat){z:Int}(h:0<=Db S.g z):0<=z/\z.toNat<S.dr.dv.n/\S.dr.dv.has z=true/\z<=511:=by
 have s:=Xo rt
 have h1:=s.d1;have h2:=s.z1;have h3:=s.d0;have h4:=s.z0
 obtain⟨m0,m1⟩:=U7 (a:=S.g.D) (b:=S.g.Z) (A:=8) (B:=64) (by omega) (by omega) (by omega) (by omega)
 rcases Ti s z with y|⟨_,_,_,y1,y2⟩
 ·omega
 ·refine⟨y1,by omega,?_,by omega⟩
  unfold Dv.has
  exact decide_eq_true ⟨y1,by omega⟩
theorem Aw6 {T:Mi}{L:List Me}{a:Int}(I:Xu T L a){j:Nat}{x:Me}(h:L[j]? = some x)(hn:¬ x.Ao=a):T.check x=(T.Aua,(Iq j).bytes,2,0):=by
 have H:=I.held j x h hn
 have s:=Xo I.rt
 have s1:=s.s1
 have o1:=H.o1
 have n4:=H.o0
 obtain⟨a1,a2,a3,a4⟩:=A8l I.rt I.n H.dz
 obtain⟨b1,b2,b3,b4⟩:=A8l I.rt I.n H.dm
 have fa:=H.ok.at (z:=x.Ao) (mt:=x.By) (off:=x.off) a1 (by omega) b1 (by omega) n4 (by omega)
 have fb:=H.ok.at (z:=x.By) (mt:=x.Ao) (off:=x.off) b1 (by omega) a1 (by omega) n4 (by omega)
 have st:=I.st3
 have ca:=Aqq (S:=T) I.ev I.up (Anh j) fa (x:=x) rfl a3 (by have:=st x.Ao.toNat;omega) n4 H.rz
 have cb:=Aqq (S:={ T with dr:={ T.dr with dv:=T.dr.dv.tick } }) I.ev I.up (Anh j) fb (x:=x) rfl b3 (by have:=st x.By.toNat;show ¬ (T.dr.dv.zs x.By.toNat).st=4;omega) n4 H.rm
 have k3:¬ (Iq j).kind=2:=by show ¬ (3:Int)=2;decide
 rw[if_pos ⟨k3,H.seq.symm,H.sum.symm⟩]at ca cb
 unfold Mi.check
 rw[H.A99 I.rt,if_neg (by simp),ca]
 simp only[not_true_eq_false,if_false]
 rw[cb]
 unfold Mi.Asp
 simp only[not_true_eq_false,if_false,Bool.true_eq_false,false_and,if_true,true_and]
 simp only[Mi.N5,I.bad,decide_false,Bool.and_false,if_true]
 rfl
end Go.Ev

namespace Go.Ev
open Go.Proofs
set_option maxRecDepth 100000
variable {K:Nat}{disp:Nat->Option FT}
theorem Afx.Hg {h:Aa}{v:EV}{b:Nat}{l:List Int}(r:Afx h v b l)(k:EV->R):Ev.Hg v k=k (I l.length):=by
 rcases r.row with ⟨rfl,rfl⟩|⟨off,r',op,rfl,_⟩ <;> rfl
theorem Afx.at {h:Aa}{v:EV}{b:Nat}{l:List Int}(r:Afx h v b l){j:Nat}(hj:j<l.length)(k:EV->R):It 1 v (I j) (fun p=>Al p h k)=k (I l[j]):=by
 rcases r.row with ⟨rfl,rfl⟩|⟨off,r',op,rfl,y⟩
 ·exact absurd hj (Nat.not_lt_zero _)
 ·unfold I;rw[Zw hj,Nat.mul_one];exact y j hj k
theorem A1u(hK:10000<K){h:Aa}{m:Nat}{S:Mi}{F:Nat->Prop}(M:Fv h m S F)(hb:HB h){kv:EV}{kb:Nat}{l:List Int}(hkb:F kb)(hk:Afx h kv kb l){kk:EV->Aa->R}{Q:EV->Aa->Prop}
 (hq:∀ h',Fv h' m (S.crashed l) F->Kf F h h'->HB h'->Ok (kk (.tuple []) h') Q) :
 Ok (Aj (Ef K (.ptr m 0) h) fun v91 h=>Aj (Di K v91 h) fun v92 h=>Aj (G9 K v92 h) fun _ h=>Aj (Ef K (.ptr m 0) h) fun v95 h=>Aj (Im K v95 kv h) kk) Q:=by
 obtain⟨lt,D,p,bl,ql,np,q,c,G,a⟩:=M.s
 obtain⟨V,M',qc,qh,cs,hs,ms,F',b⟩:=a.drv.O1
 rw[Ac7 a.I8,A9,Apz b,A9]
 refine(Ai7 (K:=K) b.dev hb).Aj ?_
 rintro _ h2 ⟨d2,c2,hb2⟩
 obtain⟨s2,c2'⟩:=a.drv.put b hb (d2.grow b.dev.lt c2.next) c2
 obtain⟨M2,k2⟩:=M.drv hb a s2 c2'
 have hk2:=hk.frame (k2.get kb (M.lt kb hkb) fun y=>y hkb)
 obtain⟨lt2,D2,p2,bl2,ql2,np2,q2,e2,G2,a2⟩:=M2.s
 rw[Ac7 a2.I8,A9]
 refine(Aqk (K:=K) (by omega) a2.drv hb2 (M2.lt kb hkb) (fun y=>(a2.sub.1 _ y).2 hkb) hk2).Aj ?_
 rintro _ h3 ⟨rfl,s3,c3,hb3⟩
 obtain⟨M3,k3⟩:=M2.drv hb2 a2 s3 c3
 exact hq h3 M3 (k2.trans k3) hb3
theorem Fv.Bar {T:Nat->Prop}{h h':Aa}{m:Nat}{S:Mi}{F:Nat->Prop}(M:Fv h m S F)(c:A0 T h h')(t:∀ i,T i->i<h.next->F i):Fv h' m S (A6 F h h'):=by
 refine⟨(M.s.frame c.next fun i hi=>c.get i hi.1 fun y=>hi.2 (t i y hi.1)).mono (fun i hi=>⟨Nat.lt_of_lt_of_le hi.1 c.next,fun y=>?_⟩) fun i hi=>hi.1,A6.lt M.lt c.next,M.wf⟩
 rcases y with y|y
 ·exact hi.2 y
 ·have:=hi.1;omega
theorem A28 {n:Nat}:∀ (l:List (List EV)) (j:Nat) (x:List EV),(∀ x ∈ l,x.length=n)->l[j]? = some x->Of l.flatten (j*n) n=some x:=by
 have len:∀ l:List (List EV),(∀ x ∈ l,x.length=n)->l.flatten.length=l.length*n:=fun l=>by
  induction l with
  | nil=>intro _;simp
  | cons a r ih=>intro h;rw[List.flatten_cons,List.length_append,h a (List.mem_cons_self ..),ih fun x hx=>h x (List.mem_cons_of_mem _ hx),List.length_cons,Nat.succ_mul];omega
 intro l j x hl hx
 have hj:=Ako hx
 rw[Ff (by rw[len l hl];have:=Nat.mul_le_mul_right n (show j+1<=l.length from hj);rw[Nat.succ_mul]at this;exact this)]
 congr 1
 induction l generalizing j with
 | nil=>cases hx
 | cons a r ih=>
  have ha:=hl a (List.mem_cons_self ..)
  cases j with
  | zero=>
   rw[List.getElem?_cons_zero]at hx;cases hx
   rw[Nat.zero_mul,List.drop_zero,List.flatten_cons,<-ha,List.take_left]
  | succ j=>
   rw[List.getElem?_cons_succ]at hx
   rw[List.flatten_cons,Nat.succ_mul,show j*n+n=a.length+j*n by omega,<-List.drop_drop,List.drop_left]
   exact ih j (fun x hx=>hl x (List.mem_cons_of_mem _ hx)) hx (Ako hx)
theorem w8 {i:Nat}(h:i<256):Cv .u8 (i:Int)=(i:Int):=by
 show As (Nat.ble (Nat.succ i) 256) (Int.ofNat i) _=_
 rw[Nat.ble_eq_true_of_le h,Ak];rfl
theorem A22(i:Nat):V2 (D3 [(0,1),(1,1),(2,1),(3,1),(4,1),(5,1),(6,32)]) [(0,I 3),(1,I ((i:Int)+1)),(2,I 1),(6,.agg (Bj (List.replicate 32 (i % 256))))] (List.replicate 6 (.int .i64 0)++List.replicate 32 (.int .u8 0))=some (Iq i).cells:=rfl
theorem Ok.Bbv {h:Aa}{i:Nat}{z:List EV}{kk:Aa->R}{Q:EV->Aa->Prop}(x:Me)(hg:h.get i=some (.cells z 83))(hz:z.length=6)(hk:Ok (kk (h.put i (.cells x.cells 83))) Q):Ok (D5 6 (.ptr i 0) (.agg x.cells) h kk) Q:=by
 have hl:x.cells.length=6:=rfl
 generalize x.cells=xs at hk hl ⊢
 exact Ok.st xs hg rfl (by show Gx xs=6;rw[Bf,hl]) (Bb (by show z.length=xs.length;rw[hl,hz])) hk
theorem A4w {S:Mi}{e:En}{ep sq:Int}(he:¬ EOk e ep sq):S.place e ep sq=(S,Me.zero,(Dk e 0 0 ep sq).2):=by
 unfold Mi.place;rw[if_pos (show ¬ (Dk e 0 0 ep sq).2=0 from he)]
theorem A0r {S:Mi}{e:En}{ep sq:Int}(he:¬ EOk e ep sq):¬ (S.place e ep sq).2.2=0/\(S.place e ep sq).1=S:=by
 rw[A4w he];exact⟨he,rfl⟩
theorem Aya {S:Mi}{L:List Me}(V:Kz S L):((S.place (Iq L.length) 1 ((L.length:Int)+1)).2.2=0/\Kz (S.place (Iq L.length) 1 ((L.length:Int)+1)).1 (L++[(S.place (Iq L.length) 1 ((L.length:Int)+1)).2.1])) \/
 (¬ (S.place (Iq L.length) 1 ((L.length:Int)+1)).2.2=0/\Kz (S.place (Iq L.length) 1 ((L.length:Int)+1)).1 L):=by
 by_cases he:EOk (Iq L.length) 1 ((L.length:Int)+1)
 ·rw[Aw2 V.calm he]
  cases ho:S.Ad5 with
  | none=>exact .inr ⟨by show ¬ (40:Int)=0;decide,V.Pa.1⟩
  | some T=>
   obtain⟨_,rT,_⟩:=Ao0 V.calm ho
   exact .inl ⟨rfl,(V.Ad5 ho).Adt rT he⟩
 ·refine .inr ?_
  obtain⟨a,b⟩:=A0r (S:=S) he
  exact⟨a,by rw[b];exact V⟩
def F1(n0 q:Nat):Nat->Prop:=fun i=>i<n0\/i=q
section
variable (A:Aw disp)(hK:10000<K){d:Nat}(hd:22<=d){m:Nat}{h0:Aa}{n0:Nat}{zv kv:EV}{zb kb:Nat}{zl kl:List Int}(hz:Afx h0 zv zb zl)(hk:Afx h0 kv kb kl)(lz:zb<n0)(lk:kb<n0)(l0:n0<=h0.next)
include A hK hd
theorem Axy(hz:Afx h0 zv zb zl)(lz:zb<n0)(l0:n0<=h0.next)(hr:∀ z ∈ zl,Rng z)(hl:zl.length<=1000){v2:EV}{Q:EV->Aa->Prop}
 (hq:∀ h S,Fv h m S (fun i=>i<n0)->HB h->Aqs S->Kf (fun i=>i<n0) h0 h->Ok (Fp (Ae TT disp K d false) (Ae TT disp K d true) K v2 kv (.ptr m 0) h) Q) :
 ∀ (n i:Nat) (h:Aa) (S:Mi),zl.length-i<n->i<=zl.length->Fv h m S (fun i=>i<n0)->HB h->Aqs S->Kf (fun i=>i<n0) h0 h ->
  Ok (B6 (Ae TT disp K d false) (Ae TT disp K d true) K n v2 kv (.ptr m 0) zv (I zl.length) (I i) h) Q:=by
 intro n
 induction n with
 | zero=>intro i h S hn;omega
 | succ n ih=>
  intro i h S hn hi M hb f kf
  have hk:=hz.frame (kf.get zb (by omega) fun y=>y lz)
  rw[B6]
  simp only[I,Af,Ab]
  by_cases hlt:i<zl.length
  ·have:decide ((i:Int)<(zl.length:Int))=true:=by simp;omega
   simp only[this,Ab,L7]
   have:=hk.at hlt
   simp only[I]at this
   rw[this]
   obtain⟨p,ep,Ano⟩:=A3w (K:=K) M hb A hK
   simp only[ep,Ab]
   refine(Ano (d:=d) (by omega) (z:=zl[i]) (hr _ (List.getElem_mem hlt)) (fun _ y=>f.calm.bad _ y)).Aj ?_
   rintro _ h2 ⟨rfl,M2,k2,hb2⟩
   simp only[L5,Af]
   rw[Cq (by omega) (by omega),show ((i:Nat):Int)+1=((i+1:Nat):Int) by omega]
   exact ih (i+1) h2 _ (by omega) (by omega) M2 hb2 (f.Ano _) (kf.trans k2)
  ·have:decide ((i:Int)<(zl.length:Int))=false:=by simp;omega
   simp only[this,Ab]
   exact hq h S M hb f kf
theorem Avt(l0:n0<=h0.next){N:Nat}(hN:N<=100){Q:EV->Aa->Prop}
 (hq:∀ h S L s q i,Fv h m S (F1 n0 q)->HB h->Kz S L->B7 h s q 83 6 i (L.map Me.cells).flatten->L.length=i->i<=100->Kf (fun i=>i<n0) h0 h->Ok (Dz (Ae TT disp K d false) (Ae TT disp K d true) K kv (.ptr m 0) s h) Q) :
 ∀ (n i:Nat) (h:Aa) (S:Mi) (L:List Me) (s:EV) (q:Nat),N-i<n->i<=N->Fv h m S (F1 n0 q)->HB h->Kz S L->B7 h s q 83 6 i (L.map Me.cells).flatten->L.length=i->(0<i->n0<=q)->Kf (fun i=>i<n0) h0 h ->
  Ok (B5 (Ae TT disp K d false) (Ae TT disp K d true) K n kv (.ptr m 0) s (I N) (I i) h) Q:=by
 intro n
 induction n with
 | zero=>intro i h S L s q hn;omega
 | succ n ih=>
  intro i h S L s q hn hi M hb V row hL hq0 kf
  rw[B5]
  simp only[I,Af,Ab]
  by_cases hlt:i<N
  ·have:decide ((i:Int)<(N:Int))=true:=by simp;omega
   simp only[this,Ab,Ly,Af]
   rw[Cq (by omega) (by omega),w8 (by omega)]
   refine(A0b (K:=K) (by omega) i hb).Aj ?_
   rintro _ h2 ⟨rfl,x2,hb2⟩
   rw[show List.replicate 32 i=List.replicate 32 (i % 256) by rw[Nat.mod_eq_of_lt (by omega)]]
   have hfm:=A22 i
   simp only[I]at hfm
   rw[Bi hfm]
   try simp only[Af]
   try rw[Cq (by omega) (by omega)]
   have M2:=(M.ext hb x2).less fun j (hj:F1 n0 q j)=>Or.inl hj
   refine(A0j A hK (by omega) M2 hb2 (Anh i) 1 ((i:Int)+1)).Aj ?_
   rintro _ h3 ⟨rfl,M3,k3,hb3⟩
   have pl:=Aya V
   rw[hL]at pl
   generalize S.place (Iq i) 1 ((i:Int)+1)=P at M3 pl ⊢
   simp only[Ab]
   refine Ok.Bbv P.2.1 (Ac _ _) rfl ?_
   have x7:Ext h3 ((h3.new (.cells [EV.int .i64 0,.int .i64 0,.int .i64 0,.int .i64 0,.int .i64 0,.int .i64 0] 83)).put h3.next (.cells P.2.1.cells 83)):=(A0.new h3 _:Ext _ _).Az (.inr (Nat.le_refl _)) (Nat.lt_succ_self _) _
   have g7:((h3.new (.cells [EV.int .i64 0,.int .i64 0,.int .i64 0,.int .i64 0,.int .i64 0,.int .i64 0] 83)).put h3.next (.cells P.2.1.cells 83)).get h3.next=some (.cells P.2.1.cells 83):=Ah _ _ _
   generalize (h3.new (.cells [EV.int .i64 0,.int .i64 0,.int .i64 0,.int .i64 0,.int .i64 0,.int .i64 0] 83)).put h3.next (.cells P.2.1.cells 83)=h7 at x7 g7 ⊢
   have hb7:=x7.hb hb3
   have lq:=M.lt q (.inr rfl)
   have lq2:q<h2.next:=Nat.lt_of_lt_of_le lq x2.next
   have lq3:q<h3.next:=Nat.lt_of_lt_of_le lq2 k3.next
   have row7:B7 h7 s q 83 6 i (L.map Me.cells).flatten:=row.frame fun _=>by rw[x7.get q lq3 id,k3.get q lq2 (fun y=>y (.inr rfl)),x2.get q lq id]
   have M7:=M3.ext hb3 x7
   have kf7:Kf (fun i=>i<n0) h0 h7:=((kf.trans x2.kf).trans (k3.less fun j hj=>.inl hj)).trans x7.kf
   rcases pl with ⟨e0,V'⟩|⟨e0,V'⟩
   ·simp only[e0,Af,not_true_eq_false,decide_false,Ab,Lv]
    rw[C0 g7 rfl,Av (n:=6) rfl]
    try simp only[Ab]
    refine S2 row7 hb7 rfl rfl (show P.2.1.cells.length=6 from rfl) (by omega) (by omega) ?_
    intro h8 row8 n8 c8
    simp only[Lz,Af]
    rw[Cq (by omega) (by omega),show ((i:Nat):Int)+1=((i+1:Nat):Int) by omega]
    have M8:Fv h8 m P.1 (F1 n0 (h7.next+1)):=(M7.Bar c8 fun j hj _=>.inl (.inr hj.2)).less fun j hj=>by
     rcases hj with hj|hj
     ·exact .inl (.inl (.inl hj))
     ·exact .inr ⟨by omega,by omega⟩
    refine ih (i+1) h8 P.1 (L++[P.2.1]) _ _ (by omega) (by omega) M8 (c8.hb hb7) V' ?_ (by rw[List.length_append,hL];rfl) (fun _=>by have:=x7.next;have:=x2.next;have:=k3.next;have:=kf.next;omega) (kf7.trans (c8.mono fun j hj y=>?_))
    ·rw[List.map_append,List.flatten_append,show ([P.2.1].map Me.cells).flatten=P.2.1.cells from List.append_nil _];exact row8
    ·have:=hq0 hj.1
     have y:j<n0:=y
     have:=hj.2
     omega
   ·simp only[Af,e0,not_false_eq_true,decide_true,Ab]
    exact hq h7 P.1 L s q i (M7.less fun j hj=>.inl hj) hb7 V' row7 hL (by omega) kf7
  ·have:decide ((i:Int)<(N:Int))=false:=by simp;omega
   simp only[this,Ab]
   exact hq h S L s q i M hb V row hL (by omega) kf
theorem Av1 {L:List Me}{N:Nat}(hL:L.length=N)(hN:N<=100){a:Int}{s:EV}{q:Nat}:∀ (n i:Nat) (h:Aa) (T:Mi),N-i<n->i<=N->Fv h m T (F1 n0 q)->HB h->Xu T L a->B7 h s q 83 6 N (L.map Me.cells).flatten->Kf (fun i=>i<n0) h0 h ->
 Ok (Bx (Ae TT disp K d false) (Ae TT disp K d true) K n (.ptr m 0) (I a) s (I N) (I i) h) fun v h'=>v=.bool true/\Kf (fun i=>i<n0) h0 h':=by
 intro n
 induction n with
 | zero=>intro i h T hn;omega
 | succ n ih=>
  intro i h T hn hi M hb V row kf
  rw[Bx]
  simp only[I,Af,Ab]
  by_cases hlt:i<N
  ·have:decide ((i:Int)<(N:Int))=true:=by simp;omega
   simp only[this,Ab,Mv]
   obtain⟨x,hx⟩:∃ x,L[i]? = some x:=⟨_,List.getElem?_eq_getElem (by omega)⟩
   rw[row.ix hlt,Rt (row.block (by omega)) rfl (A28 (n:=6) (L.map Me.cells) i x.cells (fun y hy=>by obtain⟨z,_,rfl⟩:=List.mem_map.1 hy;rfl) (by rw[List.getElem?_map,hx];rfl))]
   try simp only[Ab]
   refine Ok.Bbv x (Ac _ _) rfl ?_
   have x2:Ext h ((h.new (.cells [EV.int .i64 0,.int .i64 0,.int .i64 0,.int .i64 0,.int .i64 0,.int .i64 0] 83)).put h.next (.cells x.cells 83)):=(A0.new h _:Ext _ _).Az (.inr (Nat.le_refl _)) (Nat.lt_succ_self _) _
   have g2:((h.new (.cells [EV.int .i64 0,.int .i64 0,.int .i64 0,.int .i64 0,.int .i64 0,.int .i64 0] 83)).put h.next (.cells x.cells 83)).get h.next=some (.cells x.cells 83):=Ah _ _ _
   generalize (h.new (.cells [EV.int .i64 0,.int .i64 0,.int .i64 0,.int .i64 0,.int .i64 0,.int .i64 0] 83)).put h.next (.cells x.cells 83)=h2 at x2 g2 ⊢
   have hb2:=x2.hb hb
   have M2:=(M.ext hb x2).less fun j (hj:F1 n0 q j)=>Or.inl hj
   have lq:=M.lt q (.inr rfl)
   have row2:B7 h2 s q 83 6 N (L.map Me.cells).flatten:=row.frame fun _=>x2.get q lq id
   have lq2:q<h2.next:=Nat.lt_of_lt_of_le lq x2.next
   rw[Dy g2 rfl (v:=I x.Ao) rfl]
   simp only[I,Af]
   have nxt:∀ h' T',Fv h' m T' (F1 n0 q)->HB h'->Xu T' L a->B7 h' s q 83 6 N (L.map Me.cells).flatten->Kf (fun i=>i<n0) h0 h'->Ok (F6 (Ae TT disp K d false) (Ae TT disp K d true) K (Bx (Ae TT disp K d false) (Ae TT disp K d true) K n) (.ptr m 0) (I a) s (I N) (I i) h') fun v h'=>v=.bool true/\Kf (fun i=>i<n0) h0 h':=by
    intro h' T' M' hb' V' row' kf'
    simp only[F6,I,Af]
    rw[Cq (by omega) (by omega),show ((i:Nat):Int)+1=((i+1:Nat):Int) by omega]
    exact ih (i+1) h' T' (by omega) (by omega) M' hb' V' row' kf'
   simp only[I]at nxt
   by_cases hza:x.Ao=a
   ·simp only[hza,decide_true,Ab]
    exact nxt h2 T M2 hb2 V row2 (kf.trans x2.kf)
   ·simp only[hza,decide_false,Ab,Na]
    rw[C0 g2 rfl,Av (n:=6) rfl]
    try simp only[Ab]
    have H:=V.held i x hx hza
    have sm:=Xo V.rt
    refine(A1e A hK (by omega) M2 hb2 (x:=x) (Adz sm H.dz) (Adz sm H.dm)).Aj ?_
    rintro _ h3 ⟨rfl,bl,M3,k3,hb3⟩
    rw[Aw6 V hx hza]at M3 bl ⊢
    simp only[Ab]at M3 bl ⊢
    have row3:B7 h3 s q 83 6 N (L.map Me.cells).flatten:=row2.frame fun _=>k3.get q lq2 fun y=>y (.inr rfl)
    have lq3:q<h3.next:=Nat.lt_of_lt_of_le lq2 k3.next
    have ul:(Bj (Iq i).bytes).length=32:=by rw[Bt,bl]
    refine Ok.st (Bj (Iq i).bytes) (Ac _ _) rfl (by show Gx (Bj (Iq i).bytes)=32;rw[Bf,ul]) (Bb (by show (List.replicate 32 (EV.int .u8 0)).length=(Bj (Iq i).bytes).length;rw[ul,List.length_replicate])) ?_
    have x4:Ext h3 ((h3.new (.cells (List.replicate 32 (EV.int .u8 0)) 87)).put h3.next (.cells (Bj (Iq i).bytes) 87)):=(A0.new h3 _:Ext _ _).Az (.inr (Nat.le_refl _)) (Nat.lt_succ_self _) _
    have g4:((h3.new (.cells (List.replicate 32 (EV.int .u8 0)) 87)).put h3.next (.cells (Bj (Iq i).bytes) 87)).get h3.next=some (.cells (Bj (Iq i).bytes) 87):=Ah _ _ _
    have n4:((h3.new (.cells (List.replicate 32 (EV.int .u8 0)) 87)).put h3.next (.cells (Bj (Iq i).bytes) 87)).next=h3.next+1:=rfl
    generalize (h3.new (.cells (List.replicate 32 (EV.int .u8 0)) 87)).put h3.next (.cells (Bj (Iq i).bytes) 87)=h4 at x4 g4 n4 ⊢
    have hb4:=x4.hb hb3
    have M4:=(M3.ext hb3 x4).less fun j (hj:F1 n0 q j)=>Or.inl hj
    have row4:B7 h4 s q 83 6 N (L.map Me.cells).flatten:=row3.frame fun _=>x4.get q lq3 id
    simp only[Ab,I,Af,not_true_eq_false,decide_false,Iv]
    rw[Au (by omega) (by kernel_rfl),C0 g4 rfl,Av (n:=32) ul]
    simp only[Ab,Bg]
    rw[w8 (by omega)]
    refine Ok.Ci (by kernel_rfl) (by kernel_rfl) (A0b (K:=K) (by omega) i (D6 hb4)) (fun _ _ p=>p.2.1) ?_
    rintro _ h5' h5 ⟨rfl,x5',hb5'⟩ sm5 x5
    have hb5:=sm5.hb hb5'
    rw[Aqz A8j bl (by simp)]
    have he:(Iq i).bytes=List.replicate 32 i:=by show List.replicate 32 (i % 256)=_;rw[Nat.mod_eq_of_lt (by omega)]
    simp only[he,not_true_eq_false,decide_false,Iu,Ab]
    have lq4:q<h4.next:=by omega
    exact nxt h5 T.Aua ((M4.ext hb4 x5).less fun j (hj:F1 n0 q j)=>Or.inl hj) hb5 V.Aua (row4.frame fun _=>x5.get q lq4 id) ((((kf.trans x2.kf).trans (k3.less fun j hj=>.inl hj)).trans x4.kf).trans x5.kf)
  ·have:decide ((i:Int)<(N:Int))=false:=by simp;omega
   simp only[this,Ab,Iw]
   exact .ret ⟨rfl,kf⟩
end
end Go.Ev

namespace Go.Ev
open Go.Proofs
set_option maxRecDepth 100000
variable {K:Nat}{disp:Nat->Option FT}
theorem A5y(A:Aw disp)(hK:10000<K){d:Nat}(hd:22<=d)(h23:∀ h,Ae TT disp K d false 23 [] h=some (.bool true,h))(g:Gm)(n:Int){h:Aa}(hb:HB h){zv kv:EV}{zb kb:Nat}{zl kl:List Int}
 (hz:Afx h zv zb zl) (hk:Afx h kv kb kl) (lz:zb<h.next) (lk:kb<h.next) (hr:∀ z ∈ zl,Rng z) :
 Ok (J9 (Ae TT disp K d false) (Ae TT disp K d true) K (gV g) zv (I n) kv h) fun v h'=>v=.bool true/\∀ i,i<h.next->h'.get i=h.get i:=by
 simp only[J9,gV,Ab,h23,Lu]
 have x1:Ext h (h.new (.cells (gL g) 23)):=A0.new _ _
 have g4:(h.new (.cells (gL g) 23)).get h.next=some (.cells (gL g) 23):=Ac _ _
 have n1:(h.new (.cells (gL g) 23)).next=h.next+1:=rfl
 generalize h.new (.cells (gL g) 23)=h1 at x1 g4 n1 ⊢
 have hb1:=x1.hb hb
 rw[C0 g4 rfl,Av (n:=6) rfl]
 try simp only[Ab]
 rw[show EV.agg (gL g)=gV g from rfl]
 refine(Ar9 (K:=K) (by omega) g hb1).Aj ?_
 rintro v h2 ⟨x2,hb2,l,hl,hv⟩
 have st:∀ (k:Aa->R) (Q:EV->Aa->Prop),(∀ h',Ext h2 h'->HB h'->Ok (k h') Q)->Ok (D5 20 (.ptr h2.next 0) (.agg l) (h2.new (.cells z20 42)) k) Q:=fun k Q hk=>by
  refine Ok.st l (Ac _ _) rfl (by show Gx l=20;rw[Bf,hl]) (Bb (by show z20.length=l.length;rw[hl];rfl)) ?_
  have x3:Ext h2 ((h2.new (.cells z20 42)).put h2.next (.cells l 42)):=(A0.new h2 _:Ext _ _).Az (.inr (Nat.le_refl _)) (Nat.lt_succ_self _) _
  exact hk _ x3 (x3.hb hb2)
 by_cases hy:rtB g=true/\g.D*g.Z<=64
 ·rw[if_pos hy]at hv
  obtain⟨m,rfl,M2⟩:=hv
  simp only[Ab]
  refine st _ _ ?_
  intro h3 x3 hb3
  have x03:Ext h h3:=(x1.trans x2).trans x3
  have l0:h1.next<=h3.next:=Nat.le_trans x2.next x3.next
  have M3:=(M2.ext hb2 x3).less fun i (hi:i<h1.next)=>Or.inl hi
  have hz3:=hz.frame (x03.get _ lz id)
  have hk3:=hk.frame (x03.get _ lk id)
  have f5:=A00 hy.1
  simp only[Ab,Af,hz3.Hg,I,Fm,Fs,Fo]
  by_cases c1:64<(zl.length:Int)
  ·simp only[c1,decide_true,Ab,Af]
   exact .ret ⟨rfl,fun i hi=>x03.get i hi id⟩
  ·simp only[c1,decide_false,Ab,Af]
   by_cases c2:n<0
   ·simp only[c2,decide_true,Ab,Af]
    exact .ret ⟨rfl,fun i hi=>x03.get i hi id⟩
   ·simp only[c2,decide_false,Ab,Af]
    by_cases c3:100<n
    ·simp only[c3,decide_true,Ab]
     exact .ret ⟨rfl,fun i hi=>x03.get i hi id⟩
    ·simp only[c3,decide_false,Ab,L0,hz3.Hg,I]
     obtain⟨N,rfl⟩:=Int.eq_ofNat_of_zero_le (show 0<=n by omega)
     refine Axy (K:=K) A hK hd (h0:=h3) (n0:=h1.next) hz3 (by omega) l0 hr (by omega) ?_ K 0 h3 _ (by omega) (by omega) M3 hb3 f5 (A0.refl _)
     intro h4 S M4 hb4 f4 kf4
     simp only[Fp]
     have F0:Fv h4 m S (F1 h1.next zb):=M4.less fun j hj=>by
      rcases hj with hj|hj
      ·exact hj
      ·have:j=zb:=hj
       show j<h1.next
       omega
     have V0:Kz S []:=⟨f4.calm,fun i=>by rw[f4.zs];exact Nat.zero_le _,fun j x hx=>by simp at hx⟩
     refine Avt (K:=K) A hK hd (h0:=h3) (n0:=h1.next) l0 (N:=N) (by omega) ?_ K 0 h4 S [] .Ag zb (by omega) (by omega) F0 hb4 V0 (B7.nil _ _ _ _) rfl (fun y=>absurd y (Nat.lt_irrefl _)) kf4
     intro h5 T L s q i M5 hb5 V5 row5 hL hi kf5
     simp only[Dz]
     rw[Au3 (K:=K) M5,A9]
     simp only[Ab]
     have hk5:=hk3.frame (kf5.get kb (by omega) fun y=>y (by omega))
     refine A1u (K:=K) hK M5 hb5 (kb:=kb) (.inl (by omega)) hk5 ?_
     intro h6 M6 k6 hb6
     have row6:B7 h6 s q 83 6 i (L.map Me.cells).flatten:=row5.frame fun _=>k6.get q (M5.lt q (.inr rfl)) fun y=>y (.inr rfl)
     rw[row6.Hg]
     refine(Av1 (K:=K) A hK hd (n0:=h1.next) hL (by omega) K 0 h6 _ (by omega) (by omega) M6 hb6 (V5.crashed kl) row6 (kf5.trans (k6.less fun j hj=>.inl hj))).mono ?_
     rintro v h' ⟨rfl,kf⟩
     exact⟨rfl,fun i hi=>(kf.get i (by omega) fun y=>y (by omega)).trans (x03.get i hi id)⟩
 ·rw[if_neg hy]at hv
  subst hv
  simp only[Ab]
  refine st _ _ ?_
  intro h3 x3 hb3
  simp only[Ab,Af,Fm,Fs,Fo]
  exact .ret ⟨rfl,fun i hi=>((x1.trans x2).trans x3).get i hi id⟩
end Go.Ev

namespace Go.Ev
set_option maxRecDepth 100000
def A5l(w:World)(v:Value)(L:List Int):Prop:=(v=.slice none 0 0/\L = [])\/∃ b off cap arr e fr,v=.slice (some ⟨b,off,none⟩) L.length cap/\w.heap[b]? = some (.cells arr e fr)/\∀ (j:Nat) (x:Int),L[j]? = some x->arr[off+j]? = some (.int .i64 x)
structure At3(ws:List (Nat × List EV))(arr:Array Value):Prop where
 all:∀ x ∈ ws,∃ L:List Int,x.2=L.map I/\∀ (j:Nat) (a:Int),L[j]? = some a->arr[x.1+j]? = some (.int .i64 a)
theorem A4t {ws:List (Nat × List EV)}{off o:Nat}{l:List EV}(hm:(o,l) ∈ ws)(h1:o<=off)(h2:off-o<l.length):∃ o' l',Afg ws off=some (o',l')/\(o',l') ∈ ws/\o'<=off/\off-o'<l'.length:=by
 induction ws with
 | nil=>cases hm
 | cons x r ih=>
  obtain⟨o',l'⟩:=x
  unfold Afg
  by_cases c:o'<=off/\off-o'<l'.length
  ·refine⟨o',l',?_,List.mem_cons_self ..,c.1,c.2⟩
   rw[Nat.ble_eq_true_of_le c.1,Ak,show Nat.ble (Nat.succ (Nat.sub off o')) (len l')=true from Nat.ble_eq_true_of_le (by rw[Qi];exact c.2),Ak]
  ·have hf:As (Nat.ble o' off) (Nat.ble (Nat.succ (Nat.sub off o')) (len l')) false=false:=by
    cases hb:Nat.ble o' off with
    | false=>rfl
    | true=>
     rw[Ak]
     cases hc:Nat.ble (Nat.succ (Nat.sub off o')) (len l') with
     | false=>rfl
     | true=>
      have y:=Nat.le_of_ble_eq_true hc
      rw[Qi]at y
      exact absurd ⟨Nat.le_of_ble_eq_true hb,y⟩ c
   rw[hf,Ax]
   rcases List.mem_cons.1 hm with y|y
   ·cases y;exact absurd ⟨h1,h2⟩ c
   ·obtain⟨o2,l2,e1,e2,e3⟩:=ih y
    exact⟨o2,l2,e1,List.mem_cons_of_mem _ e2,e3⟩
theorem Afr {ws:List (Nat × List EV)}{arr:Array Value}{r:Obj}(W:At3 ws arr){h:Aa}{q:Nat}(hg:h.get q=some (.view ws r)){off:Nat}{L:List Int}(hm:(off,L.map I) ∈ ws)(hL:∀ (j:Nat) (a:Int),L[j]? = some a->arr[off+j]? = some (.int .i64 a))
 {j:Nat} (hj:j<L.length) (k:EV->R):Al (.ptr q (off+j)) h k=k (I L[j]):=by
 obtain⟨o,l,e1,e2,e3,e4⟩:=A4t (off:=off+j) hm (by omega) (by rw[List.length_map];omega)
 obtain⟨L',hl,hL'⟩:=W.all _ e2
 simp only at hl hL'
 subst hl
 rw[List.length_map]at e4
 have a1:=hL j L[j] (List.getElem?_eq_getElem hj)
 have a2:=hL' (off+j-o) L'[off+j-o] (List.getElem?_eq_getElem e4)
 rw[show o+(off+j-o)=off+j by omega,a1]at a2
 have hv:L'[off+j-o]=L[j]:=by have y:=Option.some.inj a2;injection y with _ y;exact y.symm
 show oB _ (Agt (h.get q) (off+j) 1)=_
 rw[hg]
 show oB _ (match Afg ws (off+j) with|some (o,l)=>Of l (Nat.sub (off+j) o) 1|none=>none)=_
 rw[e1]
 have hc:Of (L'.map I) (Nat.sub (off+j) o) 1=some [I L[j]]:=by
  rw[Ff (by rw[List.length_map];show off+j-o+1<=_;omega)]
  congr 1
  show ((L'.map I).drop (off+j-o)).take 1=_
  rw[List.drop_eq_getElem_cons (by rw[List.length_map];exact e4),List.getElem_map,hv]
  rfl
 show oB _ (Of (L'.map I) (Nat.sub (off+j) o) 1)=_
 rw[hc];rfl
noncomputable def Ay9(o0 o1:Option Cs):Aa:=⟨(Tr.put .nil 0 o0).put 1 o1,2,2⟩
theorem Te(o0 o1:Option Cs)(i:Nat):(Ay9 o0 o1).get i=if i=1 then o1 else if i=0 then o0 else none:=by
 show ((Tr.put .nil 0 o0).put 1 o1).get i=_
 rw[Tr.get_put,Tr.get_put]
 by_cases h1:i=1
 ·rw[if_pos h1.symm,if_pos h1]
 ·rw[if_neg (fun y=>h1 y.symm),if_neg h1]
  by_cases h0:i=0
  ·rw[if_pos h0.symm,if_pos h0]
  ·rw[if_neg (fun y=>h0 y.symm),if_neg h0];rfl
def Awx(w:World)(b:Nat)(o:Cs):Prop:=∃ ws arr e fr,o=.view ws (.cells arr e fr)/\w.heap[b]? = some (.cells arr e fr)/\At3 ws arr
structure A9q(w:World)(h:Aa)(f:Loc):Prop where
 Zh:Pk (fun i=>i<2) h
 rep:Pe f h w
 hb:HB h
 next:h.next=2
 view:∀ i o,h.get i=some o->∃ ws r,o=.view ws r
theorem Avo {w:World}{o0 o1:Option Cs}{b0 b1:Nat}(h0:∀ o,o0=some o->Awx w b0 o)(h1:∀ o,o1=some o->Awx w b1 o)(ne:∀ o o',o0=some o->o1=some o'->b0 ≠ b1):
 A9q w (Ay9 o0 o1) ⟨fun i=>if i=1 then b1 else b0,fun _=>0⟩:=by
 have cs:∀ i o,(Ay9 o0 o1).get i=some o->(i=1/\o1=some o)\/(i=0/\o0=some o):=fun i o e=>by
  rw[Te]at e
  split at e
  ·rename_i y;exact .inl ⟨y,e⟩
  ·split at e
   ·rename_i y;exact .inr ⟨y,e⟩
   ·cases e
 have vo:∀ i o,(Ay9 o0 o1).get i=some o->Awx w (if i=1 then b1 else b0) o:=fun i o e=>by
  rcases cs i o e with ⟨rfl,y⟩|⟨rfl,y⟩
  ·exact h1 o y
  ·exact h0 o y
 refine⟨⟨fun i hi=>hi,fun i o e=>?_⟩,⟨fun i o e=>?_,fun i j o o' e e' y=>?_⟩,fun q o e=>?_,rfl,fun i o e=>?_⟩
 ·refine⟨by rcases cs i o e with ⟨rfl,_⟩|⟨rfl,_⟩ <;> omega,?_⟩
  obtain⟨ws,arr,t,fr,rfl,_,W⟩:=vo i o e
  intro x hx
  obtain⟨L,hl,_⟩:=W.all x hx
  rw[hl]
  constructor
  ·rw[Hq];intro v hv;obtain⟨a,_,rfl⟩:=List.mem_map.1 hv;trivial
  ·rw[List.all_eq_true];intro v hv;obtain⟨a,_,rfl⟩:=List.mem_map.1 hv;rfl
 ·obtain⟨ws,arr,t,fr,rfl,g,W⟩:=vo i o e
  refine⟨_,g,rfl,arr,t,fr,rfl,fun x hx j v hj=>?_⟩
  obtain⟨L,hl,hL⟩:=W.all x hx
  rw[hl,List.getElem?_map]at hj
  cases hx':L[j]? with
  | none=>rw[hx']at hj;cases hj
  | some a=>rw[hx']at hj;cases hj;exact hL j a hx'
 ·have y:(if i=1 then b1 else b0)=(if j=1 then b1 else b0):=y
  rcases cs i o e with ⟨rfl,a⟩|⟨rfl,a⟩ <;> rcases cs j o' e' with ⟨rfl,b⟩|⟨rfl,b⟩
  ·rfl
  ·rw[if_pos rfl,if_neg (by omega)]at y;exact absurd y.symm (ne _ _ b a)
  ·rw[if_neg (by omega),if_pos rfl]at y;exact absurd y (ne _ _ a b)
  ·rfl
 ·rcases cs q o e with ⟨rfl,_⟩|⟨rfl,_⟩
  ·show 1<2;omega
  ·show 0<2;omega
 ·obtain⟨ws,arr,t,fr,rfl,_⟩:=vo i o e
  exact⟨_,_,rfl⟩
theorem Axx {P:Program}{g:Nat}{w:World}{h:Aa}{f:Loc}(l:A9q w h f){args:List EV}{vs:List Value}(ha:Be f args=vs)(ho:EV.Pp (fun i=>i<2) args){v:EV}{V:Value}(hv:∀ f,Bz f v=V){h':Aa}
 (G:Good P g args h v h') (same:∀ i,i<2->h'.get i=h.get i):Calls P g vs.toArray w fun e w'=>e=.returned V/\RowKit.Below w.heap.size w w':=by
 intro cs
 obtain⟨fr,f',w',hs,hfr,hl,hm,Xc,hvo⟩:=G.run _ f w l.Zh l.rep ho cs
 rw[ha]at hs
 rw[hv]at hl
 refine⟨.returned V,w',fr,⟨rfl,hm.os,hm.tape,hm.output,hm.size,fun k hk=>?_⟩,hs,hfr,hl⟩
 by_cases hx:∃ i o,h.get i=some o/\f.b i=k
 ·obtain⟨i,o,hi,rfl⟩:=hx
  have li:=(l.Zh.get i o hi).1
  obtain⟨ws,r,rfl⟩:=l.view i o hi
  obtain⟨r1,e1,q1,_⟩:=l.rep.obj i _ hi
  have hi':h'.get i=some (.view ws r):=by rw[same i li];exact hi
  obtain⟨r2,e2,q2,_⟩:=hm.rep.obj i _ hi'
  rw[<-(hm.Eg i li).1]at e2
  rw[e2,e1,q1,q2]
 ·exact hm.kept k hk fun i o hi e=>hx ⟨i,o,hi,e⟩
theorem Baa {w:World}{v1 v2:Value}{L1 L2:List Int}(R1:A5l w v1 L1)(R2:A5l w v2 L2):∃ (h:Aa) (f:Loc) (zv kv:EV) (zb kb:Nat),A9q w h f/\Bz f zv=v1/\Bz f kv=v2/\zv.ok (fun i=>i<2)/\kv.ok (fun i=>i<2)/\zb<2/\kb<2 /\
 ((zv=.Ag/\L1 = [])\/∃ off r op,zv=.slice zb off L1.length r op/\∀ j (hj:j<L1.length) (k:EV->R),Al (.ptr zb (off+j)) h k=k (I L1[j])) /\
 ((kv=.Ag/\L2 = [])\/∃ off r op,kv=.slice kb off L2.length r op/\∀ j (hj:j<L2.length) (k:EV->R),Al (.ptr kb (off+j)) h k=k (I L2[j])):=by
 have W1:∀ {off:Nat} {L:List Int} {arr:Array Value},(∀ (j:Nat) (x:Int),L[j]? = some x->arr[off+j]? = some (.int .i64 x))->At3 [(off,L.map I)] arr:=fun {off L arr} h=>⟨fun x hx=>by rw[List.mem_singleton.1 hx];exact⟨L,rfl,h⟩⟩
 rcases R1 with ⟨rfl,rfl⟩|⟨b1,o1,c1,a1,e1,f1,rfl,g1,h1⟩ <;> rcases R2 with ⟨rfl,rfl⟩|⟨b2,o2,c2,a2,e2,f2,rfl,g2,h2⟩
 ·exact⟨_,_,.Ag,.Ag,0,0,Avo (w:=w) (o0:=none) (o1:=none) (b0:=0) (b1:=1) (fun _ y=>by cases y) (fun _ y=>by cases y) (fun _ _ y=>by cases y),rfl,rfl,trivial,trivial,by omega,by omega,.inl ⟨rfl,rfl⟩,.inl ⟨rfl,rfl⟩⟩
 ·refine⟨_,_,.Ag,.slice 0 o2 L2.length c2 false,0,0,Avo (w:=w) (o0:=some (.view [(o2,L2.map I)] (.cells a2 e2 f2))) (o1:=none) (b0:=b2) (b1:=0) (fun _ y=>by cases y;exact⟨_,_,_,_,rfl,g2,W1 h2⟩) (fun _ y=>by cases y) (fun _ _ _ y=>by cases y),rfl,rfl,trivial,(by show 0<2;omega),by omega,by omega,.inl ⟨rfl,rfl⟩,.inr ⟨o2,c2,false,rfl,fun j hj k=>?_⟩⟩
  exact Afr (W1 h2) (by rw[Te];rfl) (List.mem_singleton.2 rfl) h2 hj k
 ·refine⟨_,_,.slice 0 o1 L1.length c1 false,.Ag,0,0,Avo (w:=w) (o0:=some (.view [(o1,L1.map I)] (.cells a1 e1 f1))) (o1:=none) (b0:=b1) (b1:=0) (fun _ y=>by cases y;exact⟨_,_,_,_,rfl,g1,W1 h1⟩) (fun _ y=>by cases y) (fun _ _ _ y=>by cases y),rfl,rfl,(by show 0<2;omega),trivial,by omega,by omega,.inr ⟨o1,c1,false,rfl,fun j hj k=>?_⟩,.inl ⟨rfl,rfl⟩⟩
  exact Afr (W1 h1) (by rw[Te];rfl) (List.mem_singleton.2 rfl) h1 hj k
 ·by_cases hb:b1=b2
  ·subst hb
   rw[g1]at g2
   cases g2
   have W2:At3 [(o1,L1.map I),(o2,L2.map I)] a1:=⟨fun x hx=>by
    rcases List.mem_cons.1 hx with y|y
    ·subst y;exact⟨L1,rfl,h1⟩
    ·rw[List.mem_singleton.1 y];exact⟨L2,rfl,h2⟩⟩
   refine⟨_,_,.slice 0 o1 L1.length c1 false,.slice 0 o2 L2.length c2 false,0,0,Avo (w:=w) (o0:=some (.view [(o1,L1.map I),(o2,L2.map I)] (.cells a1 e1 f1))) (o1:=none) (b0:=b1) (b1:=0) (fun _ y=>by cases y;exact⟨_,_,_,_,rfl,g1,W2⟩) (fun _ y=>by cases y) (fun _ _ _ y=>by cases y),rfl,rfl,(by show 0<2;omega),(by show 0<2;omega),by omega,by omega,
    .inr ⟨o1,c1,false,rfl,fun j hj k=>?_⟩,.inr ⟨o2,c2,false,rfl,fun j hj k=>?_⟩⟩
   ·exact Afr W2 (by rw[Te];rfl) (List.mem_cons_self ..) h1 hj k
   ·exact Afr W2 (by rw[Te];rfl) (List.mem_cons_of_mem _ (List.mem_singleton.2 rfl)) h2 hj k
  ·refine⟨_,_,.slice 0 o1 L1.length c1 false,.slice 1 o2 L2.length c2 false,0,1,Avo (w:=w) (o0:=some (.view [(o1,L1.map I)] (.cells a1 e1 f1))) (o1:=some (.view [(o2,L2.map I)] (.cells a2 e2 f2))) (b0:=b1) (b1:=b2) (fun _ y=>by cases y;exact⟨_,_,_,_,rfl,g1,W1 h1⟩) (fun _ y=>by cases y;exact⟨_,_,_,_,rfl,g2,W1 h2⟩) (fun _ _ _ _=>hb),rfl,rfl,(by show 0<2;omega),(by show 1<2;omega),by omega,by omega,
    .inr ⟨o1,c1,false,rfl,fun j hj k=>?_⟩,.inr ⟨o2,c2,false,rfl,fun j hj k=>?_⟩⟩
   ·exact Afr (W1 h1) (by rw[Te];rfl) (List.mem_singleton.2 rfl) h1 hj k
   ·exact Afr (W1 h2) (by rw[Te];rfl) (List.mem_singleton.2 rfl) h2 hj k
end Go.Ev

namespace Go.Ev
open Go.ChangeShapes Go.WideShapes Go.ChangeAt Go.RowKit Go.Deep
set_option maxRecDepth 100000
theorem A9a {P:Program}{w:World}{base:Nat}{t e:TypeId}{v:Value}(ht:P.underlying t=some (.slice e))(h:Value.okWide P w .any base t v):v=.slice none 0 0\/∃ a len cap,v=.slice (some a) len cap/\a.spot=none/\∃ row cells,w.shape? a.block=some (row,cells):=by
 unfold Value.okWide at h
 rw[ht]at h
 simp only at h
 unfold Cell.okWide at h
 rw[ht]at h
 simp only at h
 unfold Cell.ok at h
 rw[ht]at h
 split at h <;> first|(rename_i e;cases e;done)|skip
 all_goals first|exact .inl rfl|skip
 all_goals first|(exact h.elim)|skip
 ·rename_i e
  cases e
  exact .inr ⟨_,_,_,rfl,h.2.2.2.1,by obtain⟨row,cells,hs,_⟩:=h.2.2.2.2;exact⟨row,cells,hs⟩⟩
theorem Aus {P:Program}{W:World}{H:Type}{enc:TypeId × Value->H}{base b2:Nat}{sp:Nat->Bool}{hd:Bool}{t e:TypeId}{v:Value}{d:DataW H}{p:List MemPlace}(ht:P.underlying t=some (.slice e))(he:P.underlying e=some (.int .i64))(hc:P.cellsOf e=1)
 (ho:Value.okWide P W .any base t v) (h:DataW.Trod enc P W b2 sp hd t v d p):∃ L:List Int,A5l W v L/\∀ x ∈ L,-9223372036854775808<=x/\x<=9223372036854775807:=by
 rcases A9a ht ho with rfl|⟨⟨b,off,spot⟩,len,cap,rfl,hspot,row,cells,hshape⟩
 ·exact⟨[],.inl ⟨rfl,rfl⟩,fun x hx=>by cases hx⟩
 ·obtain⟨fuel,hf⟩:=h
  simp only at hspot
  subst hspot
  rcases open_slice1 ht hc hf with ⟨hx,_⟩|⟨a,len',cap',m,n,V,D,Pl,hx,hb,hl,hm,hmm,_,hi⟩
  ·cases hx
  ·cases hx
   unfold World.shape? at hshape
   split at hshape
   ·rename_i arr e' fr hw
    have hlm:len<=m:=by rw[hmm];split <;> omega
    have each:∀ i,∃ x:Int,i<len->arr[off+i]? = some (.int .i64 x)/\-9223372036854775808<=x/\x<=9223372036854775807:=by
     intro i
     by_cases hil:i<len
     ·obtain⟨h1,h2⟩:=hi i (by omega)
      obtain⟨x,e0,_,wf⟩:=DataW.trod_int he h2
      refine⟨x,fun _=>⟨?_,?_⟩⟩
      ·simp only[List.cons.injEq,and_true]at e0
       rw[e0]at h1
       unfold Addr.add at h1
       split at h1
       ·rename_i h0
        simp only[World.cell?,hw]at h1
        subst h0
        simpa using h1
       ·simp only[World.cell?,hw]at h1
        simpa using h1
      ·have wf:(decide (IntKind.i64.min<=x) && decide (x<=IntKind.i64.max))=true:=wf
       rw[Bool.and_eq_true,decide_eq_true_eq,decide_eq_true_eq]at wf
       exact wf
     ·exact⟨0,fun y=>absurd y hil⟩
    have F:∀ i,{ x:Int // i<len->arr[off+i]? = some (.int .i64 x)/\-9223372036854775808<=x/\x<=9223372036854775807 }:=fun i=>⟨Classical.choose (each i),Classical.choose_spec (each i)⟩
    have get:∀ (j:Nat) (x:Int),((List.range len).map fun i=>(F i).1)[j]? = some x->j<len/\x=(F j).1:=fun j x hj=>by
     rw[List.getElem?_map]at hj
     have hjl:j<len:=by
      cases hr:(List.range len)[j]? with
      | none=>rw[hr]at hj;cases hj
      | some k=>have:=(List.getElem?_eq_some_iff.1 hr).1;simpa using this
     rw[List.getElem?_range hjl]at hj
     cases hj
     exact⟨hjl,rfl⟩
    refine⟨(List.range len).map fun i=>(F i).1,.inr ⟨b,off,cap,arr,e',fr,by simp,hw,fun j x hj=>?_⟩,fun x hx=>?_⟩
    ·obtain⟨hjl,rfl⟩:=get j x hj
     exact((F j).2 hjl).1
    ·obtain⟨i,hi',rfl⟩:=List.mem_map.1 hx
     exact((F i).2 (by simpa using hi')).2
   ·cases hshape
end Go.Ev
