import Derived.Test.YtpkcfamminlmaaaGreatXb
set_option linter.unusedVariables false
set_option linter.unusedSimpArgs false
set_option linter.unusedSectionVars false
namespace Go.Ev
open Go.Proofs
set_option maxRecDepth 100000
variable {K:Nat}
def Bo(F:Nat->Prop)(h h':Aa):Nat->Prop:=fun i=>F i\/(h.next<=i/\i<h'.next)
theorem A1.grow {F:Nat->Prop}{h h1 h2:Aa}(a:A1 F h h1)(b:A1 (Bo F h h1) h1 h2):A1 F h h2:=
 a.then b fun i hi hl=>by
  rcases hi with hi|hi
  ·exact hi
  ·omega
theorem Bo.trans {F:Nat->Prop}{h h1 h2:Aa}(a:h.next<=h1.next)(b:h1.next<=h2.next){i:Nat}(g:Bo (Bo F h h1) h1 h2 i):Bo F h h2 i:=by
 rcases g with (g|g)|g
 ·exact .inl g
 ·exact .inr ⟨g.1,by omega⟩
 ·exact .inr ⟨by omega,g.2⟩
theorem Bo.le {F:Nat->Prop}{h h1 h2:Aa}(b:h1.next<=h2.next){i:Nat}(g:Bo F h h1 i):Bo F h h2 i:=by
 rcases g with g|g
 ·exact .inl g
 ·exact .inr ⟨g.1,by omega⟩
structure Dv where
 n:Nat
 size:Nat
 op:Int
 cnt:Int
 down:Bool
 zs:Nat->Zn
def Jx(l:List Nat):List EV:=l.map fun(b:Nat)=>EV.int .u8 (Int.ofNat b)
def U8(x:List EV):Prop:=∃ l:List Nat,(∀ b ∈ l,b<256)/\x=Jx l
theorem U8.zs:U8 Abf:=⟨List.replicate 64 0,fun b hb=>by rw[List.eq_of_mem_replicate hb];decide,by unfold Jx Abf;rw[List.map_replicate];rfl⟩
structure Zn.Wf(Z:Zn)(size:Nat):Prop where
 u8:∀ x ∈ Z.l,U8 x
 st:Z.st<=4
 safe:Z.safe<=Z.l.length
 len:Z.l.length<=size
 room:Z.st<2->Z.l.length<size
structure Dv.Wf(D:Dv):Prop where
 size:D.size<=64
 n:D.n<=512
 zs:∀ i,i<D.n->(D.zs i).Wf D.size
def Ani(V zl n:Nat)(z q:Nat->Nat)(zs:Nat->Zn):Nat->Prop:=fun i=>i=V\/i=zl\/∃ d,d<n/\(i=z d\/((zs d).l ≠ []/\i=q d))
structure F8(h:Aa)(V:Nat)(D:Dv)(F:Nat->Prop):Prop where
 wf:D.Wf
 lt:∀ i,F i->i<h.next
 Q0:∃ zl z q,Ij h V zl D.n z q D.size D.op D.cnt D.down D.zs/\∀ i,Ani V zl D.n z q D.zs i->F i
theorem F8.mono {h:Aa}{V:Nat}{D:Dv}{F G:Nat->Prop}(d:F8 h V D F)(s:∀ i,F i->G i)(l:∀ i,G i->i<h.next):F8 h V D G:=by
 obtain⟨zl,z,q,a,b⟩:=d.Q0
 exact⟨d.wf,l,zl,z,q,a,fun i hi=>s i (b i hi)⟩
theorem Bo.lt {F:Nat->Prop}{h h':Aa}(l:∀ i,F i->i<h.next)(n:h.next<=h'.next):∀ i,Bo F h h' i->i<h'.next:=fun i hi=>by
 rcases hi with hi|hi
 ·have:=l i hi;omega
 ·exact hi.2
theorem F8.grow {h h':Aa}{V:Nat}{D:Dv}{F:Nat->Prop}(d:F8 h' V D F)(l:∀ i,F i->i<h.next)(n:h.next<=h'.next):F8 h' V D (Bo F h h'):=
 d.mono (fun _=>.inl) (Bo.lt l n)
theorem Agg {l:List (List EV)}:l ≠ [] ↔ 0<l.length:=by rw[List.length_pos_iff]
theorem Ij.frame {h h':Aa}{V zl n:Nat}{z q:Nat->Nat}{size op cnt:Int}{down:Bool}{Zs:Nat->Zn}(d:Ij h V zl n z q size op cnt down Zs)(e:∀ i,Ani V zl n z q Zs i->h'.get i=h.get i):Ij h' V zl n z q size op cnt down Zs:=by
 refine⟨d.pos,by rw[e _ (.inl rfl)];exact d.dev,by rw[e _ (.inr (.inl rfl))];exact d.row,fun i hi=>?_,d.Apj,d.Arz⟩
 obtain⟨s,a,b⟩:=(d.B4 i hi).B4
 exact⟨⟨s,by rw[e _ (.inr (.inr ⟨i,hi,.inl rfl⟩))];exact a,b.frame fun hl=>e _ (.inr (.inr ⟨i,hi,.inr ⟨Agg.2 hl,rfl⟩⟩))⟩,(d.B4 i hi).wf⟩
theorem F8.frame {h h':Aa}{V:Nat}{D:Dv}{F:Nat->Prop}(d:F8 h V D F)(n:h.next<=h'.next)(e:∀ i,F i->h'.get i=h.get i):F8 h' V D F:=by
 obtain⟨zl,z,q,a,b⟩:=d.Q0
 exact⟨d.wf,fun i hi=>Nat.lt_of_lt_of_le (d.lt i hi) n,zl,z,q,a.frame fun i hi=>e i (b i hi),b⟩
theorem F8.chg {h h':Aa}{V:Nat}{D:Dv}{F S:Nat->Prop}(d:F8 h V D F)(c:A1 S h h')(n:∀ i,F i->¬ S i):F8 h' V D F:=
 d.frame c.next fun i hi=>c.get i (d.lt i hi) (n i hi)
theorem F8.ext {h h':Aa}{V:Nat}{D:Dv}{F:Nat->Prop}(d:F8 h V D F)(c:Ext h h'):F8 h' V D F:=d.chg c fun _ _=>id
theorem Ij.Avb {h:Aa}{V zl n:Nat}{z q:Nat->Nat}{size op cnt:Int}{down:Bool}{Zs:Nat->Zn}(d:Ij h V zl n z q size op cnt down Zs)(cnt':Int)(down':Bool):
 Ij (h.put V (.cells [.slice zl 0 n n true,I size,I op,I cnt',.bool down'] 183)) V zl n z q size op cnt' down' Zs:=by
 refine⟨d.pos,Ai _ _ _,?_,fun i hi=>?_,d.Apj,d.Arz⟩
 ·rw[Al _ (Ba d.dev d.row (by simp))];exact d.row
 ·obtain⟨s,a,b⟩:=(d.B4 i hi).B4
  refine⟨⟨s,?_,b.frame fun hl=>Al _ (Ba d.dev (b.block hl) (by simp))⟩,(d.B4 i hi).wf⟩
  rw[Al _ (Ba d.dev a (by simp))];exact a
def N9(Zs:Nat->Zn)(d:Nat)(Z:Zn):Nat->Zn:=fun e=>if e=d then Z else Zs e
def Anu(q:Nat->Nat)(d x:Nat):Nat->Nat:=fun e=>if e=d then x else q e
theorem Ij.Axj {h h':Aa}{V zl n:Nat}{z q:Nat->Nat}{size op cnt:Int}{down:Bool}{Zs:Nat->Zn}(d:Ij h V zl n z q size op cnt down Zs)(hb:HB h){i:Nat}(hi:i<n){q':Nat}{Z:Zn}
 (zz:Ej h' (z i) q' size Z) (c:A1 (fun j=>j=z i\/((Zs i).l ≠ []/\j=q i)) h h') (hq:Z.l ≠ []->h.next<=q'\/(q'=q i/\(Zs i).l ≠ [])) :
 Ij h' V zl n z (Anu q i q') size op cnt down (N9 Zs i Z):=by
 obtain⟨si,ai,bi⟩:=(d.B4 i hi).B4
 have nq:∀ x o,h.get x=some o->(∀ l,o ≠ .vec l 103 64)->¬ ((Zs i).l ≠ []/\x=q i):=by
  rintro x o hx hno ⟨hl,rfl⟩
  rw[bi.block (Agg.1 hl)]at hx
  cases hx;exact hno _ rfl
 have keep:∀ x o,h.get x=some o->x ≠ z i->(∀ l,o ≠ .vec l 103 64)->h'.get x=some o:=fun x o hx hn hno=>by
  refine c.at hb hx ?_
  rintro(y|y)
  ·exact hn y
  ·exact nq x o hx hno y
 refine⟨d.pos,keep _ _ d.dev (Ba d.dev ai (by simp)) (by intros;simp),keep _ _ d.row (Ba d.row ai (by simp)) (by intros;simp),fun j hj=>?_,d.Apj,?_⟩
 ·by_cases hji:j=i
  ·subst hji;simp only[Anu,N9,if_true];exact zz
  ·simp only[Anu,N9,hji,if_false]
   obtain⟨s,a,b⟩:=(d.B4 j hj).B4
   refine⟨⟨s,keep _ _ a (fun e=>hji (d.Apj j i hj hi e)) (by intros;simp),b.frame fun hl=>?_⟩,(d.B4 j hj).wf⟩
   have gb:=b.block hl
   refine c.get _ (hb _ _ gb) ?_
   rintro(y|⟨y1,y2⟩)
   ·exact Ba gb ai (by simp) y
   ·exact hji (d.Arz j i hj hi (Agg.2 hl) y1 y2)
 ·intro j k hj hk
  have lq:∀ j,j<n->(Zs j).l ≠ []->q j<h.next:=fun j hj hl=>by
   obtain⟨s,a,b⟩:=(d.B4 j hj).B4
   exact hb _ _ (b.block (Agg.1 hl))
  by_cases hji:j=i <;> by_cases hki:k=i
  ·intros;omega
  ·subst hji;simp only[Anu,N9,hki,if_true,if_false]
   intro a b e
   rcases hq a with y|⟨y1,y2⟩
   ·have:=lq k hk b;omega
   ·exact absurd (d.Arz j k hj hk y2 b (by rw[<-y1];exact e)).symm hki
  ·subst hki;simp only[Anu,N9,hji,if_true,if_false]
   intro a b e
   rcases hq b with y|⟨y1,y2⟩
   ·have:=lq j hj a;omega
   ·exact absurd (d.Arz j k hj hk a y2 (by rw[<-y1];exact e)) hji
  ·simp only[Anu,N9,hji,hki,if_false]
   exact d.Arz j k hj hk
def Dv.has(D:Dv)(i:Int):Bool:=decide (0<=i/\i<D.n)
def Dv.Fm(D:Dv)(i:Int):Int:=if D.down=true then 34 else if D.has i=false then 13 else 0
noncomputable def Dv.tick(D:Dv):Dv:={ D with cnt:=Dk .i64 (D.cnt+1) }
noncomputable def Dv.begin(D:Dv)(i:Int):Dv:=if D.Fm i=0 then D.tick else D
def Dv.set(D:Dv)(i:Nat)(Z:Zn):Dv:={ D with zs:=N9 D.zs i Z }
section
variable {h:Aa}{V zl n:Nat}{z q:Nat->Nat}{size op cnt:Int}{down:Bool}{Zs:Nat->Zn}(d:Ij h V zl n z q size op cnt down Zs)
include d
theorem Ij.list(k:EV->R):Ao (.ptr V 0) h k=k (.slice zl 0 n n true):=by rw[Cl d.dev rfl];rfl
theorem Ij.A2b {i:Nat}(hi:i<n)(k:EV->R):Ib 1 (.slice zl 0 n n true) (I i) (fun v=>Ao v h k)=k (.ptr (z i) 0):=by
 unfold I
 rw[Sw hi,Cl d.row rfl,Nat.zero_add,Nat.mul_one,List.getElem?_map,List.getElem?_range hi];rfl
theorem Ar2(i:Int):Gd K (.ptr V 0) (I i) h=some (.bool (decide (0<=i/\i<n)),h):=by
 simp only[Gd,I,Ah,Ab]
 by_cases h0:0<=i
 ·simp only[h0,decide_true,Ab,Ah,d.list,Ky,true_and]
 ·simp only[h0,decide_false,Ab,Ky,false_and]
end
section
variable {h:Aa}{V:Nat}{D:Dv}{F:Nat->Prop}(d:F8 h V D F)(hb:HB h)
include d
theorem Zl(i:Int):Gd K (.ptr V 0) (I i) h=some (.bool (D.has i),h):=by
 obtain⟨w,wl,zl,z,q,a,b⟩:=d
 exact Ar2 a i
theorem Aqt(i:Int):F4 K (.ptr V 0) (I i) h=some (I (if D.has i=true then (D.zs i.toNat).st else 4),h):=by
 simp only[F4,Zl d,Ab]
 obtain⟨w,wl,zl,z,q,a,b⟩:=d
 cases hh:D.has i with
 | false=>simp only[Ab,I,Bool.false_eq_true,if_false]
 | true=>
  have:=of_decide_eq_true hh
  obtain⟨j,rfl⟩:∃ j:Nat,i=j:=⟨i.toNat,by omega⟩
  have hj:j<D.n:=by omega
  simp only[Ab,Sl,a.list,a.A2b hj,Xa (a.B4 j hj),if_true]
  rfl
include hb
theorem Z2(i:Int):Ok (Hl K (.ptr V 0) (I i) h) fun v h'=>v=I (D.Fm i)/\F8 h' V (D.begin i) F/\A1 F h h'/\HB h'/\h'.next=h.next:=by
 have hh:=Zl (K:=K) d i
 obtain⟨w,wl,zl,z,q,a,b⟩:=d
 unfold Dv.begin Dv.Fm
 simp only[Hl,Ab,Cl a.dev rfl]
 cases hd:D.down with
 | true=>
  simp only[Ab,if_true,show ((34:Int)=0)=False by simp,if_false]
  exact .ret ⟨rfl,⟨w,wl,zl,z,q,a,b⟩,A1.refl _,hb,rfl⟩
 | false=>
  simp only[Ab,hh,Bool.false_eq_true,if_false]
  cases hhs:D.has i with
  | false=>
   simp only[Ab,if_true,show ((13:Int)=0)=False by simp,if_false]
   exact .ret ⟨rfl,⟨w,wl,zl,z,q,a,b⟩,A1.refl _,hb,rfl⟩
  | true=>
   simp only[Ab,Bool.true_eq_false,if_false,if_true,Ry,Cl a.dev rfl,I,Ah]
   have lV:=hb _ _ a.dev
   refine Ok.st1 a.dev rfl rfl (by show 3<5;decide) ?_
   refine .ret ⟨rfl,⟨⟨w.size,w.n,w.zs⟩,wl,zl,z,q,a.Avb (Dk .i64 (D.cnt+1)) D.down,b⟩,(A1.refl h).Az (.inl (b _ (.inl rfl))) lV _,hb.put lV _,rfl⟩
end
end Go.Ev

namespace Go.Ev
open Go.Proofs
set_option maxRecDepth 100000
variable {K:Nat}
theorem Nq {i b:Nat}{s:DX}{h:Aa}{call:Aa->R}{k:EV->Aa->DX->R}{v:EV}(hb:Q5 b s=true)(hl:loose b s.nw = [])(hc:call h.lift=some (v,h.lift)):Ct i b s h call k=k v h (s.Tu i):=by
 have hf:Et b s h=h.lift:=by unfold Et;rw[hl];rfl
 show Ar (Q5 b s) (Ev.Aj (call (Et b s h)) fun v h'=>Hm i b s h h' fun s h=>k v h s) none=_
 rw[hb,Ak,hf,hc]
 show Hm i b s h h.lift (fun s h=>k v h s)=_
 unfold Hm
 rw[Nat.ble_eq_true_of_le (show h.next<=h.lift.mw from Nat.le_refl _),Ak,hl]
 rfl
theorem Ij.lift {h:Aa}{V zl n:Nat}{z q:Nat->Nat}{size op cnt:Int}{down:Bool}{Zs:Nat->Zn}(d:Ij h V zl n z q size op cnt down Zs):Ij h.lift V zl n z q size op cnt down Zs:=d.frame fun i _=>Cq h i
theorem F8.lift {h:Aa}{V:Nat}{D:Dv}{F:Nat->Prop}(d:F8 h V D F):F8 h.lift V D F:=d.frame (Nat.le_refl _) fun i _=>Cq h i
def Pg(Zs:Nat->Zn)(n:Nat):Nat:=((List.range n).filter fun i=>(Zs i).st=1).length
theorem Alm(Zs:Nat->Zn)(n:Nat):Pg Zs (n+1)=Pg Zs n+(if (Zs n).st=1 then 1 else 0):=by
 unfold Pg
 rw[List.range_succ,List.filter_append,List.length_append]
 congr 1
 by_cases hc:(Zs n).st=1 <;> simp[hc]
theorem A3h(Zs:Nat->Zn)(n:Nat):Pg Zs n<=n:=by
 unfold Pg
 have:=List.length_filter_le (fun i=>decide ((Zs i).st=1)) (List.range n)
 simpa using this
theorem Aso {h:Aa}{V zl n:Nat}{z q:Nat->Nat}{size op cnt:Int}{down:Bool}{Zs:Nat->Zn}(d:Ij h V zl n z q size op cnt down Zs)(hn:n<=512):∀ (m i:Nat),n-i<m->i<=n ->
 C3 K m (I (Pg Zs i)) (.slice zl 0 n n true) (I n) (I i) h=some (I (Pg Zs n),h):=by
 intro m
 induction m with
 | zero=>intro i hm;omega
 | succ m ih=>
  intro i hm hi
  simp only[C3,I,Ah,Ab]
  by_cases hlt:(i:Int)<n
  ·have hin:i<n:=by omega
   have hz:=d.A2b hin
   simp only[I]at hz
   have hle:=A3h Zs i
   simp only[hlt,decide_true,Ab,Q1,hz,Xa (d.B4 i hin),I,Ah]
   have ih':=ih (i+1) (by omega) (by omega)
   rw[Alm]at ih'
   by_cases h1:(Zs i).st=1
   ·rw[show decide (((Zs i).st:Int)=1)=true by simp[h1]]
    rw[if_pos h1]at ih'
    simp only[Ab,Ah,It]
    rw[Cx (by omega) (by omega),Cx (by omega) (by omega)]
    exact ih'
   ·rw[show decide (((Zs i).st:Int)=1)=false by simp;omega]
    rw[if_neg h1]at ih'
    simp only[Ab,Ah,It]
    rw[Cx (by omega) (by omega)]
    exact ih'
  ·have:i=n:=by omega
   subst this
   simp only[hlt,decide_false,Ab,Lu]
theorem Ay0 {h:Aa}{V zl n:Nat}{z q:Nat->Nat}{size op cnt:Int}{down:Bool}{Zs:Nat->Zn}(d:Ij h V zl n z q size op cnt down Zs)(hn:n<=512)(hK:1000<K):
 K7 K (.ptr V 0) h=some (I (Pg Zs n),h):=by
 simp only[K7,Ab,d.list]
 exact Aso d hn K 0 (by omega) (Nat.zero_le _)
noncomputable def Dv.append(D:Dv)(i:Int)(x:List EV):Dv × Int × Int:=
 if D.Fm i ≠ 0 then (D,0,D.Fm i) else
 if (D.zs i.toNat).st=0/\D.op<=Pg D.zs D.n then (D.tick,0,33) else
 if 2<=(D.zs i.toNat).st then (D.tick,0,if (D.zs i.toNat).st=2 then 17 else Ht (D.zs i.toNat).st) else
 (D.tick.set i.toNat ((D.zs i.toNat).app D.size x),(D.zs i.toNat).l.length,0)
theorem Zn.Wf.app {Z:Zn}{size:Nat}(w:Z.Wf size)(hs:Z.st<2){x:List EV}(hx:U8 x):(Z.app size x).Wf size:=by
 have:=w.room hs
 have:=w.safe
 refine⟨fun y hy=>?_,?_,?_,?_,?_⟩ <;> try simp only[Zn.app,List.length_append,List.length_singleton]
 ·rcases List.mem_append.1 hy with hy|hy
  ·exact w.u8 y hy
  ·rw[List.mem_singleton.1 hy];exact hx
 ·split <;> omega
 ·omega
 ·omega
 ·split <;> omega
theorem Dv.Wf.set {D:Dv}(w:D.Wf){i:Nat}{Z:Zn}(z:Z.Wf D.size):(D.set i Z).Wf:=by
 refine⟨w.size,w.n,fun j hj=>?_⟩
 show (N9 D.zs i Z j).Wf D.size
 unfold N9
 split
 ·exact z
 ·exact w.zs j hj
theorem F8.B4 {h h':Aa}{V:Nat}{D:Dv}{F:Nat->Prop}(w:D.Wf){zl:Nat}{z q:Nat->Nat}(a:Ij h V zl D.n z q D.size D.op D.cnt D.down D.zs)(b:∀ i,Ani V zl D.n z q D.zs i->F i)(wl:∀ i,F i->i<h.next)(hb:HB h){i:Nat}(hi:i<D.n){q':Nat}{Z:Zn}
 (zw:Z.Wf D.size) (zz:Ej h' (z i) q' D.size Z) (c:A1 (fun j=>j=z i\/((D.zs i).l ≠ []/\j=q i)) h h') (hb':HB h') (hq:Z.l ≠ []->h.next<=q'\/(q'=q i/\(D.zs i).l ≠ [])) :
 F8 h' V (D.set i Z) (Bo F h h')/\A1 F h h':=by
 have hF:∀ j,(j=z i\/((D.zs i).l ≠ []/\j=q i))->F j:=by
  rintro j (y|⟨y1,y2⟩)
  ·exact b j (.inr (.inr ⟨i,hi,.inl y⟩))
  ·exact b j (.inr (.inr ⟨i,hi,.inr ⟨y1,y2⟩⟩))
 refine⟨⟨w.set zw,Bo.lt wl c.next,zl,z,_,a.Axj hb hi zz c hq,?_⟩,c.mono hF⟩
 rintro j (y|y|⟨d,hd,y⟩)
 ·exact .inl (b j (.inl y))
 ·exact .inl (b j (.inr (.inl y)))
 ·rcases y with y|⟨y1,y2⟩
  ·exact .inl (b j (.inr (.inr ⟨d,hd,.inl y⟩)))
  ·by_cases hdi:d=i
   ·subst hdi
    simp only[Dv.set,N9,Anu,if_true]at y1 y2
    subst y2
    rcases hq y1 with y|⟨y3,y4⟩
    ·obtain⟨s,_,r⟩:=zz.B4
     exact .inr ⟨y,hb' _ _ (r.block (Agg.1 y1))⟩
    ·rw[y3];exact .inl (hF _ (.inr ⟨y4,rfl⟩))
   ·simp only[Dv.set,N9,Anu,hdi,if_false]at y1 y2
    exact .inl (b j (.inr (.inr ⟨d,hd,.inr ⟨y1,y2⟩⟩)))
theorem Aoc {h:Aa}{V:Nat}{D:Dv}{F:Nat->Prop}(d:F8 h V D F)(hb:HB h)(hK:1000<K)(i:Int){x:List EV}(hx:x.length=64)(hu:U8 x):
 Ok (K0 K (.ptr V 0) (I i) (.agg x) h) fun v h'=>v=.tuple [I (D.append i x).2.1,I (D.append i x).2.2]/\F8 h' V (D.append i x).1 (Bo F h h')/\A1 F h h'/\HB h':=by
 simp only[K0,Ab]
 have x1:Ext h (h.new (.cells x 103)):=A1.new _ _
 have g5:(h.new (.cells x 103)).get h.next=some (.cells x 103):=Ae _ _
 have hb1:HB (h.new (.cells x 103)):=hb.new _
 have d1:=d.ext x1
 have n1:(h.new (.cells x 103)).next=h.next+1:=rfl
 generalize h.new (.cells x 103)=h1 at x1 g5 hb1 d1 n1 ⊢
 refine(Z2 (K:=K) d1 hb1 i).Aj ?_
 rintro _ h2 ⟨rfl,d2,c2,hb2,n2⟩
 have nx:¬ F h.next:=fun y=>Nat.lt_irrefl _ (d.lt _ y)
 have g5:=c2.at hb1 g5 nx
 have c02:A1 F h h2:=(Ext.to x1).trans c2
 unfold Dv.append
 unfold Dv.begin at d2
 by_cases hbe:D.Fm i=0
 ·rw[if_pos hbe]at d2
  rw[if_neg (by rw[hbe];exact fun y=>y rfl),hbe]
  simp only[I,Ah,not_true_eq_false,decide_false,Ab,Q6]
  obtain⟨w,wl,zl,z,q,a,b⟩:=d2
  have hhas:D.has i=true:=by
   unfold Dv.Fm at hbe
   cases hh:D.has i with
   | true=>rfl
   | false=>rw[hh]at hbe;split at hbe <;> simp at hbe
  have:=of_decide_eq_true hhas
  obtain⟨j,rfl⟩:∃ j:Nat,i=j:=⟨i.toNat,by omega⟩
  have hj:j<D.n:=by omega
  rw[show (j:Int).toNat=j from rfl]
  have lV:=hb2 _ _ a.dev
  have lzl:=hb2 _ _ a.row
  have l5:=hb2 _ _ g5
  have lz:=hb2 _ _ (a.B4 j hj).B4.choose_spec.1
  have hzp:∀ k:EV->R,Ao (.ptr zl j) h2 k=k (.ptr (z j) 0):=fun k=>by
   have:=a.A2b hj k
   unfold I at this
   rw[Sw (show j<D.tick.n from hj),Nat.zero_add,Nat.mul_one]at this
   exact this
  have hix:∀ k:EV->R,Ib 1 (.slice zl 0 D.tick.n D.tick.n true) (.int .i64 (j:Int)) k=k (.ptr zl j):=fun k=>by
   rw[Sw (show j<D.tick.n from hj),Nat.zero_add,Nat.mul_one]
  simp only[Ab,Bh,As lV,a.list,hix,As lzl,hzp]
  rw[Nq (by kernel_rfl) (by kernel_rfl) (Xa (a.lift.B4 j hj))]
  have hop:=Ay0 (K:=K) a.lift w.n hK
  have dd:∀ h',Ext h2 h'->F8 h' V D.tick (Bo F h h')/\A1 F h h'/\HB h':=fun h' x'=>⟨(F8.ext ⟨w,wl,zl,z,q,a,b⟩ x').grow d.lt (by have:=c02.next;have:=x'.next;omega),c02.trans (Ext.to x'),x'.hb hb2⟩
  have app:¬ ((D.zs j).st=0/\D.op<=Pg D.zs D.n)->Ok (Lz K (.ptr V 0) (I j) (.ptr h.next 0) h2) fun v h'=>v=.tuple [I (if (D.zs j).st=0/\D.op<=Pg D.zs D.n then (D.tick,0,33) else if 2<=(D.zs j).st then (D.tick,0,if (D.zs j).st=2 then 17 else Ht (D.zs j).st) else (D.tick.set j ((D.zs j).app D.size x),((D.zs j).l.length:Int),(0:Int))).2.1,I (if (D.zs j).st=0/\D.op<=Pg D.zs D.n then (D.tick,0,33) else if 2<=(D.zs j).st then (D.tick,0,if (D.zs j).st=2 then 17 else Ht (D.zs j).st) else (D.tick.set j ((D.zs j).app D.size x),((D.zs j).l.length:Int),(0:Int))).2.2]/\F8 h' V (if (D.zs j).st=0/\D.op<=Pg D.zs D.n then (D.tick,0,33) else if 2<=(D.zs j).st then (D.tick,0,if (D.zs j).st=2 then 17 else Ht (D.zs j).st) else (D.tick.set j ((D.zs j).app D.size x),((D.zs j).l.length:Int),(0:Int))).1 (Bo F h h')/\A1 F h h'/\HB h':=by
   intro hno
   rw[if_neg hno]
   simp only[Lz,I,Ab,Bh,As lV,a.list,hix,As lzl,hzp,As l5,Gf g5 rfl,Ax hx]
   have wz:=w.zs j hj
   have wsz:=w.size
   have wl1:=wz.len
   by_cases hst:2<=(D.zs j).st
   ·rw[if_pos hst]
    refine Ok.Ct (by kernel_rfl) (by kernel_rfl) (Amb (K:=K) (a.lift.B4 j hj) (Fh hb2) hst wz.st x) (fun _ _ p=>p.2) ?_
    rintro _ h3 h4 ⟨rfl,_⟩ sm x4
    simp only[Ab]
    exact .ret ⟨rfl,dd h4 x4⟩
   ·rw[if_neg hst]
    have hst':(D.zs j).st<2:=by omega
    refine Ok.Aqi (S:=fun i=>i=z j\/(0<(D.zs j).l.length/\i=q j)) (by kernel_rfl) (by kernel_rfl) (fun _=>by kernel_rfl) (Am0 (K:=K) (size:=D.size) (a.lift.B4 j hj) (Fh hb2) hst' (Nat.le_trans wl1 wsz) hx) (fun _ _ p=>p.2.2.1) ?_
    rintro _ h3 h4 s' ⟨rfl,⟨q',zz,hq'⟩,_,hb3⟩ sm c4 _
    simp only[Ab]
    have hb4:=sm.hb hb3
    have zz4:Ej h4 (z j) q' D.size ((D.zs j).app D.size x):=zz.ext fun i o g=>by rw[sm.get];exact g
    obtain⟨d4,c24⟩:=F8.B4 w a b wl hb2 hj (wz.app hst' hu) zz4 (c4.mono fun i hi=>by
     rcases hi with y|⟨y1,y2⟩
     ·exact .inl y
     ·exact .inr ⟨Agg.2 y1,y2⟩) hb4 (fun _=>.inl (by rw[X1]at hq';exact hq'))
    refine .ret ⟨rfl,?_,c02.trans c24,hb4⟩
    refine d4.mono (fun i hi=>?_) (Bo.lt d.lt (c02.trans c24).next)
    rcases hi with y|y
    ·exact .inl y
    ·exact .inr ⟨Nat.le_trans c02.next y.1,y.2⟩
  simp only[I,Ah]
  by_cases h0:(D.zs j).st=0
  ·rw[show decide (((D.tick.zs j).st:Int)=0)=true from decide_eq_true (by show ((D.zs j).st:Int)=0;omega)]
   simp only[Ab,Ah]
   rw[Nq (by kernel_rfl) (by kernel_rfl) hop]
   rw[As lV (by kernel_rfl),Cl a.dev rfl]
   simp only[Ab,I,Ah,Is]
   by_cases ho:D.op<=Pg D.zs D.n
   ·rw[show decide (D.tick.op<=((Pg D.tick.zs D.tick.n:Nat):Int))=true from decide_eq_true ho]
    simp only[Ab]
    rw[if_pos ⟨h0,ho⟩]
    exact .ret ⟨rfl,dd h2 (A1.refl _)⟩
   ·rw[show decide (D.tick.op<=((Pg D.tick.zs D.tick.n:Nat):Int))=false from decide_eq_false ho]
    simp only[Ab]
    exact app fun y=>ho y.2
  ·rw[show decide (((D.tick.zs j).st:Int)=0)=false from decide_eq_false (by show ¬ ((D.zs j).st:Int)=0;omega)]
   simp only[Ab,Ah,Is]
   exact app fun y=>h0 y.1
 ·rw[if_neg hbe]at d2
  rw[if_pos hbe]
  simp only[I,Ah,hbe,not_false_eq_true,decide_true,Ab]
  exact .ret ⟨rfl,d2.grow d.lt c02.next,c02,hb2⟩
end Go.Ev

namespace Go.Ev
open Go.Proofs
set_option maxRecDepth 100000
variable {K:Nat}
theorem Dv.A29 {D:Dv}{i:Int}(hbe:D.Fm i=0):∃ j:Nat,i=j/\j<D.n:=by
 have hhas:D.has i=true:=by
  unfold Dv.Fm at hbe
  cases hh:D.has i with
  | true=>rfl
  | false=>rw[hh]at hbe;split at hbe <;> simp at hbe
 have:=of_decide_eq_true hhas
 exact⟨i.toNat,by omega,by omega⟩
theorem Ij.Aw0 {h:Aa}{V zl n:Nat}{z q:Nat->Nat}{size op cnt:Int}{down:Bool}{Zs:Nat->Zn}(d:Ij h V zl n z q size op cnt down Zs){j:Nat}(hj:j<n):
 (∀ k:EV->R,Ib 1 (.slice zl 0 n n true) (.int .i64 (j:Int)) k=k (.ptr zl j))/\(∀ k:EV->R,Ao (.ptr zl j) h k=k (.ptr (z j) 0)):=by
 have hx:∀ k:EV->R,Ib 1 (.slice zl 0 n n true) (.int .i64 (j:Int)) k=k (.ptr zl j):=fun k=>by
  rw[Sw hj,Nat.zero_add,Nat.mul_one]
 refine⟨hx,fun k=>?_⟩
 have:=d.A2b hj k
 unfold I at this
 rw[hx]at this
 exact this
noncomputable def Dv.finish(D:Dv)(i:Int):Dv × Int:=
 if D.Fm i ≠ 0 then (D,D.Fm i) else
 (if Ht (D.zs i.toNat).st=0 then D.tick.set i.toNat (D.zs i.toNat).finish else D.tick,Ht (D.zs i.toNat).st)
theorem Zn.Wf.finish {Z:Zn}{size:Nat}(w:Z.Wf size):Z.finish.Wf size:=⟨w.u8,by show 2<=4;omega,w.safe,w.len,fun y=>absurd y (by show ¬ 2<2;omega)⟩
theorem Anz {h:Aa}{V:Nat}{D:Dv}{F:Nat->Prop}(d:F8 h V D F)(hb:HB h)(i:Int):
 Ok (K8 K (.ptr V 0) (I i) h) fun v h'=>v=I (D.finish i).2/\F8 h' V (D.finish i).1 (Bo F h h')/\A1 F h h'/\HB h':=by
 simp only[K8]
 refine(Z2 (K:=K) d hb i).Aj ?_
 rintro _ h2 ⟨rfl,d2,c2,hb2,n2⟩
 unfold Dv.finish
 by_cases hbe:D.Fm i=0
 ·rw[if_neg (by rw[hbe];exact fun y=>y rfl),hbe]
  have hbg:D.begin i=D.tick:=by unfold Dv.begin;rw[if_pos hbe]
  rw[hbg]at d2
  obtain⟨j,rfl,hj⟩:=Dv.A29 hbe
  obtain⟨zl,z,q,a,b⟩:=d2.Q0
  obtain⟨hix,hzp⟩:=a.Aw0 (j:=j) hj
  simp only[I,Ah,not_true_eq_false,decide_false,Ab,Q3,a.list,hix,hzp]
  refine(Amy (K:=K) (a.B4 j hj) hb2).Aj ?_
  rintro _ h3 ⟨rfl,zz,c3,hb3⟩
  try simp only[Ab]
  rw[show (j:Int).toNat=j from rfl]
  have zz:Ej h3 (z j) (q j) D.size (if Ht (D.zs j).st=0 then (D.zs j).finish else D.zs j):=zz
  by_cases hf:Ht (D.zs j).st=0
  ·simp only[hf,if_true]at zz ⊢
   obtain⟨d3,c23⟩:=F8.B4 d2.wf a b d2.lt hb2 hj (d2.wf.zs j hj).finish zz (c3.mono fun _=>.inl) hb3 (fun y=>.inr ⟨rfl,y⟩)
   refine .ret ⟨by rw[show Ht (D.tick.zs j).st=Ht (D.zs j).st from rfl,hf],d3.mono (fun i hi=>?_) (Bo.lt d.lt (c2.trans c23).next),c2.trans c23,hb3⟩
   rcases hi with y|y
   ·exact .inl y
   ·exact .inr ⟨Nat.le_trans c2.next y.1,y.2⟩
  ·simp only[hf,if_false]at zz ⊢
   obtain⟨d3,c23⟩:=F8.B4 d2.wf a b d2.lt hb2 hj (d2.wf.zs j hj) zz (c3.mono fun _=>.inl) hb3 (fun y=>.inr ⟨rfl,y⟩)
   have e:D.tick.set j (D.zs j)=D.tick:=by
    unfold Dv.set
    have:N9 D.tick.zs j (D.zs j)=D.tick.zs:=by funext k;unfold N9;split <;> simp_all [Dv.tick]
    rw[this]
   have d3:F8 h3 V (D.tick.set j (D.zs j)) (Bo F h2 h3):=d3
   rw[e]at d3
   refine .ret ⟨rfl,d3.mono (fun i hi=>?_) (Bo.lt d.lt (c2.trans c23).next),c2.trans c23,hb3⟩
   rcases hi with y|y
   ·exact .inl y
   ·exact .inr ⟨Nat.le_trans c2.next y.1,y.2⟩
 ·rw[if_pos hbe]
  have hbg:D.begin i=D:=by unfold Dv.begin;rw[if_neg hbe]
  rw[hbg]at d2
  simp only[I,Ah,hbe,not_false_eq_true,decide_true,Ab]
  exact .ret ⟨rfl,d2.grow d.lt c2.next,c2,hb2⟩
noncomputable def Dv.A5t(D:Dv):Dv:={ D with down:=true }
theorem Apr {h:Aa}{V:Nat}{D:Dv}{F:Nat->Prop}(d:F8 h V D F)(hb:HB h):
 Ok (L8 K (.ptr V 0) h) fun v h'=>F8 h' V D.A5t F/\A1 F h h'/\HB h':=by
 obtain⟨w,wl,zl,z,q,a,b⟩:=d
 simp only[L8,Ab]
 have lV:=hb _ _ a.dev
 refine Ok.st1 a.dev rfl rfl (by show 4<5;decide) ?_
 exact .ret ⟨⟨⟨w.size,w.n,w.zs⟩,wl,zl,z,q,a.Avb D.cnt true,b⟩,(A1.refl h).Az (.inl (b _ (.inl rfl))) lV _,hb.put lV _⟩
end Go.Ev

namespace Go.Ev
open Go.Proofs
set_option maxRecDepth 100000
variable {K:Nat}
structure Aer(h:Aa)(V zl:Nat)(z:Nat->Nat)(D:Dv)(F:Nat->Prop):Prop where
 wf:D.Wf
 lt:∀ i,F i->i<h.next
 Q0:∃ q,Ij h V zl D.n z q D.size D.op D.cnt D.down D.zs/\∀ i,Ani V zl D.n z q D.zs i->F i
theorem F8.z {h:Aa}{V:Nat}{D:Dv}{F:Nat->Prop}(d:F8 h V D F):∃ zl z,Aer h V zl z D F:=by
 obtain⟨zl,z,q,a,b⟩:=d.Q0
 exact⟨zl,z,d.wf,d.lt,q,a,b⟩
theorem Aer.s {h:Aa}{V zl:Nat}{z:Nat->Nat}{D:Dv}{F:Nat->Prop}(d:Aer h V zl z D F):F8 h V D F:=by
 obtain⟨q,a,b⟩:=d.Q0
 exact⟨d.wf,d.lt,zl,z,q,a,b⟩
theorem Aer.mono {h:Aa}{V zl:Nat}{z:Nat->Nat}{D:Dv}{F G:Nat->Prop}(d:Aer h V zl z D F)(s:∀ i,F i->G i)(l:∀ i,G i->i<h.next):Aer h V zl z D G:=by
 obtain⟨q,a,b⟩:=d.Q0
 exact⟨d.wf,l,q,a,fun i hi=>s i (b i hi)⟩
theorem Aer.congr {h:Aa}{V zl:Nat}{z:Nat->Nat}{D:Dv}{F:Nat->Prop}(d:Aer h V zl z D F){zs':Nat->Zn}(e:∀ i,i<D.n->zs' i=D.zs i):Aer h V zl z { D with zs:=zs' } F:=by
 obtain⟨q,a,b⟩:=d.Q0
 refine⟨⟨d.wf.size,d.wf.n,fun i hi=>?_⟩,d.lt,q,⟨a.pos,a.dev,a.row,fun i hi=>?_,a.Apj,fun i j hi hj=>?_⟩,?_⟩
 ·show (zs' i).Wf _;rw[e i hi];exact d.wf.zs i hi
 ·show Ej _ _ _ _ (zs' i);rw[e i hi];exact a.B4 i hi
 ·show (zs' i).l ≠ []->(zs' j).l ≠ []->_;rw[e i hi,e j hj];exact a.Arz i j hi hj
 ·rintro i (y|y|⟨k,hk,y⟩)
  ·exact b i (.inl y)
  ·exact b i (.inr (.inl y))
  ·refine b i (.inr (.inr ⟨k,hk,?_⟩))
   have y:i=z k\/(zs' k).l ≠ []/\i=q k:=y
   rw[e k hk]at y
   exact y
theorem Aer.B4 {h h':Aa}{V zl:Nat}{z:Nat->Nat}{D:Dv}{F:Nat->Prop}(d:Aer h V zl z D F){q:Nat->Nat}(a:Ij h V zl D.n z q D.size D.op D.cnt D.down D.zs)(b:∀ i,Ani V zl D.n z q D.zs i->F i)(hb:HB h){i:Nat}(hi:i<D.n){q':Nat}{Z:Zn}
 (zw:Z.Wf D.size) (zz:Ej h' (z i) q' D.size Z) (c:A1 (fun j=>j=z i\/((D.zs i).l ≠ []/\j=q i)) h h') (hb':HB h') (hq:Z.l ≠ []->h.next<=q'\/(q'=q i/\(D.zs i).l ≠ [])) :
 Aer h' V zl z (D.set i Z) (Bo F h h')/\A1 F h h':=by
 have hF:∀ j,(j=z i\/((D.zs i).l ≠ []/\j=q i))->F j:=by
  rintro j (y|⟨y1,y2⟩)
  ·exact b j (.inr (.inr ⟨i,hi,.inl y⟩))
  ·exact b j (.inr (.inr ⟨i,hi,.inr ⟨y1,y2⟩⟩))
 refine⟨⟨d.wf.set zw,Bo.lt d.lt c.next,_,a.Axj hb hi zz c hq,?_⟩,c.mono hF⟩
 rintro j (y|y|⟨d,hd,y⟩)
 ·exact .inl (b j (.inl y))
 ·exact .inl (b j (.inr (.inl y)))
 ·rcases y with y|⟨y1,y2⟩
  ·exact .inl (b j (.inr (.inr ⟨d,hd,.inl y⟩)))
  ·by_cases hdi:d=i
   ·subst hdi
    simp only[Dv.set,N9,Anu,if_true]at y1 y2
    subst y2
    rcases hq y1 with y|⟨y3,y4⟩
    ·obtain⟨s,_,r⟩:=zz.B4
     exact .inr ⟨y,hb' _ _ (r.block (Agg.1 y1))⟩
    ·rw[y3];exact .inl (hF _ (.inr ⟨y4,rfl⟩))
   ·simp only[Dv.set,N9,Anu,hdi,if_false]at y1 y2
    exact .inl (b j (.inr (.inr ⟨d,hd,.inr ⟨y1,y2⟩⟩)))
def Akc(f:Nat->Zn->Zn)(zs:Nat->Zn)(i:Nat):Nat->Zn:=fun j=>if j<i then f j (zs j) else zs j
theorem Aub(f:Nat->Zn->Zn)(zs:Nat->Zn)(i:Nat):Akc f zs (i+1)=N9 (Akc f zs i) i (f i (zs i)):=by
 funext j
 unfold Akc N9
 by_cases h1:j=i
 ·subst h1;simp
 ·by_cases h2:j<i
  ·rw[if_pos (by omega),if_neg h1];exact(if_pos h2).symm
  ·rw[if_neg (by omega),if_neg h1];exact(if_neg h2).symm
theorem Ary(f:Nat->Zn->Zn)(zs:Nat->Zn)(i:Nat):Akc f zs i i=zs i:=by unfold Akc;rw[if_neg (by omega)]
noncomputable def Dv.flush(D:Dv):Dv × Int:=if D.down=true then (D,34) else ({ D.tick with zs:=fun i=>(D.zs i).flush },0)
theorem Zn.Wf.flush {Z:Zn}{size:Nat}(w:Z.Wf size):Z.flush.Wf size:=⟨w.u8,w.st,Nat.le_refl _,w.len,w.room⟩
theorem Avc {V zl:Nat}{z:Nat->Nat}{D:Dv}{F:Nat->Prop}(h0:Aa)(hF0:∀ j,F j->j<h0.next):∀ (m i:Nat) (h:Aa),D.n-i<m->i<=D.n->HB h->A1 F h0 h->Aer h V zl z { D with zs:=Akc (fun _ Z=>Z.flush) D.zs i } (Bo F h0 h) ->
 Ok (Df K m (.slice zl 0 D.n D.n true) (I D.n) (I i) h) fun v h'=>v=I 0/\Aer h' V zl z { D with zs:=Akc (fun _ Z=>Z.flush) D.zs D.n } (Bo F h0 h')/\A1 F h0 h'/\HB h':=by
 intro m
 induction m with
 | zero=>intro i h hm;omega
 | succ m ih=>
  intro i h hm hi hb c d
  have hn:=d.wf.n
  have hn:D.n<=512:=hn
  simp only[Df,I,Ah,Ab]
  by_cases hlt:(i:Int)<D.n
  ·have hin:i<D.n:=by omega
   obtain⟨q,a,b⟩:=d.Q0
   obtain⟨hix,hzp⟩:=a.Aw0 (j:=i) hin
   simp only[hlt,decide_true,Ab,Si,hix,hzp]
   have za:=a.B4 i hin
   have wz:=d.wf.zs i hin
   simp only[Ary]at za wz
   refine(Anv (K:=K) za hb).Aj ?_
   rintro _ h1 ⟨zz,c1,hb1⟩
   simp only[So,I,Ah]
   rw[Cx (by omega) (by omega)]
   obtain⟨d1,c1'⟩:=d.B4 a b hb hin wz.flush zz (c1.mono fun _=>.inl) hb1 (fun y=>.inr ⟨rfl,by simp only[Ary];exact y⟩)
   have c2:=c.grow c1'
   refine ih (i+1) h1 (by omega) (by omega) hb1 c2 ?_
   rw[Aub]
   exact d1.mono (fun j hj=>Bo.trans c.next c1.next hj) (Bo.lt hF0 c2.next)
  ·have:i=D.n:=by omega
   subst this
   simp only[hlt,decide_false,Ab,M8]
   exact .ret ⟨rfl,d,c,hb⟩
theorem Aph {h:Aa}{V:Nat}{D:Dv}{F:Nat->Prop}(d:F8 h V D F)(hb:HB h)(hK:1000<K):
 Ok (Ma K (.ptr V 0) h) fun v h'=>v=I D.flush.2/\F8 h' V D.flush.1 (Bo F h h')/\A1 F h h'/\HB h':=by
 obtain⟨w,wl,zl,z,q,a,b⟩:=d
 have hn:=w.n
 unfold Dv.flush
 simp only[Ma,Ab,Cl a.dev rfl]
 cases hd:D.down with
 | true=>
  simp only[Ab,if_true]
  exact .ret ⟨rfl,F8.grow ⟨w,wl,zl,z,q,a,b⟩ wl (Nat.le_refl _),A1.refl _,hb⟩
 | false=>
  simp only[Ab,Bool.false_eq_true,if_false,Sr,Cl a.dev rfl,I,Ah]
  have lV:=hb _ _ a.dev
  refine Ok.st1 a.dev rfl rfl (by show 3<5;decide) ?_
  have c1:A1 F h (h.put V (.cells ([EV.slice zl 0 D.n D.n true,I D.size,I D.op,I D.cnt,.bool D.down].set 3 (.int .i64 (Dk .i64 (D.cnt+1)))) 183)):=(A1.refl h).Az (.inl (b _ (.inl rfl))) lV _
  have hb1:HB (h.put V (.cells ([EV.slice zl 0 D.n D.n true,I D.size,I D.op,I D.cnt,.bool D.down].set 3 (.int .i64 (Dk .i64 (D.cnt+1)))) 183)):=hb.put lV _
  have d1:Aer (h.put V (.cells ([EV.slice zl 0 D.n D.n true,I D.size,I D.op,I D.cnt,.bool D.down].set 3 (.int .i64 (Dk .i64 (D.cnt+1)))) 183)) V zl z D.tick F:=⟨⟨w.size,w.n,w.zs⟩,wl,q,a.Avb (Dk .i64 (D.cnt+1)) D.down,b⟩
  generalize h.put V (.cells ([EV.slice zl 0 D.n D.n true,I D.size,I D.op,I D.cnt,.bool D.down].set 3 (.int .i64 (Dk .i64 (D.cnt+1)))) 183)=h1 at c1 hb1 d1 ⊢
  obtain⟨q1,a1,b1⟩:=d1.Q0
  rw[Cl a1.dev rfl]
  simp only[Ab]
  have:=Avc (K:=K) (D:=D.tick) (F:=F) h wl K 0 h1 (by show D.n-0<K;omega) (Nat.zero_le _) hb1 c1 (Aer.congr (d1.mono (fun _=>.inl) (Bo.lt wl c1.next)) (fun i _=>by unfold Akc;rw[if_neg (Nat.not_lt_zero _)]))
  refine this.mono ?_
  rintro v h2 ⟨rfl,d2,c2,hb2⟩
  refine⟨rfl,?_,c2,hb2⟩
  exact(d2.congr (zs':=fun i=>(D.zs i).flush) fun i hi=>(if_pos hi).symm).s
structure Ajg(h:Aa)(v:EV)(b:Nat)(l:List Int):Prop where
 row:(v=.Af/\l = [])\/∃ off r op,v=.slice b off l.length r op/\∀ j (hj:j<l.length) (k:EV->R),Ao (.ptr b (off+j)) h k=k (I l[j])
theorem Ajg.frame {h h':Aa}{v:EV}{b:Nat}{l:List Int}(r:Ajg h v b l)(e:h'.get b=h.get b):Ajg h' v b l:=by
 rcases r.row with y|⟨off,r',op,rfl,y⟩
 ·exact⟨.inl y⟩
 ·refine⟨.inr ⟨off,r',op,rfl,fun j hj k=>?_⟩⟩
  have:=y j hj k
  show oB _ (Ae5 (h'.get b) _ 1)=_
  rw[e];exact this
def Dv.fail(D:Dv)(i:Int)(st:Nat):Dv:=if D.has i=true then D.set i.toNat ((D.zs i.toNat).fail st) else D
theorem Zn.Wf.fail {Z:Zn}{size:Nat}(w:Z.Wf size)(st:Nat):(Z.fail st).Wf size:=by
 unfold Zn.fail
 split
 ·exact⟨w.u8,by show st<=4;omega,w.safe,w.len,fun y=>absurd y (by show ¬ st<2;omega)⟩
 ·exact w
theorem Asr {h:Aa}{V:Nat}{D:Dv}{F:Nat->Prop}(d:F8 h V D F)(hb:HB h)(i:Int)(st:Nat):
 Ok (Ia K (.ptr V 0) (I i) (I st) h) fun v h'=>F8 h' V (D.fail i st) (Bo F h h')/\A1 F h h'/\HB h':=by
 simp only[Ia,Zl d,Ab]
 unfold Dv.fail
 cases hh:D.has i with
 | false=>
  simp only[Ab,Bool.false_eq_true,if_false]
  exact .ret ⟨d.grow d.lt (Nat.le_refl _),A1.refl _,hb⟩
 | true=>
  have:=of_decide_eq_true hh
  obtain⟨j,rfl⟩:∃ j:Nat,i=j:=⟨i.toNat,by omega⟩
  have hj:j<D.n:=by omega
  obtain⟨zl,z,q,a,b⟩:=d.Q0
  obtain⟨hix,hzp⟩:=a.Aw0 (j:=j) hj
  simp only[Ab,if_true,T2,a.list]
  unfold I
  rw[hix,hzp]
  refine(Apl (K:=K) (a.B4 j hj) hb st).Aj ?_
  rintro _ h3 ⟨zz,c3,hb3⟩
  obtain⟨d3,c23⟩:=F8.B4 d.wf a b d.lt hb hj ((d.wf.zs j hj).fail st) zz (c3.mono fun _=>.inl) hb3 (fun y=>.inr ⟨rfl,by
   unfold Zn.fail at y;split at y <;> exact y⟩)
  exact .ret ⟨d3,c23,hb3⟩
end Go.Ev

namespace Go.Ev
open Go.Proofs
set_option maxRecDepth 100000
variable {K:Nat}
def kp(a b:Int):EV:=.agg [I a,I b]
def Zy(ms:List (EV × EV)):Prop:=∀ e ∈ ms,∃ a b p n,e=(kp a b,.agg (p++[I n]))/\U8 p/\p.length=64
theorem Akv(a b:Int):Ach (I a) (I b)=some (decide (a=b)):=by
 show Ar (Nat.beq (Le .i64) (Le .i64)) (some (eqB a b)) none=_
 rw[Nat.beq_refl,Ak,Zx]
theorem A19(a b c d:Int):Aib (kp a b) (kp c d)=some (decide (a=c/\b=d)):=by
 show Fu [I a,I b] [I c,I d]=_
 unfold Fu
 rw[Akv]
 by_cases h1:a=c
 ·rw[decide_eq_true h1]
  simp only[Fu,Akv]
  by_cases h2:b=d
  ·rw[decide_eq_true h2,decide_eq_true ⟨h1,h2⟩]
  ·rw[decide_eq_false h2,decide_eq_false fun y=>h2 y.2]
 ·rw[decide_eq_false h1,decide_eq_false fun y=>h1 y.1]
  simp only[Fu,Akv]
  by_cases h2:b=d
  ·rw[decide_eq_true h2]
  ·rw[decide_eq_false h2]
theorem Zw(a b:Int):∀ (ms:List (EV × EV)) (i:Nat),Zy ms->F6 (kp a b) ms i=some none\/∃ j p n,F6 (kp a b) ms i=some (some (j,.agg (p++[I n])))/\U8 p/\p.length=64
 | [],i,_=>.inl rfl
 | (x,y)::r,i,hm=>by
  obtain⟨a',b',p,n,e,hp,hl⟩:=hm _ (List.mem_cons_self ..)
  cases e
  have ih:=Zw a b r (Nat.succ i) fun e he=>hm e (List.mem_cons_of_mem _ he)
  unfold F6
  rw[A19]
  by_cases hc:a=a'/\b=b'
  ·rw[decide_eq_true hc];exact .inr ⟨i,p,n,rfl,hp,hl⟩
  ·rw[decide_eq_false hc];exact ih
theorem Afy(a b:Int):J1 TT 243 (kp a b)=true:=by
 have h1:TT.key 243=true:=by kernel_rfl
 have h2:TT.eqs 243=some [0,0]:=by kernel_rfl
 unfold J1 kp
 simp only[h1,h2,Ak]
 rw[show shaped [0,0] [I a,I b]=true from rfl,Ak]
 simp only[Fu,Akv,decide_true]
theorem Apb {h:Aa}{M:Nat}{ms:List (EV × EV)}(hg:h.get M=some (.map ms))(hm:Zy ms)(a b:Int):∃ ms',builtin TT .delete #[164,243] [.map M,kp a b] h=some (.tuple [],h.put M (.map ms'))/\Zy ms':=by
 have hu:TT.Hs 164=some (.map 243 320):=by kernel_rfl
 have e:builtin TT .delete #[164,243] [.map M,kp a b] h=Ar (J1 TT 243 (kp a b)) (match h.get M with
  | some (.map es)=>match F6 (kp a b) es 0 with
   | some (some (j,_))=>some (.tuple [],h.put M (.map (es.eraseIdx j)))
   | some none=>some (.tuple [],h.put M (.map es))
   | none=>none
  | _=>none) none:=by
  unfold builtin
  simp only[hu]
  rfl
 rw[e,Afy,Ak,hg]
 rcases Zw a b ms 0 hm with y|⟨j,p,n,y,_⟩
 ·simp only[y];exact⟨ms,rfl,hm⟩
 ·simp only[y];exact⟨_,rfl,fun e he=>hm e (List.mem_of_mem_eraseIdx he)⟩
theorem Ayu {h:Aa}{M:Nat}{ms:List (EV × EV)}(hg:h.get M=some (.map ms))(hm:Zy ms)(a b:Int):∃ p n,Ag3 TT 243 320 false (.map M) (kp a b) h=some (.agg (p++[I n]),h)/\U8 p/\p.length=64:=by
 have e:Ag3 TT 243 320 false (.map M) (kp a b) h=Ar (J1 TT 243 (kp a b)) (match h.get M with
  | some (.map es)=>match F6 (kp a b) es 0 with
   | some (some (_,v))=>some (v,h)
   | some none=>oB (fun zv=>some (zv,h)) (zeroOf TT 320)
   | none=>none
  | _=>none) none:=rfl
 have hz:zeroOf TT 320=some (.agg (Abf++[I 0])):=by kernel_rfl
 rw[e,Afy,Ak,hg]
 rcases Zw a b ms 0 hm with y|⟨j,p,n,y,hp,hl⟩
 ·simp only[y,hz];exact⟨Abf,0,rfl,U8.zs,Ag8⟩
 ·simp only[y];exact⟨p,n,rfl,hp,hl⟩
theorem Apu {h:Aa}{M:Nat}{ms:List (EV × EV)}(hg:h.get M=some (.map ms))(hm:Zy ms)(a b:Int){p:List EV}{n:Int}(hp:U8 p)(hl:p.length=64):∃ ms',V3 TT 243 (.map M) (kp a b) (.agg (p++[I n])) h=some (.tuple [],h.put M (.map ms'))/\Zy ms':=by
 have e:V3 TT 243 (.map M) (kp a b) (.agg (p++[I n])) h=Ar (J1 TT 243 (kp a b)) (match h.get M with
  | some (.map es)=>match F6 (kp a b) es 0 with
   | some (some (j,_))=>some (.tuple [],h.put M (.map (es.set j (kp a b,.agg (p++[I n])))))
   | some none=>some (.tuple [],h.put M (.map (es++[(kp a b,.agg (p++[I n]))])))
   | none=>none
  | _=>none) none:=rfl
 rw[e,Afy,Ak,hg]
 rcases Zw a b ms 0 hm with y|⟨j,p',n',y,_⟩
 ·simp only[y]
  refine⟨_,rfl,fun e he=>?_⟩
  rcases List.mem_append.1 he with he|he
  ·exact hm e he
  ·rw[List.mem_singleton.1 he];exact⟨a,b,p,n,rfl,hp,hl⟩
 ·simp only[y]
  refine⟨_,rfl,fun e he=>?_⟩
  rcases List.mem_or_eq_of_mem_set he with he|he
  ·exact hm e he
  ·rw[he];exact⟨a,b,p,n,rfl,hp,hl⟩
structure V9 where
 Q0:Int
 kind:Int
 B4:Int
 off:Int
 pat:List EV
def V9.cells(e:V9):List EV:=[I e.Q0,I e.kind,I e.B4,I e.off]++e.pat
structure V9.Wf(e:V9):Prop where
 u8:U8 e.pat
 len:e.pat.length=64
structure I8 where
 dv:Dv
 ev:List V9
 Po:List V9
def Baf:EV->EV->EV
 | .int k x,.int _ y=>.int k (Int.ofNat (Nat.xor x.toNat y.toNat))
 | a,_=>a
def Qo(a b:List EV):List EV:=List.zipWith Baf a b
def Dv.Aos(D:Dv)(z off:Int)(p:List EV):Dv:=
 if D.has z=true/\0<=off/\off<(D.zs z.toNat).l.length then D.set z.toNat { D.zs z.toNat with l:=(D.zs z.toNat).l.set off.toNat (Qo (((D.zs z.toNat).l[off.toNat]?).getD Abf) p) } else D
noncomputable def Dv.Qa(D:Dv)(e:V9):Dv:=
 if e.kind=1 then D.Aos e.B4 e.off e.pat else if e.kind=2 then D.fail e.B4 3 else if e.kind=3 then D.fail e.B4 4 else if e.kind=4 then D.A5t else D
noncomputable def Aq9:List V9->Dv->List V9->I8
 | [],D,k=>⟨D,[],k⟩
 | e::r,D,k=>if D.down=true\/¬ e.Q0<=D.cnt then ⟨D,e::r,k⟩ else Aq9 r (D.Qa e) (k++[e])
noncomputable def I8.due(S:I8):I8:=Aq9 S.ev S.dv S.Po
structure I8.Wf(S:I8):Prop where
 ev:S.ev.length+S.Po.length<=200
 wf:∀ e ∈ S.ev,e.Wf
 Vk:∀ e ∈ S.Po,e.Wf
structure Uz(h:Aa)(D V M qc qh:Nat)(cs hs:EV)(ms:List (EV × EV))(S:I8)(F G:Nat->Prop):Prop where
 Cz:h.get D=some (.cells [.ptr V 0,cs,hs,.map M] 166)
 map:h.get M=some (.map ms)
 marks:Zy ms
 Ha:Bz h cs qc 105 68 S.ev.length (S.ev.map V9.cells).flatten
 Afa:Bz h hs qh 105 68 S.Po.length (S.Po.map V9.cells).flatten
 dev:F8 h V S.dv F
 sub:(∀ i,F i->G i)/\G D/\G M/\(0<S.ev.length->G qc)/\(0<S.Po.length->G qh)
 apart:¬ F D/\¬ F M/\(0<S.ev.length->¬ F qc)/\(0<S.Po.length->¬ F qh)/\(0<S.ev.length->0<S.Po.length->qc ≠ qh)
structure Ew(h:Aa)(D:Nat)(S:I8)(G:Nat->Prop):Prop where
 lt:∀ i,G i->i<h.next
 wf:S.Wf
 Q0:∃ V M qc qh cs hs ms F,Uz h D V M qc qh cs hs ms S F G
theorem Uz.mono {h:Aa}{D V M qc qh:Nat}{cs hs:EV}{ms:List (EV × EV)}{S:I8}{F G G':Nat->Prop}(a:Uz h D V M qc qh cs hs ms S F G)(s:∀ i,G i->G' i):Uz h D V M qc qh cs hs ms S F G':=
 ⟨a.Cz,a.map,a.marks,a.Ha,a.Afa,a.dev,⟨fun i hi=>s i (a.sub.1 i hi),s _ a.sub.2.1,s _ a.sub.2.2.1,fun y=>s _ (a.sub.2.2.2.1 y),fun y=>s _ (a.sub.2.2.2.2 y)⟩,a.apart⟩
theorem Ew.mono {h:Aa}{D:Nat}{S:I8}{G G':Nat->Prop}(d:Ew h D S G)(s:∀ i,G i->G' i)(l:∀ i,G' i->i<h.next):Ew h D S G':=by
 obtain⟨V,M,qc,qh,cs,hs,ms,F,a⟩:=d.Q0
 exact⟨l,d.wf,V,M,qc,qh,cs,hs,ms,F,a.mono s⟩
theorem Ew.grow {h h':Aa}{D:Nat}{S:I8}{G:Nat->Prop}(d:Ew h' D S G)(l:∀ i,G i->i<h.next)(n:h.next<=h'.next):Ew h' D S (Bo G h h'):=d.mono (fun _=>.inl) (Bo.lt l n)
theorem Ew.A07 {h h1 h2:Aa}{D:Nat}{S:I8}{G:Nat->Prop}(d:Ew h2 D S (Bo (Bo G h h1) h1 h2))(a:h.next<=h1.next)(b:h1.next<=h2.next)(l:∀ i,G i->i<h.next):Ew h2 D S (Bo G h h2):=
 d.mono (fun _=>Bo.trans a b) (Bo.lt l (Nat.le_trans a b))
theorem Uz.frame {h h':Aa}{D V M qc qh:Nat}{cs hs:EV}{ms:List (EV × EV)}{S:I8}{F G:Nat->Prop}(a:Uz h D V M qc qh cs hs ms S F G)(n:h.next<=h'.next)(e:∀ i,G i->h'.get i=h.get i):Uz h' D V M qc qh cs hs ms S F G:=
 ⟨by rw[e _ a.sub.2.1];exact a.Cz,by rw[e _ a.sub.2.2.1];exact a.map,a.marks,a.Ha.frame fun y=>e _ (a.sub.2.2.2.1 y),a.Afa.frame fun y=>e _ (a.sub.2.2.2.2 y),a.dev.frame n fun i hi=>e i (a.sub.1 i hi),a.sub,a.apart⟩
theorem Ew.frame {h h':Aa}{D:Nat}{S:I8}{G:Nat->Prop}(d:Ew h D S G)(n:h.next<=h'.next)(e:∀ i,G i->h'.get i=h.get i):Ew h' D S G:=by
 obtain⟨V,M,qc,qh,cs,hs,ms,F,a⟩:=d.Q0
 exact⟨fun i hi=>Nat.lt_of_lt_of_le (d.lt i hi) n,d.wf,V,M,qc,qh,cs,hs,ms,F,a.frame n e⟩
theorem Ew.chg {h h':Aa}{D:Nat}{S:I8}{G T:Nat->Prop}(d:Ew h D S G)(c:A1 T h h')(n:∀ i,G i->¬ T i):Ew h' D S G:=d.frame c.next fun i hi=>c.get i (d.lt i hi) (n i hi)
theorem Ew.ext {h h':Aa}{D:Nat}{S:I8}{G:Nat->Prop}(d:Ew h D S G)(c:Ext h h'):Ew h' D S G:=d.chg c fun _ _=>id
theorem Uz.put {h h':Aa}{D V M qc qh:Nat}{cs hs:EV}{ms:List (EV × EV)}{S:I8}{F G:Nat->Prop}(a:Uz h D V M qc qh cs hs ms S F G)(hb:HB h){dv:Dv}(d:F8 h' V dv (Bo F h h'))(c:A1 F h h'):
 Uz h' D V M qc qh cs hs ms { S with dv:=dv } (Bo F h h') (Bo G h h'):=by
 have lq:∀ {s q n l},Bz h s q 105 68 n l->0<n->q<h.next:=fun r y=>hb _ _ (r.block y)
 have nf:∀ {i},¬ F i->i<h.next->¬ Bo F h h' i:=fun y l z=>by
  rcases z with z|z
  ·exact y z
  ·omega
 refine⟨c.at hb a.Cz a.apart.1,c.at hb a.map a.apart.2.1,a.marks,a.Ha.frame fun y=>c.get _ (lq a.Ha y) (a.apart.2.2.1 y),a.Afa.frame fun y=>c.get _ (lq a.Afa y) (a.apart.2.2.2.1 y),d,⟨fun i hi=>?_,.inl a.sub.2.1,.inl a.sub.2.2.1,fun y=>.inl (a.sub.2.2.2.1 y),fun y=>.inl (a.sub.2.2.2.2 y)⟩,⟨nf a.apart.1 (hb _ _ a.Cz),nf a.apart.2.1 (hb _ _ a.map),fun y=>nf (a.apart.2.2.1 y) (lq a.Ha y),fun y=>nf (a.apart.2.2.2.1 y) (lq a.Afa y),a.apart.2.2.2.2⟩⟩
 rcases hi with hi|hi
 ·exact .inl (a.sub.1 i hi)
 ·exact .inr hi
theorem Ew.put {h h':Aa}{D V M qc qh:Nat}{cs hs:EV}{ms:List (EV × EV)}{S:I8}{F G:Nat->Prop}(s:Ew h D S G)(a:Uz h D V M qc qh cs hs ms S F G)(hb:HB h){dv:Dv}(d:F8 h' V dv (Bo F h h'))(c:A1 F h h'):
 Ew h' D { S with dv:=dv } (Bo G h h')/\A1 G h h':=
 ⟨⟨Bo.lt s.lt c.next,⟨s.wf.ev,s.wf.wf,s.wf.Vk⟩,V,M,qc,qh,cs,hs,ms,_,a.put hb d c⟩,c.mono a.sub.1⟩
theorem Uz.A3k {h:Aa}{D V M qc qh:Nat}{cs hs:EV}{ms ms':List (EV × EV)}{S:I8}{F G:Nat->Prop}(a:Uz h D V M qc qh cs hs ms S F G)(hm:Zy ms'):
 Uz (h.put M (.map ms')) D V M qc qh cs hs ms' S F G:=by
 refine⟨?_,Ai _ _ _,hm,a.Ha.frame fun y=>Al _ ?_,a.Afa.frame fun y=>Al _ ?_,a.dev.frame (Nat.le_refl _) fun i hi=>Al _ fun y=>?_,a.sub,a.apart⟩
 ·rw[Al _ (Ba a.map a.Cz (by simp))];exact a.Cz
 ·exact Ba a.map (a.Ha.block y) (by simp)
 ·exact Ba a.map (a.Afa.block y) (by simp)
 ·rw[<-y]at hi;exact a.apart.2.1 hi
theorem Ew.A3k {h:Aa}{D V M qc qh:Nat}{cs hs:EV}{ms ms':List (EV × EV)}{S:I8}{F G:Nat->Prop}(s:Ew h D S G)(a:Uz h D V M qc qh cs hs ms S F G)(hb:HB h)(hm:Zy ms'):
 Ew (h.put M (.map ms')) D S G/\A1 G h (h.put M (.map ms'))/\HB (h.put M (.map ms')):=by
 have lM:=hb _ _ a.map
 exact⟨⟨s.lt,s.wf,V,M,qc,qh,cs,hs,ms',F,a.A3k hm⟩,(A1.refl h).Az (.inl a.sub.2.2.1) lM _,hb.put lM _⟩
theorem Anq {h:Aa}{D V M qc qh:Nat}{cs hs:EV}{ms:List (EV × EV)}{S:I8}{F G:Nat->Prop}(a:Uz h D V M qc qh cs hs ms S F G):Cw K (.ptr D 0) h=some (.ptr V 0,h):=by simp only[Cw,Ab,Cl a.Cz rfl]
def A5w(disp:Nat->Option FT)(K d:Nat)(S:I8):Prop:=∀ (h:Aa) (D:Nat) (G:Nat->Prop),Ew h D S G->HB h->Ok (Ad TT disp K d false 118 [.ptr D 0] h) fun v h'=>Ew h' D S.due (Bo G h h')/\A1 G h h'/\HB h'
end Go.Ev

namespace Go.Ev
open Go.Proofs
set_option maxRecDepth 100000
variable {K:Nat}{disp:Nat->Option FT}
noncomputable def I8.begin(S:I8)(i:Int):I8:=if S.dv.has i=true then S.due else S
def As5(disp:Nat->Option FT)(K:Nat)(S:I8):Prop:=∀ d,12<=d->A5w disp K d S
theorem Aab(H:An disp){d:Nat}(hd:13<=d){h:Aa}{D:Nat}{S:I8}{G:Nat->Prop}(hdue:As5 disp K S)(s:Ew h D S G)(hb:HB h)(i:Int):
 Ok (Ad TT disp K d false 179 [.ptr D 0,I i] h) fun v h'=>Ew h' D (S.begin i) (Bo G h h')/\A1 G h h'/\HB h':=by
 obtain⟨e,rfl⟩:∃ k,d=k+1:=⟨d-1,by omega⟩
 rw[Abs H (by omega)]
 obtain⟨V,M,qc,qh,cs,hs',ms,F,a⟩:=s.Q0
 obtain⟨zl,z,q,b,_⟩:=a.dev.Q0
 have fin:Ok (some (.tuple [],h)) fun(_:EV) h'=>Ew h' D S (Bo G h h')/\A1 G h h'/\HB h':=.ret ⟨s.grow s.lt (Nat.le_refl _),A1.refl _,hb⟩
 unfold I8.begin
 simp only[Yd,I,Ah,Ab]
 by_cases h0:0<=i
 ·have hz:=Agz (K:=K) b
  simp only[I]at hz
  simp only[h0,decide_true,Ab,Cl a.Cz rfl,hz,Ah,J2]
  by_cases h1:i<S.dv.n
  ·have hh:S.dv.has i=true:=decide_eq_true ⟨h0,h1⟩
   simp only[h1,decide_true,Ab]
   rw[hh,if_pos rfl]
   refine(hdue e (by omega) h D G s hb).Aj ?_
   intro v h' p
   exact .ret p
  ·have hh:S.dv.has i=false:=decide_eq_false fun y=>h1 y.2
   simp only[h1,decide_false,Ab]
   rw[hh,if_neg (by simp)]
   exact fin
 ·have hh:S.dv.has i=false:=decide_eq_false fun y=>h0 y.1
  simp only[h0,decide_false,Ab,J2]
  rw[hh,if_neg (by simp)]
  exact fin
noncomputable def I8.append(S:I8)(i:Int)(x:List EV):I8 × Int × Int:=({ S.begin i with dv:=((S.begin i).dv.append i x).1 },((S.begin i).dv.append i x).2)
theorem Anj(H:An disp)(hK:1000<K){d:Nat}(hd:14<=d){h:Aa}{D:Nat}{S:I8}{G:Nat->Prop}(hdue:As5 disp K S)(s:Ew h D S G)(hb:HB h)(i:Int){x:List EV}(hx:x.length=64)(hu:U8 x):
 Ok (Ad TT disp K d false 164 [.ptr D 0,I i,.agg x] h) fun v h'=>v=.tuple [I (S.append i x).2.1,I (S.append i x).2.2]/\Ew h' D (S.append i x).1 (Bo G h h')/\A1 G h h'/\HB h':=by
 obtain⟨e,rfl⟩:∃ k,d=k+1:=⟨d-1,by omega⟩
 rw[Abm H (by omega)]
 simp only[Wv,Ab]
 have x1:Ext h (h.new (.cells x 103)):=A1.new _ _
 have g5:(h.new (.cells x 103)).get h.next=some (.cells x 103):=Ae _ _
 have hb1:HB (h.new (.cells x 103)):=hb.new _
 have s1:=s.ext x1
 have n1:(h.new (.cells x 103)).next=h.next+1:=rfl
 generalize h.new (.cells x 103)=h1 at x1 g5 hb1 s1 n1 ⊢
 refine(Aab (K:=K) H (by omega) hdue s1 hb1 i).Aj ?_
 rintro _ h2 ⟨s2,c2,hb2⟩
 have nx:¬ G h.next:=fun y=>Nat.lt_irrefl _ (s.lt _ y)
 have g5:=c2.at hb1 g5 nx
 have c02:A1 G h h2:=(Ext.to x1).trans c2
 have s2:Ew h2 D (S.begin i) (Bo G h1 h2):=s2
 unfold I8.append
 generalize S.begin i=T at s2 ⊢
 obtain⟨V,M,qc,qh,cs,hs',ms,F,a⟩:=s2.Q0
 have lD:=hb2 _ _ a.Cz
 have l5:=hb2 _ _ g5
 simp only[Ab,Bh,As lD,Cl a.Cz rfl,As l5,Gf g5 rfl,Ax hx]
 refine Ok.Aqi (S:=F) (by kernel_rfl) (by kernel_rfl) (fun _=>by kernel_rfl) (Aoc (K:=K) a.dev.lift (Fh hb2) hK i hx hu) (fun _ _ p=>p.2.2.1) ?_
 rintro _ h3 h4 s' ⟨rfl,d3,_,hb3⟩ sm c4 _
 have hb4:=sm.hb hb3
 have d4:F8 h4 V (T.dv.append i x).1 (Bo F h2 h4):=by
  have:=d3.frame (h':=h4) (by rw[sm.next];exact Nat.le_refl _) fun j _=>sm.get j
  refine this.mono (fun j hj=>?_) (Bo.lt a.dev.lt c4.next)
  rcases hj with y|y
  ·exact .inl y
  ·exact .inr ⟨y.1,by rw[sm.next];exact y.2⟩
 have a4:=a.put hb2 d4 c4
 obtain⟨s4,c24⟩:=s2.put a hb2 d4 c4
 have cc:A1 G h h4:=by
  refine c02.then c24 fun j hj hl=>?_
  rcases hj with y|y
  ·exact y
  ·have:=x1.next;omega
 have s4:Ew h4 D { T with dv:=(T.dv.append i x).1 } (Bo G h h4):=s4.mono (fun j hj=>by
  rcases hj with (y|y)|y
  ·exact .inl y
  ·have:=x1.next;have:=c24.next;exact .inr ⟨by omega,by omega⟩
  ·have:=c02.next;exact .inr ⟨by omega,y.2⟩) (Bo.lt s.lt cc.next)
 simp only[Ab,I,Ah]
 by_cases hz:(T.dv.append i x).2.2=0
 ·simp only[hz,decide_true,Ab,Cl a4.Cz rfl]
  rw[Ca (l:=[I i,I (T.dv.append i x).2.1]) rfl]
  obtain⟨ms',e1,hm'⟩:=Apb a4.map a4.marks i (T.dv.append i x).2.1
  unfold kp at e1
  rw[e1,A0]
  simp only[Js]
  obtain⟨V',M',qc',qh',cs',hs'',ms'',F',a5⟩:=s4.Q0
  have lM:=hb4 _ _ a4.map
  have a6:=a4.A3k hm'
  have gM:Bo G h h4 M:=by
   rcases a.sub.2.2.1 with y|y
   ·exact .inl y
   ·have:=x1.next;have:=c24.next;exact .inr ⟨by omega,by omega⟩
  have c5:A1 (Bo G h h4) h4 (h4.put M (.map ms')):=(A1.refl h4).Az (.inl gM) lM _
  refine .ret ⟨rfl,⟨Bo.lt s.lt (cc.grow c5).next,s4.wf,V,M,qc,qh,cs,hs',ms',_,a6.mono fun j hj=>?_⟩,cc.grow c5,hb4.put lM _⟩
  show Bo G h h4 j
  rcases hj with (y|y)|y
  ·exact .inl y
  ·have:=x1.next;have:=c24.next;exact .inr ⟨by omega,by omega⟩
  ·have:=c02.next;exact .inr ⟨by omega,y.2⟩
 ·simp only[hz,decide_false,Ab,Js]
  exact .ret ⟨rfl,s4,cc,hb4⟩
noncomputable def I8.flush(S:I8):I8 × Int:=({ S.due with dv:=S.due.dv.flush.1 },S.due.dv.flush.2)
theorem Aqm(H:An disp)(hK:1000<K){d:Nat}(hd:14<=d){h:Aa}{D:Nat}{S:I8}{G:Nat->Prop}(hdue:As5 disp K S)(s:Ew h D S G)(hb:HB h):
 Ok (Ad TT disp K d false 67 [.ptr D 0] h) fun v h'=>v=I S.flush.2/\Ew h' D S.flush.1 (Bo G h h')/\A1 G h h'/\HB h':=by
 obtain⟨e,rfl⟩:∃ k,d=k+1:=⟨d-1,by omega⟩
 rw[Abr H (by omega)]
 simp only[X9]
 refine(hdue e (by omega) h D G s hb).Aj ?_
 rintro _ h2 ⟨s2,c2,hb2⟩
 unfold I8.flush
 generalize S.due=T at s2 ⊢
 obtain⟨V,M,qc,qh,cs,hs',ms,F,a⟩:=s2.Q0
 simp only[Ab,Cl a.Cz rfl]
 refine(Aph (K:=K) a.dev hb2 hK).Aj ?_
 rintro _ h3 ⟨rfl,d3,c3,hb3⟩
 obtain⟨s3,c23⟩:=s2.put a hb2 d3 c3
 exact .ret ⟨rfl,s3.A07 c2.next c23.next s.lt,c2.grow c23,hb3⟩
noncomputable def I8.finish(S:I8)(i:Int):I8 × Int:=({ S.begin i with dv:=((S.begin i).dv.finish i).1 },((S.begin i).dv.finish i).2)
theorem Ae7(H:An disp){d:Nat}(hd:14<=d){h:Aa}{D:Nat}{S:I8}{G:Nat->Prop}(hdue:As5 disp K S)(s:Ew h D S G)(hb:HB h)(i:Int):
 Ok (Ad TT disp K d false 165 [.ptr D 0,I i] h) fun v h'=>v=I (S.finish i).2/\Ew h' D (S.finish i).1 (Bo G h h')/\A1 G h h'/\HB h':=by
 obtain⟨e,rfl⟩:∃ k,d=k+1:=⟨d-1,by omega⟩
 rw[Aaz H (by omega)]
 simp only[Wy]
 refine(Aab (K:=K) H (by omega) hdue s hb i).Aj ?_
 rintro _ h2 ⟨s2,c2,hb2⟩
 unfold I8.finish
 generalize S.begin i=T at s2 ⊢
 obtain⟨V,M,qc,qh,cs,hs',ms,F,a⟩:=s2.Q0
 simp only[Ab,Cl a.Cz rfl]
 refine(Anz (K:=K) a.dev hb2 i).Aj ?_
 rintro _ h3 ⟨rfl,d3,c3,hb3⟩
 obtain⟨s3,c23⟩:=s2.put a hb2 d3 c3
 exact .ret ⟨rfl,s3.A07 c2.next c23.next s.lt,c2.grow c23,hb3⟩
end Go.Ev

namespace Go.Ev
open Go.Proofs
set_option maxRecDepth 100000
variable {K:Nat}{disp:Nat->Option FT}
theorem Asj {D:Nat}{S:I8}{G:Nat->Prop}(z:Int):∀ (m i:Nat) (h:Aa),S.dv.size-i<m->Ew h D S G->HB h ->
 Ok (Dh K m (.ptr D 0) (I z) (I i) h) fun v h'=>Ew h' D S G/\A1 G h h'/\HB h':=by
 intro m
 induction m with
 | zero=>intro i h hm;omega
 | succ m ih=>
  intro i h hm s hb
  obtain⟨V,M,qc,qh,cs,hs',ms,F,a⟩:=s.Q0
  obtain⟨zl,zz,q,b,_⟩:=a.dev.Q0
  have hsz:=Ajm (K:=K) b
  have hsl:S.dv.size<=64:=a.dev.wf.size
  simp only[I]at hsz
  simp only[Dh,Ab,Cl a.Cz rfl,hsz,I,Ah]
  by_cases hlt:(i:Int)<S.dv.size
  ·simp only[hlt,decide_true,Ab,Rx,Cl a.Cz rfl]
   rw[Ca (l:=[I z,I i]) rfl]
   obtain⟨ms',e1,hm'⟩:=Apb a.map a.marks z i
   unfold kp at e1
   rw[e1,A0]
   simp only[R0,I,Ah]
   rw[Cx (by omega) (by omega)]
   obtain⟨s2,c2,hb2⟩:=s.A3k a hb hm'
   refine(ih (i+1) _ (by omega) s2 hb2).mono ?_
   rintro v h' ⟨s3,c3,hb3⟩
   exact⟨s3,c2.trans c3,hb3⟩
  ·simp only[hlt,decide_false,Ab]
   exact .ret ⟨s,A1.refl _,hb⟩
end Go.Ev
