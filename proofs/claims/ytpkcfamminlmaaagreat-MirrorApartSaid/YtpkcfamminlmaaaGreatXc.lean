import Derived.Test.YtpkcfamminlmaaaGreatXb
set_option linter.unusedVariables false
set_option linter.unusedSimpArgs false
set_option linter.unusedSectionVars false
namespace Go.Ev
open Go.Proofs
set_option maxRecDepth 100000
variable {K:Nat}
def Bc(F:Nat->Prop)(h h':Aa):Nat->Prop:=fun i=>F i\/(h.next<=i/\i<h'.next)
theorem A4.grow {F:Nat->Prop}{h h1 h2:Aa}(a:A4 F h h1)(b:A4 (Bc F h h1) h1 h2):A4 F h h2:=
 a.then b fun i hi hl=>by
  rcases hi with hi|hi
  ·exact hi
  ·omega
theorem Bc.trans {F:Nat->Prop}{h h1 h2:Aa}(a:h.next<=h1.next)(b:h1.next<=h2.next){i:Nat}(g:Bc (Bc F h h1) h1 h2 i):Bc F h h2 i:=by
 rcases g with (g|g)|g
 ·exact .inl g
 ·exact .inr ⟨g.1,by omega⟩
 ·exact .inr ⟨by omega,g.2⟩
theorem Bc.le {F:Nat->Prop}{h h1 h2:Aa}(b:h1.next<=h2.next){i:Nat}(g:Bc F h h1 i):Bc F h h2 i:=by
 rcases g with g|g
 ·exact .inl g
 ·exact .inr ⟨g.1,by omega⟩
structure Dv where
 n:Nat
 size:Nat
 op:Int
 cnt:Int
 down:Bool
 zs:Nat->Zn
def E2(l:List Nat):List EV:=l.map fun(b:Nat)=>EV.int .u8 (Int.ofNat b)
def U8(x:List EV):Prop:=∃ l:List Nat,(∀ b ∈ l,b<256)/\x=E2 l
theorem U8.zs:U8 Yf:=⟨List.replicate 64 0,fun b hb=>by rw[List.eq_of_mem_replicate hb];decide,by unfold E2 Yf;rw[List.map_replicate];rfl⟩
structure Zn.Wf(Z:Zn)(size:Nat):Prop where
 u8:∀ x ∈ Z.l,U8 x
 st:Z.st<=4
 safe:Z.safe<=Z.l.length
 len:Z.l.length<=size
 room:Z.st<2->Z.l.length<size
structure Dv.Wf(D:Dv):Prop where
 size:D.size<=64
 n:D.n<=512
 zs:∀ i,i<D.n->(D.zs i).Wf D.size
def Alv(V zl n:Nat)(z q:Nat->Nat)(zs:Nat->Zn):Nat->Prop:=fun i=>i=V\/i=zl\/∃ d,d<n/\(i=z d\/((zs d).l ≠ []/\i=q d))
structure Hb(h:Aa)(V:Nat)(D:Dv)(F:Nat->Prop):Prop where
 wf:D.Wf
 lt:∀ i,F i->i<h.next
 Rp:∃ zl z q,Iz h V zl D.n z q D.size D.op D.cnt D.down D.zs/\∀ i,Alv V zl D.n z q D.zs i->F i
theorem Hb.mono {h:Aa}{V:Nat}{D:Dv}{F G:Nat->Prop}(d:Hb h V D F)(s:∀ i,F i->G i)(l:∀ i,G i->i<h.next):Hb h V D G:=by
 obtain⟨zl,z,q,a,b⟩:=d.Rp
 exact⟨d.wf,l,zl,z,q,a,fun i hi=>s i (b i hi)⟩
theorem Bc.lt {F:Nat->Prop}{h h':Aa}(l:∀ i,F i->i<h.next)(n:h.next<=h'.next):∀ i,Bc F h h' i->i<h'.next:=fun i hi=>by
 rcases hi with hi|hi
 ·have:=l i hi;omega
 ·exact hi.2
theorem Hb.grow {h h':Aa}{V:Nat}{D:Dv}{F:Nat->Prop}(d:Hb h' V D F)(l:∀ i,F i->i<h.next)(n:h.next<=h'.next):Hb h' V D (Bc F h h'):=
 d.mono (fun _=>.inl) (Bc.lt l n)
theorem Aea {l:List (List EV)}:l ≠ [] ↔ 0<l.length:=by rw[List.length_pos_iff]
theorem Iz.frame {h h':Aa}{V zl n:Nat}{z q:Nat->Nat}{size op cnt:Int}{down:Bool}{Zs:Nat->Zn}(d:Iz h V zl n z q size op cnt down Zs)(e:∀ i,Alv V zl n z q Zs i->h'.get i=h.get i):Iz h' V zl n z q size op cnt down Zs:=by
 refine⟨d.pos,by rw[e _ (.inl rfl)];exact d.dev,by rw[e _ (.inr (.inl rfl))];exact d.row,fun i hi=>?_,d.Apd,d.Aqs⟩
 obtain⟨s,a,b⟩:=(d.A2 i hi).A2
 exact⟨⟨s,by rw[e _ (.inr (.inr ⟨i,hi,.inl rfl⟩))];exact a,b.frame fun hl=>e _ (.inr (.inr ⟨i,hi,.inr ⟨Aea.2 hl,rfl⟩⟩))⟩,(d.A2 i hi).wf⟩
theorem Hb.frame {h h':Aa}{V:Nat}{D:Dv}{F:Nat->Prop}(d:Hb h V D F)(n:h.next<=h'.next)(e:∀ i,F i->h'.get i=h.get i):Hb h' V D F:=by
 obtain⟨zl,z,q,a,b⟩:=d.Rp
 exact⟨d.wf,fun i hi=>Nat.lt_of_lt_of_le (d.lt i hi) n,zl,z,q,a.frame fun i hi=>e i (b i hi),b⟩
theorem Hb.chg {h h':Aa}{V:Nat}{D:Dv}{F S:Nat->Prop}(d:Hb h V D F)(c:A4 S h h')(n:∀ i,F i->¬ S i):Hb h' V D F:=
 d.frame c.next fun i hi=>c.get i (d.lt i hi) (n i hi)
theorem Hb.ext {h h':Aa}{V:Nat}{D:Dv}{F:Nat->Prop}(d:Hb h V D F)(c:Ext h h'):Hb h' V D F:=d.chg c fun _ _=>id
theorem Iz.Ats {h:Aa}{V zl n:Nat}{z q:Nat->Nat}{size op cnt:Int}{down:Bool}{Zs:Nat->Zn}(d:Iz h V zl n z q size op cnt down Zs)(cnt':Int)(down':Bool):
 Iz (h.put V (.cells [.slice zl 0 n n true,I size,I op,I cnt',.bool down'] 183)) V zl n z q size op cnt' down' Zs:=by
 refine⟨d.pos,Aj _ _ _,?_,fun i hi=>?_,d.Apd,d.Aqs⟩
 ·rw[Ar _ (Bh d.dev d.row (by simp))];exact d.row
 ·obtain⟨s,a,b⟩:=(d.A2 i hi).A2
  refine⟨⟨s,?_,b.frame fun hl=>Ar _ (Bh d.dev (b.block hl) (by simp))⟩,(d.A2 i hi).wf⟩
  rw[Ar _ (Bh d.dev a (by simp))];exact a
def Zi(Zs:Nat->Zn)(d:Nat)(Z:Zn):Nat->Zn:=fun e=>if e=d then Z else Zs e
def Al5(q:Nat->Nat)(d x:Nat):Nat->Nat:=fun e=>if e=d then x else q e
theorem Iz.Avn {h h':Aa}{V zl n:Nat}{z q:Nat->Nat}{size op cnt:Int}{down:Bool}{Zs:Nat->Zn}(d:Iz h V zl n z q size op cnt down Zs)(hb:HB h){i:Nat}(hi:i<n){q':Nat}{Z:Zn}
 (zz:Fk h' (z i) q' size Z) (c:A4 (fun j=>j=z i\/((Zs i).l ≠ []/\j=q i)) h h') (hq:Z.l ≠ []->h.next<=q'\/(q'=q i/\(Zs i).l ≠ [])) :
 Iz h' V zl n z (Al5 q i q') size op cnt down (Zi Zs i Z):=by
 obtain⟨si,ai,bi⟩:=(d.A2 i hi).A2
 have nq:∀ x o,h.get x=some o->(∀ l,o ≠ .vec l 103 64)->¬ ((Zs i).l ≠ []/\x=q i):=by
  rintro x o hx hno ⟨hl,rfl⟩
  rw[bi.block (Aea.1 hl)]at hx
  cases hx;exact hno _ rfl
 have keep:∀ x o,h.get x=some o->x ≠ z i->(∀ l,o ≠ .vec l 103 64)->h'.get x=some o:=fun x o hx hn hno=>by
  refine c.at hb hx ?_
  rintro(y|y)
  ·exact hn y
  ·exact nq x o hx hno y
 refine⟨d.pos,keep _ _ d.dev (Bh d.dev ai (by simp)) (by intros;simp),keep _ _ d.row (Bh d.row ai (by simp)) (by intros;simp),fun j hj=>?_,d.Apd,?_⟩
 ·by_cases hji:j=i
  ·subst hji;simp only[Al5,Zi,if_true];exact zz
  ·simp only[Al5,Zi,hji,if_false]
   obtain⟨s,a,b⟩:=(d.A2 j hj).A2
   refine⟨⟨s,keep _ _ a (fun e=>hji (d.Apd j i hj hi e)) (by intros;simp),b.frame fun hl=>?_⟩,(d.A2 j hj).wf⟩
   have gb:=b.block hl
   refine c.get _ (hb _ _ gb) ?_
   rintro(y|⟨y1,y2⟩)
   ·exact Bh gb ai (by simp) y
   ·exact hji (d.Aqs j i hj hi (Aea.2 hl) y1 y2)
 ·intro j k hj hk
  have lq:∀ j,j<n->(Zs j).l ≠ []->q j<h.next:=fun j hj hl=>by
   obtain⟨s,a,b⟩:=(d.A2 j hj).A2
   exact hb _ _ (b.block (Aea.1 hl))
  by_cases hji:j=i <;> by_cases hki:k=i
  ·intros;omega
  ·subst hji;simp only[Al5,Zi,hki,if_true,if_false]
   intro a b e
   rcases hq a with y|⟨y1,y2⟩
   ·have:=lq k hk b;omega
   ·exact absurd (d.Aqs j k hj hk y2 b (by rw[<-y1];exact e)).symm hki
  ·subst hki;simp only[Al5,Zi,hji,if_true,if_false]
   intro a b e
   rcases hq b with y|⟨y1,y2⟩
   ·have:=lq j hj a;omega
   ·exact absurd (d.Aqs j k hj hk a y2 (by rw[<-y1];exact e)) hji
  ·simp only[Al5,Zi,hji,hki,if_false]
   exact d.Aqs j k hj hk
def Dv.has(D:Dv)(i:Int):Bool:=decide (0<=i/\i<D.n)
def Dv.I0(D:Dv)(i:Int):Int:=if D.down=true then 34 else if D.has i=false then 13 else 0
noncomputable def Dv.tick(D:Dv):Dv:={ D with cnt:=Cv .i64 (D.cnt+1) }
noncomputable def Dv.begin(D:Dv)(i:Int):Dv:=if D.I0 i=0 then D.tick else D
def Dv.set(D:Dv)(i:Nat)(Z:Zn):Dv:={ D with zs:=Zi D.zs i Z }
section
variable {h:Aa}{V zl n:Nat}{z q:Nat->Nat}{size op cnt:Int}{down:Bool}{Zs:Nat->Zn}(d:Iz h V zl n z q size op cnt down Zs)
include d
theorem Iz.list(k:EV->R):Am (.ptr V 0) h k=k (.slice zl 0 n n true):=by rw[B2 d.dev rfl];rfl
theorem Iz.A28 {i:Nat}(hi:i<n)(k:EV->R):Ix 1 (.slice zl 0 n n true) (I i) (fun v=>Am v h k)=k (.ptr (z i) 0):=by
 unfold I
 rw[Wu hi,B2 d.row rfl,Nat.zero_add,Nat.mul_one,List.getElem?_map,List.getElem?_range hi];rfl
theorem Aqh(i:Int):Hz K (.ptr V 0) (I i) h=some (.bool (decide (0<=i/\i<n)),h):=by
 simp only[Hz,I,Ad,Ab]
 by_cases h0:0<=i
 ·simp only[h0,decide_true,Ab,Ad,d.list,Lk,true_and]
 ·simp only[h0,decide_false,Ab,Lk,false_and]
end
section
variable {h:Aa}{V:Nat}{D:Dv}{F:Nat->Prop}(d:Hb h V D F)(hb:HB h)
include d
theorem Adt(i:Int):Hz K (.ptr V 0) (I i) h=some (.bool (D.has i),h):=by
 obtain⟨w,wl,zl,z,q,a,b⟩:=d
 exact Aqh a i
include hb
theorem Af5(i:Int):Ok (J6 K (.ptr V 0) (I i) h) fun v h'=>v=I (D.I0 i)/\Hb h' V (D.begin i) F/\A4 F h h'/\HB h'/\h'.next=h.next:=by
 have hh:=Adt (K:=K) d i
 obtain⟨w,wl,zl,z,q,a,b⟩:=d
 unfold Dv.begin Dv.I0
 simp only[J6,Ab,B2 a.dev rfl]
 cases hd:D.down with
 | true=>
  simp only[Ab,if_true,show ((34:Int)=0)=False by simp,if_false]
  exact .ret ⟨rfl,⟨w,wl,zl,z,q,a,b⟩,A4.refl _,hb,rfl⟩
 | false=>
  simp only[Ab,hh,Bool.false_eq_true,if_false]
  cases hhs:D.has i with
  | false=>
   simp only[Ab,if_true,show ((13:Int)=0)=False by simp,if_false]
   exact .ret ⟨rfl,⟨w,wl,zl,z,q,a,b⟩,A4.refl _,hb,rfl⟩
  | true=>
   simp only[Ab,Bool.true_eq_false,if_false,if_true,Sb,B2 a.dev rfl,I,Ad]
   have lV:=hb _ _ a.dev
   refine Ok.st1 a.dev rfl rfl (by show 3<5;decide) ?_
   refine .ret ⟨rfl,⟨⟨w.size,w.n,w.zs⟩,wl,zl,z,q,a.Ats (Cv .i64 (D.cnt+1)) D.down,b⟩,(A4.refl h).A8 (.inl (b _ (.inl rfl))) lV _,hb.put lV _,rfl⟩
end
end Go.Ev

namespace Go.Ev
open Go.Proofs
set_option maxRecDepth 100000
variable {K:Nat}
theorem Ra {i b:Nat}{s:DX}{h:Aa}{call:Aa->R}{k:EV->Aa->DX->R}{v:EV}(hb:Uh b s=true)(hl:loose b s.nw = [])(hc:call h.lift=some (v,h.lift)):Cs i b s h call k=k v h (s.T4 i):=by
 have hf:Hf b s h=h.lift:=by unfold Hf;rw[hl];rfl
 show Ao (Uh b s) (Ev.Al (call (Hf b s h)) fun v h'=>Jy i b s h h' fun s h=>k v h s) none=_
 rw[hb,Ai,hf,hc]
 show Jy i b s h h.lift (fun s h=>k v h s)=_
 unfold Jy
 rw[Nat.ble_eq_true_of_le (show h.next<=h.lift.mw from Nat.le_refl _),Ai,hl]
 rfl
theorem Iz.lift {h:Aa}{V zl n:Nat}{z q:Nat->Nat}{size op cnt:Int}{down:Bool}{Zs:Nat->Zn}(d:Iz h V zl n z q size op cnt down Zs):Iz h.lift V zl n z q size op cnt down Zs:=d.frame fun i _=>Dg h i
theorem Hb.lift {h:Aa}{V:Nat}{D:Dv}{F:Nat->Prop}(d:Hb h V D F):Hb h.lift V D F:=d.frame (Nat.le_refl _) fun i _=>Dg h i
def S1(Zs:Nat->Zn)(n:Nat):Nat:=((List.range n).filter fun i=>(Zs i).st=1).length
theorem Aua(Zs:Nat->Zn)(n:Nat):S1 Zs (n+1)=S1 Zs n+(if (Zs n).st=1 then 1 else 0):=by
 unfold S1
 rw[List.range_succ,List.filter_append,List.length_append]
 congr 1
 by_cases hc:(Zs n).st=1 <;> simp[hc]
theorem A1r(Zs:Nat->Zn)(n:Nat):S1 Zs n<=n:=by
 unfold S1
 have:=List.length_filter_le (fun i=>decide ((Zs i).st=1)) (List.range n)
 simpa using this
theorem Aqy {h:Aa}{V zl n:Nat}{z q:Nat->Nat}{size op cnt:Int}{down:Bool}{Zs:Nat->Zn}(d:Iz h V zl n z q size op cnt down Zs)(hn:n<=512):∀ (m i:Nat),n-i<m->i<=n ->
 Cw K m (I (S1 Zs i)) (.slice zl 0 n n true) (I n) (I i) h=some (I (S1 Zs n),h):=by
 intro m
 induction m with
 | zero=>intro i hm;omega
 | succ m ih=>
  intro i hm hi
  simp only[Cw,I,Ad,Ab]
  by_cases hlt:(i:Int)<n
  ·have hin:i<n:=by omega
   have hz:=d.A28 hin
   simp only[I]at hz
   have hle:=A1r Zs i
   simp only[hlt,decide_true,Ab,Qs,hz,Adc (d.A2 i hin),I,Ad]
   have ih':=ih (i+1) (by omega) (by omega)
   rw[Aua]at ih'
   by_cases h1:(Zs i).st=1
   ·rw[show decide (((Zs i).st:Int)=1)=true by simp[h1]]
    rw[if_pos h1]at ih'
    simp only[Ab,Ad,I3]
    rw[C6 (by omega) (by omega),C6 (by omega) (by omega)]
    exact ih'
   ·rw[show decide (((Zs i).st:Int)=1)=false by simp;omega]
    rw[if_neg h1]at ih'
    simp only[Ab,Ad,I3]
    rw[C6 (by omega) (by omega)]
    exact ih'
  ·have:i=n:=by omega
   subst this
   simp only[hlt,decide_false,Ab,Ml]
theorem Aww {h:Aa}{V zl n:Nat}{z q:Nat->Nat}{size op cnt:Int}{down:Bool}{Zs:Nat->Zn}(d:Iz h V zl n z q size op cnt down Zs)(hn:n<=512)(hK:1000<K):
 Lm K (.ptr V 0) h=some (I (S1 Zs n),h):=by
 simp only[Lm,Ab,d.list]
 exact Aqy d hn K 0 (by omega) (Nat.zero_le _)
noncomputable def Dv.append(D:Dv)(i:Int)(x:List EV):Dv × Int × Int:=
 if D.I0 i ≠ 0 then (D,0,D.I0 i) else
 if (D.zs i.toNat).st=0/\D.op<=S1 D.zs D.n then (D.tick,0,33) else
 if 2<=(D.zs i.toNat).st then (D.tick,0,if (D.zs i.toNat).st=2 then 17 else Oa (D.zs i.toNat).st) else
 (D.tick.set i.toNat ((D.zs i.toNat).app D.size x),(D.zs i.toNat).l.length,0)
theorem Zn.Wf.app {Z:Zn}{size:Nat}(w:Z.Wf size)(hs:Z.st<2){x:List EV}(hx:U8 x):(Z.app size x).Wf size:=by
 have:=w.room hs
 have:=w.safe
 refine⟨fun y hy=>?_,?_,?_,?_,?_⟩ <;> try simp only[Zn.app,List.length_append,List.length_singleton]
 ·rcases List.mem_append.1 hy with hy|hy
  ·exact w.u8 y hy
  ·rw[List.mem_singleton.1 hy];exact hx
 ·split <;> omega
 ·omega
 ·omega
 ·split <;> omega
theorem Dv.Wf.set {D:Dv}(w:D.Wf){i:Nat}{Z:Zn}(z:Z.Wf D.size):(D.set i Z).Wf:=by
 refine⟨w.size,w.n,fun j hj=>?_⟩
 show (Zi D.zs i Z j).Wf D.size
 unfold Zi
 split
 ·exact z
 ·exact w.zs j hj
theorem Hb.A2 {h h':Aa}{V:Nat}{D:Dv}{F:Nat->Prop}(w:D.Wf){zl:Nat}{z q:Nat->Nat}(a:Iz h V zl D.n z q D.size D.op D.cnt D.down D.zs)(b:∀ i,Alv V zl D.n z q D.zs i->F i)(wl:∀ i,F i->i<h.next)(hb:HB h){i:Nat}(hi:i<D.n){q':Nat}{Z:Zn}
 (zw:Z.Wf D.size) (zz:Fk h' (z i) q' D.size Z) (c:A4 (fun j=>j=z i\/((D.zs i).l ≠ []/\j=q i)) h h') (hb':HB h') (hq:Z.l ≠ []->h.next<=q'\/(q'=q i/\(D.zs i).l ≠ [])) :
 Hb h' V (D.set i Z) (Bc F h h')/\A4 F h h':=by
 have hF:∀ j,(j=z i\/((D.zs i).l ≠ []/\j=q i))->F j:=by
  rintro j (y|⟨y1,y2⟩)
  ·exact b j (.inr (.inr ⟨i,hi,.inl y⟩))
  ·exact b j (.inr (.inr ⟨i,hi,.inr ⟨y1,y2⟩⟩))
 refine⟨⟨w.set zw,Bc.lt wl c.next,zl,z,_,a.Avn hb hi zz c hq,?_⟩,c.mono hF⟩
 rintro j (y|y|⟨d,hd,y⟩)
 ·exact .inl (b j (.inl y))
 ·exact .inl (b j (.inr (.inl y)))
 ·rcases y with y|⟨y1,y2⟩
  ·exact .inl (b j (.inr (.inr ⟨d,hd,.inl y⟩)))
  ·by_cases hdi:d=i
   ·subst hdi
    simp only[Dv.set,Zi,Al5,if_true]at y1 y2
    subst y2
    rcases hq y1 with y|⟨y3,y4⟩
    ·obtain⟨s,_,r⟩:=zz.A2
     exact .inr ⟨y,hb' _ _ (r.block (Aea.1 y1))⟩
    ·rw[y3];exact .inl (hF _ (.inr ⟨y4,rfl⟩))
   ·simp only[Dv.set,Zi,Al5,hdi,if_false]at y1 y2
    exact .inl (b j (.inr (.inr ⟨d,hd,.inr ⟨y1,y2⟩⟩)))
theorem Amk {h:Aa}{V:Nat}{D:Dv}{F:Nat->Prop}(d:Hb h V D F)(hb:HB h)(hK:1000<K)(i:Int){x:List EV}(hx:x.length=64)(hu:U8 x):
 Ok (Lu K (.ptr V 0) (I i) (.agg x) h) fun v h'=>v=.tuple [I (D.append i x).2.1,I (D.append i x).2.2]/\Hb h' V (D.append i x).1 (Bc F h h')/\A4 F h h'/\HB h':=by
 simp only[Lu,Ab]
 have x1:Ext h (h.new (.cells x 103)):=A4.new _ _
 have g5:(h.new (.cells x 103)).get h.next=some (.cells x 103):=Ae _ _
 have hb1:HB (h.new (.cells x 103)):=hb.new _
 have d1:=d.ext x1
 have n1:(h.new (.cells x 103)).next=h.next+1:=rfl
 generalize h.new (.cells x 103)=h1 at x1 g5 hb1 d1 n1 ⊢
 refine(Af5 (K:=K) d1 hb1 i).Al ?_
 rintro _ h2 ⟨rfl,d2,c2,hb2,n2⟩
 have nx:¬ F h.next:=fun y=>Nat.lt_irrefl _ (d.lt _ y)
 have g5:=c2.at hb1 g5 nx
 have c02:A4 F h h2:=(Ext.to x1).trans c2
 unfold Dv.append
 unfold Dv.begin at d2
 by_cases hbe:D.I0 i=0
 ·rw[if_pos hbe]at d2
  rw[if_neg (by rw[hbe];exact fun y=>y rfl),hbe]
  simp only[I,Ad,not_true_eq_false,decide_false,Ab,Q0]
  obtain⟨w,wl,zl,z,q,a,b⟩:=d2
  have hhas:D.has i=true:=by
   unfold Dv.I0 at hbe
   cases hh:D.has i with
   | true=>rfl
   | false=>rw[hh]at hbe;split at hbe <;> simp at hbe
  have:=of_decide_eq_true hhas
  obtain⟨j,rfl⟩:∃ j:Nat,i=j:=⟨i.toNat,by omega⟩
  have hj:j<D.n:=by omega
  rw[show (j:Int).toNat=j from rfl]
  have lV:=hb2 _ _ a.dev
  have lzl:=hb2 _ _ a.row
  have l5:=hb2 _ _ g5
  have lz:=hb2 _ _ (a.A2 j hj).A2.choose_spec.1
  have hzp:∀ k:EV->R,Am (.ptr zl j) h2 k=k (.ptr (z j) 0):=fun k=>by
   have:=a.A28 hj k
   unfold I at this
   rw[Wu (show j<D.tick.n from hj),Nat.zero_add,Nat.mul_one]at this
   exact this
  have hix:∀ k:EV->R,Ix 1 (.slice zl 0 D.tick.n D.tick.n true) (.int .i64 (j:Int)) k=k (.ptr zl j):=fun k=>by
   rw[Wu (show j<D.tick.n from hj),Nat.zero_add,Nat.mul_one]
  simp only[Ab,Bo,Aq lV,a.list,hix,Aq lzl,hzp]
  rw[Ra (by kernel_rfl) (by kernel_rfl) (Adc (a.lift.A2 j hj))]
  have hop:=Aww (K:=K) a.lift w.n hK
  have dd:∀ h',Ext h2 h'->Hb h' V D.tick (Bc F h h')/\A4 F h h'/\HB h':=fun h' x'=>⟨(Hb.ext ⟨w,wl,zl,z,q,a,b⟩ x').grow d.lt (by have:=c02.next;have:=x'.next;omega),c02.trans (Ext.to x'),x'.hb hb2⟩
  have app:¬ ((D.zs j).st=0/\D.op<=S1 D.zs D.n)->Ok (Mm K (.ptr V 0) (I j) (.ptr h.next 0) h2) fun v h'=>v=.tuple [I (if (D.zs j).st=0/\D.op<=S1 D.zs D.n then (D.tick,0,33) else if 2<=(D.zs j).st then (D.tick,0,if (D.zs j).st=2 then 17 else Oa (D.zs j).st) else (D.tick.set j ((D.zs j).app D.size x),((D.zs j).l.length:Int),(0:Int))).2.1,I (if (D.zs j).st=0/\D.op<=S1 D.zs D.n then (D.tick,0,33) else if 2<=(D.zs j).st then (D.tick,0,if (D.zs j).st=2 then 17 else Oa (D.zs j).st) else (D.tick.set j ((D.zs j).app D.size x),((D.zs j).l.length:Int),(0:Int))).2.2]/\Hb h' V (if (D.zs j).st=0/\D.op<=S1 D.zs D.n then (D.tick,0,33) else if 2<=(D.zs j).st then (D.tick,0,if (D.zs j).st=2 then 17 else Oa (D.zs j).st) else (D.tick.set j ((D.zs j).app D.size x),((D.zs j).l.length:Int),(0:Int))).1 (Bc F h h')/\A4 F h h'/\HB h':=by
   intro hno
   rw[if_neg hno]
   simp only[Mm,I,Ab,Bo,Aq lV,a.list,hix,Aq lzl,hzp,Aq l5,F4 g5 rfl,Av hx]
   have wz:=w.zs j hj
   have wsz:=w.size
   have wl1:=wz.len
   by_cases hst:2<=(D.zs j).st
   ·rw[if_pos hst]
    refine Ok.Cs (by kernel_rfl) (by kernel_rfl) (Akn (K:=K) (a.lift.A2 j hj) (Hu hb2) hst wz.st x) (fun _ _ p=>p.2) ?_
    rintro _ h3 h4 ⟨rfl,_⟩ sm x4
    simp only[Ab]
    exact .ret ⟨rfl,dd h4 x4⟩
   ·rw[if_neg hst]
    have hst':(D.zs j).st<2:=by omega
    refine Ok.Amo (S:=fun i=>i=z j\/(0<(D.zs j).l.length/\i=q j)) (by kernel_rfl) (by kernel_rfl) (fun _=>by kernel_rfl) (Akw (K:=K) (size:=D.size) (a.lift.A2 j hj) (Hu hb2) hst' (Nat.le_trans wl1 wsz) hx) (fun _ _ p=>p.2.2.1) ?_
    rintro _ h3 h4 s' ⟨rfl,⟨q',zz,hq'⟩,_,hb3⟩ sm c4 _
    simp only[Ab]
    have hb4:=sm.hb hb3
    have zz4:Fk h4 (z j) q' D.size ((D.zs j).app D.size x):=zz.ext fun i o g=>by rw[sm.get];exact g
    obtain⟨d4,c24⟩:=Hb.A2 w a b wl hb2 hj (wz.app hst' hu) zz4 (c4.mono fun i hi=>by
     rcases hi with y|⟨y1,y2⟩
     ·exact .inl y
     ·exact .inr ⟨Aea.2 y1,y2⟩) hb4 (fun _=>.inl (by rw[Xr]at hq';exact hq'))
    refine .ret ⟨rfl,?_,c02.trans c24,hb4⟩
    refine d4.mono (fun i hi=>?_) (Bc.lt d.lt (c02.trans c24).next)
    rcases hi with y|y
    ·exact .inl y
    ·exact .inr ⟨Nat.le_trans c02.next y.1,y.2⟩
  simp only[I,Ad]
  by_cases h0:(D.zs j).st=0
  ·rw[show decide (((D.tick.zs j).st:Int)=0)=true from decide_eq_true (by show ((D.zs j).st:Int)=0;omega)]
   simp only[Ab,Ad]
   rw[Ra (by kernel_rfl) (by kernel_rfl) hop]
   rw[Aq lV (by kernel_rfl),B2 a.dev rfl]
   simp only[Ab,I,Ad,I7]
   by_cases ho:D.op<=S1 D.zs D.n
   ·rw[show decide (D.tick.op<=((S1 D.tick.zs D.tick.n:Nat):Int))=true from decide_eq_true ho]
    simp only[Ab]
    rw[if_pos ⟨h0,ho⟩]
    exact .ret ⟨rfl,dd h2 (A4.refl _)⟩
   ·rw[show decide (D.tick.op<=((S1 D.tick.zs D.tick.n:Nat):Int))=false from decide_eq_false ho]
    simp only[Ab]
    exact app fun y=>ho y.2
  ·rw[show decide (((D.tick.zs j).st:Int)=0)=false from decide_eq_false (by show ¬ ((D.zs j).st:Int)=0;omega)]
   simp only[Ab,Ad,I7]
   exact app fun y=>h0 y.1
 ·rw[if_neg hbe]at d2
  rw[if_pos hbe]
  simp only[I,Ad,hbe,not_false_eq_true,decide_true,Ab]
  exact .ret ⟨rfl,d2.grow d.lt c02.next,c02,hb2⟩
end Go.Ev

namespace Go.Ev
open Go.Proofs
set_option maxRecDepth 100000
variable {K:Nat}
theorem Dv.A4v {D:Dv}{i:Int}(hbe:D.I0 i=0):∃ j:Nat,i=j/\j<D.n:=by
 have hhas:D.has i=true:=by
  unfold Dv.I0 at hbe
  cases hh:D.has i with
  | true=>rfl
  | false=>rw[hh]at hbe;split at hbe <;> simp at hbe
 have:=of_decide_eq_true hhas
 exact⟨i.toNat,by omega,by omega⟩
theorem Iz.A1c {h:Aa}{V zl n:Nat}{z q:Nat->Nat}{size op cnt:Int}{down:Bool}{Zs:Nat->Zn}(d:Iz h V zl n z q size op cnt down Zs){j:Nat}(hj:j<n):
 (∀ k:EV->R,Ix 1 (.slice zl 0 n n true) (.int .i64 (j:Int)) k=k (.ptr zl j))/\(∀ k:EV->R,Am (.ptr zl j) h k=k (.ptr (z j) 0)):=by
 have hx:∀ k:EV->R,Ix 1 (.slice zl 0 n n true) (.int .i64 (j:Int)) k=k (.ptr zl j):=fun k=>by
  rw[Wu hj,Nat.zero_add,Nat.mul_one]
 refine⟨hx,fun k=>?_⟩
 have:=d.A28 hj k
 unfold I at this
 rw[hx]at this
 exact this
noncomputable def Dv.finish(D:Dv)(i:Int):Dv × Int:=
 if D.I0 i ≠ 0 then (D,D.I0 i) else
 (if Oa (D.zs i.toNat).st=0 then D.tick.set i.toNat (D.zs i.toNat).finish else D.tick,Oa (D.zs i.toNat).st)
theorem Zn.Wf.finish {Z:Zn}{size:Nat}(w:Z.Wf size):Z.finish.Wf size:=⟨w.u8,by show 2<=4;omega,w.safe,w.len,fun y=>absurd y (by show ¬ 2<2;omega)⟩
theorem Alr {h:Aa}{V:Nat}{D:Dv}{F:Nat->Prop}(d:Hb h V D F)(hb:HB h)(i:Int):
 Ok (Ls K (.ptr V 0) (I i) h) fun v h'=>v=I (D.finish i).2/\Hb h' V (D.finish i).1 (Bc F h h')/\A4 F h h'/\HB h':=by
 simp only[Ls]
 refine(Af5 (K:=K) d hb i).Al ?_
 rintro _ h2 ⟨rfl,d2,c2,hb2,n2⟩
 unfold Dv.finish
 by_cases hbe:D.I0 i=0
 ·rw[if_neg (by rw[hbe];exact fun y=>y rfl),hbe]
  have hbg:D.begin i=D.tick:=by unfold Dv.begin;rw[if_pos hbe]
  rw[hbg]at d2
  obtain⟨j,rfl,hj⟩:=Dv.A4v hbe
  obtain⟨zl,z,q,a,b⟩:=d2.Rp
  obtain⟨hix,hzp⟩:=a.A1c (j:=j) hj
  simp only[I,Ad,not_true_eq_false,decide_false,Ab,Qo,a.list,hix,hzp]
  refine(Alg (K:=K) (a.A2 j hj) hb2).Al ?_
  rintro _ h3 ⟨rfl,zz,c3,hb3⟩
  try simp only[Ab]
  rw[show (j:Int).toNat=j from rfl]
  have zz:Fk h3 (z j) (q j) D.size (if Oa (D.zs j).st=0 then (D.zs j).finish else D.zs j):=zz
  by_cases hf:Oa (D.zs j).st=0
  ·simp only[hf,if_true]at zz ⊢
   obtain⟨d3,c23⟩:=Hb.A2 d2.wf a b d2.lt hb2 hj (d2.wf.zs j hj).finish zz (c3.mono fun _=>.inl) hb3 (fun y=>.inr ⟨rfl,y⟩)
   refine .ret ⟨by rw[show Oa (D.tick.zs j).st=Oa (D.zs j).st from rfl,hf],d3.mono (fun i hi=>?_) (Bc.lt d.lt (c2.trans c23).next),c2.trans c23,hb3⟩
   rcases hi with y|y
   ·exact .inl y
   ·exact .inr ⟨Nat.le_trans c2.next y.1,y.2⟩
  ·simp only[hf,if_false]at zz ⊢
   obtain⟨d3,c23⟩:=Hb.A2 d2.wf a b d2.lt hb2 hj (d2.wf.zs j hj) zz (c3.mono fun _=>.inl) hb3 (fun y=>.inr ⟨rfl,y⟩)
   have e:D.tick.set j (D.zs j)=D.tick:=by
    unfold Dv.set
    have:Zi D.tick.zs j (D.zs j)=D.tick.zs:=by funext k;unfold Zi;split <;> simp_all [Dv.tick]
    rw[this]
   have d3:Hb h3 V (D.tick.set j (D.zs j)) (Bc F h2 h3):=d3
   rw[e]at d3
   refine .ret ⟨rfl,d3.mono (fun i hi=>?_) (Bc.lt d.lt (c2.trans c23).next),c2.trans c23,hb3⟩
   rcases hi with y|y
   ·exact .inl y
   ·exact .inr ⟨Nat.le_trans c2.next y.1,y.2⟩
 ·rw[if_pos hbe]
  have hbg:D.begin i=D:=by unfold Dv.begin;rw[if_neg hbe]
  rw[hbg]at d2
  simp only[I,Ad,hbe,not_false_eq_true,decide_true,Ab]
  exact .ret ⟨rfl,d2.grow d.lt c2.next,c2,hb2⟩
noncomputable def Dv.A31(D:Dv):Dv:={ D with down:=true }
theorem Apz {h:Aa}{V:Nat}{D:Dv}{F:Nat->Prop}(d:Hb h V D F)(hb:HB h):
 Ok (Mu K (.ptr V 0) h) fun v h'=>Hb h' V D.A31 F/\A4 F h h'/\HB h':=by
 obtain⟨w,wl,zl,z,q,a,b⟩:=d
 simp only[Mu,Ab]
 have lV:=hb _ _ a.dev
 refine Ok.st1 a.dev rfl rfl (by show 4<5;decide) ?_
 exact .ret ⟨⟨⟨w.size,w.n,w.zs⟩,wl,zl,z,q,a.Ats D.cnt true,b⟩,(A4.refl h).A8 (.inl (b _ (.inl rfl))) lV _,hb.put lV _⟩
end Go.Ev

namespace Go.Ev
open Go.Proofs
set_option maxRecDepth 100000
variable {K:Nat}
structure Acu(h:Aa)(V zl:Nat)(z:Nat->Nat)(D:Dv)(F:Nat->Prop):Prop where
 wf:D.Wf
 lt:∀ i,F i->i<h.next
 Rp:∃ q,Iz h V zl D.n z q D.size D.op D.cnt D.down D.zs/\∀ i,Alv V zl D.n z q D.zs i->F i
theorem Hb.z {h:Aa}{V:Nat}{D:Dv}{F:Nat->Prop}(d:Hb h V D F):∃ zl z,Acu h V zl z D F:=by
 obtain⟨zl,z,q,a,b⟩:=d.Rp
 exact⟨zl,z,d.wf,d.lt,q,a,b⟩
theorem Acu.s {h:Aa}{V zl:Nat}{z:Nat->Nat}{D:Dv}{F:Nat->Prop}(d:Acu h V zl z D F):Hb h V D F:=by
 obtain⟨q,a,b⟩:=d.Rp
 exact⟨d.wf,d.lt,zl,z,q,a,b⟩
theorem Acu.mono {h:Aa}{V zl:Nat}{z:Nat->Nat}{D:Dv}{F G:Nat->Prop}(d:Acu h V zl z D F)(s:∀ i,F i->G i)(l:∀ i,G i->i<h.next):Acu h V zl z D G:=by
 obtain⟨q,a,b⟩:=d.Rp
 exact⟨d.wf,l,q,a,fun i hi=>s i (b i hi)⟩
theorem Acu.congr {h:Aa}{V zl:Nat}{z:Nat->Nat}{D:Dv}{F:Nat->Prop}(d:Acu h V zl z D F){zs':Nat->Zn}(e:∀ i,i<D.n->zs' i=D.zs i):Acu h V zl z { D with zs:=zs' } F:=by
 obtain⟨q,a,b⟩:=d.Rp
 refine⟨⟨d.wf.size,d.wf.n,fun i hi=>?_⟩,d.lt,q,⟨a.pos,a.dev,a.row,fun i hi=>?_,a.Apd,fun i j hi hj=>?_⟩,?_⟩
 ·show (zs' i).Wf _;rw[e i hi];exact d.wf.zs i hi
 ·show Fk _ _ _ _ (zs' i);rw[e i hi];exact a.A2 i hi
 ·show (zs' i).l ≠ []->(zs' j).l ≠ []->_;rw[e i hi,e j hj];exact a.Aqs i j hi hj
 ·rintro i (y|y|⟨k,hk,y⟩)
  ·exact b i (.inl y)
  ·exact b i (.inr (.inl y))
  ·refine b i (.inr (.inr ⟨k,hk,?_⟩))
   have y:i=z k\/(zs' k).l ≠ []/\i=q k:=y
   rw[e k hk]at y
   exact y
theorem Acu.A2 {h h':Aa}{V zl:Nat}{z:Nat->Nat}{D:Dv}{F:Nat->Prop}(d:Acu h V zl z D F){q:Nat->Nat}(a:Iz h V zl D.n z q D.size D.op D.cnt D.down D.zs)(b:∀ i,Alv V zl D.n z q D.zs i->F i)(hb:HB h){i:Nat}(hi:i<D.n){q':Nat}{Z:Zn}
 (zw:Z.Wf D.size) (zz:Fk h' (z i) q' D.size Z) (c:A4 (fun j=>j=z i\/((D.zs i).l ≠ []/\j=q i)) h h') (hb':HB h') (hq:Z.l ≠ []->h.next<=q'\/(q'=q i/\(D.zs i).l ≠ [])) :
 Acu h' V zl z (D.set i Z) (Bc F h h')/\A4 F h h':=by
 have hF:∀ j,(j=z i\/((D.zs i).l ≠ []/\j=q i))->F j:=by
  rintro j (y|⟨y1,y2⟩)
  ·exact b j (.inr (.inr ⟨i,hi,.inl y⟩))
  ·exact b j (.inr (.inr ⟨i,hi,.inr ⟨y1,y2⟩⟩))
 refine⟨⟨d.wf.set zw,Bc.lt d.lt c.next,_,a.Avn hb hi zz c hq,?_⟩,c.mono hF⟩
 rintro j (y|y|⟨d,hd,y⟩)
 ·exact .inl (b j (.inl y))
 ·exact .inl (b j (.inr (.inl y)))
 ·rcases y with y|⟨y1,y2⟩
  ·exact .inl (b j (.inr (.inr ⟨d,hd,.inl y⟩)))
  ·by_cases hdi:d=i
   ·subst hdi
    simp only[Dv.set,Zi,Al5,if_true]at y1 y2
    subst y2
    rcases hq y1 with y|⟨y3,y4⟩
    ·obtain⟨s,_,r⟩:=zz.A2
     exact .inr ⟨y,hb' _ _ (r.block (Aea.1 y1))⟩
    ·rw[y3];exact .inl (hF _ (.inr ⟨y4,rfl⟩))
   ·simp only[Dv.set,Zi,Al5,hdi,if_false]at y1 y2
    exact .inl (b j (.inr (.inr ⟨d,hd,.inr ⟨y1,y2⟩⟩)))
def Ah0(f:Nat->Zn->Zn)(zs:Nat->Zn)(i:Nat):Nat->Zn:=fun j=>if j<i then f j (zs j) else zs j
theorem Ass(f:Nat->Zn->Zn)(zs:Nat->Zn)(i:Nat):Ah0 f zs (i+1)=Zi (Ah0 f zs i) i (f i (zs i)):=by
 funext j
 unfold Ah0 Zi
 by_cases h1:j=i
 ·subst h1;simp
 ·by_cases h2:j<i
  ·rw[if_pos (by omega),if_neg h1];exact(if_pos h2).symm
  ·rw[if_neg (by omega),if_neg h1];exact(if_neg h2).symm
theorem Arm(f:Nat->Zn->Zn)(zs:Nat->Zn)(i:Nat):Ah0 f zs i i=zs i:=by unfold Ah0;rw[if_neg (by omega)]
noncomputable def Dv.flush(D:Dv):Dv × Int:=if D.down=true then (D,34) else ({ D.tick with zs:=fun i=>(D.zs i).flush },0)
theorem Zn.Wf.flush {Z:Zn}{size:Nat}(w:Z.Wf size):Z.flush.Wf size:=⟨w.u8,w.st,Nat.le_refl _,w.len,w.room⟩
theorem Auc {V zl:Nat}{z:Nat->Nat}{D:Dv}{F:Nat->Prop}(h0:Aa)(hF0:∀ j,F j->j<h0.next):∀ (m i:Nat) (h:Aa),D.n-i<m->i<=D.n->HB h->A4 F h0 h->Acu h V zl z { D with zs:=Ah0 (fun _ Z=>Z.flush) D.zs i } (Bc F h0 h) ->
 Ok (Dc K m (.slice zl 0 D.n D.n true) (I D.n) (I i) h) fun v h'=>v=I 0/\Acu h' V zl z { D with zs:=Ah0 (fun _ Z=>Z.flush) D.zs D.n } (Bc F h0 h')/\A4 F h0 h'/\HB h':=by
 intro m
 induction m with
 | zero=>intro i h hm;omega
 | succ m ih=>
  intro i h hm hi hb c d
  have hn:=d.wf.n
  have hn:D.n<=512:=hn
  simp only[Dc,I,Ad,Ab]
  by_cases hlt:(i:Int)<D.n
  ·have hin:i<D.n:=by omega
   obtain⟨q,a,b⟩:=d.Rp
   obtain⟨hix,hzp⟩:=a.A1c (j:=i) hin
   simp only[hlt,decide_true,Ab,Sg,hix,hzp]
   have za:=a.A2 i hin
   have wz:=d.wf.zs i hin
   simp only[Arm]at za wz
   refine(Al9 (K:=K) za hb).Al ?_
   rintro _ h1 ⟨zz,c1,hb1⟩
   simp only[Rm,I,Ad]
   rw[C6 (by omega) (by omega)]
   obtain⟨d1,c1'⟩:=d.A2 a b hb hin wz.flush zz (c1.mono fun _=>.inl) hb1 (fun y=>.inr ⟨rfl,by simp only[Arm];exact y⟩)
   have c2:=c.grow c1'
   refine ih (i+1) h1 (by omega) (by omega) hb1 c2 ?_
   rw[Ass]
   exact d1.mono (fun j hj=>Bc.trans c.next c1.next hj) (Bc.lt hF0 c2.next)
  ·have:i=D.n:=by omega
   subst this
   simp only[hlt,decide_false,Ab,Nd]
   exact .ret ⟨rfl,d,c,hb⟩
theorem Aps {h:Aa}{V:Nat}{D:Dv}{F:Nat->Prop}(d:Hb h V D F)(hb:HB h)(hK:1000<K):
 Ok (Mx K (.ptr V 0) h) fun v h'=>v=I D.flush.2/\Hb h' V D.flush.1 (Bc F h h')/\A4 F h h'/\HB h':=by
 obtain⟨w,wl,zl,z,q,a,b⟩:=d
 have hn:=w.n
 unfold Dv.flush
 simp only[Mx,Ab,B2 a.dev rfl]
 cases hd:D.down with
 | true=>
  simp only[Ab,if_true]
  exact .ret ⟨rfl,Hb.grow ⟨w,wl,zl,z,q,a,b⟩ wl (Nat.le_refl _),A4.refl _,hb⟩
 | false=>
  simp only[Ab,Bool.false_eq_true,if_false,Rz,B2 a.dev rfl,I,Ad]
  have lV:=hb _ _ a.dev
  refine Ok.st1 a.dev rfl rfl (by show 3<5;decide) ?_
  have c1:A4 F h (h.put V (.cells ([EV.slice zl 0 D.n D.n true,I D.size,I D.op,I D.cnt,.bool D.down].set 3 (.int .i64 (Cv .i64 (D.cnt+1)))) 183)):=(A4.refl h).A8 (.inl (b _ (.inl rfl))) lV _
  have hb1:HB (h.put V (.cells ([EV.slice zl 0 D.n D.n true,I D.size,I D.op,I D.cnt,.bool D.down].set 3 (.int .i64 (Cv .i64 (D.cnt+1)))) 183)):=hb.put lV _
  have d1:Acu (h.put V (.cells ([EV.slice zl 0 D.n D.n true,I D.size,I D.op,I D.cnt,.bool D.down].set 3 (.int .i64 (Cv .i64 (D.cnt+1)))) 183)) V zl z D.tick F:=⟨⟨w.size,w.n,w.zs⟩,wl,q,a.Ats (Cv .i64 (D.cnt+1)) D.down,b⟩
  generalize h.put V (.cells ([EV.slice zl 0 D.n D.n true,I D.size,I D.op,I D.cnt,.bool D.down].set 3 (.int .i64 (Cv .i64 (D.cnt+1)))) 183)=h1 at c1 hb1 d1 ⊢
  obtain⟨q1,a1,b1⟩:=d1.Rp
  rw[B2 a1.dev rfl]
  simp only[Ab]
  have:=Auc (K:=K) (D:=D.tick) (F:=F) h wl K 0 h1 (by show D.n-0<K;omega) (Nat.zero_le _) hb1 c1 (Acu.congr (d1.mono (fun _=>.inl) (Bc.lt wl c1.next)) (fun i _=>by unfold Ah0;rw[if_neg (Nat.not_lt_zero _)]))
  refine this.mono ?_
  rintro v h2 ⟨rfl,d2,c2,hb2⟩
  refine⟨rfl,?_,c2,hb2⟩
  exact(d2.congr (zs':=fun i=>(D.zs i).flush) fun i hi=>(if_pos hi).symm).s
structure Ain(h:Aa)(v:EV)(b:Nat)(l:List Int):Prop where
 row:(v=.Ag/\l = [])\/∃ off r op,v=.slice b off l.length r op/\∀ j (hj:j<l.length) (k:EV->R),Am (.ptr b (off+j)) h k=k (I l[j])
theorem Ain.frame {h h':Aa}{v:EV}{b:Nat}{l:List Int}(r:Ain h v b l)(e:h'.get b=h.get b):Ain h' v b l:=by
 rcases r.row with y|⟨off,r',op,rfl,y⟩
 ·exact⟨.inl y⟩
 ·refine⟨.inr ⟨off,r',op,rfl,fun j hj k=>?_⟩⟩
  have:=y j hj k
  show oB _ (Zr (h'.get b) _ 1)=_
  rw[e];exact this
def Dv.fail(D:Dv)(i:Int)(st:Nat):Dv:=if D.has i=true then D.set i.toNat ((D.zs i.toNat).fail st) else D
theorem Zn.Wf.fail {Z:Zn}{size:Nat}(w:Z.Wf size)(st:Nat):(Z.fail st).Wf size:=by
 unfold Zn.fail
 split
 ·exact⟨w.u8,by show st<=4;omega,w.safe,w.len,fun y=>absurd y (by show ¬ st<2;omega)⟩
 ·exact w
theorem Ar3 {h:Aa}{V:Nat}{D:Dv}{F:Nat->Prop}(d:Hb h V D F)(hb:HB h)(i:Int)(st:Nat):
 Ok (Il K (.ptr V 0) (I i) (I st) h) fun v h'=>Hb h' V (D.fail i st) (Bc F h h')/\A4 F h h'/\HB h':=by
 simp only[Il,Adt d,Ab]
 unfold Dv.fail
 cases hh:D.has i with
 | false=>
  simp only[Ab,Bool.false_eq_true,if_false]
  exact .ret ⟨d.grow d.lt (Nat.le_refl _),A4.refl _,hb⟩
 | true=>
  have:=of_decide_eq_true hh
  obtain⟨j,rfl⟩:∃ j:Nat,i=j:=⟨i.toNat,by omega⟩
  have hj:j<D.n:=by omega
  obtain⟨zl,z,q,a,b⟩:=d.Rp
  obtain⟨hix,hzp⟩:=a.A1c (j:=j) hj
  simp only[Ab,if_true,S9,a.list]
  unfold I
  rw[hix,hzp]
  refine(Aol (K:=K) (a.A2 j hj) hb st).Al ?_
  rintro _ h3 ⟨zz,c3,hb3⟩
  obtain⟨d3,c23⟩:=Hb.A2 d.wf a b d.lt hb hj ((d.wf.zs j hj).fail st) zz (c3.mono fun _=>.inl) hb3 (fun y=>.inr ⟨rfl,by
   unfold Zn.fail at y;split at y <;> exact y⟩)
  exact .ret ⟨d3,c23,hb3⟩
end Go.Ev

namespace Go.Ev
open Go.Proofs
set_option maxRecDepth 100000
variable {K:Nat}
def kp(a b:Int):EV:=.agg [I a,I b]
def Yi(ms:List (EV × EV)):Prop:=∀ e ∈ ms,∃ a b p n,e=(kp a b,.agg (p++[I n]))/\U8 p/\p.length=64
theorem Ajg(a b:Int):Z1 (I a) (I b)=some (decide (a=b)):=by
 show Ao (Nat.beq (Lw .i64) (Lw .i64)) (some (eqB a b)) none=_
 rw[Nat.beq_refl,Ai,Wr]
theorem Azv(a b c d:Int):Ae8 (kp a b) (kp c d)=some (decide (a=c/\b=d)):=by
 show Fi [I a,I b] [I c,I d]=_
 unfold Fi
 rw[Ajg]
 by_cases h1:a=c
 ·rw[decide_eq_true h1]
  simp only[Fi,Ajg]
  by_cases h2:b=d
  ·rw[decide_eq_true h2,decide_eq_true ⟨h1,h2⟩]
  ·rw[decide_eq_false h2,decide_eq_false fun y=>h2 y.2]
 ·rw[decide_eq_false h1,decide_eq_false fun y=>h1 y.1]
  simp only[Fi,Ajg]
  by_cases h2:b=d
  ·rw[decide_eq_true h2]
  ·rw[decide_eq_false h2]
theorem Ye(a b:Int):∀ (ms:List (EV × EV)) (i:Nat),Yi ms->Gb (kp a b) ms i=some none\/∃ j p n,Gb (kp a b) ms i=some (some (j,.agg (p++[I n])))/\U8 p/\p.length=64
 | [],i,_=>.inl rfl
 | (x,y)::r,i,hm=>by
  obtain⟨a',b',p,n,e,hp,hl⟩:=hm _ (List.mem_cons_self ..)
  cases e
  have ih:=Ye a b r (Nat.succ i) fun e he=>hm e (List.mem_cons_of_mem _ he)
  unfold Gb
  rw[Azv]
  by_cases hc:a=a'/\b=b'
  ·rw[decide_eq_true hc];exact .inr ⟨i,p,n,rfl,hp,hl⟩
  ·rw[decide_eq_false hc];exact ih
theorem Adz(a b:Int):Km TT 243 (kp a b)=true:=by
 have h1:TT.key 243=true:=by kernel_rfl
 have h2:TT.eqs 243=some [0,0]:=by kernel_rfl
 unfold Km kp
 simp only[h1,h2,Ai]
 rw[show shaped [0,0] [I a,I b]=true from rfl,Ai]
 simp only[Fi,Ajg,decide_true]
theorem Ax4 {h:Aa}{M:Nat}{ms:List (EV × EV)}(hg:h.get M=some (.map ms))(hm:Yi ms)(a b:Int):∃ ms',builtin TT .delete #[164,243] [.map M,kp a b] h=some (.tuple [],h.put M (.map ms'))/\Yi ms':=by
 have hu:TT.H0 164=some (.map 243 320):=by kernel_rfl
 have e:builtin TT .delete #[164,243] [.map M,kp a b] h=Ao (Km TT 243 (kp a b)) (match h.get M with
  | some (.map es)=>match Gb (kp a b) es 0 with
   | some (some (j,_))=>some (.tuple [],h.put M (.map (es.eraseIdx j)))
   | some none=>some (.tuple [],h.put M (.map es))
   | none=>none
  | _=>none) none:=by
  unfold builtin
  simp only[hu]
  rfl
 rw[e,Adz,Ai,hg]
 rcases Ye a b ms 0 hm with y|⟨j,p,n,y,_⟩
 ·simp only[y];exact⟨ms,rfl,hm⟩
 ·simp only[y];exact⟨_,rfl,fun e he=>hm e (List.mem_of_mem_eraseIdx he)⟩
theorem Awp {h:Aa}{M:Nat}{ms:List (EV × EV)}(hg:h.get M=some (.map ms))(hm:Yi ms)(a b:Int):∃ p n,Afd TT 243 320 false (.map M) (kp a b) h=some (.agg (p++[I n]),h)/\U8 p/\p.length=64:=by
 have e:Afd TT 243 320 false (.map M) (kp a b) h=Ao (Km TT 243 (kp a b)) (match h.get M with
  | some (.map es)=>match Gb (kp a b) es 0 with
   | some (some (_,v))=>some (v,h)
   | some none=>oB (fun zv=>some (zv,h)) (zeroOf TT 320)
   | none=>none
  | _=>none) none:=rfl
 have hz:zeroOf TT 320=some (.agg (Yf++[I 0])):=by kernel_rfl
 rw[e,Adz,Ai,hg]
 rcases Ye a b ms 0 hm with y|⟨j,p,n,y,hp,hl⟩
 ·simp only[y,hz];exact⟨Yf,0,rfl,U8.zs,Afy⟩
 ·simp only[y];exact⟨p,n,rfl,hp,hl⟩
theorem Aow {h:Aa}{M:Nat}{ms:List (EV × EV)}(hg:h.get M=some (.map ms))(hm:Yi ms)(a b:Int){p:List EV}{n:Int}(hp:U8 p)(hl:p.length=64):∃ ms',U7 TT 243 (.map M) (kp a b) (.agg (p++[I n])) h=some (.tuple [],h.put M (.map ms'))/\Yi ms':=by
 have e:U7 TT 243 (.map M) (kp a b) (.agg (p++[I n])) h=Ao (Km TT 243 (kp a b)) (match h.get M with
  | some (.map es)=>match Gb (kp a b) es 0 with
   | some (some (j,_))=>some (.tuple [],h.put M (.map (es.set j (kp a b,.agg (p++[I n])))))
   | some none=>some (.tuple [],h.put M (.map (es++[(kp a b,.agg (p++[I n]))])))
   | none=>none
  | _=>none) none:=rfl
 rw[e,Adz,Ai,hg]
 rcases Ye a b ms 0 hm with y|⟨j,p',n',y,_⟩
 ·simp only[y]
  refine⟨_,rfl,fun e he=>?_⟩
  rcases List.mem_append.1 he with he|he
  ·exact hm e he
  ·rw[List.mem_singleton.1 he];exact⟨a,b,p,n,rfl,hp,hl⟩
 ·simp only[y]
  refine⟨_,rfl,fun e he=>?_⟩
  rcases List.mem_or_eq_of_mem_set he with he|he
  ·exact hm e he
  ·rw[he];exact⟨a,b,p,n,rfl,hp,hl⟩
structure F6 where
 Rp:Int
 kind:Int
 A2:Int
 off:Int
 pat:List EV
def F6.cells(e:F6):List EV:=[I e.Rp,I e.kind,I e.A2,I e.off]++e.pat
structure F6.Wf(e:F6):Prop where
 u8:U8 e.pat
 len:e.pat.length=64
structure N7 where
 dv:Dv
 ev:List F6
 Of:List F6
def A8o:EV->EV->EV
 | .int k x,.int _ y=>.int k (Int.ofNat (Nat.xor x.toNat y.toNat))
 | a,_=>a
def Qg(a b:List EV):List EV:=List.zipWith A8o a b
def Dv.Am7(D:Dv)(z off:Int)(p:List EV):Dv:=
 if D.has z=true/\0<=off/\off<(D.zs z.toNat).l.length then D.set z.toNat { D.zs z.toNat with l:=(D.zs z.toNat).l.set off.toNat (Qg (((D.zs z.toNat).l[off.toNat]?).getD Yf) p) } else D
noncomputable def Dv.Qi(D:Dv)(e:F6):Dv:=
 if e.kind=1 then D.Am7 e.A2 e.off e.pat else if e.kind=2 then D.fail e.A2 3 else if e.kind=3 then D.fail e.A2 4 else if e.kind=4 then D.A31 else D
noncomputable def Ata:List F6->Dv->List F6->N7
 | [],D,k=>⟨D,[],k⟩
 | e::r,D,k=>if D.down=true\/¬ e.Rp<=D.cnt then ⟨D,e::r,k⟩ else Ata r (D.Qi e) (k++[e])
noncomputable def N7.due(S:N7):N7:=Ata S.ev S.dv S.Of
structure N7.Wf(S:N7):Prop where
 ev:S.ev.length+S.Of.length<=200
 wf:∀ e ∈ S.ev,e.Wf
 Rl:∀ e ∈ S.Of,e.Wf
structure Vg(h:Aa)(D V M qc qh:Nat)(cs hs:EV)(ms:List (EV × EV))(S:N7)(F G:Nat->Prop):Prop where
 Ct:h.get D=some (.cells [.ptr V 0,cs,hs,.map M] 166)
 map:h.get M=some (.map ms)
 marks:Yi ms
 E4:B0 h cs qc 105 68 S.ev.length (S.ev.map F6.cells).flatten
 Aaz:B0 h hs qh 105 68 S.Of.length (S.Of.map F6.cells).flatten
 dev:Hb h V S.dv F
 sub:(∀ i,F i->G i)/\G D/\G M/\(0<S.ev.length->G qc)/\(0<S.Of.length->G qh)
 apart:¬ F D/\¬ F M/\(0<S.ev.length->¬ F qc)/\(0<S.Of.length->¬ F qh)/\(0<S.ev.length->0<S.Of.length->qc ≠ qh)
structure Ek(h:Aa)(D:Nat)(S:N7)(G:Nat->Prop):Prop where
 lt:∀ i,G i->i<h.next
 wf:S.Wf
 Rp:∃ V M qc qh cs hs ms F,Vg h D V M qc qh cs hs ms S F G
theorem Vg.mono {h:Aa}{D V M qc qh:Nat}{cs hs:EV}{ms:List (EV × EV)}{S:N7}{F G G':Nat->Prop}(a:Vg h D V M qc qh cs hs ms S F G)(s:∀ i,G i->G' i):Vg h D V M qc qh cs hs ms S F G':=
 ⟨a.Ct,a.map,a.marks,a.E4,a.Aaz,a.dev,⟨fun i hi=>s i (a.sub.1 i hi),s _ a.sub.2.1,s _ a.sub.2.2.1,fun y=>s _ (a.sub.2.2.2.1 y),fun y=>s _ (a.sub.2.2.2.2 y)⟩,a.apart⟩
theorem Ek.mono {h:Aa}{D:Nat}{S:N7}{G G':Nat->Prop}(d:Ek h D S G)(s:∀ i,G i->G' i)(l:∀ i,G' i->i<h.next):Ek h D S G':=by
 obtain⟨V,M,qc,qh,cs,hs,ms,F,a⟩:=d.Rp
 exact⟨l,d.wf,V,M,qc,qh,cs,hs,ms,F,a.mono s⟩
theorem Ek.grow {h h':Aa}{D:Nat}{S:N7}{G:Nat->Prop}(d:Ek h' D S G)(l:∀ i,G i->i<h.next)(n:h.next<=h'.next):Ek h' D S (Bc G h h'):=d.mono (fun _=>.inl) (Bc.lt l n)
theorem Ek.A38 {h h1 h2:Aa}{D:Nat}{S:N7}{G:Nat->Prop}(d:Ek h2 D S (Bc (Bc G h h1) h1 h2))(a:h.next<=h1.next)(b:h1.next<=h2.next)(l:∀ i,G i->i<h.next):Ek h2 D S (Bc G h h2):=
 d.mono (fun _=>Bc.trans a b) (Bc.lt l (Nat.le_trans a b))
theorem Vg.frame {h h':Aa}{D V M qc qh:Nat}{cs hs:EV}{ms:List (EV × EV)}{S:N7}{F G:Nat->Prop}(a:Vg h D V M qc qh cs hs ms S F G)(n:h.next<=h'.next)(e:∀ i,G i->h'.get i=h.get i):Vg h' D V M qc qh cs hs ms S F G:=
 ⟨by rw[e _ a.sub.2.1];exact a.Ct,by rw[e _ a.sub.2.2.1];exact a.map,a.marks,a.E4.frame fun y=>e _ (a.sub.2.2.2.1 y),a.Aaz.frame fun y=>e _ (a.sub.2.2.2.2 y),a.dev.frame n fun i hi=>e i (a.sub.1 i hi),a.sub,a.apart⟩
theorem Ek.frame {h h':Aa}{D:Nat}{S:N7}{G:Nat->Prop}(d:Ek h D S G)(n:h.next<=h'.next)(e:∀ i,G i->h'.get i=h.get i):Ek h' D S G:=by
 obtain⟨V,M,qc,qh,cs,hs,ms,F,a⟩:=d.Rp
 exact⟨fun i hi=>Nat.lt_of_lt_of_le (d.lt i hi) n,d.wf,V,M,qc,qh,cs,hs,ms,F,a.frame n e⟩
theorem Ek.chg {h h':Aa}{D:Nat}{S:N7}{G T:Nat->Prop}(d:Ek h D S G)(c:A4 T h h')(n:∀ i,G i->¬ T i):Ek h' D S G:=d.frame c.next fun i hi=>c.get i (d.lt i hi) (n i hi)
theorem Ek.ext {h h':Aa}{D:Nat}{S:N7}{G:Nat->Prop}(d:Ek h D S G)(c:Ext h h'):Ek h' D S G:=d.chg c fun _ _=>id
theorem Vg.put {h h':Aa}{D V M qc qh:Nat}{cs hs:EV}{ms:List (EV × EV)}{S:N7}{F G:Nat->Prop}(a:Vg h D V M qc qh cs hs ms S F G)(hb:HB h){dv:Dv}(d:Hb h' V dv (Bc F h h'))(c:A4 F h h'):
 Vg h' D V M qc qh cs hs ms { S with dv:=dv } (Bc F h h') (Bc G h h'):=by
 have lq:∀ {s q n l},B0 h s q 105 68 n l->0<n->q<h.next:=fun r y=>hb _ _ (r.block y)
 have nf:∀ {i},¬ F i->i<h.next->¬ Bc F h h' i:=fun y l z=>by
  rcases z with z|z
  ·exact y z
  ·omega
 refine⟨c.at hb a.Ct a.apart.1,c.at hb a.map a.apart.2.1,a.marks,a.E4.frame fun y=>c.get _ (lq a.E4 y) (a.apart.2.2.1 y),a.Aaz.frame fun y=>c.get _ (lq a.Aaz y) (a.apart.2.2.2.1 y),d,⟨fun i hi=>?_,.inl a.sub.2.1,.inl a.sub.2.2.1,fun y=>.inl (a.sub.2.2.2.1 y),fun y=>.inl (a.sub.2.2.2.2 y)⟩,⟨nf a.apart.1 (hb _ _ a.Ct),nf a.apart.2.1 (hb _ _ a.map),fun y=>nf (a.apart.2.2.1 y) (lq a.E4 y),fun y=>nf (a.apart.2.2.2.1 y) (lq a.Aaz y),a.apart.2.2.2.2⟩⟩
 rcases hi with hi|hi
 ·exact .inl (a.sub.1 i hi)
 ·exact .inr hi
theorem Ek.put {h h':Aa}{D V M qc qh:Nat}{cs hs:EV}{ms:List (EV × EV)}{S:N7}{F G:Nat->Prop}(s:Ek h D S G)(a:Vg h D V M qc qh cs hs ms S F G)(hb:HB h){dv:Dv}(d:Hb h' V dv (Bc F h h'))(c:A4 F h h'):
 Ek h' D { S with dv:=dv } (Bc G h h')/\A4 G h h':=
 ⟨⟨Bc.lt s.lt c.next,⟨s.wf.ev,s.wf.wf,s.wf.Rl⟩,V,M,qc,qh,cs,hs,ms,_,a.put hb d c⟩,c.mono a.sub.1⟩
theorem Vg.A3q {h:Aa}{D V M qc qh:Nat}{cs hs:EV}{ms ms':List (EV × EV)}{S:N7}{F G:Nat->Prop}(a:Vg h D V M qc qh cs hs ms S F G)(hm:Yi ms'):
 Vg (h.put M (.map ms')) D V M qc qh cs hs ms' S F G:=by
 refine⟨?_,Aj _ _ _,hm,a.E4.frame fun y=>Ar _ ?_,a.Aaz.frame fun y=>Ar _ ?_,a.dev.frame (Nat.le_refl _) fun i hi=>Ar _ fun y=>?_,a.sub,a.apart⟩
 ·rw[Ar _ (Bh a.map a.Ct (by simp))];exact a.Ct
 ·exact Bh a.map (a.E4.block y) (by simp)
 ·exact Bh a.map (a.Aaz.block y) (by simp)
 ·rw[<-y]at hi;exact a.apart.2.1 hi
theorem Ek.A3q {h:Aa}{D V M qc qh:Nat}{cs hs:EV}{ms ms':List (EV × EV)}{S:N7}{F G:Nat->Prop}(s:Ek h D S G)(a:Vg h D V M qc qh cs hs ms S F G)(hb:HB h)(hm:Yi ms'):
 Ek (h.put M (.map ms')) D S G/\A4 G h (h.put M (.map ms'))/\HB (h.put M (.map ms')):=by
 have lM:=hb _ _ a.map
 exact⟨⟨s.lt,s.wf,V,M,qc,qh,cs,hs,ms',F,a.A3q hm⟩,(A4.refl h).A8 (.inl a.sub.2.2.1) lM _,hb.put lM _⟩
def A4a(disp:Nat->Option FT)(K d:Nat)(S:N7):Prop:=∀ (h:Aa) (D:Nat) (G:Nat->Prop),Ek h D S G->HB h->Ok (Af TT disp K d false 118 [.ptr D 0] h) fun v h'=>Ek h' D S.due (Bc G h h')/\A4 G h h'/\HB h'
end Go.Ev

namespace Go.Ev
open Go.Proofs
set_option maxRecDepth 100000
variable {K:Nat}{disp:Nat->Option FT}
noncomputable def N7.begin(S:N7)(i:Int):N7:=if S.dv.has i=true then S.due else S
def Aya(disp:Nat->Option FT)(K:Nat)(S:N7):Prop:=∀ d,12<=d->A4a disp K d S
theorem Afg(H:Au disp){d:Nat}(hd:13<=d){h:Aa}{D:Nat}{S:N7}{G:Nat->Prop}(hdue:Aya disp K S)(s:Ek h D S G)(hb:HB h)(i:Int):
 Ok (Af TT disp K d false 179 [.ptr D 0,I i] h) fun v h'=>Ek h' D (S.begin i) (Bc G h h')/\A4 G h h'/\HB h':=by
 obtain⟨e,rfl⟩:∃ k,d=k+1:=⟨d-1,by omega⟩
 rw[Abp H (by omega)]
 obtain⟨V,M,qc,qh,cs,hs',ms,F,a⟩:=s.Rp
 obtain⟨zl,z,q,b,_⟩:=a.dev.Rp
 have fin:Ok (some (.tuple [],h)) fun(_:EV) h'=>Ek h' D S (Bc G h h')/\A4 G h h'/\HB h':=.ret ⟨s.grow s.lt (Nat.le_refl _),A4.refl _,hb⟩
 unfold N7.begin
 simp only[X3,I,Ad,Ab]
 by_cases h0:0<=i
 ·have hz:=Aff (K:=K) b
  simp only[I]at hz
  simp only[h0,decide_true,Ab,B2 a.Ct rfl,hz,Ad,Kj]
  by_cases h1:i<S.dv.n
  ·have hh:S.dv.has i=true:=decide_eq_true ⟨h0,h1⟩
   simp only[h1,decide_true,Ab]
   rw[hh,if_pos rfl]
   refine(hdue e (by omega) h D G s hb).Al ?_
   intro v h' p
   exact .ret p
  ·have hh:S.dv.has i=false:=decide_eq_false fun y=>h1 y.2
   simp only[h1,decide_false,Ab]
   rw[hh,if_neg (by simp)]
   exact fin
 ·have hh:S.dv.has i=false:=decide_eq_false fun y=>h0 y.1
  simp only[h0,decide_false,Ab,Kj]
  rw[hh,if_neg (by simp)]
  exact fin
noncomputable def N7.append(S:N7)(i:Int)(x:List EV):N7 × Int × Int:=({ S.begin i with dv:=((S.begin i).dv.append i x).1 },((S.begin i).dv.append i x).2)
theorem Amf(H:Au disp)(hK:1000<K){d:Nat}(hd:14<=d){h:Aa}{D:Nat}{S:N7}{G:Nat->Prop}(hdue:Aya disp K S)(s:Ek h D S G)(hb:HB h)(i:Int){x:List EV}(hx:x.length=64)(hu:U8 x):
 Ok (Af TT disp K d false 164 [.ptr D 0,I i,.agg x] h) fun v h'=>v=.tuple [I (S.append i x).2.1,I (S.append i x).2.2]/\Ek h' D (S.append i x).1 (Bc G h h')/\A4 G h h'/\HB h':=by
 obtain⟨e,rfl⟩:∃ k,d=k+1:=⟨d-1,by omega⟩
 rw[Aam H (by omega)]
 simp only[V3,Ab]
 have x1:Ext h (h.new (.cells x 103)):=A4.new _ _
 have g5:(h.new (.cells x 103)).get h.next=some (.cells x 103):=Ae _ _
 have hb1:HB (h.new (.cells x 103)):=hb.new _
 have s1:=s.ext x1
 have n1:(h.new (.cells x 103)).next=h.next+1:=rfl
 generalize h.new (.cells x 103)=h1 at x1 g5 hb1 s1 n1 ⊢
 refine(Afg (K:=K) H (by omega) hdue s1 hb1 i).Al ?_
 rintro _ h2 ⟨s2,c2,hb2⟩
 have nx:¬ G h.next:=fun y=>Nat.lt_irrefl _ (s.lt _ y)
 have g5:=c2.at hb1 g5 nx
 have c02:A4 G h h2:=(Ext.to x1).trans c2
 have s2:Ek h2 D (S.begin i) (Bc G h1 h2):=s2
 unfold N7.append
 generalize S.begin i=T at s2 ⊢
 obtain⟨V,M,qc,qh,cs,hs',ms,F,a⟩:=s2.Rp
 have lD:=hb2 _ _ a.Ct
 have l5:=hb2 _ _ g5
 simp only[Ab,Bo,Aq lD,B2 a.Ct rfl,Aq l5,F4 g5 rfl,Av hx]
 refine Ok.Amo (S:=F) (by kernel_rfl) (by kernel_rfl) (fun _=>by kernel_rfl) (Amk (K:=K) a.dev.lift (Hu hb2) hK i hx hu) (fun _ _ p=>p.2.2.1) ?_
 rintro _ h3 h4 s' ⟨rfl,d3,_,hb3⟩ sm c4 _
 have hb4:=sm.hb hb3
 have d4:Hb h4 V (T.dv.append i x).1 (Bc F h2 h4):=by
  have:=d3.frame (h':=h4) (by rw[sm.next];exact Nat.le_refl _) fun j _=>sm.get j
  refine this.mono (fun j hj=>?_) (Bc.lt a.dev.lt c4.next)
  rcases hj with y|y
  ·exact .inl y
  ·exact .inr ⟨y.1,by rw[sm.next];exact y.2⟩
 have a4:=a.put hb2 d4 c4
 obtain⟨s4,c24⟩:=s2.put a hb2 d4 c4
 have cc:A4 G h h4:=by
  refine c02.then c24 fun j hj hl=>?_
  rcases hj with y|y
  ·exact y
  ·have:=x1.next;omega
 have s4:Ek h4 D { T with dv:=(T.dv.append i x).1 } (Bc G h h4):=s4.mono (fun j hj=>by
  rcases hj with (y|y)|y
  ·exact .inl y
  ·have:=x1.next;have:=c24.next;exact .inr ⟨by omega,by omega⟩
  ·have:=c02.next;exact .inr ⟨by omega,y.2⟩) (Bc.lt s.lt cc.next)
 simp only[Ab,I,Ad]
 by_cases hz:(T.dv.append i x).2.2=0
 ·simp only[hz,decide_true,Ab,B2 a4.Ct rfl]
  rw[Cu (l:=[I i,I (T.dv.append i x).2.1]) rfl]
  obtain⟨ms',e1,hm'⟩:=Ax4 a4.map a4.marks i (T.dv.append i x).2.1
  unfold kp at e1
  rw[e1,Bf]
  simp only[Jz]
  obtain⟨V',M',qc',qh',cs',hs'',ms'',F',a5⟩:=s4.Rp
  have lM:=hb4 _ _ a4.map
  have a6:=a4.A3q hm'
  have gM:Bc G h h4 M:=by
   rcases a.sub.2.2.1 with y|y
   ·exact .inl y
   ·have:=x1.next;have:=c24.next;exact .inr ⟨by omega,by omega⟩
  have c5:A4 (Bc G h h4) h4 (h4.put M (.map ms')):=(A4.refl h4).A8 (.inl gM) lM _
  refine .ret ⟨rfl,⟨Bc.lt s.lt (cc.grow c5).next,s4.wf,V,M,qc,qh,cs,hs',ms',_,a6.mono fun j hj=>?_⟩,cc.grow c5,hb4.put lM _⟩
  show Bc G h h4 j
  rcases hj with (y|y)|y
  ·exact .inl y
  ·have:=x1.next;have:=c24.next;exact .inr ⟨by omega,by omega⟩
  ·have:=c02.next;exact .inr ⟨by omega,y.2⟩
 ·simp only[hz,decide_false,Ab,Jz]
  exact .ret ⟨rfl,s4,cc,hb4⟩
noncomputable def N7.flush(S:N7):N7 × Int:=({ S.due with dv:=S.due.dv.flush.1 },S.due.dv.flush.2)
theorem Apg(H:Au disp)(hK:1000<K){d:Nat}(hd:14<=d){h:Aa}{D:Nat}{S:N7}{G:Nat->Prop}(hdue:Aya disp K S)(s:Ek h D S G)(hb:HB h):
 Ok (Af TT disp K d false 67 [.ptr D 0] h) fun v h'=>v=I S.flush.2/\Ek h' D S.flush.1 (Bc G h h')/\A4 G h h'/\HB h':=by
 obtain⟨e,rfl⟩:∃ k,d=k+1:=⟨d-1,by omega⟩
 rw[Abg H (by omega)]
 simp only[Xj]
 refine(hdue e (by omega) h D G s hb).Al ?_
 rintro _ h2 ⟨s2,c2,hb2⟩
 unfold N7.flush
 generalize S.due=T at s2 ⊢
 obtain⟨V,M,qc,qh,cs,hs',ms,F,a⟩:=s2.Rp
 simp only[Ab,B2 a.Ct rfl]
 refine(Aps (K:=K) a.dev hb2 hK).Al ?_
 rintro _ h3 ⟨rfl,d3,c3,hb3⟩
 obtain⟨s3,c23⟩:=s2.put a hb2 d3 c3
 exact .ret ⟨rfl,s3.A38 c2.next c23.next s.lt,c2.grow c23,hb3⟩
noncomputable def N7.finish(S:N7)(i:Int):N7 × Int:=({ S.begin i with dv:=((S.begin i).dv.finish i).1 },((S.begin i).dv.finish i).2)
theorem Ami(H:Au disp){d:Nat}(hd:14<=d){h:Aa}{D:Nat}{S:N7}{G:Nat->Prop}(hdue:Aya disp K S)(s:Ek h D S G)(hb:HB h)(i:Int):
 Ok (Af TT disp K d false 165 [.ptr D 0,I i] h) fun v h'=>v=I (S.finish i).2/\Ek h' D (S.finish i).1 (Bc G h h')/\A4 G h h'/\HB h':=by
 obtain⟨e,rfl⟩:∃ k,d=k+1:=⟨d-1,by omega⟩
 rw[Aag H (by omega)]
 simp only[Vx]
 refine(Afg (K:=K) H (by omega) hdue s hb i).Al ?_
 rintro _ h2 ⟨s2,c2,hb2⟩
 unfold N7.finish
 generalize S.begin i=T at s2 ⊢
 obtain⟨V,M,qc,qh,cs,hs',ms,F,a⟩:=s2.Rp
 simp only[Ab,B2 a.Ct rfl]
 refine(Alr (K:=K) a.dev hb2 i).Al ?_
 rintro _ h3 ⟨rfl,d3,c3,hb3⟩
 obtain⟨s3,c23⟩:=s2.put a hb2 d3 c3
 exact .ret ⟨rfl,s3.A38 c2.next c23.next s.lt,c2.grow c23,hb3⟩
end Go.Ev

namespace Go.Ev
open Go.Proofs
set_option maxRecDepth 100000
variable {K:Nat}{disp:Nat->Option FT}
end Go.Ev
