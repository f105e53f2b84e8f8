import Derived.Test.YtpkcfamminlmaaaGreatXb
set_option linter.unusedVariables false
set_option linter.unusedSimpArgs false
set_option linter.unusedSectionVars false
namespace Go.Ev
open Go.Proofs
set_option maxRecDepth 100000
variable {K:Nat}
def A6(F:Nat->Prop)(h h':Aa):Nat->Prop:=fun i=>F i\/(h.next<=i/\i<h'.next)
theorem A0.grow {F:Nat->Prop}{h h1 h2:Aa}(a:A0 F h h1)(b:A0 (A6 F h h1) h1 h2):A0 F h h2:=
 a.then b fun i hi hl=>by
  rcases hi with hi|hi
  ·exact hi
  ·omega
theorem A6.trans {F:Nat->Prop}{h h1 h2:Aa}(a:h.next<=h1.next)(b:h1.next<=h2.next){i:Nat}(g:A6 (A6 F h h1) h1 h2 i):A6 F h h2 i:=by
 rcases g with (g|g)|g
 ·exact .inl g
 ·exact .inr ⟨g.1,by omega⟩
 ·exact .inr ⟨by omega,g.2⟩
theorem A6.le {F:Nat->Prop}{h h1 h2:Aa}(b:h1.next<=h2.next){i:Nat}(g:A6 F h h1 i):A6 F h h2 i:=by
 rcases g with g|g
 ·exact .inl g
 ·exact .inr ⟨g.1,by omega⟩
structure Dv where
 n:Nat
 size:Nat
 op:Int
 cnt:Int
 down:Bool
 zs:Nat->Zn
def Bj(l:List Nat):List EV:=l.map fun(b:Nat)=>EV.int .u8 (Int.ofNat b)
def U8(x:List EV):Prop:=∃ l:List Nat,(∀ b ∈ l,b<256)/\x=Bj l
theorem U8.zs:U8 P7:=⟨List.replicate 64 0,fun b hb=>by rw[List.eq_of_mem_replicate hb];decide,by unfold Bj P7;rw[List.map_replicate];rfl⟩
structure Zn.Wf(Z:Zn)(size:Nat):Prop where
 u8:∀ x ∈ Z.l,U8 x
 st:Z.st<=4
 safe:Z.safe<=Z.l.length
 len:Z.l.length<=size
 room:Z.st<2->Z.l.length<size
structure Dv.Wf(D:Dv):Prop where
 size:D.size<=64
 n:D.n<=512
 zs:∀ i,i<D.n->(D.zs i).Wf D.size
def Apr(V zl n:Nat)(z q:Nat->Nat)(zs:Nat->Zn):Nat->Prop:=fun i=>i=V\/i=zl\/∃ d,d<n/\(i=z d\/((zs d).l ≠ []/\i=q d))
structure Gw(h:Aa)(V:Nat)(D:Dv)(F:Nat->Prop):Prop where
 wf:D.Wf
 lt:∀ i,F i->i<h.next
 O1:∃ zl z q,Jy h V zl D.n z q D.size D.op D.cnt D.down D.zs/\∀ i,Apr V zl D.n z q D.zs i->F i
theorem Gw.mono {h:Aa}{V:Nat}{D:Dv}{F G:Nat->Prop}(d:Gw h V D F)(s:∀ i,F i->G i)(l:∀ i,G i->i<h.next):Gw h V D G:=by
 obtain⟨zl,z,q,a,b⟩:=d.O1
 exact⟨d.wf,l,zl,z,q,a,fun i hi=>s i (b i hi)⟩
theorem A6.lt {F:Nat->Prop}{h h':Aa}(l:∀ i,F i->i<h.next)(n:h.next<=h'.next):∀ i,A6 F h h' i->i<h'.next:=fun i hi=>by
 rcases hi with hi|hi
 ·have:=l i hi;omega
 ·exact hi.2
theorem Gw.grow {h h':Aa}{V:Nat}{D:Dv}{F:Nat->Prop}(d:Gw h' V D F)(l:∀ i,F i->i<h.next)(n:h.next<=h'.next):Gw h' V D (A6 F h h'):=
 d.mono (fun _=>.inl) (A6.lt l n)
theorem Ah8 {l:List (List EV)}:l ≠ [] ↔ 0<l.length:=by rw[List.length_pos_iff]
theorem Jy.frame {h h':Aa}{V zl n:Nat}{z q:Nat->Nat}{size op cnt:Int}{down:Bool}{Zs:Nat->Zn}(d:Jy h V zl n z q size op cnt down Zs)(e:∀ i,Apr V zl n z q Zs i->h'.get i=h.get i):Jy h' V zl n z q size op cnt down Zs:=by
 refine⟨d.pos,by rw[e _ (.inl rfl)];exact d.dev,by rw[e _ (.inr (.inl rfl))];exact d.row,fun i hi=>?_,d.As2,d.Aul⟩
 obtain⟨s,a,b⟩:=(d.Ao i hi).Ao
 exact⟨⟨s,by rw[e _ (.inr (.inr ⟨i,hi,.inl rfl⟩))];exact a,b.frame fun hl=>e _ (.inr (.inr ⟨i,hi,.inr ⟨Ah8.2 hl,rfl⟩⟩))⟩,(d.Ao i hi).wf⟩
theorem Gw.frame {h h':Aa}{V:Nat}{D:Dv}{F:Nat->Prop}(d:Gw h V D F)(n:h.next<=h'.next)(e:∀ i,F i->h'.get i=h.get i):Gw h' V D F:=by
 obtain⟨zl,z,q,a,b⟩:=d.O1
 exact⟨d.wf,fun i hi=>Nat.lt_of_lt_of_le (d.lt i hi) n,zl,z,q,a.frame fun i hi=>e i (b i hi),b⟩
theorem Gw.chg {h h':Aa}{V:Nat}{D:Dv}{F S:Nat->Prop}(d:Gw h V D F)(c:A0 S h h')(n:∀ i,F i->¬ S i):Gw h' V D F:=
 d.frame c.next fun i hi=>c.get i (d.lt i hi) (n i hi)
theorem Gw.ext {h h':Aa}{V:Nat}{D:Dv}{F:Nat->Prop}(d:Gw h V D F)(c:Ext h h'):Gw h' V D F:=d.chg c fun _ _=>id
theorem Jy.At0 {h:Aa}{V zl n:Nat}{z q:Nat->Nat}{size op cnt:Int}{down:Bool}{Zs:Nat->Zn}(d:Jy h V zl n z q size op cnt down Zs)(cnt':Int)(down':Bool):
 Jy (h.put V (.cells [.slice zl 0 n n true,I size,I op,I cnt',.bool down'] 183)) V zl n z q size op cnt' down' Zs:=by
 refine⟨d.pos,Ah _ _ _,?_,fun i hi=>?_,d.As2,d.Aul⟩
 ·rw[Aq _ (Bo d.dev d.row (by simp))];exact d.row
 ·obtain⟨s,a,b⟩:=(d.Ao i hi).Ao
  refine⟨⟨s,?_,b.frame fun hl=>Aq _ (Bo d.dev (b.block hl) (by simp))⟩,(d.Ao i hi).wf⟩
  rw[Aq _ (Bo d.dev a (by simp))];exact a
def Jo(Zs:Nat->Zn)(d:Nat)(Z:Zn):Nat->Zn:=fun e=>if e=d then Z else Zs e
def Aqp(q:Nat->Nat)(d x:Nat):Nat->Nat:=fun e=>if e=d then x else q e
theorem Jy.A0f {h h':Aa}{V zl n:Nat}{z q:Nat->Nat}{size op cnt:Int}{down:Bool}{Zs:Nat->Zn}(d:Jy h V zl n z q size op cnt down Zs)(hb:HB h){i:Nat}(hi:i<n){q':Nat}{Z:Zn}
 (zz:Dg h' (z i) q' size Z) (c:A0 (fun j=>j=z i\/((Zs i).l ≠ []/\j=q i)) h h') (hq:Z.l ≠ []->h.next<=q'\/(q'=q i/\(Zs i).l ≠ [])) :
 Jy h' V zl n z (Aqp q i q') size op cnt down (Jo Zs i Z):=by
 obtain⟨si,ai,bi⟩:=(d.Ao i hi).Ao
 have nq:∀ x o,h.get x=some o->(∀ l,o ≠ .vec l 103 64)->¬ ((Zs i).l ≠ []/\x=q i):=by
  rintro x o hx hno ⟨hl,rfl⟩
  rw[bi.block (Ah8.1 hl)]at hx
  cases hx;exact hno _ rfl
 have keep:∀ x o,h.get x=some o->x ≠ z i->(∀ l,o ≠ .vec l 103 64)->h'.get x=some o:=fun x o hx hn hno=>by
  refine c.at hb hx ?_
  rintro(y|y)
  ·exact hn y
  ·exact nq x o hx hno y
 refine⟨d.pos,keep _ _ d.dev (Bo d.dev ai (by simp)) (by intros;simp),keep _ _ d.row (Bo d.row ai (by simp)) (by intros;simp),fun j hj=>?_,d.As2,?_⟩
 ·by_cases hji:j=i
  ·subst hji;simp only[Aqp,Jo,if_true];exact zz
  ·simp only[Aqp,Jo,hji,if_false]
   obtain⟨s,a,b⟩:=(d.Ao j hj).Ao
   refine⟨⟨s,keep _ _ a (fun e=>hji (d.As2 j i hj hi e)) (by intros;simp),b.frame fun hl=>?_⟩,(d.Ao j hj).wf⟩
   have gb:=b.block hl
   refine c.get _ (hb _ _ gb) ?_
   rintro(y|⟨y1,y2⟩)
   ·exact Bo gb ai (by simp) y
   ·exact hji (d.Aul j i hj hi (Ah8.2 hl) y1 y2)
 ·intro j k hj hk
  have lq:∀ j,j<n->(Zs j).l ≠ []->q j<h.next:=fun j hj hl=>by
   obtain⟨s,a,b⟩:=(d.Ao j hj).Ao
   exact hb _ _ (b.block (Ah8.1 hl))
  by_cases hji:j=i <;> by_cases hki:k=i
  ·intros;omega
  ·subst hji;simp only[Aqp,Jo,hki,if_true,if_false]
   intro a b e
   rcases hq a with y|⟨y1,y2⟩
   ·have:=lq k hk b;omega
   ·exact absurd (d.Aul j k hj hk y2 b (by rw[<-y1];exact e)).symm hki
  ·subst hki;simp only[Aqp,Jo,hji,if_true,if_false]
   intro a b e
   rcases hq b with y|⟨y1,y2⟩
   ·have:=lq j hj a;omega
   ·exact absurd (d.Aul j k hj hk a y2 (by rw[<-y1];exact e)) hji
  ·simp only[Aqp,Jo,hji,hki,if_false]
   exact d.Aul j k hj hk
def Dv.has(D:Dv)(i:Int):Bool:=decide (0<=i/\i<D.n)
def Dv.Ga(D:Dv)(i:Int):Int:=if D.down=true then 34 else if D.has i=false then 13 else 0
noncomputable def Dv.tick(D:Dv):Dv:={ D with cnt:=Cv .i64 (D.cnt+1) }
noncomputable def Dv.begin(D:Dv)(i:Int):Dv:=if D.Ga i=0 then D.tick else D
def Dv.set(D:Dv)(i:Nat)(Z:Zn):Dv:={ D with zs:=Jo D.zs i Z }
section
variable {h:Aa}{V zl n:Nat}{z q:Nat->Nat}{size op cnt:Int}{down:Bool}{Zs:Nat->Zn}(d:Jy h V zl n z q size op cnt down Zs)
include d
theorem Jy.list(k:EV->R):Al (.ptr V 0) h k=k (.slice zl 0 n n true):=by rw[B8 d.dev rfl];rfl
theorem Jy.A5m {i:Nat}(hi:i<n)(k:EV->R):It 1 (.slice zl 0 n n true) (I i) (fun v=>Al v h k)=k (.ptr (z i) 0):=by
 unfold I
 rw[Zw hi,B8 d.row rfl,Nat.zero_add,Nat.mul_one,List.getElem?_map,List.getElem?_range hi];rfl
theorem Avr(i:Int):Hm K (.ptr V 0) (I i) h=some (.bool (decide (0<=i/\i<n)),h):=by
 simp only[Hm,I,Af,Ab]
 by_cases h0:0<=i
 ·simp only[h0,decide_true,Ab,Af,d.list,Mm,true_and]
 ·simp only[h0,decide_false,Ab,Mm,false_and]
end
section
variable {h:Aa}{V:Nat}{D:Dv}{F:Nat->Prop}(d:Gw h V D F)(hb:HB h)
include d
theorem Acr(i:Int):Hm K (.ptr V 0) (I i) h=some (.bool (D.has i),h):=by
 obtain⟨w,wl,zl,z,q,a,b⟩:=d
 exact Avr a i
theorem Awo(i:Int):Mx K (.ptr V 0) (I i) h=some (I (if D.has i=true then (D.zs i.toNat).l.length else 0),h):=by
 simp only[Mx,Acr d,Ab]
 obtain⟨w,wl,zl,z,q,a,b⟩:=d
 cases hh:D.has i with
 | false=>simp only[Ab,I,Bool.false_eq_true,if_false]
 | true=>
  have:=of_decide_eq_true hh
  obtain⟨j,rfl⟩:∃ j:Nat,i=j:=⟨i.toNat,by omega⟩
  have hj:j<D.n:=by omega
  simp only[Ab,Xn,a.list,a.A5m hj,Avq (a.Ao j hj),if_true]
  rfl
include hb
theorem Abd(i:Int):Ok (Il K (.ptr V 0) (I i) h) fun v h'=>v=I (D.Ga i)/\Gw h' V (D.begin i) F/\A0 F h h'/\HB h'/\h'.next=h.next:=by
 have hh:=Acr (K:=K) d i
 obtain⟨w,wl,zl,z,q,a,b⟩:=d
 unfold Dv.begin Dv.Ga
 simp only[Il,Ab,B8 a.dev rfl]
 cases hd:D.down with
 | true=>
  simp only[Ab,if_true,show ((34:Int)=0)=False by simp,if_false]
  exact .ret ⟨rfl,⟨w,wl,zl,z,q,a,b⟩,A0.refl _,hb,rfl⟩
 | false=>
  simp only[Ab,hh,Bool.false_eq_true,if_false]
  cases hhs:D.has i with
  | false=>
   simp only[Ab,if_true,show ((13:Int)=0)=False by simp,if_false]
   exact .ret ⟨rfl,⟨w,wl,zl,z,q,a,b⟩,A0.refl _,hb,rfl⟩
  | true=>
   simp only[Ab,Bool.true_eq_false,if_false,if_true,Uy,B8 a.dev rfl,I,Af]
   have lV:=hb _ _ a.dev
   refine Ok.st1 a.dev rfl rfl (by show 3<5;decide) ?_
   refine .ret ⟨rfl,⟨⟨w.size,w.n,w.zs⟩,wl,zl,z,q,a.At0 (Cv .i64 (D.cnt+1)) D.down,b⟩,(A0.refl h).Az (.inl (b _ (.inl rfl))) lV _,hb.put lV _,rfl⟩
end
end Go.Ev

namespace Go.Ev
open Go.Proofs
set_option maxRecDepth 100000
variable {K:Nat}
theorem Wm {i b:Nat}{s:DX}{h:Aa}{call:Aa->R}{k:EV->Aa->DX->R}{v:EV}(hb:Xy b s=true)(hl:loose b s.nw = [])(hc:call h.lift=some (v,h.lift)):Ci i b s h call k=k v h (s.Wn i):=by
 have hf:Ii b s h=h.lift:=by unfold Ii;rw[hl];rfl
 show As (Xy b s) (Ev.Aj (call (Ii b s h)) fun v h'=>Kk i b s h h' fun s h=>k v h s) none=_
 rw[hb,Ak,hf,hc]
 show Kk i b s h h.lift (fun s h=>k v h s)=_
 unfold Kk
 rw[Nat.ble_eq_true_of_le (show h.next<=h.lift.mw from Nat.le_refl _),Ak,hl]
 rfl
theorem Jy.lift {h:Aa}{V zl n:Nat}{z q:Nat->Nat}{size op cnt:Int}{down:Bool}{Zs:Nat->Zn}(d:Jy h V zl n z q size op cnt down Zs):Jy h.lift V zl n z q size op cnt down Zs:=d.frame fun i _=>C5 h i
theorem Gw.lift {h:Aa}{V:Nat}{D:Dv}{F:Nat->Prop}(d:Gw h V D F):Gw h.lift V D F:=d.frame (Nat.le_refl _) fun i _=>C5 h i
def Pj(Zs:Nat->Zn)(n:Nat):Nat:=((List.range n).filter fun i=>(Zs i).st=1).length
theorem Aog(Zs:Nat->Zn)(n:Nat):Pj Zs (n+1)=Pj Zs n+(if (Zs n).st=1 then 1 else 0):=by
 unfold Pj
 rw[List.range_succ,List.filter_append,List.length_append]
 congr 1
 by_cases hc:(Zs n).st=1 <;> simp[hc]
theorem A3u(Zs:Nat->Zn)(n:Nat):Pj Zs n<=n:=by
 unfold Pj
 have:=List.length_filter_le (fun i=>decide ((Zs i).st=1)) (List.range n)
 simpa using this
theorem Aut {h:Aa}{V zl n:Nat}{z q:Nat->Nat}{size op cnt:Int}{down:Bool}{Zs:Nat->Zn}(d:Jy h V zl n z q size op cnt down Zs)(hn:n<=512):∀ (m i:Nat),n-i<m->i<=n ->
 C7 K m (I (Pj Zs i)) (.slice zl 0 n n true) (I n) (I i) h=some (I (Pj Zs n),h):=by
 intro m
 induction m with
 | zero=>intro i hm;omega
 | succ m ih=>
  intro i hm hi
  simp only[C7,I,Af,Ab]
  by_cases hlt:(i:Int)<n
  ·have hin:i<n:=by omega
   have hz:=d.A5m hin
   simp only[I]at hz
   have hle:=A3u Zs i
   simp only[hlt,decide_true,Ab,Sw,hz,Ago (d.Ao i hin),I,Af]
   have ih':=ih (i+1) (by omega) (by omega)
   rw[Aog]at ih'
   by_cases h1:(Zs i).st=1
   ·rw[show decide (((Zs i).st:Int)=1)=true by simp[h1]]
    rw[if_pos h1]at ih'
    simp only[Ab,Af,J0]
    rw[Cq (by omega) (by omega),Cq (by omega) (by omega)]
    exact ih'
   ·rw[show decide (((Zs i).st:Int)=1)=false by simp;omega]
    rw[if_neg h1]at ih'
    simp only[Ab,Af,J0]
    rw[Cq (by omega) (by omega)]
    exact ih'
  ·have:i=n:=by omega
   subst this
   simp only[hlt,decide_false,Ab,N1]
theorem A20 {h:Aa}{V zl n:Nat}{z q:Nat->Nat}{size op cnt:Int}{down:Bool}{Zs:Nat->Zn}(d:Jy h V zl n z q size op cnt down Zs)(hn:n<=512)(hK:1000<K):
 Mc K (.ptr V 0) h=some (I (Pj Zs n),h):=by
 simp only[Mc,Ab,d.list]
 exact Aut d hn K 0 (by omega) (Nat.zero_le _)
noncomputable def Dv.append(D:Dv)(i:Int)(x:List EV):Dv × Int × Int:=
 if D.Ga i ≠ 0 then (D,0,D.Ga i) else
 if (D.zs i.toNat).st=0/\D.op<=Pj D.zs D.n then (D.tick,0,33) else
 if 2<=(D.zs i.toNat).st then (D.tick,0,if (D.zs i.toNat).st=2 then 17 else Pd (D.zs i.toNat).st) else
 (D.tick.set i.toNat ((D.zs i.toNat).app D.size x),(D.zs i.toNat).l.length,0)
theorem Zn.Wf.app {Z:Zn}{size:Nat}(w:Z.Wf size)(hs:Z.st<2){x:List EV}(hx:U8 x):(Z.app size x).Wf size:=by
 have:=w.room hs
 have:=w.safe
 refine⟨fun y hy=>?_,?_,?_,?_,?_⟩ <;> try simp only[Zn.app,List.length_append,List.length_singleton]
 ·rcases List.mem_append.1 hy with hy|hy
  ·exact w.u8 y hy
  ·rw[List.mem_singleton.1 hy];exact hx
 ·split <;> omega
 ·omega
 ·omega
 ·split <;> omega
theorem Dv.Wf.set {D:Dv}(w:D.Wf){i:Nat}{Z:Zn}(z:Z.Wf D.size):(D.set i Z).Wf:=by
 refine⟨w.size,w.n,fun j hj=>?_⟩
 show (Jo D.zs i Z j).Wf D.size
 unfold Jo
 split
 ·exact z
 ·exact w.zs j hj
theorem Gw.Ao {h h':Aa}{V:Nat}{D:Dv}{F:Nat->Prop}(w:D.Wf){zl:Nat}{z q:Nat->Nat}(a:Jy h V zl D.n z q D.size D.op D.cnt D.down D.zs)(b:∀ i,Apr V zl D.n z q D.zs i->F i)(wl:∀ i,F i->i<h.next)(hb:HB h){i:Nat}(hi:i<D.n){q':Nat}{Z:Zn}
 (zw:Z.Wf D.size) (zz:Dg h' (z i) q' D.size Z) (c:A0 (fun j=>j=z i\/((D.zs i).l ≠ []/\j=q i)) h h') (hb':HB h') (hq:Z.l ≠ []->h.next<=q'\/(q'=q i/\(D.zs i).l ≠ [])) :
 Gw h' V (D.set i Z) (A6 F h h')/\A0 F h h':=by
 have hF:∀ j,(j=z i\/((D.zs i).l ≠ []/\j=q i))->F j:=by
  rintro j (y|⟨y1,y2⟩)
  ·exact b j (.inr (.inr ⟨i,hi,.inl y⟩))
  ·exact b j (.inr (.inr ⟨i,hi,.inr ⟨y1,y2⟩⟩))
 refine⟨⟨w.set zw,A6.lt wl c.next,zl,z,_,a.A0f hb hi zz c hq,?_⟩,c.mono hF⟩
 rintro j (y|y|⟨d,hd,y⟩)
 ·exact .inl (b j (.inl y))
 ·exact .inl (b j (.inr (.inl y)))
 ·rcases y with y|⟨y1,y2⟩
  ·exact .inl (b j (.inr (.inr ⟨d,hd,.inl y⟩)))
  ·by_cases hdi:d=i
   ·subst hdi
    simp only[Dv.set,Jo,Aqp,if_true]at y1 y2
    subst y2
    rcases hq y1 with y|⟨y3,y4⟩
    ·obtain⟨s,_,r⟩:=zz.Ao
     exact .inr ⟨y,hb' _ _ (r.block (Ah8.1 y1))⟩
    ·rw[y3];exact .inl (hF _ (.inr ⟨y4,rfl⟩))
   ·simp only[Dv.set,Jo,Aqp,hdi,if_false]at y1 y2
    exact .inl (b j (.inr (.inr ⟨d,hd,.inr ⟨y1,y2⟩⟩)))
theorem Aps {h:Aa}{V:Nat}{D:Dv}{F:Nat->Prop}(d:Gw h V D F)(hb:HB h)(hK:1000<K)(i:Int){x:List EV}(hx:x.length=64)(hu:U8 x):
 Ok (Mh K (.ptr V 0) (I i) (.agg x) h) fun v h'=>v=.tuple [I (D.append i x).2.1,I (D.append i x).2.2]/\Gw h' V (D.append i x).1 (A6 F h h')/\A0 F h h'/\HB h':=by
 simp only[Mh,Ab]
 have x1:Ext h (h.new (.cells x 103)):=A0.new _ _
 have g5:(h.new (.cells x 103)).get h.next=some (.cells x 103):=Ac _ _
 have hb1:HB (h.new (.cells x 103)):=hb.new _
 have d1:=d.ext x1
 have n1:(h.new (.cells x 103)).next=h.next+1:=rfl
 generalize h.new (.cells x 103)=h1 at x1 g5 hb1 d1 n1 ⊢
 refine(Abd (K:=K) d1 hb1 i).Aj ?_
 rintro _ h2 ⟨rfl,d2,c2,hb2,n2⟩
 have nx:¬ F h.next:=fun y=>Nat.lt_irrefl _ (d.lt _ y)
 have g5:=c2.at hb1 g5 nx
 have c02:A0 F h h2:=(Ext.to x1).trans c2
 unfold Dv.append
 unfold Dv.begin at d2
 by_cases hbe:D.Ga i=0
 ·rw[if_pos hbe]at d2
  rw[if_neg (by rw[hbe];exact fun y=>y rfl),hbe]
  simp only[I,Af,not_true_eq_false,decide_false,Ab,Sz]
  obtain⟨w,wl,zl,z,q,a,b⟩:=d2
  have hhas:D.has i=true:=by
   unfold Dv.Ga at hbe
   cases hh:D.has i with
   | true=>rfl
   | false=>rw[hh]at hbe;split at hbe <;> simp at hbe
  have:=of_decide_eq_true hhas
  obtain⟨j,rfl⟩:∃ j:Nat,i=j:=⟨i.toNat,by omega⟩
  have hj:j<D.n:=by omega
  rw[show (j:Int).toNat=j from rfl]
  have lV:=hb2 _ _ a.dev
  have lzl:=hb2 _ _ a.row
  have l5:=hb2 _ _ g5
  have lz:=hb2 _ _ (a.Ao j hj).Ao.choose_spec.1
  have hzp:∀ k:EV->R,Al (.ptr zl j) h2 k=k (.ptr (z j) 0):=fun k=>by
   have:=a.A5m hj k
   unfold I at this
   rw[Zw (show j<D.tick.n from hj),Nat.zero_add,Nat.mul_one]at this
   exact this
  have hix:∀ k:EV->R,It 1 (.slice zl 0 D.tick.n D.tick.n true) (.int .i64 (j:Int)) k=k (.ptr zl j):=fun k=>by
   rw[Zw (show j<D.tick.n from hj),Nat.zero_add,Nat.mul_one]
  simp only[Ab,Bg,Au lV,a.list,hix,Au lzl,hzp]
  rw[Wm (by kernel_rfl) (by kernel_rfl) (Ago (a.lift.Ao j hj))]
  have hop:=A20 (K:=K) a.lift w.n hK
  have dd:∀ h',Ext h2 h'->Gw h' V D.tick (A6 F h h')/\A0 F h h'/\HB h':=fun h' x'=>⟨(Gw.ext ⟨w,wl,zl,z,q,a,b⟩ x').grow d.lt (by have:=c02.next;have:=x'.next;omega),c02.trans (Ext.to x'),x'.hb hb2⟩
  have app:¬ ((D.zs j).st=0/\D.op<=Pj D.zs D.n)->Ok (Ny K (.ptr V 0) (I j) (.ptr h.next 0) h2) fun v h'=>v=.tuple [I (if (D.zs j).st=0/\D.op<=Pj D.zs D.n then (D.tick,0,33) else if 2<=(D.zs j).st then (D.tick,0,if (D.zs j).st=2 then 17 else Pd (D.zs j).st) else (D.tick.set j ((D.zs j).app D.size x),((D.zs j).l.length:Int),(0:Int))).2.1,I (if (D.zs j).st=0/\D.op<=Pj D.zs D.n then (D.tick,0,33) else if 2<=(D.zs j).st then (D.tick,0,if (D.zs j).st=2 then 17 else Pd (D.zs j).st) else (D.tick.set j ((D.zs j).app D.size x),((D.zs j).l.length:Int),(0:Int))).2.2]/\Gw h' V (if (D.zs j).st=0/\D.op<=Pj D.zs D.n then (D.tick,0,33) else if 2<=(D.zs j).st then (D.tick,0,if (D.zs j).st=2 then 17 else Pd (D.zs j).st) else (D.tick.set j ((D.zs j).app D.size x),((D.zs j).l.length:Int),(0:Int))).1 (A6 F h h')/\A0 F h h'/\HB h':=by
   intro hno
   rw[if_neg hno]
   simp only[Ny,I,Ab,Bg,Au lV,a.list,hix,Au lzl,hzp,Au l5,C0 g5 rfl,Av hx]
   have wz:=w.zs j hj
   have wsz:=w.size
   have wl1:=wz.len
   by_cases hst:2<=(D.zs j).st
   ·rw[if_pos hst]
    refine Ok.Ci (by kernel_rfl) (by kernel_rfl) (Aoh (K:=K) (a.lift.Ao j hj) (D6 hb2) hst wz.st x) (fun _ _ p=>p.2) ?_
    rintro _ h3 h4 ⟨rfl,_⟩ sm x4
    simp only[Ab]
    exact .ret ⟨rfl,dd h4 x4⟩
   ·rw[if_neg hst]
    have hst':(D.zs j).st<2:=by omega
    refine Ok.Ake (S:=fun i=>i=z j\/(0<(D.zs j).l.length/\i=q j)) (by kernel_rfl) (by kernel_rfl) (fun _=>by kernel_rfl) (Ao5 (K:=K) (size:=D.size) (a.lift.Ao j hj) (D6 hb2) hst' (Nat.le_trans wl1 wsz) hx) (fun _ _ p=>p.2.2.1) ?_
    rintro _ h3 h4 s' ⟨rfl,⟨q',zz,hq'⟩,_,hb3⟩ sm c4 _
    simp only[Ab]
    have hb4:=sm.hb hb3
    have zz4:Dg h4 (z j) q' D.size ((D.zs j).app D.size x):=zz.ext fun i o g=>by rw[sm.get];exact g
    obtain⟨d4,c24⟩:=Gw.Ao w a b wl hb2 hj (wz.app hst' hu) zz4 (c4.mono fun i hi=>by
     rcases hi with y|⟨y1,y2⟩
     ·exact .inl y
     ·exact .inr ⟨Ah8.2 y1,y2⟩) hb4 (fun _=>.inl (by rw[Aac]at hq';exact hq'))
    refine .ret ⟨rfl,?_,c02.trans c24,hb4⟩
    refine d4.mono (fun i hi=>?_) (A6.lt d.lt (c02.trans c24).next)
    rcases hi with y|y
    ·exact .inl y
    ·exact .inr ⟨Nat.le_trans c02.next y.1,y.2⟩
  simp only[I,Af]
  by_cases h0:(D.zs j).st=0
  ·rw[show decide (((D.tick.zs j).st:Int)=0)=true from decide_eq_true (by show ((D.zs j).st:Int)=0;omega)]
   simp only[Ab,Af]
   rw[Wm (by kernel_rfl) (by kernel_rfl) hop]
   rw[Au lV (by kernel_rfl),B8 a.dev rfl]
   simp only[Ab,I,Af,J3]
   by_cases ho:D.op<=Pj D.zs D.n
   ·rw[show decide (D.tick.op<=((Pj D.tick.zs D.tick.n:Nat):Int))=true from decide_eq_true ho]
    simp only[Ab]
    rw[if_pos ⟨h0,ho⟩]
    exact .ret ⟨rfl,dd h2 (A0.refl _)⟩
   ·rw[show decide (D.tick.op<=((Pj D.tick.zs D.tick.n:Nat):Int))=false from decide_eq_false ho]
    simp only[Ab]
    exact app fun y=>ho y.2
  ·rw[show decide (((D.tick.zs j).st:Int)=0)=false from decide_eq_false (by show ¬ ((D.zs j).st:Int)=0;omega)]
   simp only[Ab,Af,J3]
   exact app fun y=>h0 y.1
 ·rw[if_neg hbe]at d2
  rw[if_pos hbe]
  simp only[I,Af,hbe,not_false_eq_true,decide_true,Ab]
  exact .ret ⟨rfl,d2.grow d.lt c02.next,c02,hb2⟩
end Go.Ev

namespace Go.Ev
open Go.Proofs
set_option maxRecDepth 100000
variable {K:Nat}
def Dv.read(D:Dv)(i off:Int):List EV × Int:=if D.Ga i ≠ 0 then (P7,D.Ga i) else Xp (D.zs i.toNat) off
theorem Dv.Axu {D:Dv}{i:Int}(hbe:D.Ga i=0):∃ j:Nat,i=j/\j<D.n:=by
 have hhas:D.has i=true:=by
  unfold Dv.Ga at hbe
  cases hh:D.has i with
  | true=>rfl
  | false=>rw[hh]at hbe;split at hbe <;> simp at hbe
 have:=of_decide_eq_true hhas
 exact⟨i.toNat,by omega,by omega⟩
theorem Jy.Avp {h:Aa}{V zl n:Nat}{z q:Nat->Nat}{size op cnt:Int}{down:Bool}{Zs:Nat->Zn}(d:Jy h V zl n z q size op cnt down Zs){j:Nat}(hj:j<n):
 (∀ k:EV->R,It 1 (.slice zl 0 n n true) (.int .i64 (j:Int)) k=k (.ptr zl j))/\(∀ k:EV->R,Al (.ptr zl j) h k=k (.ptr (z j) 0)):=by
 have hx:∀ k:EV->R,It 1 (.slice zl 0 n n true) (.int .i64 (j:Int)) k=k (.ptr zl j):=fun k=>by
  rw[Zw hj,Nat.zero_add,Nat.mul_one]
 refine⟨hx,fun k=>?_⟩
 have:=d.A5m hj k
 unfold I at this
 rw[hx]at this
 exact this
theorem Avx {h:Aa}{V:Nat}{D:Dv}{F:Nat->Prop}(d:Gw h V D F)(hb:HB h)(i off:Int):
 Ok (Pb K (.ptr V 0) (I i) (I off) h) fun v h'=>v=.tuple [.agg (D.read i off).1,I (D.read i off).2]/\(D.read i off).1.length=64/\Gw h' V (D.begin i) (A6 F h h')/\A0 F h h'/\HB h':=by
 simp only[Pb,Ab]
 have x1:Ext h (h.new (.cells (List.replicate 64 (.int .u8 0)) 103)):=A0.new _ _
 have g6:(h.new (.cells (List.replicate 64 (.int .u8 0)) 103)).get h.next=some (.cells P7 103):=Ac _ _
 have hb1:HB (h.new (.cells (List.replicate 64 (.int .u8 0)) 103)):=hb.new _
 have d1:=d.ext x1
 generalize h.new (.cells (List.replicate 64 (.int .u8 0)) 103)=h1 at x1 g6 hb1 d1 ⊢
 refine(Abd (K:=K) d1 hb1 i).Aj ?_
 rintro _ h2 ⟨rfl,d2,c2,hb2,n2⟩
 have nx:¬ F h.next:=fun y=>Nat.lt_irrefl _ (d.lt _ y)
 have g6:=c2.at hb1 g6 nx
 have c02:A0 F h h2:=(Ext.to x1).trans c2
 have fin:∀ (l:List EV) (e:Int) (h3:Aa),Ext h2 h3->l.length=64->Ok (D5 64 (.ptr h.next 0) (.agg l) h3 fun h=>Cx TT [.c (.ptr h.next 0) 103,.v (I e)] h) (fun _ _=>True)->True:=fun _ _ _ _ _ _=>trivial
 clear fin
 have fin:∀ (l:List EV) (e:Int) (h3:Aa) (kk:Aa->R),(∀ h',kk h'=Cx TT [.c (.ptr h.next 0) 103,.v (I e)] h')->Ext h2 h3->l.length=64->(l,e)=D.read i off->Ok (D5 64 (.ptr h.next 0) (.agg l) h3 kk) fun v h'=>v=.tuple [.agg (D.read i off).1,I (D.read i off).2]/\(D.read i off).1.length=64/\Gw h' V (D.begin i) (A6 F h h')/\A0 F h h'/\HB h':=by
  intro l e h3 kk hkk x3 hl he
  have hb3:=x3.hb hb2
  have g3:=x3.at hb2 g6
  refine Ok.st l g3 rfl (by rw[show EV.cells (.agg l)=l from rfl,Bf,hl]) (Bb (by rw[I3];exact hl.symm)) ?_
  rw[hkk,Ix (Ah _ _ _) Acx.1 Acx.2 hl,<-he]
  have l3:=hb3 _ _ g3
  have c3:A0 F h (h3.put h.next (.cells l 103)):=(c02.trans (Ext.to x3)).Az (.inr (Nat.le_refl _)) l3 _
  refine .ret ⟨rfl,hl,?_,c3,hb3.put l3 _⟩
  refine(((d2.ext x3).frame (h':=h3.put h.next (.cells l 103)) (Nat.le_refl _) fun j hj=>Aq _ fun y=>?_)).grow d.lt c3.next
  subst y;exact nx hj
 unfold Dv.read at fin ⊢
 by_cases hbe:D.Ga i=0
 ·rw[if_neg (by rw[hbe];exact fun y=>y rfl)]at fin ⊢
  have hbg:D.begin i=D.tick:=by unfold Dv.begin;rw[if_pos hbe]
  rw[hbg]at d2 fin ⊢
  rw[hbe]
  obtain⟨j,rfl,hj⟩:=Dv.Axu hbe
  obtain⟨zl,z,q,a,b⟩:=d2.O1
  obtain⟨hix,hzp⟩:=a.Avp (j:=j) hj
  simp only[I,Af,not_true_eq_false,decide_false,Ab,Vq,a.list,hix,hzp]
  refine(Asd (K:=K) (a.Ao j hj) hb2 off).Aj ?_
  rintro _ h3 ⟨rfl,x3⟩
  simp only[Ab]
  exact fin _ _ h3 _ (fun _=>rfl) x3 (A2i (a.Ao j hj).wf off) rfl
 ·rw[if_pos hbe]at fin ⊢
  simp only[I,Af,hbe,not_false_eq_true,decide_true,Ab]
  rw[Bi (l:=P7) rfl]
  exact fin P7 (D.Ga i) h2 _ (fun _=>rfl) (A0.refl _) I3 rfl
noncomputable def Dv.finish(D:Dv)(i:Int):Dv × Int:=
 if D.Ga i ≠ 0 then (D,D.Ga i) else
 (if Pd (D.zs i.toNat).st=0 then D.tick.set i.toNat (D.zs i.toNat).finish else D.tick,Pd (D.zs i.toNat).st)
theorem Zn.Wf.finish {Z:Zn}{size:Nat}(w:Z.Wf size):Z.finish.Wf size:=⟨w.u8,by show 2<=4;omega,w.safe,w.len,fun y=>absurd y (by show ¬ 2<2;omega)⟩
theorem Ap0 {h:Aa}{V:Nat}{D:Dv}{F:Nat->Prop}(d:Gw h V D F)(hb:HB h)(i:Int):
 Ok (Mj K (.ptr V 0) (I i) h) fun v h'=>v=I (D.finish i).2/\Gw h' V (D.finish i).1 (A6 F h h')/\A0 F h h'/\HB h':=by
 simp only[Mj]
 refine(Abd (K:=K) d hb i).Aj ?_
 rintro _ h2 ⟨rfl,d2,c2,hb2,n2⟩
 unfold Dv.finish
 by_cases hbe:D.Ga i=0
 ·rw[if_neg (by rw[hbe];exact fun y=>y rfl),hbe]
  have hbg:D.begin i=D.tick:=by unfold Dv.begin;rw[if_pos hbe]
  rw[hbg]at d2
  obtain⟨j,rfl,hj⟩:=Dv.Axu hbe
  obtain⟨zl,z,q,a,b⟩:=d2.O1
  obtain⟨hix,hzp⟩:=a.Avp (j:=j) hj
  simp only[I,Af,not_true_eq_false,decide_false,Ab,So,a.list,hix,hzp]
  refine(Ao9 (K:=K) (a.Ao j hj) hb2).Aj ?_
  rintro _ h3 ⟨rfl,zz,c3,hb3⟩
  try simp only[Ab]
  rw[show (j:Int).toNat=j from rfl]
  have zz:Dg h3 (z j) (q j) D.size (if Pd (D.zs j).st=0 then (D.zs j).finish else D.zs j):=zz
  by_cases hf:Pd (D.zs j).st=0
  ·simp only[hf,if_true]at zz ⊢
   obtain⟨d3,c23⟩:=Gw.Ao d2.wf a b d2.lt hb2 hj (d2.wf.zs j hj).finish zz (c3.mono fun _=>.inl) hb3 (fun y=>.inr ⟨rfl,y⟩)
   refine .ret ⟨by rw[show Pd (D.tick.zs j).st=Pd (D.zs j).st from rfl,hf],d3.mono (fun i hi=>?_) (A6.lt d.lt (c2.trans c23).next),c2.trans c23,hb3⟩
   rcases hi with y|y
   ·exact .inl y
   ·exact .inr ⟨Nat.le_trans c2.next y.1,y.2⟩
  ·simp only[hf,if_false]at zz ⊢
   obtain⟨d3,c23⟩:=Gw.Ao d2.wf a b d2.lt hb2 hj (d2.wf.zs j hj) zz (c3.mono fun _=>.inl) hb3 (fun y=>.inr ⟨rfl,y⟩)
   have e:D.tick.set j (D.zs j)=D.tick:=by
    unfold Dv.set
    have:Jo D.tick.zs j (D.zs j)=D.tick.zs:=by funext k;unfold Jo;split <;> simp_all [Dv.tick]
    rw[this]
   have d3:Gw h3 V (D.tick.set j (D.zs j)) (A6 F h2 h3):=d3
   rw[e]at d3
   refine .ret ⟨rfl,d3.mono (fun i hi=>?_) (A6.lt d.lt (c2.trans c23).next),c2.trans c23,hb3⟩
   rcases hi with y|y
   ·exact .inl y
   ·exact .inr ⟨Nat.le_trans c2.next y.1,y.2⟩
 ·rw[if_pos hbe]
  have hbg:D.begin i=D:=by unfold Dv.begin;rw[if_neg hbe]
  rw[hbg]at d2
  simp only[I,Af,hbe,not_false_eq_true,decide_true,Ab]
  exact .ret ⟨rfl,d2.grow d.lt c2.next,c2,hb2⟩
noncomputable def Dv.Ul(D:Dv):Dv:={ D with down:=true }
theorem Ai7 {h:Aa}{V:Nat}{D:Dv}{F:Nat->Prop}(d:Gw h V D F)(hb:HB h):
 Ok (G9 K (.ptr V 0) h) fun v h'=>Gw h' V D.Ul F/\A0 F h h'/\HB h':=by
 obtain⟨w,wl,zl,z,q,a,b⟩:=d
 simp only[G9,Ab]
 have lV:=hb _ _ a.dev
 refine Ok.st1 a.dev rfl rfl (by show 4<5;decide) ?_
 exact .ret ⟨⟨⟨w.size,w.n,w.zs⟩,wl,zl,z,q,a.At0 D.cnt true,b⟩,(A0.refl h).Az (.inl (b _ (.inl rfl))) lV _,hb.put lV _⟩
end Go.Ev

namespace Go.Ev
open Go.Proofs
set_option maxRecDepth 100000
variable {K:Nat}
structure Za(h:Aa)(V zl:Nat)(z:Nat->Nat)(D:Dv)(F:Nat->Prop):Prop where
 wf:D.Wf
 lt:∀ i,F i->i<h.next
 O1:∃ q,Jy h V zl D.n z q D.size D.op D.cnt D.down D.zs/\∀ i,Apr V zl D.n z q D.zs i->F i
theorem Gw.z {h:Aa}{V:Nat}{D:Dv}{F:Nat->Prop}(d:Gw h V D F):∃ zl z,Za h V zl z D F:=by
 obtain⟨zl,z,q,a,b⟩:=d.O1
 exact⟨zl,z,d.wf,d.lt,q,a,b⟩
theorem Za.s {h:Aa}{V zl:Nat}{z:Nat->Nat}{D:Dv}{F:Nat->Prop}(d:Za h V zl z D F):Gw h V D F:=by
 obtain⟨q,a,b⟩:=d.O1
 exact⟨d.wf,d.lt,zl,z,q,a,b⟩
theorem Za.mono {h:Aa}{V zl:Nat}{z:Nat->Nat}{D:Dv}{F G:Nat->Prop}(d:Za h V zl z D F)(s:∀ i,F i->G i)(l:∀ i,G i->i<h.next):Za h V zl z D G:=by
 obtain⟨q,a,b⟩:=d.O1
 exact⟨d.wf,l,q,a,fun i hi=>s i (b i hi)⟩
theorem Za.congr {h:Aa}{V zl:Nat}{z:Nat->Nat}{D:Dv}{F:Nat->Prop}(d:Za h V zl z D F){zs':Nat->Zn}(e:∀ i,i<D.n->zs' i=D.zs i):Za h V zl z { D with zs:=zs' } F:=by
 obtain⟨q,a,b⟩:=d.O1
 refine⟨⟨d.wf.size,d.wf.n,fun i hi=>?_⟩,d.lt,q,⟨a.pos,a.dev,a.row,fun i hi=>?_,a.As2,fun i j hi hj=>?_⟩,?_⟩
 ·show (zs' i).Wf _;rw[e i hi];exact d.wf.zs i hi
 ·show Dg _ _ _ _ (zs' i);rw[e i hi];exact a.Ao i hi
 ·show (zs' i).l ≠ []->(zs' j).l ≠ []->_;rw[e i hi,e j hj];exact a.Aul i j hi hj
 ·rintro i (y|y|⟨k,hk,y⟩)
  ·exact b i (.inl y)
  ·exact b i (.inr (.inl y))
  ·refine b i (.inr (.inr ⟨k,hk,?_⟩))
   have y:i=z k\/(zs' k).l ≠ []/\i=q k:=y
   rw[e k hk]at y
   exact y
theorem Za.Ao {h h':Aa}{V zl:Nat}{z:Nat->Nat}{D:Dv}{F:Nat->Prop}(d:Za h V zl z D F){q:Nat->Nat}(a:Jy h V zl D.n z q D.size D.op D.cnt D.down D.zs)(b:∀ i,Apr V zl D.n z q D.zs i->F i)(hb:HB h){i:Nat}(hi:i<D.n){q':Nat}{Z:Zn}
 (zw:Z.Wf D.size) (zz:Dg h' (z i) q' D.size Z) (c:A0 (fun j=>j=z i\/((D.zs i).l ≠ []/\j=q i)) h h') (hb':HB h') (hq:Z.l ≠ []->h.next<=q'\/(q'=q i/\(D.zs i).l ≠ [])) :
 Za h' V zl z (D.set i Z) (A6 F h h')/\A0 F h h':=by
 have hF:∀ j,(j=z i\/((D.zs i).l ≠ []/\j=q i))->F j:=by
  rintro j (y|⟨y1,y2⟩)
  ·exact b j (.inr (.inr ⟨i,hi,.inl y⟩))
  ·exact b j (.inr (.inr ⟨i,hi,.inr ⟨y1,y2⟩⟩))
 refine⟨⟨d.wf.set zw,A6.lt d.lt c.next,_,a.A0f hb hi zz c hq,?_⟩,c.mono hF⟩
 rintro j (y|y|⟨d,hd,y⟩)
 ·exact .inl (b j (.inl y))
 ·exact .inl (b j (.inr (.inl y)))
 ·rcases y with y|⟨y1,y2⟩
  ·exact .inl (b j (.inr (.inr ⟨d,hd,.inl y⟩)))
  ·by_cases hdi:d=i
   ·subst hdi
    simp only[Dv.set,Jo,Aqp,if_true]at y1 y2
    subst y2
    rcases hq y1 with y|⟨y3,y4⟩
    ·obtain⟨s,_,r⟩:=zz.Ao
     exact .inr ⟨y,hb' _ _ (r.block (Ah8.1 y1))⟩
    ·rw[y3];exact .inl (hF _ (.inr ⟨y4,rfl⟩))
   ·simp only[Dv.set,Jo,Aqp,hdi,if_false]at y1 y2
    exact .inl (b j (.inr (.inr ⟨d,hd,.inr ⟨y1,y2⟩⟩)))
def Acs(f:Nat->Zn->Zn)(zs:Nat->Zn)(i:Nat):Nat->Zn:=fun j=>if j<i then f j (zs j) else zs j
theorem Anz(f:Nat->Zn->Zn)(zs:Nat->Zn)(i:Nat):Acs f zs (i+1)=Jo (Acs f zs i) i (f i (zs i)):=by
 funext j
 unfold Acs Jo
 by_cases h1:j=i
 ·subst h1;simp
 ·by_cases h2:j<i
  ·rw[if_pos (by omega),if_neg h1];exact(if_pos h2).symm
  ·rw[if_neg (by omega),if_neg h1];exact(if_neg h2).symm
theorem Anv(f:Nat->Zn->Zn)(zs:Nat->Zn)(i:Nat):Acs f zs i i=zs i:=by unfold Acs;rw[if_neg (by omega)]
noncomputable def Dv.flush(D:Dv):Dv × Int:=if D.down=true then (D,34) else ({ D.tick with zs:=fun i=>(D.zs i).flush },0)
theorem Zn.Wf.flush {Z:Zn}{size:Nat}(w:Z.Wf size):Z.flush.Wf size:=⟨w.u8,w.st,Nat.le_refl _,w.len,w.room⟩
theorem Ays {V zl:Nat}{z:Nat->Nat}{D:Dv}{F:Nat->Prop}(h0:Aa)(hF0:∀ j,F j->j<h0.next):∀ (m i:Nat) (h:Aa),D.n-i<m->i<=D.n->HB h->A0 F h0 h->Za h V zl z { D with zs:=Acs (fun _ Z=>Z.flush) D.zs i } (A6 F h0 h) ->
 Ok (Dp K m (.slice zl 0 D.n D.n true) (I D.n) (I i) h) fun v h'=>v=I 0/\Za h' V zl z { D with zs:=Acs (fun _ Z=>Z.flush) D.zs D.n } (A6 F h0 h')/\A0 F h0 h'/\HB h':=by
 intro m
 induction m with
 | zero=>intro i h hm;omega
 | succ m ih=>
  intro i h hm hi hb c d
  have hn:=d.wf.n
  have hn:D.n<=512:=hn
  simp only[Dp,I,Af,Ab]
  by_cases hlt:(i:Int)<D.n
  ·have hin:i<D.n:=by omega
   obtain⟨q,a,b⟩:=d.O1
   obtain⟨hix,hzp⟩:=a.Avp (j:=i) hin
   simp only[hlt,decide_true,Ab,T4,hix,hzp]
   have za:=a.Ao i hin
   have wz:=d.wf.zs i hin
   simp only[Anv]at za wz
   refine(Aqc (K:=K) za hb).Aj ?_
   rintro _ h1 ⟨zz,c1,hb1⟩
   simp only[T6,I,Af]
   rw[Cq (by omega) (by omega)]
   obtain⟨d1,c1'⟩:=d.Ao a b hb hin wz.flush zz (c1.mono fun _=>.inl) hb1 (fun y=>.inr ⟨rfl,by simp only[Anv];exact y⟩)
   have c2:=c.grow c1'
   refine ih (i+1) h1 (by omega) (by omega) hb1 c2 ?_
   rw[Anz]
   exact d1.mono (fun j hj=>A6.trans c.next c1.next hj) (A6.lt hF0 c2.next)
  ·have:i=D.n:=by omega
   subst this
   simp only[hlt,decide_false,Ab,Ox]
   exact .ret ⟨rfl,d,c,hb⟩
theorem Ar4 {h:Aa}{V:Nat}{D:Dv}{F:Nat->Prop}(d:Gw h V D F)(hb:HB h)(hK:1000<K):
 Ok (N8 K (.ptr V 0) h) fun v h'=>v=I D.flush.2/\Gw h' V D.flush.1 (A6 F h h')/\A0 F h h'/\HB h':=by
 obtain⟨w,wl,zl,z,q,a,b⟩:=d
 have hn:=w.n
 unfold Dv.flush
 simp only[N8,Ab,B8 a.dev rfl]
 cases hd:D.down with
 | true=>
  simp only[Ab,if_true]
  exact .ret ⟨rfl,Gw.grow ⟨w,wl,zl,z,q,a,b⟩ wl (Nat.le_refl _),A0.refl _,hb⟩
 | false=>
  simp only[Ab,Bool.false_eq_true,if_false,Uh,B8 a.dev rfl,I,Af]
  have lV:=hb _ _ a.dev
  refine Ok.st1 a.dev rfl rfl (by show 3<5;decide) ?_
  have c1:A0 F h (h.put V (.cells ([EV.slice zl 0 D.n D.n true,I D.size,I D.op,I D.cnt,.bool D.down].set 3 (.int .i64 (Cv .i64 (D.cnt+1)))) 183)):=(A0.refl h).Az (.inl (b _ (.inl rfl))) lV _
  have hb1:HB (h.put V (.cells ([EV.slice zl 0 D.n D.n true,I D.size,I D.op,I D.cnt,.bool D.down].set 3 (.int .i64 (Cv .i64 (D.cnt+1)))) 183)):=hb.put lV _
  have d1:Za (h.put V (.cells ([EV.slice zl 0 D.n D.n true,I D.size,I D.op,I D.cnt,.bool D.down].set 3 (.int .i64 (Cv .i64 (D.cnt+1)))) 183)) V zl z D.tick F:=⟨⟨w.size,w.n,w.zs⟩,wl,q,a.At0 (Cv .i64 (D.cnt+1)) D.down,b⟩
  generalize h.put V (.cells ([EV.slice zl 0 D.n D.n true,I D.size,I D.op,I D.cnt,.bool D.down].set 3 (.int .i64 (Cv .i64 (D.cnt+1)))) 183)=h1 at c1 hb1 d1 ⊢
  obtain⟨q1,a1,b1⟩:=d1.O1
  rw[B8 a1.dev rfl]
  simp only[Ab]
  have:=Ays (K:=K) (D:=D.tick) (F:=F) h wl K 0 h1 (by show D.n-0<K;omega) (Nat.zero_le _) hb1 c1 (Za.congr (d1.mono (fun _=>.inl) (A6.lt wl c1.next)) (fun i _=>by unfold Acs;rw[if_neg (Nat.not_lt_zero _)]))
  refine this.mono ?_
  rintro v h2 ⟨rfl,d2,c2,hb2⟩
  refine⟨rfl,?_,c2,hb2⟩
  exact(d2.congr (zs':=fun i=>(D.zs i).flush) fun i hi=>(if_pos hi).symm).s
structure Afx(h:Aa)(v:EV)(b:Nat)(l:List Int):Prop where
 row:(v=.Ag/\l = [])\/∃ off r op,v=.slice b off l.length r op/\∀ j (hj:j<l.length) (k:EV->R),Al (.ptr b (off+j)) h k=k (I l[j])
theorem Afx.frame {h h':Aa}{v:EV}{b:Nat}{l:List Int}(r:Afx h v b l)(e:h'.get b=h.get b):Afx h' v b l:=by
 rcases r.row with y|⟨off,r',op,rfl,y⟩
 ·exact⟨.inl y⟩
 ·refine⟨.inr ⟨off,r',op,rfl,fun j hj k=>?_⟩⟩
  have:=y j hj k
  show oB _ (Agt (h'.get b) _ 1)=_
  rw[e];exact this
def Nd(l:List Int)(i:Nat):Int:=(l[i]?).getD 0
noncomputable def Dv.Abi(D:Dv)(l:List Int):Dv:=if D.down=true then { D with down:=false,zs:=fun i=>(D.zs i).Ul D.size (Nd l i) } else D
theorem Zn.Wf.Ul {Z:Zn}{size:Nat}(w:Z.Wf size)(keep:Int):(Z.Ul size keep).Wf size:=by
 have h1:=w.safe
 have h2:=w.len
 have h3:=w.st
 have hle:Z.left keep<=Z.l.length:=by unfold Zn.left;omega
 refine⟨fun x hx=>w.u8 x (List.mem_of_mem_take hx),?_,?_,?_,?_⟩ <;> try simp only[Zn.Ul,List.length_take,Nat.min_eq_left hle]
 ·split
  ·exact h3
  ·split
   ·omega
   ·split <;> omega
 ·omega
 ·omega
 ·split
  ·omega
  ·split
   ·omega
   ·rename_i hc
    intro _
    have:¬ Z.left keep=size:=fun y=>hc (.inr y)
    omega
theorem At8 {V zl:Nat}{z:Nat->Nat}{D:Dv}{F:Nat->Prop}(h0:Aa)(hF0:∀ j,F j->j<h0.next){kv:EV}{kb:Nat}{l:List Int}(hkb:kb<h0.next)(hkF:¬ F kb):∀ (m i:Nat) (h:Aa),D.n-i<m->i<=D.n->HB h->A0 F h0 h->Afx h kv kb l->Za h V zl z { D with zs:=Acs (fun j Z=>Z.Ul D.size (Nd l j)) D.zs i } (A6 F h0 h) ->
 Ok (Ct K m (.ptr V 0) kv (.slice zl 0 D.n D.n true) (I D.n) (I i) h) fun v h'=>v=.tuple []/\Za h' V zl z { D with down:=false,zs:=Acs (fun j Z=>Z.Ul D.size (Nd l j)) D.zs D.n } (A6 F h0 h')/\A0 F h0 h'/\HB h':=by
 intro m
 induction m with
 | zero=>intro i h hm;omega
 | succ m ih=>
  intro i h hm hi hb c hk d
  have hn:D.n<=512:=d.wf.n
  have hs:D.size<=64:=d.wf.size
  simp only[Ct,I,Af,Ab]
  obtain⟨q,a,b⟩:=d.O1
  by_cases hlt:(i:Int)<D.n
  ·have hin:i<D.n:=by omega
   obtain⟨hix,hzp⟩:=a.Avp (j:=i) hin
   simp only[hlt,decide_true,Ab,St,hix,hzp]
   have za:=a.Ao i hin
   have wz:=d.wf.zs i hin
   simp only[Anv]at za wz
   have step:Ok (J4 K (Ct K m) (.ptr V 0) kv (.ptr (z i) 0) (I (Nd l i)) (.slice zl 0 D.n D.n true) (I D.n) (I i) h) fun v h'=>v=.tuple []/\Za h' V zl z { D with down:=false,zs:=Acs (fun j Z=>Z.Ul D.size (Nd l j)) D.zs D.n } (A6 F h0 h')/\A0 F h0 h'/\HB h':=by
    simp only[J4]
    refine(Ap7 (K:=K) (size:=D.size) za hb wz.safe (Nat.le_trans wz.len hs) (Nd l i)).Aj ?_
    rintro _ h1 ⟨⟨q',zz,hq'⟩,c1,hb1⟩
    simp only[Sq,I,Af]
    rw[Cq (by omega) (by omega)]
    obtain⟨d1,c1'⟩:=d.Ao a b hb hin (wz.Ul (Nd l i)) zz (c1.mono fun _=>.inl) hb1 (fun y=>.inl (hq' y))
    have c2:=c.grow c1'
    refine ih (i+1) h1 (by omega) (by omega) hb1 c2 (hk.frame (c1'.get _ (Nat.lt_of_lt_of_le hkb c.next) ?_)) ?_
    ·rintro(y|y)
     ·exact hkF y
     ·omega
    ·rw[Anz]
     exact d1.mono (fun j hj=>A6.trans c.next c1.next hj) (A6.lt hF0 c2.next)
   rcases hk.row with ⟨rfl,rfl⟩|⟨off,r',op,rfl,hr⟩
   ·have:¬ (i:Int)<0:=by omega
    simp only[Ab,Af,this,decide_false]
    exact step
   ·simp only[Ab,Af]
    by_cases hil:i<l.length
    ·rw[show decide ((i:Int)<(l.length:Int))=true from decide_eq_true (by omega)]
     simp only[Ab]
     rw[Zw hil,Nat.mul_one,hr i hil]
     have:Nd l i=l[i]:=by unfold Nd;rw[List.getElem?_eq_getElem hil];rfl
     rw[this]at step
     exact step
    ·rw[show decide ((i:Int)<(l.length:Int))=false from decide_eq_false (by omega)]
     simp only[Ab]
     have:Nd l i=0:=by unfold Nd;rw[List.getElem?_eq_none (by omega)];rfl
     rw[this]at step
     exact step
  ·have:i=D.n:=by omega
   subst this
   simp only[hlt,decide_false,Ab,Nx]
   have lV:=hb _ _ a.dev
   refine Ok.st1 a.dev rfl rfl (by show 4<5;decide) ?_
   have c1:A0 F h0 (h.put V (.cells ([EV.slice zl 0 D.n D.n true,I D.size,I D.op,I D.cnt,.bool D.down].set 4 (.bool false)) 183)):=c.grow ((A0.refl h).Az (.inl (b _ (.inl rfl))) lV _)
   exact .ret ⟨rfl,⟨⟨d.wf.size,d.wf.n,d.wf.zs⟩,d.lt,q,a.At0 D.cnt false,b⟩,c1,hb.put lV _⟩
theorem Ap3 {h:Aa}{V:Nat}{D:Dv}{F:Nat->Prop}(d:Gw h V D F)(hb:HB h)(hK:1000<K){kv:EV}{kb:Nat}{l:List Int}(hkb:kb<h.next)(hkF:¬ F kb)(hk:Afx h kv kb l):
 Ok (Jw K (.ptr V 0) kv h) fun v h'=>v=.tuple []/\Gw h' V (D.Abi l) (A6 F h h')/\A0 F h h'/\HB h':=by
 obtain⟨w,wl,zl,z,q,a,b⟩:=d
 have hn:=w.n
 unfold Dv.Abi
 simp only[Jw,Ab,B8 a.dev rfl]
 cases hd:D.down with
 | false=>
  simp only[Ab,Bool.false_eq_true,if_false]
  exact .ret ⟨rfl,Gw.grow ⟨w,wl,zl,z,q,a,b⟩ wl (Nat.le_refl _),A0.refl _,hb⟩
 | true=>
  simp only[Ab,if_true,Sp,B8 a.dev rfl]
  have d1:Za h V zl z D F:=⟨w,wl,q,a,b⟩
  have:=At8 (K:=K) (D:=D) (F:=F) h wl hkb hkF (l:=l) K 0 h (by omega) (Nat.zero_le _) hb (A0.refl _) hk (Za.congr (d1.mono (fun _=>.inl) (A6.lt wl (Nat.le_refl _))) (fun i _=>by unfold Acs;rw[if_neg (Nat.not_lt_zero _)]))
  refine this.mono ?_
  rintro v h2 ⟨rfl,d2,c2,hb2⟩
  refine⟨rfl,?_,c2,hb2⟩
  exact(d2.congr (zs':=fun i=>(D.zs i).Ul D.size (Nd l i)) fun i hi=>(if_pos hi).symm).s
def Dv.fail(D:Dv)(i:Int)(st:Nat):Dv:=if D.has i=true then D.set i.toNat ((D.zs i.toNat).fail st) else D
theorem Zn.Wf.fail {Z:Zn}{size:Nat}(w:Z.Wf size)(st:Nat):(Z.fail st).Wf size:=by
 unfold Zn.fail
 split
 ·exact⟨w.u8,by show st<=4;omega,w.safe,w.len,fun y=>absurd y (by show ¬ st<2;omega)⟩
 ·exact w
theorem Avn {h:Aa}{V:Nat}{D:Dv}{F:Nat->Prop}(d:Gw h V D F)(hb:HB h)(i:Int)(st:Nat):
 Ok (Jq K (.ptr V 0) (I i) (I st) h) fun v h'=>Gw h' V (D.fail i st) (A6 F h h')/\A0 F h h'/\HB h':=by
 simp only[Jq,Acr d,Ab]
 unfold Dv.fail
 cases hh:D.has i with
 | false=>
  simp only[Ab,Bool.false_eq_true,if_false]
  exact .ret ⟨d.grow d.lt (Nat.le_refl _),A0.refl _,hb⟩
 | true=>
  have:=of_decide_eq_true hh
  obtain⟨j,rfl⟩:∃ j:Nat,i=j:=⟨i.toNat,by omega⟩
  have hj:j<D.n:=by omega
  obtain⟨zl,z,q,a,b⟩:=d.O1
  obtain⟨hix,hzp⟩:=a.Avp (j:=j) hj
  simp only[Ab,if_true,Vk,a.list]
  unfold I
  rw[hix,hzp]
  refine(Atb (K:=K) (a.Ao j hj) hb st).Aj ?_
  rintro _ h3 ⟨zz,c3,hb3⟩
  obtain⟨d3,c23⟩:=Gw.Ao d.wf a b d.lt hb hj ((d.wf.zs j hj).fail st) zz (c3.mono fun _=>.inl) hb3 (fun y=>.inr ⟨rfl,by
   unfold Zn.fail at y;split at y <;> exact y⟩)
  exact .ret ⟨d3,c23,hb3⟩
end Go.Ev

namespace Go.Ev
open Go.Proofs
set_option maxRecDepth 100000
variable {K:Nat}
def kp(a b:Int):EV:=.agg [I a,I b]
def Aa9(ms:List (EV × EV)):Prop:=∀ e ∈ ms,∃ a b p n,e=(kp a b,.agg (p++[I n]))/\U8 p/\p.length=64
theorem Amh(a b:Int):Acz (I a) (I b)=some (decide (a=b)):=by
 show As (Nat.beq (Mz .i64) (Mz .i64)) (some (eqB a b)) none=_
 rw[Nat.beq_refl,Ak,Y9]
theorem A4u(a b c d:Int):Ail (kp a b) (kp c d)=some (decide (a=c/\b=d)):=by
 show Fk [I a,I b] [I c,I d]=_
 unfold Fk
 rw[Amh]
 by_cases h1:a=c
 ·rw[decide_eq_true h1]
  simp only[Fk,Amh]
  by_cases h2:b=d
  ·rw[decide_eq_true h2,decide_eq_true ⟨h1,h2⟩]
  ·rw[decide_eq_false h2,decide_eq_false fun y=>h2 y.2]
 ·rw[decide_eq_false h1,decide_eq_false fun y=>h1 y.1]
  simp only[Fk,Amh]
  by_cases h2:b=d
  ·rw[decide_eq_true h2]
  ·rw[decide_eq_false h2]
theorem Abz(a b:Int):∀ (ms:List (EV × EV)) (i:Nat),Aa9 ms->He (kp a b) ms i=some none\/∃ j p n,He (kp a b) ms i=some (some (j,.agg (p++[I n])))/\U8 p/\p.length=64
 | [],i,_=>.inl rfl
 | (x,y)::r,i,hm=>by
  obtain⟨a',b',p,n,e,hp,hl⟩:=hm _ (List.mem_cons_self ..)
  cases e
  have ih:=Abz a b r (Nat.succ i) fun e he=>hm e (List.mem_cons_of_mem _ he)
  unfold He
  rw[A4u]
  by_cases hc:a=a'/\b=b'
  ·rw[decide_eq_true hc];exact .inr ⟨i,p,n,rfl,hp,hl⟩
  ·rw[decide_eq_false hc];exact ih
theorem Ah0(a b:Int):K9 TT 243 (kp a b)=true:=by
 have h1:TT.key 243=true:=by kernel_rfl
 have h2:TT.eqs 243=some [0,0]:=by kernel_rfl
 unfold K9 kp
 simp only[h1,h2,Ak]
 rw[show shaped [0,0] [I a,I b]=true from rfl,Ak]
 simp only[Fk,Amh,decide_true]
theorem Aq4 {h:Aa}{M:Nat}{ms:List (EV × EV)}(hg:h.get M=some (.map ms))(hm:Aa9 ms)(a b:Int):∃ ms',builtin TT .delete #[164,243] [.map M,kp a b] h=some (.tuple [],h.put M (.map ms'))/\Aa9 ms':=by
 have hu:TT.Iy 164=some (.map 243 320):=by kernel_rfl
 have e:builtin TT .delete #[164,243] [.map M,kp a b] h=As (K9 TT 243 (kp a b)) (match h.get M with
  | some (.map es)=>match He (kp a b) es 0 with
   | some (some (j,_))=>some (.tuple [],h.put M (.map (es.eraseIdx j)))
   | some none=>some (.tuple [],h.put M (.map es))
   | none=>none
  | _=>none) none:=by
  unfold builtin
  simp only[hu]
  rfl
 rw[e,Ah0,Ak,hg]
 rcases Abz a b ms 0 hm with y|⟨j,p,n,y,_⟩
 ·simp only[y];exact⟨ms,rfl,hm⟩
 ·simp only[y];exact⟨_,rfl,fun e he=>hm e (List.mem_of_mem_eraseIdx he)⟩
theorem A0t {h:Aa}{M:Nat}{ms:List (EV × EV)}(hg:h.get M=some (.map ms))(hm:Aa9 ms)(a b:Int):∃ p n,Ai9 TT 243 320 false (.map M) (kp a b) h=some (.agg (p++[I n]),h)/\U8 p/\p.length=64:=by
 have e:Ai9 TT 243 320 false (.map M) (kp a b) h=As (K9 TT 243 (kp a b)) (match h.get M with
  | some (.map es)=>match He (kp a b) es 0 with
   | some (some (_,v))=>some (v,h)
   | some none=>oB (fun zv=>some (zv,h)) (zeroOf TT 320)
   | none=>none
  | _=>none) none:=rfl
 have hz:zeroOf TT 320=some (.agg (P7++[I 0])):=by kernel_rfl
 rw[e,Ah0,Ak,hg]
 rcases Abz a b ms 0 hm with y|⟨j,p,n,y,hp,hl⟩
 ·simp only[y,hz];exact⟨P7,0,rfl,U8.zs,I3⟩
 ·simp only[y];exact⟨p,n,rfl,hp,hl⟩
theorem Asu {h:Aa}{M:Nat}{ms:List (EV × EV)}(hg:h.get M=some (.map ms))(hm:Aa9 ms)(a b:Int){p:List EV}{n:Int}(hp:U8 p)(hl:p.length=64):∃ ms',W6 TT 243 (.map M) (kp a b) (.agg (p++[I n])) h=some (.tuple [],h.put M (.map ms'))/\Aa9 ms':=by
 have e:W6 TT 243 (.map M) (kp a b) (.agg (p++[I n])) h=As (K9 TT 243 (kp a b)) (match h.get M with
  | some (.map es)=>match He (kp a b) es 0 with
   | some (some (j,_))=>some (.tuple [],h.put M (.map (es.set j (kp a b,.agg (p++[I n])))))
   | some none=>some (.tuple [],h.put M (.map (es++[(kp a b,.agg (p++[I n]))])))
   | none=>none
  | _=>none) none:=rfl
 rw[e,Ah0,Ak,hg]
 rcases Abz a b ms 0 hm with y|⟨j,p',n',y,_⟩
 ·simp only[y]
  refine⟨_,rfl,fun e he=>?_⟩
  rcases List.mem_append.1 he with he|he
  ·exact hm e he
  ·rw[List.mem_singleton.1 he];exact⟨a,b,p,n,rfl,hp,hl⟩
 ·simp only[y]
  refine⟨_,rfl,fun e he=>?_⟩
  rcases List.mem_or_eq_of_mem_set he with he|he
  ·exact hm e he
  ·rw[he];exact⟨a,b,p,n,rfl,hp,hl⟩
structure X6 where
 O1:Int
 kind:Int
 Ao:Int
 off:Int
 pat:List EV
def X6.cells(e:X6):List EV:=[I e.O1,I e.kind,I e.Ao,I e.off]++e.pat
structure X6.Wf(e:X6):Prop where
 u8:U8 e.pat
 len:e.pat.length=64
structure K6 where
 dv:Dv
 ev:List X6
 Qq:List X6
def Bb8:EV->EV->EV
 | .int k x,.int _ y=>.int k (Int.ofNat (Nat.xor x.toNat y.toNat))
 | a,_=>a
def Rk(a b:List EV):List EV:=List.zipWith Bb8 a b
def Dv.Arm(D:Dv)(z off:Int)(p:List EV):Dv:=
 if D.has z=true/\0<=off/\off<(D.zs z.toNat).l.length then D.set z.toNat { D.zs z.toNat with l:=(D.zs z.toNat).l.set off.toNat (Rk (((D.zs z.toNat).l[off.toNat]?).getD P7) p) } else D
noncomputable def Dv.Rh(D:Dv)(e:X6):Dv:=
 if e.kind=1 then D.Arm e.Ao e.off e.pat else if e.kind=2 then D.fail e.Ao 3 else if e.kind=3 then D.fail e.Ao 4 else if e.kind=4 then D.Ul else D
noncomputable def Ass:List X6->Dv->List X6->K6
 | [],D,k=>⟨D,[],k⟩
 | e::r,D,k=>if D.down=true\/¬ e.O1<=D.cnt then ⟨D,e::r,k⟩ else Ass r (D.Rh e) (k++[e])
noncomputable def K6.due(S:K6):K6:=Ass S.ev S.dv S.Qq
structure K6.Wf(S:K6):Prop where
 ev:S.ev.length+S.Qq.length<=200
 wf:∀ e ∈ S.ev,e.Wf
 Xc:∀ e ∈ S.Qq,e.Wf
structure X0(h:Aa)(D V M qc qh:Nat)(cs hs:EV)(ms:List (EV × EV))(S:K6)(F G:Nat->Prop):Prop where
 C6:h.get D=some (.cells [.ptr V 0,cs,hs,.map M] 166)
 map:h.get M=some (.map ms)
 marks:Aa9 ms
 Ij:B7 h cs qc 105 68 S.ev.length (S.ev.map X6.cells).flatten
 Ahr:B7 h hs qh 105 68 S.Qq.length (S.Qq.map X6.cells).flatten
 dev:Gw h V S.dv F
 sub:(∀ i,F i->G i)/\G D/\G M/\(0<S.ev.length->G qc)/\(0<S.Qq.length->G qh)
 apart:¬ F D/\¬ F M/\(0<S.ev.length->¬ F qc)/\(0<S.Qq.length->¬ F qh)/\(0<S.ev.length->0<S.Qq.length->qc ≠ qh)
structure Ep(h:Aa)(D:Nat)(S:K6)(G:Nat->Prop):Prop where
 lt:∀ i,G i->i<h.next
 wf:S.Wf
 O1:∃ V M qc qh cs hs ms F,X0 h D V M qc qh cs hs ms S F G
theorem X0.mono {h:Aa}{D V M qc qh:Nat}{cs hs:EV}{ms:List (EV × EV)}{S:K6}{F G G':Nat->Prop}(a:X0 h D V M qc qh cs hs ms S F G)(s:∀ i,G i->G' i):X0 h D V M qc qh cs hs ms S F G':=
 ⟨a.C6,a.map,a.marks,a.Ij,a.Ahr,a.dev,⟨fun i hi=>s i (a.sub.1 i hi),s _ a.sub.2.1,s _ a.sub.2.2.1,fun y=>s _ (a.sub.2.2.2.1 y),fun y=>s _ (a.sub.2.2.2.2 y)⟩,a.apart⟩
theorem Ep.mono {h:Aa}{D:Nat}{S:K6}{G G':Nat->Prop}(d:Ep h D S G)(s:∀ i,G i->G' i)(l:∀ i,G' i->i<h.next):Ep h D S G':=by
 obtain⟨V,M,qc,qh,cs,hs,ms,F,a⟩:=d.O1
 exact⟨l,d.wf,V,M,qc,qh,cs,hs,ms,F,a.mono s⟩
theorem Ep.grow {h h':Aa}{D:Nat}{S:K6}{G:Nat->Prop}(d:Ep h' D S G)(l:∀ i,G i->i<h.next)(n:h.next<=h'.next):Ep h' D S (A6 G h h'):=d.mono (fun _=>.inl) (A6.lt l n)
theorem Ep.A8g {h h1 h2:Aa}{D:Nat}{S:K6}{G:Nat->Prop}(d:Ep h2 D S (A6 (A6 G h h1) h1 h2))(a:h.next<=h1.next)(b:h1.next<=h2.next)(l:∀ i,G i->i<h.next):Ep h2 D S (A6 G h h2):=
 d.mono (fun _=>A6.trans a b) (A6.lt l (Nat.le_trans a b))
theorem X0.frame {h h':Aa}{D V M qc qh:Nat}{cs hs:EV}{ms:List (EV × EV)}{S:K6}{F G:Nat->Prop}(a:X0 h D V M qc qh cs hs ms S F G)(n:h.next<=h'.next)(e:∀ i,G i->h'.get i=h.get i):X0 h' D V M qc qh cs hs ms S F G:=
 ⟨by rw[e _ a.sub.2.1];exact a.C6,by rw[e _ a.sub.2.2.1];exact a.map,a.marks,a.Ij.frame fun y=>e _ (a.sub.2.2.2.1 y),a.Ahr.frame fun y=>e _ (a.sub.2.2.2.2 y),a.dev.frame n fun i hi=>e i (a.sub.1 i hi),a.sub,a.apart⟩
theorem Ep.frame {h h':Aa}{D:Nat}{S:K6}{G:Nat->Prop}(d:Ep h D S G)(n:h.next<=h'.next)(e:∀ i,G i->h'.get i=h.get i):Ep h' D S G:=by
 obtain⟨V,M,qc,qh,cs,hs,ms,F,a⟩:=d.O1
 exact⟨fun i hi=>Nat.lt_of_lt_of_le (d.lt i hi) n,d.wf,V,M,qc,qh,cs,hs,ms,F,a.frame n e⟩
theorem Ep.chg {h h':Aa}{D:Nat}{S:K6}{G T:Nat->Prop}(d:Ep h D S G)(c:A0 T h h')(n:∀ i,G i->¬ T i):Ep h' D S G:=d.frame c.next fun i hi=>c.get i (d.lt i hi) (n i hi)
theorem Ep.ext {h h':Aa}{D:Nat}{S:K6}{G:Nat->Prop}(d:Ep h D S G)(c:Ext h h'):Ep h' D S G:=d.chg c fun _ _=>id
theorem X0.put {h h':Aa}{D V M qc qh:Nat}{cs hs:EV}{ms:List (EV × EV)}{S:K6}{F G:Nat->Prop}(a:X0 h D V M qc qh cs hs ms S F G)(hb:HB h){dv:Dv}(d:Gw h' V dv (A6 F h h'))(c:A0 F h h'):
 X0 h' D V M qc qh cs hs ms { S with dv:=dv } (A6 F h h') (A6 G h h'):=by
 have lq:∀ {s q n l},B7 h s q 105 68 n l->0<n->q<h.next:=fun r y=>hb _ _ (r.block y)
 have nf:∀ {i},¬ F i->i<h.next->¬ A6 F h h' i:=fun y l z=>by
  rcases z with z|z
  ·exact y z
  ·omega
 refine⟨c.at hb a.C6 a.apart.1,c.at hb a.map a.apart.2.1,a.marks,a.Ij.frame fun y=>c.get _ (lq a.Ij y) (a.apart.2.2.1 y),a.Ahr.frame fun y=>c.get _ (lq a.Ahr y) (a.apart.2.2.2.1 y),d,⟨fun i hi=>?_,.inl a.sub.2.1,.inl a.sub.2.2.1,fun y=>.inl (a.sub.2.2.2.1 y),fun y=>.inl (a.sub.2.2.2.2 y)⟩,⟨nf a.apart.1 (hb _ _ a.C6),nf a.apart.2.1 (hb _ _ a.map),fun y=>nf (a.apart.2.2.1 y) (lq a.Ij y),fun y=>nf (a.apart.2.2.2.1 y) (lq a.Ahr y),a.apart.2.2.2.2⟩⟩
 rcases hi with hi|hi
 ·exact .inl (a.sub.1 i hi)
 ·exact .inr hi
theorem Ep.put {h h':Aa}{D V M qc qh:Nat}{cs hs:EV}{ms:List (EV × EV)}{S:K6}{F G:Nat->Prop}(s:Ep h D S G)(a:X0 h D V M qc qh cs hs ms S F G)(hb:HB h){dv:Dv}(d:Gw h' V dv (A6 F h h'))(c:A0 F h h'):
 Ep h' D { S with dv:=dv } (A6 G h h')/\A0 G h h':=
 ⟨⟨A6.lt s.lt c.next,⟨s.wf.ev,s.wf.wf,s.wf.Xc⟩,V,M,qc,qh,cs,hs,ms,_,a.put hb d c⟩,c.mono a.sub.1⟩
theorem X0.A5g {h:Aa}{D V M qc qh:Nat}{cs hs:EV}{ms ms':List (EV × EV)}{S:K6}{F G:Nat->Prop}(a:X0 h D V M qc qh cs hs ms S F G)(hm:Aa9 ms'):
 X0 (h.put M (.map ms')) D V M qc qh cs hs ms' S F G:=by
 refine⟨?_,Ah _ _ _,hm,a.Ij.frame fun y=>Aq _ ?_,a.Ahr.frame fun y=>Aq _ ?_,a.dev.frame (Nat.le_refl _) fun i hi=>Aq _ fun y=>?_,a.sub,a.apart⟩
 ·rw[Aq _ (Bo a.map a.C6 (by simp))];exact a.C6
 ·exact Bo a.map (a.Ij.block y) (by simp)
 ·exact Bo a.map (a.Ahr.block y) (by simp)
 ·rw[<-y]at hi;exact a.apart.2.1 hi
theorem Ep.A5g {h:Aa}{D V M qc qh:Nat}{cs hs:EV}{ms ms':List (EV × EV)}{S:K6}{F G:Nat->Prop}(s:Ep h D S G)(a:X0 h D V M qc qh cs hs ms S F G)(hb:HB h)(hm:Aa9 ms'):
 Ep (h.put M (.map ms')) D S G/\A0 G h (h.put M (.map ms'))/\HB (h.put M (.map ms')):=by
 have lM:=hb _ _ a.map
 exact⟨⟨s.lt,s.wf,V,M,qc,qh,cs,hs,ms',F,a.A5g hm⟩,(A0.refl h).Az (.inl a.sub.2.2.1) lM _,hb.put lM _⟩
theorem Apz {h:Aa}{D V M qc qh:Nat}{cs hs:EV}{ms:List (EV × EV)}{S:K6}{F G:Nat->Prop}(a:X0 h D V M qc qh cs hs ms S F G):Di K (.ptr D 0) h=some (.ptr V 0,h):=by simp only[Di,Ab,B8 a.C6 rfl]
def A8a(disp:Nat->Option FT)(K d:Nat)(S:K6):Prop:=∀ (h:Aa) (D:Nat) (G:Nat->Prop),Ep h D S G->HB h->Ok (Ae TT disp K d false 118 [.ptr D 0] h) fun v h'=>Ep h' D S.due (A6 G h h')/\A0 G h h'/\HB h'
end Go.Ev

namespace Go.Ev
open Go.Proofs
set_option maxRecDepth 100000
variable {K:Nat}{disp:Nat->Option FT}
noncomputable def K6.begin(S:K6)(i:Int):K6:=if S.dv.has i=true then S.due else S
def Awz(disp:Nat->Option FT)(K:Nat)(S:K6):Prop:=∀ d,12<=d->A8a disp K d S
theorem Aco(H:Aw disp){d:Nat}(hd:13<=d){h:Aa}{D:Nat}{S:K6}{G:Nat->Prop}(hdue:Awz disp K S)(s:Ep h D S G)(hb:HB h)(i:Int):
 Ok (Ae TT disp K d false 179 [.ptr D 0,I i] h) fun v h'=>Ep h' D (S.begin i) (A6 G h h')/\A0 G h h'/\HB h':=by
 obtain⟨e,rfl⟩:∃ k,d=k+1:=⟨d-1,by omega⟩
 rw[Afb H (by omega)]
 obtain⟨V,M,qc,qh,cs,hs',ms,F,a⟩:=s.O1
 obtain⟨zl,z,q,b,_⟩:=a.dev.O1
 have fin:Ok (some (.tuple [],h)) fun(_:EV) h'=>Ep h' D S (A6 G h h')/\A0 G h h'/\HB h':=.ret ⟨s.grow s.lt (Nat.le_refl _),A0.refl _,hb⟩
 unfold K6.begin
 simp only[Aas,I,Af,Ab]
 by_cases h0:0<=i
 ·have hz:=Ab0 (K:=K) b
  simp only[I]at hz
  simp only[h0,decide_true,Ab,B8 a.C6 rfl,hz,Af,Lf]
  by_cases h1:i<S.dv.n
  ·have hh:S.dv.has i=true:=decide_eq_true ⟨h0,h1⟩
   simp only[h1,decide_true,Ab]
   rw[hh,if_pos rfl]
   refine(hdue e (by omega) h D G s hb).Aj ?_
   intro v h' p
   exact .ret p
  ·have hh:S.dv.has i=false:=decide_eq_false fun y=>h1 y.2
   simp only[h1,decide_false,Ab]
   rw[hh,if_neg (by simp)]
   exact fin
 ·have hh:S.dv.has i=false:=decide_eq_false fun y=>h0 y.1
  simp only[h0,decide_false,Ab,Lf]
  rw[hh,if_neg (by simp)]
  exact fin
noncomputable def K6.append(S:K6)(i:Int)(x:List EV):K6 × Int × Int:=({ S.begin i with dv:=((S.begin i).dv.append i x).1 },((S.begin i).dv.append i x).2)
theorem Ap4(H:Aw disp)(hK:1000<K){d:Nat}(hd:14<=d){h:Aa}{D:Nat}{S:K6}{G:Nat->Prop}(hdue:Awz disp K S)(s:Ep h D S G)(hb:HB h)(i:Int){x:List EV}(hx:x.length=64)(hu:U8 x):
 Ok (Ae TT disp K d false 164 [.ptr D 0,I i,.agg x] h) fun v h'=>v=.tuple [I (S.append i x).2.1,I (S.append i x).2.2]/\Ep h' D (S.append i x).1 (A6 G h h')/\A0 G h h'/\HB h':=by
 obtain⟨e,rfl⟩:∃ k,d=k+1:=⟨d-1,by omega⟩
 rw[Ads H (by omega)]
 simp only[Yx,Ab]
 have x1:Ext h (h.new (.cells x 103)):=A0.new _ _
 have g5:(h.new (.cells x 103)).get h.next=some (.cells x 103):=Ac _ _
 have hb1:HB (h.new (.cells x 103)):=hb.new _
 have s1:=s.ext x1
 have n1:(h.new (.cells x 103)).next=h.next+1:=rfl
 generalize h.new (.cells x 103)=h1 at x1 g5 hb1 s1 n1 ⊢
 refine(Aco (K:=K) H (by omega) hdue s1 hb1 i).Aj ?_
 rintro _ h2 ⟨s2,c2,hb2⟩
 have nx:¬ G h.next:=fun y=>Nat.lt_irrefl _ (s.lt _ y)
 have g5:=c2.at hb1 g5 nx
 have c02:A0 G h h2:=(Ext.to x1).trans c2
 have s2:Ep h2 D (S.begin i) (A6 G h1 h2):=s2
 unfold K6.append
 generalize S.begin i=T at s2 ⊢
 obtain⟨V,M,qc,qh,cs,hs',ms,F,a⟩:=s2.O1
 have lD:=hb2 _ _ a.C6
 have l5:=hb2 _ _ g5
 simp only[Ab,Bg,Au lD,B8 a.C6 rfl,Au l5,C0 g5 rfl,Av hx]
 refine Ok.Ake (S:=F) (by kernel_rfl) (by kernel_rfl) (fun _=>by kernel_rfl) (Aps (K:=K) a.dev.lift (D6 hb2) hK i hx hu) (fun _ _ p=>p.2.2.1) ?_
 rintro _ h3 h4 s' ⟨rfl,d3,_,hb3⟩ sm c4 _
 have hb4:=sm.hb hb3
 have d4:Gw h4 V (T.dv.append i x).1 (A6 F h2 h4):=by
  have:=d3.frame (h':=h4) (by rw[sm.next];exact Nat.le_refl _) fun j _=>sm.get j
  refine this.mono (fun j hj=>?_) (A6.lt a.dev.lt c4.next)
  rcases hj with y|y
  ·exact .inl y
  ·exact .inr ⟨y.1,by rw[sm.next];exact y.2⟩
 have a4:=a.put hb2 d4 c4
 obtain⟨s4,c24⟩:=s2.put a hb2 d4 c4
 have cc:A0 G h h4:=by
  refine c02.then c24 fun j hj hl=>?_
  rcases hj with y|y
  ·exact y
  ·have:=x1.next;omega
 have s4:Ep h4 D { T with dv:=(T.dv.append i x).1 } (A6 G h h4):=s4.mono (fun j hj=>by
  rcases hj with (y|y)|y
  ·exact .inl y
  ·have:=x1.next;have:=c24.next;exact .inr ⟨by omega,by omega⟩
  ·have:=c02.next;exact .inr ⟨by omega,y.2⟩) (A6.lt s.lt cc.next)
 simp only[Ab,I,Af]
 by_cases hz:(T.dv.append i x).2.2=0
 ·simp only[hz,decide_true,Ab,B8 a4.C6 rfl]
  rw[Bi (l:=[I i,I (T.dv.append i x).2.1]) rfl]
  obtain⟨ms',e1,hm'⟩:=Aq4 a4.map a4.marks i (T.dv.append i x).2.1
  unfold kp at e1
  rw[e1,A9]
  simp only[Ks]
  obtain⟨V',M',qc',qh',cs',hs'',ms'',F',a5⟩:=s4.O1
  have lM:=hb4 _ _ a4.map
  have a6:=a4.A5g hm'
  have gM:A6 G h h4 M:=by
   rcases a.sub.2.2.1 with y|y
   ·exact .inl y
   ·have:=x1.next;have:=c24.next;exact .inr ⟨by omega,by omega⟩
  have c5:A0 (A6 G h h4) h4 (h4.put M (.map ms')):=(A0.refl h4).Az (.inl gM) lM _
  refine .ret ⟨rfl,⟨A6.lt s.lt (cc.grow c5).next,s4.wf,V,M,qc,qh,cs,hs',ms',_,a6.mono fun j hj=>?_⟩,cc.grow c5,hb4.put lM _⟩
  show A6 G h h4 j
  rcases hj with (y|y)|y
  ·exact .inl y
  ·have:=x1.next;have:=c24.next;exact .inr ⟨by omega,by omega⟩
  ·have:=c02.next;exact .inr ⟨by omega,y.2⟩
 ·simp only[hz,decide_false,Ab,Ks]
  exact .ret ⟨rfl,s4,cc,hb4⟩
noncomputable def K6.read(S:K6)(i off:Int):K6 × List EV × Int:=({ S.begin i with dv:=(S.begin i).dv.begin i },(S.begin i).dv.read i off)
theorem Aui(H:Aw disp){d:Nat}(hd:14<=d){h:Aa}{D:Nat}{S:K6}{G:Nat->Prop}(hdue:Awz disp K S)(s:Ep h D S G)(hb:HB h)(i off:Int):
 Ok (Ae TT disp K d false 133 [.ptr D 0,I i,I off] h) fun v h'=>v=.tuple [.agg (S.read i off).2.1,I (S.read i off).2.2]/\(S.read i off).2.1.length=64/\Ep h' D (S.read i off).1 (A6 G h h')/\A0 G h h'/\HB h':=by
 obtain⟨e,rfl⟩:∃ k,d=k+1:=⟨d-1,by omega⟩
 rw[Af3 H (by omega)]
 simp only[Ac4,Ab]
 have x1:Ext h (h.new (.cells (List.replicate 64 (.int .u8 0)) 103)):=A0.new _ _
 have g6:(h.new (.cells (List.replicate 64 (.int .u8 0)) 103)).get h.next=some (.cells P7 103):=Ac _ _
 have hb1:HB (h.new (.cells (List.replicate 64 (.int .u8 0)) 103)):=hb.new _
 have s1:=s.ext x1
 generalize h.new (.cells (List.replicate 64 (.int .u8 0)) 103)=h1 at x1 g6 hb1 s1 ⊢
 refine(Aco (K:=K) H (by omega) hdue s1 hb1 i).Aj ?_
 rintro _ h2 ⟨s2,c2,hb2⟩
 have nx:¬ G h.next:=fun y=>Nat.lt_irrefl _ (s.lt _ y)
 have g6:=c2.at hb1 g6 nx
 have l6:h.next<h1.next:=by
  have:=hb2 _ _ g6
  rcases Nat.lt_or_ge h.next h1.next with y|y
  ·exact y
  ·exact absurd (hb1 _ _ (show h1.get h.next=some (.cells P7 103) by assumption)) (by omega)
 have c02:A0 G h h2:=(Ext.to x1).trans c2
 unfold K6.read
 generalize S.begin i=T at s2 ⊢
 obtain⟨V,M,qc,qh,cs,hs',ms,F,a⟩:=s2.O1
 simp only[Ab,B8 a.C6 rfl]
 refine(Avx (K:=K) a.dev hb2 i off).Aj ?_
 rintro _ h3 ⟨rfl,hlen,d3,c3,hb3⟩
 obtain⟨s3,c23⟩:=s2.put a hb2 d3 c3
 have nG:¬ A6 G h1 h2 h.next:=by
  rintro(y|y)
  ·exact nx y
  ·omega
 have g6:=c23.at hb2 g6 nG
 have lt6:=hb3 _ _ g6
 simp only[Ab]
 refine Ok.st (T.dv.read i off).1 g6 rfl (by rw[show EV.cells (.agg (T.dv.read i off).1)=(T.dv.read i off).1 from rfl,Bf,hlen]) (Bb (by rw[I3];exact hlen.symm)) ?_
 rw[Ix (Ah _ _ _) Acx.1 Acx.2 hlen]
 have cc:A0 G h h3:=by
  refine c02.then c23 fun j hj hl=>?_
  rcases hj with y|y
  ·exact y
  ·have:=x1.next;omega
 have c4:A0 G h (h3.put h.next (.cells (T.dv.read i off).1 103)):=cc.Az (.inr (Nat.le_refl _)) lt6 _
 refine .ret ⟨rfl,hlen,?_,c4,hb3.put lt6 _⟩
 refine Ep.mono (s3.frame (h':=h3.put h.next (.cells (T.dv.read i off).1 103)) (Nat.le_refl _) fun j hj=>Aq _ fun y=>?_) (fun j hj=>?_) (A6.lt s.lt c4.next)
 ·subst y
  rcases hj with y|y
  ·exact nG y
  ·have:=c2.next;omega
 ·show A6 G h h3 j
  rcases hj with (y|y)|y
  ·exact .inl y
  ·have:=x1.next;have:=c23.next;exact .inr ⟨by omega,by omega⟩
  ·have:=c02.next;exact .inr ⟨by omega,y.2⟩
noncomputable def K6.flush(S:K6):K6 × Int:=({ S.due with dv:=S.due.dv.flush.1 },S.due.dv.flush.2)
theorem Ar6(H:Aw disp)(hK:1000<K){d:Nat}(hd:14<=d){h:Aa}{D:Nat}{S:K6}{G:Nat->Prop}(hdue:Awz disp K S)(s:Ep h D S G)(hb:HB h):
 Ok (Ae TT disp K d false 67 [.ptr D 0] h) fun v h'=>v=I S.flush.2/\Ep h' D S.flush.1 (A6 G h h')/\A0 G h h'/\HB h':=by
 obtain⟨e,rfl⟩:∃ k,d=k+1:=⟨d-1,by omega⟩
 rw[Ae8 H (by omega)]
 simp only[Z6]
 refine(hdue e (by omega) h D G s hb).Aj ?_
 rintro _ h2 ⟨s2,c2,hb2⟩
 unfold K6.flush
 generalize S.due=T at s2 ⊢
 obtain⟨V,M,qc,qh,cs,hs',ms,F,a⟩:=s2.O1
 simp only[Ab,B8 a.C6 rfl]
 refine(Ar4 (K:=K) a.dev hb2 hK).Aj ?_
 rintro _ h3 ⟨rfl,d3,c3,hb3⟩
 obtain⟨s3,c23⟩:=s2.put a hb2 d3 c3
 exact .ret ⟨rfl,s3.A8g c2.next c23.next s.lt,c2.grow c23,hb3⟩
noncomputable def K6.finish(S:K6)(i:Int):K6 × Int:=({ S.begin i with dv:=((S.begin i).dv.finish i).1 },((S.begin i).dv.finish i).2)
theorem Ap2(H:Aw disp){d:Nat}(hd:14<=d){h:Aa}{D:Nat}{S:K6}{G:Nat->Prop}(hdue:Awz disp K S)(s:Ep h D S G)(hb:HB h)(i:Int):
 Ok (Ae TT disp K d false 165 [.ptr D 0,I i] h) fun v h'=>v=I (S.finish i).2/\Ep h' D (S.finish i).1 (A6 G h h')/\A0 G h h'/\HB h':=by
 obtain⟨e,rfl⟩:∃ k,d=k+1:=⟨d-1,by omega⟩
 rw[Ac8 H (by omega)]
 simp only[Yr]
 refine(Aco (K:=K) H (by omega) hdue s hb i).Aj ?_
 rintro _ h2 ⟨s2,c2,hb2⟩
 unfold K6.finish
 generalize S.begin i=T at s2 ⊢
 obtain⟨V,M,qc,qh,cs,hs',ms,F,a⟩:=s2.O1
 simp only[Ab,B8 a.C6 rfl]
 refine(Ap0 (K:=K) a.dev hb2 i).Aj ?_
 rintro _ h3 ⟨rfl,d3,c3,hb3⟩
 obtain⟨s3,c23⟩:=s2.put a hb2 d3 c3
 exact .ret ⟨rfl,s3.A8g c2.next c23.next s.lt,c2.grow c23,hb3⟩
end Go.Ev

namespace Go.Ev
open Go.Proofs
set_option maxRecDepth 100000
variable {K:Nat}{disp:Nat->Option FT}
theorem Au8 {D:Nat}{S:K6}{G:Nat->Prop}(z:Int):∀ (m i:Nat) (h:Aa),S.dv.size-i<m->Ep h D S G->HB h ->
 Ok (Dq K m (.ptr D 0) (I z) (I i) h) fun v h'=>Ep h' D S G/\A0 G h h'/\HB h':=by
 intro m
 induction m with
 | zero=>intro i h hm;omega
 | succ m ih=>
  intro i h hm s hb
  obtain⟨V,M,qc,qh,cs,hs',ms,F,a⟩:=s.O1
  obtain⟨zl,zz,q,b,_⟩:=a.dev.O1
  have hsz:=Alp (K:=K) b
  have hsl:S.dv.size<=64:=a.dev.wf.size
  simp only[I]at hsz
  simp only[Dq,Ab,B8 a.C6 rfl,hsz,I,Af]
  by_cases hlt:(i:Int)<S.dv.size
  ·simp only[hlt,decide_true,Ab,Tv,B8 a.C6 rfl]
   rw[Bi (l:=[I z,I i]) rfl]
   obtain⟨ms',e1,hm'⟩:=Aq4 a.map a.marks z i
   unfold kp at e1
   rw[e1,A9]
   simp only[T1,I,Af]
   rw[Cq (by omega) (by omega)]
   obtain⟨s2,c2,hb2⟩:=s.A5g a hb hm'
   refine(ih (i+1) _ (by omega) s2 hb2).mono ?_
   rintro v h' ⟨s3,c3,hb3⟩
   exact⟨s3,c2.trans c3,hb3⟩
  ·simp only[hlt,decide_false,Ab]
   exact .ret ⟨s,A0.refl _,hb⟩
noncomputable def K6.Abi(S:K6)(l:List Int):K6:={ S with dv:=S.dv.Abi l }
theorem Amf {D:Nat}{S:K6}(hK:1000<K):∀ (m i:Nat) (h:Aa) (G:Nat->Prop),S.dv.n-i<m->Ep h D S G->HB h ->
 Ok (Ds K m (.ptr D 0) (I S.dv.n) (I i) h) fun v h'=>v=.tuple []/\Ep h' D S G/\A0 G h h'/\HB h':=by
 intro m
 induction m with
 | zero=>intro i h G hm;omega
 | succ m ih=>
  intro i h G hm s hb
  obtain⟨V,M,qc,qh,cs,hs',ms,F,a⟩:=s.O1
  have hsl:S.dv.size<=64:=a.dev.wf.size
  have hnl:S.dv.n<=512:=a.dev.wf.n
  simp only[Ds,I,Af,Ab]
  by_cases hlt:(i:Int)<S.dv.n
  ·have hle:=Awo (K:=K) a.dev i
   have hh:S.dv.has i=true:=decide_eq_true ⟨by omega,hlt⟩
   rw[hh,if_pos rfl]at hle
   simp only[I]at hle
   simp only[hlt,decide_true,Ab,Tp,B8 a.C6 rfl,hle,N7]
   refine(Au8 (K:=K) i K _ h (by omega) s hb).Aj ?_
   rintro _ h2 ⟨s2,c2,hb2⟩
   simp only[Ue,Af]
   rw[Cq (by omega) (by omega)]
   refine(ih (i+1) h2 G (by omega) s2 hb2).mono ?_
   rintro v h' ⟨e,s3,c3,hb3⟩
   exact⟨e,s3,c2.trans c3,hb3⟩
  ·simp only[hlt,decide_false,Ab]
   exact .ret ⟨rfl,s,A0.refl _,hb⟩
theorem Aqk {h:Aa}{D:Nat}{S:K6}{G:Nat->Prop}(hK:1000<K)(s:Ep h D S G)(hb:HB h){kv:EV}{kb:Nat}{l:List Int}(hkb:kb<h.next)(hkF:¬ G kb)(hk:Afx h kv kb l):
 Ok (Im K (.ptr D 0) kv h) fun v h'=>v=.tuple []/\Ep h' D (S.Abi l) (A6 G h h')/\A0 G h h'/\HB h':=by
 obtain⟨V,M,qc,qh,cs,hs',ms,F,a⟩:=s.O1
 simp only[Im,Ab,B8 a.C6 rfl]
 refine(Ap3 (K:=K) a.dev hb hK hkb (fun y=>hkF (a.sub.1 _ y)) hk).Aj ?_
 rintro _ h2 ⟨rfl,d2,c2,hb2⟩
 obtain⟨s2,c2'⟩:=s.put a hb d2 c2
 have a2:=a.put hb d2 c2
 obtain⟨zl,z,q,b,_⟩:=d2.O1
 have hz:=Ab0 (K:=K) b
 simp only[I]at hz
 simp only[Ab,B8 a2.C6 rfl,hz]
 have hn:(S.dv.Abi l).n<=512:=d2.wf.n
 refine(Amf (K:=K) (S:=S.Abi l) hK K 0 h2 _ (by show (S.dv.Abi l).n-0<K;omega) s2 hb2).mono ?_
 rintro v h3 ⟨e,s3,c3,hb3⟩
 refine⟨e,s3.mono (fun j hj=>A6.le c3.next hj) (A6.lt s.lt (Nat.le_trans c2.next c3.next)),c2'.grow c3,hb3⟩
end Go.Ev
