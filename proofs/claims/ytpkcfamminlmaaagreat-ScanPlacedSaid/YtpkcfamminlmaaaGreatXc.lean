import Derived.Test.YtpkcfamminlmaaaGreatXb
set_option linter.unusedVariables false
set_option linter.unusedSimpArgs false
set_option linter.unusedSectionVars false
namespace Go.Ev
open Go.Proofs
set_option maxRecDepth 100000
variable {K:Nat}
def Bq(F:Nat->Prop)(h h':Aa):Nat->Prop:=fun i=>F i\/(h.next<=i/\i<h'.next)
theorem A9.grow {F:Nat->Prop}{h h1 h2:Aa}(a:A9 F h h1)(b:A9 (Bq F h h1) h1 h2):A9 F h h2:=
 a.then b fun i hi hl=>by
  rcases hi with hi|hi
  ·exact hi
  ·omega
theorem Bq.trans {F:Nat->Prop}{h h1 h2:Aa}(a:h.next<=h1.next)(b:h1.next<=h2.next){i:Nat}(g:Bq (Bq F h h1) h1 h2 i):Bq F h h2 i:=by
 rcases g with (g|g)|g
 ·exact .inl g
 ·exact .inr ⟨g.1,by omega⟩
 ·exact .inr ⟨by omega,g.2⟩
theorem Bq.le {F:Nat->Prop}{h h1 h2:Aa}(b:h1.next<=h2.next){i:Nat}(g:Bq F h h1 i):Bq F h h2 i:=by
 rcases g with g|g
 ·exact .inl g
 ·exact .inr ⟨g.1,by omega⟩
structure Dv where
 n:Nat
 size:Nat
 op:Int
 cnt:Int
 down:Bool
 zs:Nat->Zn
def Dl(l:List Nat):List EV:=l.map fun(b:Nat)=>EV.int .u8 (Int.ofNat b)
def U8(x:List EV):Prop:=∃ l:List Nat,(∀ b ∈ l,b<256)/\x=Dl l
theorem U8.zs:U8 Pu:=⟨List.replicate 64 0,fun b hb=>by rw[List.eq_of_mem_replicate hb];decide,by unfold Dl Pu;rw[List.map_replicate];rfl⟩
structure Zn.Wf(Z:Zn)(size:Nat):Prop where
 u8:∀ x ∈ Z.l,U8 x
 st:Z.st<=4
 safe:Z.safe<=Z.l.length
 len:Z.l.length<=size
 room:Z.st<2->Z.l.length<size
structure Dv.Wf(D:Dv):Prop where
 size:D.size<=64
 n:D.n<=512
 zs:∀ i,i<D.n->(D.zs i).Wf D.size
def Ar1(V zl n:Nat)(z q:Nat->Nat)(zs:Nat->Zn):Nat->Prop:=fun i=>i=V\/i=zl\/∃ d,d<n/\(i=z d\/((zs d).l ≠ []/\i=q d))
structure Gz(h:Aa)(V:Nat)(D:Dv)(F:Nat->Prop):Prop where
 wf:D.Wf
 lt:∀ i,F i->i<h.next
 Pb:∃ zl z q,Js h V zl D.n z q D.size D.op D.cnt D.down D.zs/\∀ i,Ar1 V zl D.n z q D.zs i->F i
theorem Gz.mono {h:Aa}{V:Nat}{D:Dv}{F G:Nat->Prop}(d:Gz h V D F)(s:∀ i,F i->G i)(l:∀ i,G i->i<h.next):Gz h V D G:=by
 obtain⟨zl,z,q,a,b⟩:=d.Pb
 exact⟨d.wf,l,zl,z,q,a,fun i hi=>s i (b i hi)⟩
theorem Bq.lt {F:Nat->Prop}{h h':Aa}(l:∀ i,F i->i<h.next)(n:h.next<=h'.next):∀ i,Bq F h h' i->i<h'.next:=fun i hi=>by
 rcases hi with hi|hi
 ·have:=l i hi;omega
 ·exact hi.2
theorem Gz.grow {h h':Aa}{V:Nat}{D:Dv}{F:Nat->Prop}(d:Gz h' V D F)(l:∀ i,F i->i<h.next)(n:h.next<=h'.next):Gz h' V D (Bq F h h'):=
 d.mono (fun _=>.inl) (Bq.lt l n)
theorem Aih {l:List (List EV)}:l ≠ [] ↔ 0<l.length:=by rw[List.length_pos_iff]
theorem Js.frame {h h':Aa}{V zl n:Nat}{z q:Nat->Nat}{size op cnt:Int}{down:Bool}{Zs:Nat->Zn}(d:Js h V zl n z q size op cnt down Zs)(e:∀ i,Ar1 V zl n z q Zs i->h'.get i=h.get i):Js h' V zl n z q size op cnt down Zs:=by
 refine⟨d.pos,by rw[e _ (.inl rfl)];exact d.dev,by rw[e _ (.inr (.inl rfl))];exact d.row,fun i hi=>?_,d.Auy,d.Ax6⟩
 obtain⟨s,a,b⟩:=(d.A7 i hi).A7
 exact⟨⟨s,by rw[e _ (.inr (.inr ⟨i,hi,.inl rfl⟩))];exact a,b.frame fun hl=>e _ (.inr (.inr ⟨i,hi,.inr ⟨Aih.2 hl,rfl⟩⟩))⟩,(d.A7 i hi).wf⟩
theorem Gz.frame {h h':Aa}{V:Nat}{D:Dv}{F:Nat->Prop}(d:Gz h V D F)(n:h.next<=h'.next)(e:∀ i,F i->h'.get i=h.get i):Gz h' V D F:=by
 obtain⟨zl,z,q,a,b⟩:=d.Pb
 exact⟨d.wf,fun i hi=>Nat.lt_of_lt_of_le (d.lt i hi) n,zl,z,q,a.frame fun i hi=>e i (b i hi),b⟩
theorem Gz.chg {h h':Aa}{V:Nat}{D:Dv}{F S:Nat->Prop}(d:Gz h V D F)(c:A9 S h h')(n:∀ i,F i->¬ S i):Gz h' V D F:=
 d.frame c.next fun i hi=>c.get i (d.lt i hi) (n i hi)
theorem Gz.ext {h h':Aa}{V:Nat}{D:Dv}{F:Nat->Prop}(d:Gz h V D F)(c:Ext h h'):Gz h' V D F:=d.chg c fun _ _=>id
theorem Js.A01 {h:Aa}{V zl n:Nat}{z q:Nat->Nat}{size op cnt:Int}{down:Bool}{Zs:Nat->Zn}(d:Js h V zl n z q size op cnt down Zs)(cnt':Int)(down':Bool):
 Js (h.put V (.cells [.slice zl 0 n n true,I size,I op,I cnt',.bool down'] 183)) V zl n z q size op cnt' down' Zs:=by
 refine⟨d.pos,Aj _ _ _,?_,fun i hi=>?_,d.Auy,d.Ax6⟩
 ·rw[As _ (Bt d.dev d.row (by simp))];exact d.row
 ·obtain⟨s,a,b⟩:=(d.A7 i hi).A7
  refine⟨⟨s,?_,b.frame fun hl=>As _ (Bt d.dev (b.block hl) (by simp))⟩,(d.A7 i hi).wf⟩
  rw[As _ (Bt d.dev a (by simp))];exact a
def K1(Zs:Nat->Zn)(d:Nat)(Z:Zn):Nat->Zn:=fun e=>if e=d then Z else Zs e
def Asc(q:Nat->Nat)(d x:Nat):Nat->Nat:=fun e=>if e=d then x else q e
theorem Js.A1y {h h':Aa}{V zl n:Nat}{z q:Nat->Nat}{size op cnt:Int}{down:Bool}{Zs:Nat->Zn}(d:Js h V zl n z q size op cnt down Zs)(hb:HB h){i:Nat}(hi:i<n){q':Nat}{Z:Zn}
 (zz:Eo h' (z i) q' size Z) (c:A9 (fun j=>j=z i\/((Zs i).l ≠ []/\j=q i)) h h') (hq:Z.l ≠ []->h.next<=q'\/(q'=q i/\(Zs i).l ≠ [])) :
 Js h' V zl n z (Asc q i q') size op cnt down (K1 Zs i Z):=by
 obtain⟨si,ai,bi⟩:=(d.A7 i hi).A7
 have nq:∀ x o,h.get x=some o->(∀ l,o ≠ .vec l 103 64)->¬ ((Zs i).l ≠ []/\x=q i):=by
  rintro x o hx hno ⟨hl,rfl⟩
  rw[bi.block (Aih.1 hl)]at hx
  cases hx;exact hno _ rfl
 have keep:∀ x o,h.get x=some o->x ≠ z i->(∀ l,o ≠ .vec l 103 64)->h'.get x=some o:=fun x o hx hn hno=>by
  refine c.at hb hx ?_
  rintro(y|y)
  ·exact hn y
  ·exact nq x o hx hno y
 refine⟨d.pos,keep _ _ d.dev (Bt d.dev ai (by simp)) (by intros;simp),keep _ _ d.row (Bt d.row ai (by simp)) (by intros;simp),fun j hj=>?_,d.Auy,?_⟩
 ·by_cases hji:j=i
  ·subst hji;simp only[Asc,K1,if_true];exact zz
  ·simp only[Asc,K1,hji,if_false]
   obtain⟨s,a,b⟩:=(d.A7 j hj).A7
   refine⟨⟨s,keep _ _ a (fun e=>hji (d.Auy j i hj hi e)) (by intros;simp),b.frame fun hl=>?_⟩,(d.A7 j hj).wf⟩
   have gb:=b.block hl
   refine c.get _ (hb _ _ gb) ?_
   rintro(y|⟨y1,y2⟩)
   ·exact Bt gb ai (by simp) y
   ·exact hji (d.Ax6 j i hj hi (Aih.2 hl) y1 y2)
 ·intro j k hj hk
  have lq:∀ j,j<n->(Zs j).l ≠ []->q j<h.next:=fun j hj hl=>by
   obtain⟨s,a,b⟩:=(d.A7 j hj).A7
   exact hb _ _ (b.block (Aih.1 hl))
  by_cases hji:j=i <;> by_cases hki:k=i
  ·intros;omega
  ·subst hji;simp only[Asc,K1,hki,if_true,if_false]
   intro a b e
   rcases hq a with y|⟨y1,y2⟩
   ·have:=lq k hk b;omega
   ·exact absurd (d.Ax6 j k hj hk y2 b (by rw[<-y1];exact e)).symm hki
  ·subst hki;simp only[Asc,K1,hji,if_true,if_false]
   intro a b e
   rcases hq b with y|⟨y1,y2⟩
   ·have:=lq j hj a;omega
   ·exact absurd (d.Ax6 j k hj hk a y2 (by rw[<-y1];exact e)) hji
  ·simp only[Asc,K1,hji,hki,if_false]
   exact d.Ax6 j k hj hk
def Dv.has(D:Dv)(i:Int):Bool:=decide (0<=i/\i<D.n)
def Dv.Gb(D:Dv)(i:Int):Int:=if D.down=true then 34 else if D.has i=false then 13 else 0
noncomputable def Dv.tick(D:Dv):Dv:={ D with cnt:=Dk .i64 (D.cnt+1) }
noncomputable def Dv.begin(D:Dv)(i:Int):Dv:=if D.Gb i=0 then D.tick else D
def Dv.set(D:Dv)(i:Nat)(Z:Zn):Dv:={ D with zs:=K1 D.zs i Z }
section
variable {h:Aa}{V zl n:Nat}{z q:Nat->Nat}{size op cnt:Int}{down:Bool}{Zs:Nat->Zn}(d:Js h V zl n z q size op cnt down Zs)
include d
theorem Js.list(k:EV->R):Av (.ptr V 0) h k=k (.slice zl 0 n n true):=by rw[Ck d.dev rfl];rfl
theorem Js.A3u {i:Nat}(hi:i<n)(k:EV->R):Gn 1 (.slice zl 0 n n true) (I i) (fun v=>Av v h k)=k (.ptr (z i) 0):=by
 unfold I
 rw[Aas hi,Ck d.row rfl,Nat.zero_add,Nat.mul_one,List.getElem?_map,List.getElem?_range hi];rfl
theorem Awo(i:Int):Gx K (.ptr V 0) (I i) h=some (.bool (decide (0<=i/\i<n)),h):=by
 simp only[Gx,I,Ai,Ab]
 by_cases h0:0<=i
 ·simp only[h0,decide_true,Ab,Ai,d.list,Mc,true_and]
 ·simp only[h0,decide_false,Ab,Mc,false_and]
end
section
variable {h:Aa}{V:Nat}{D:Dv}{F:Nat->Prop}(d:Gz h V D F)(hb:HB h)
include d
theorem Yg(i:Int):Gx K (.ptr V 0) (I i) h=some (.bool (D.has i),h):=by
 obtain⟨w,wl,zl,z,q,a,b⟩:=d
 exact Awo a i
theorem Awb(i:Int):R5 K (.ptr V 0) (I i) h=some (I (if D.has i=true then (D.zs i.toNat).st else 4),h):=by
 simp only[R5,Yg d,Ab]
 obtain⟨w,wl,zl,z,q,a,b⟩:=d
 cases hh:D.has i with
 | false=>simp only[Ab,I,Bool.false_eq_true,if_false]
 | true=>
  have:=of_decide_eq_true hh
  obtain⟨j,rfl⟩:∃ j:Nat,i=j:=⟨i.toNat,by omega⟩
  have hj:j<D.n:=by omega
  simp only[Ab,Uw,a.list,a.A3u hj,Aaf (a.A7 j hj),if_true]
  rfl
theorem Az1(i:Int):J3 K (.ptr V 0) (I i) h=some (I (if D.has i=true then (D.zs i.toNat).l.length else 0),h):=by
 simp only[J3,Yg d,Ab]
 obtain⟨w,wl,zl,z,q,a,b⟩:=d
 cases hh:D.has i with
 | false=>simp only[Ab,I,Bool.false_eq_true,if_false]
 | true=>
  have:=of_decide_eq_true hh
  obtain⟨j,rfl⟩:∃ j:Nat,i=j:=⟨i.toNat,by omega⟩
  have hj:j<D.n:=by omega
  simp only[Ab,Xw,a.list,a.A3u hj,Awx (a.A7 j hj),if_true]
  rfl
include hb
theorem W8(i:Int):Ok (Hl K (.ptr V 0) (I i) h) fun v h'=>v=I (D.Gb i)/\Gz h' V (D.begin i) F/\A9 F h h'/\HB h'/\h'.next=h.next:=by
 have hh:=Yg (K:=K) d i
 obtain⟨w,wl,zl,z,q,a,b⟩:=d
 unfold Dv.begin Dv.Gb
 simp only[Hl,Ab,Ck a.dev rfl]
 cases hd:D.down with
 | true=>
  simp only[Ab,if_true,show ((34:Int)=0)=False by simp,if_false]
  exact .ret ⟨rfl,⟨w,wl,zl,z,q,a,b⟩,A9.refl _,hb,rfl⟩
 | false=>
  simp only[Ab,hh,Bool.false_eq_true,if_false]
  cases hhs:D.has i with
  | false=>
   simp only[Ab,if_true,show ((13:Int)=0)=False by simp,if_false]
   exact .ret ⟨rfl,⟨w,wl,zl,z,q,a,b⟩,A9.refl _,hb,rfl⟩
  | true=>
   simp only[Ab,Bool.true_eq_false,if_false,if_true,Uf,Ck a.dev rfl,I,Ai]
   have lV:=hb _ _ a.dev
   refine Ok.st1 a.dev rfl rfl (by show 3<5;decide) ?_
   refine .ret ⟨rfl,⟨⟨w.size,w.n,w.zs⟩,wl,zl,z,q,a.A01 (Dk .i64 (D.cnt+1)) D.down,b⟩,(A9.refl h).A5 (.inl (b _ (.inl rfl))) lV _,hb.put lV _,rfl⟩
end
end Go.Ev

namespace Go.Ev
open Go.Proofs
set_option maxRecDepth 100000
variable {K:Nat}
theorem Xl {i b:Nat}{s:DX}{h:Aa}{call:Aa->R}{k:EV->Aa->DX->R}{v:EV}(hb:Sz b s=true)(hl:loose b s.nw = [])(hc:call h.lift=some (v,h.lift)):Cs i b s h call k=k v h (s.Ww i):=by
 have hf:Hb b s h=h.lift:=by unfold Hb;rw[hl];rfl
 show Ay (Sz b s) (Ev.Al (call (Hb b s h)) fun v h'=>Iv i b s h h' fun s h=>k v h s) none=_
 rw[hb,An,hf,hc]
 show Iv i b s h h.lift (fun s h=>k v h s)=_
 unfold Iv
 rw[Nat.ble_eq_true_of_le (show h.next<=h.lift.mw from Nat.le_refl _),An,hl]
 rfl
theorem Js.lift {h:Aa}{V zl n:Nat}{z q:Nat->Nat}{size op cnt:Int}{down:Bool}{Zs:Nat->Zn}(d:Js h V zl n z q size op cnt down Zs):Js h.lift V zl n z q size op cnt down Zs:=d.frame fun i _=>Di h i
theorem Gz.lift {h:Aa}{V:Nat}{D:Dv}{F:Nat->Prop}(d:Gz h V D F):Gz h.lift V D F:=d.frame (Nat.le_refl _) fun i _=>Di h i
def O7(Zs:Nat->Zn)(n:Nat):Nat:=((List.range n).filter fun i=>(Zs i).st=1).length
theorem Apk(Zs:Nat->Zn)(n:Nat):O7 Zs (n+1)=O7 Zs n+(if (Zs n).st=1 then 1 else 0):=by
 unfold O7
 rw[List.range_succ,List.filter_append,List.length_append]
 congr 1
 by_cases hc:(Zs n).st=1 <;> simp[hc]
theorem A67(Zs:Nat->Zn)(n:Nat):O7 Zs n<=n:=by
 unfold O7
 have:=List.length_filter_le (fun i=>decide ((Zs i).st=1)) (List.range n)
 simpa using this
theorem Awi {h:Aa}{V zl n:Nat}{z q:Nat->Nat}{size op cnt:Int}{down:Bool}{Zs:Nat->Zn}(d:Js h V zl n z q size op cnt down Zs)(hn:n<=512):∀ (m i:Nat),n-i<m->i<=n ->
 D1 K m (I (O7 Zs i)) (.slice zl 0 n n true) (I n) (I i) h=some (I (O7 Zs n),h):=by
 intro m
 induction m with
 | zero=>intro i hm;omega
 | succ m ih=>
  intro i hm hi
  simp only[D1,I,Ai,Ab]
  by_cases hlt:(i:Int)<n
  ·have hin:i<n:=by omega
   have hz:=d.A3u hin
   simp only[I]at hz
   have hle:=A67 Zs i
   simp only[hlt,decide_true,Ab,Ss,hz,Aaf (d.A7 i hin),I,Ai]
   have ih':=ih (i+1) (by omega) (by omega)
   rw[Apk]at ih'
   by_cases h1:(Zs i).st=1
   ·rw[show decide (((Zs i).st:Int)=1)=true by simp[h1]]
    rw[if_pos h1]at ih'
    simp only[Ab,Ai,Jw]
    rw[C8 (by omega) (by omega),C8 (by omega) (by omega)]
    exact ih'
   ·rw[show decide (((Zs i).st:Int)=1)=false by simp;omega]
    rw[if_neg h1]at ih'
    simp only[Ab,Ai,Jw]
    rw[C8 (by omega) (by omega)]
    exact ih'
  ·have:i=n:=by omega
   subst this
   simp only[hlt,decide_false,Ab,Nh]
theorem A4g {h:Aa}{V zl n:Nat}{z q:Nat->Nat}{size op cnt:Int}{down:Bool}{Zs:Nat->Zn}(d:Js h V zl n z q size op cnt down Zs)(hn:n<=512)(hK:1000<K):
 Mg K (.ptr V 0) h=some (I (O7 Zs n),h):=by
 simp only[Mg,Ab,d.list]
 exact Awi d hn K 0 (by omega) (Nat.zero_le _)
noncomputable def Dv.append(D:Dv)(i:Int)(x:List EV):Dv × Int × Int:=
 if D.Gb i ≠ 0 then (D,0,D.Gb i) else
 if (D.zs i.toNat).st=0/\D.op<=O7 D.zs D.n then (D.tick,0,33) else
 if 2<=(D.zs i.toNat).st then (D.tick,0,if (D.zs i.toNat).st=2 then 17 else Ju (D.zs i.toNat).st) else
 (D.tick.set i.toNat ((D.zs i.toNat).app D.size x),(D.zs i.toNat).l.length,0)
theorem Zn.Wf.app {Z:Zn}{size:Nat}(w:Z.Wf size)(hs:Z.st<2){x:List EV}(hx:U8 x):(Z.app size x).Wf size:=by
 have:=w.room hs
 have:=w.safe
 refine⟨fun y hy=>?_,?_,?_,?_,?_⟩ <;> try simp only[Zn.app,List.length_append,List.length_singleton]
 ·rcases List.mem_append.1 hy with hy|hy
  ·exact w.u8 y hy
  ·rw[List.mem_singleton.1 hy];exact hx
 ·split <;> omega
 ·omega
 ·omega
 ·split <;> omega
theorem Dv.Wf.set {D:Dv}(w:D.Wf){i:Nat}{Z:Zn}(z:Z.Wf D.size):(D.set i Z).Wf:=by
 refine⟨w.size,w.n,fun j hj=>?_⟩
 show (K1 D.zs i Z j).Wf D.size
 unfold K1
 split
 ·exact z
 ·exact w.zs j hj
theorem Gz.A7 {h h':Aa}{V:Nat}{D:Dv}{F:Nat->Prop}(w:D.Wf){zl:Nat}{z q:Nat->Nat}(a:Js h V zl D.n z q D.size D.op D.cnt D.down D.zs)(b:∀ i,Ar1 V zl D.n z q D.zs i->F i)(wl:∀ i,F i->i<h.next)(hb:HB h){i:Nat}(hi:i<D.n){q':Nat}{Z:Zn}
 (zw:Z.Wf D.size) (zz:Eo h' (z i) q' D.size Z) (c:A9 (fun j=>j=z i\/((D.zs i).l ≠ []/\j=q i)) h h') (hb':HB h') (hq:Z.l ≠ []->h.next<=q'\/(q'=q i/\(D.zs i).l ≠ [])) :
 Gz h' V (D.set i Z) (Bq F h h')/\A9 F h h':=by
 have hF:∀ j,(j=z i\/((D.zs i).l ≠ []/\j=q i))->F j:=by
  rintro j (y|⟨y1,y2⟩)
  ·exact b j (.inr (.inr ⟨i,hi,.inl y⟩))
  ·exact b j (.inr (.inr ⟨i,hi,.inr ⟨y1,y2⟩⟩))
 refine⟨⟨w.set zw,Bq.lt wl c.next,zl,z,_,a.A1y hb hi zz c hq,?_⟩,c.mono hF⟩
 rintro j (y|y|⟨d,hd,y⟩)
 ·exact .inl (b j (.inl y))
 ·exact .inl (b j (.inr (.inl y)))
 ·rcases y with y|⟨y1,y2⟩
  ·exact .inl (b j (.inr (.inr ⟨d,hd,.inl y⟩)))
  ·by_cases hdi:d=i
   ·subst hdi
    simp only[Dv.set,K1,Asc,if_true]at y1 y2
    subst y2
    rcases hq y1 with y|⟨y3,y4⟩
    ·obtain⟨s,_,r⟩:=zz.A7
     exact .inr ⟨y,hb' _ _ (r.block (Aih.1 y1))⟩
    ·rw[y3];exact .inl (hF _ (.inr ⟨y4,rfl⟩))
   ·simp only[Dv.set,K1,Asc,hdi,if_false]at y1 y2
    exact .inl (b j (.inr (.inr ⟨d,hd,.inr ⟨y1,y2⟩⟩)))
theorem Ark {h:Aa}{V:Nat}{D:Dv}{F:Nat->Prop}(d:Gz h V D F)(hb:HB h)(hK:1000<K)(i:Int){x:List EV}(hx:x.length=64)(hu:U8 x):
 Ok (Mh K (.ptr V 0) (I i) (.agg x) h) fun v h'=>v=.tuple [I (D.append i x).2.1,I (D.append i x).2.2]/\Gz h' V (D.append i x).1 (Bq F h h')/\A9 F h h'/\HB h':=by
 simp only[Mh,Ab]
 have x1:Ext h (h.new (.cells x 103)):=A9.new _ _
 have g5:(h.new (.cells x 103)).get h.next=some (.cells x 103):=Ag _ _
 have hb1:HB (h.new (.cells x 103)):=hb.new _
 have d1:=d.ext x1
 have n1:(h.new (.cells x 103)).next=h.next+1:=rfl
 generalize h.new (.cells x 103)=h1 at x1 g5 hb1 d1 n1 ⊢
 refine(W8 (K:=K) d1 hb1 i).Al ?_
 rintro _ h2 ⟨rfl,d2,c2,hb2,n2⟩
 have nx:¬ F h.next:=fun y=>Nat.lt_irrefl _ (d.lt _ y)
 have g5:=c2.at hb1 g5 nx
 have c02:A9 F h h2:=(Ext.to x1).trans c2
 unfold Dv.append
 unfold Dv.begin at d2
 by_cases hbe:D.Gb i=0
 ·rw[if_pos hbe]at d2
  rw[if_neg (by rw[hbe];exact fun y=>y rfl),hbe]
  simp only[I,Ai,not_true_eq_false,decide_false,Ab,Su]
  obtain⟨w,wl,zl,z,q,a,b⟩:=d2
  have hhas:D.has i=true:=by
   unfold Dv.Gb at hbe
   cases hh:D.has i with
   | true=>rfl
   | false=>rw[hh]at hbe;split at hbe <;> simp at hbe
  have:=of_decide_eq_true hhas
  obtain⟨j,rfl⟩:∃ j:Nat,i=j:=⟨i.toNat,by omega⟩
  have hj:j<D.n:=by omega
  rw[show (j:Int).toNat=j from rfl]
  have lV:=hb2 _ _ a.dev
  have lzl:=hb2 _ _ a.row
  have l5:=hb2 _ _ g5
  have lz:=hb2 _ _ (a.A7 j hj).A7.choose_spec.1
  have hzp:∀ k:EV->R,Av (.ptr zl j) h2 k=k (.ptr (z j) 0):=fun k=>by
   have:=a.A3u hj k
   unfold I at this
   rw[Aas (show j<D.tick.n from hj),Nat.zero_add,Nat.mul_one]at this
   exact this
  have hix:∀ k:EV->R,Gn 1 (.slice zl 0 D.tick.n D.tick.n true) (.int .i64 (j:Int)) k=k (.ptr zl j):=fun k=>by
   rw[Aas (show j<D.tick.n from hj),Nat.zero_add,Nat.mul_one]
  simp only[Ab,Bz,A4 lV,a.list,hix,A4 lzl,hzp]
  rw[Xl (by kernel_rfl) (by kernel_rfl) (Aaf (a.lift.A7 j hj))]
  have hop:=A4g (K:=K) a.lift w.n hK
  have dd:∀ h',Ext h2 h'->Gz h' V D.tick (Bq F h h')/\A9 F h h'/\HB h':=fun h' x'=>⟨(Gz.ext ⟨w,wl,zl,z,q,a,b⟩ x').grow d.lt (by have:=c02.next;have:=x'.next;omega),c02.trans (Ext.to x'),x'.hb hb2⟩
  have app:¬ ((D.zs j).st=0/\D.op<=O7 D.zs D.n)->Ok (Nm K (.ptr V 0) (I j) (.ptr h.next 0) h2) fun v h'=>v=.tuple [I (if (D.zs j).st=0/\D.op<=O7 D.zs D.n then (D.tick,0,33) else if 2<=(D.zs j).st then (D.tick,0,if (D.zs j).st=2 then 17 else Ju (D.zs j).st) else (D.tick.set j ((D.zs j).app D.size x),((D.zs j).l.length:Int),(0:Int))).2.1,I (if (D.zs j).st=0/\D.op<=O7 D.zs D.n then (D.tick,0,33) else if 2<=(D.zs j).st then (D.tick,0,if (D.zs j).st=2 then 17 else Ju (D.zs j).st) else (D.tick.set j ((D.zs j).app D.size x),((D.zs j).l.length:Int),(0:Int))).2.2]/\Gz h' V (if (D.zs j).st=0/\D.op<=O7 D.zs D.n then (D.tick,0,33) else if 2<=(D.zs j).st then (D.tick,0,if (D.zs j).st=2 then 17 else Ju (D.zs j).st) else (D.tick.set j ((D.zs j).app D.size x),((D.zs j).l.length:Int),(0:Int))).1 (Bq F h h')/\A9 F h h'/\HB h':=by
   intro hno
   rw[if_neg hno]
   simp only[Nm,I,Ab,Bz,A4 lV,a.list,hix,A4 lzl,hzp,A4 l5,Fy g5 rfl,A3 hx]
   have wz:=w.zs j hj
   have wsz:=w.size
   have wl1:=wz.len
   by_cases hst:2<=(D.zs j).st
   ·rw[if_pos hst]
    refine Ok.Cs (by kernel_rfl) (by kernel_rfl) (Apv (K:=K) (a.lift.A7 j hj) (F0 hb2) hst wz.st x) (fun _ _ p=>p.2) ?_
    rintro _ h3 h4 ⟨rfl,_⟩ sm x4
    simp only[Ab]
    exact .ret ⟨rfl,dd h4 x4⟩
   ·rw[if_neg hst]
    have hst':(D.zs j).st<2:=by omega
    refine Ok.Anz (S:=fun i=>i=z j\/(0<(D.zs j).l.length/\i=q j)) (by kernel_rfl) (by kernel_rfl) (fun _=>by kernel_rfl) (Ap5 (K:=K) (size:=D.size) (a.lift.A7 j hj) (F0 hb2) hst' (Nat.le_trans wl1 wsz) hx) (fun _ _ p=>p.2.2.1) ?_
    rintro _ h3 h4 s' ⟨rfl,⟨q',zz,hq'⟩,_,hb3⟩ sm c4 _
    simp only[Ab]
    have hb4:=sm.hb hb3
    have zz4:Eo h4 (z j) q' D.size ((D.zs j).app D.size x):=zz.ext fun i o g=>by rw[sm.get];exact g
    obtain⟨d4,c24⟩:=Gz.A7 w a b wl hb2 hj (wz.app hst' hu) zz4 (c4.mono fun i hi=>by
     rcases hi with y|⟨y1,y2⟩
     ·exact .inl y
     ·exact .inr ⟨Aih.2 y1,y2⟩) hb4 (fun _=>.inl (by rw[Abf]at hq';exact hq'))
    refine .ret ⟨rfl,?_,c02.trans c24,hb4⟩
    refine d4.mono (fun i hi=>?_) (Bq.lt d.lt (c02.trans c24).next)
    rcases hi with y|y
    ·exact .inl y
    ·exact .inr ⟨Nat.le_trans c02.next y.1,y.2⟩
  simp only[I,Ai]
  by_cases h0:(D.zs j).st=0
  ·rw[show decide (((D.tick.zs j).st:Int)=0)=true from decide_eq_true (by show ((D.zs j).st:Int)=0;omega)]
   simp only[Ab,Ai]
   rw[Xl (by kernel_rfl) (by kernel_rfl) hop]
   rw[A4 lV (by kernel_rfl),Ck a.dev rfl]
   simp only[Ab,I,Ai,J0]
   by_cases ho:D.op<=O7 D.zs D.n
   ·rw[show decide (D.tick.op<=((O7 D.tick.zs D.tick.n:Nat):Int))=true from decide_eq_true ho]
    simp only[Ab]
    rw[if_pos ⟨h0,ho⟩]
    exact .ret ⟨rfl,dd h2 (A9.refl _)⟩
   ·rw[show decide (D.tick.op<=((O7 D.tick.zs D.tick.n:Nat):Int))=false from decide_eq_false ho]
    simp only[Ab]
    exact app fun y=>ho y.2
  ·rw[show decide (((D.tick.zs j).st:Int)=0)=false from decide_eq_false (by show ¬ ((D.zs j).st:Int)=0;omega)]
   simp only[Ab,Ai,J0]
   exact app fun y=>h0 y.1
 ·rw[if_neg hbe]at d2
  rw[if_pos hbe]
  simp only[I,Ai,hbe,not_false_eq_true,decide_true,Ab]
  exact .ret ⟨rfl,d2.grow d.lt c02.next,c02,hb2⟩
end Go.Ev

namespace Go.Ev
open Go.Proofs
set_option maxRecDepth 100000
variable {K:Nat}
def Dv.read(D:Dv)(i off:Int):List EV × Int:=if D.Gb i ≠ 0 then (Pu,D.Gb i) else Zp (D.zs i.toNat) off
theorem Dv.A0x {D:Dv}{i:Int}(hbe:D.Gb i=0):∃ j:Nat,i=j/\j<D.n:=by
 have hhas:D.has i=true:=by
  unfold Dv.Gb at hbe
  cases hh:D.has i with
  | true=>rfl
  | false=>rw[hh]at hbe;split at hbe <;> simp at hbe
 have:=of_decide_eq_true hhas
 exact⟨i.toNat,by omega,by omega⟩
theorem Js.Axy {h:Aa}{V zl n:Nat}{z q:Nat->Nat}{size op cnt:Int}{down:Bool}{Zs:Nat->Zn}(d:Js h V zl n z q size op cnt down Zs){j:Nat}(hj:j<n):
 (∀ k:EV->R,Gn 1 (.slice zl 0 n n true) (.int .i64 (j:Int)) k=k (.ptr zl j))/\(∀ k:EV->R,Av (.ptr zl j) h k=k (.ptr (z j) 0)):=by
 have hx:∀ k:EV->R,Gn 1 (.slice zl 0 n n true) (.int .i64 (j:Int)) k=k (.ptr zl j):=fun k=>by
  rw[Aas hj,Nat.zero_add,Nat.mul_one]
 refine⟨hx,fun k=>?_⟩
 have:=d.A3u hj k
 unfold I at this
 rw[hx]at this
 exact this
theorem Awk {h:Aa}{V:Nat}{D:Dv}{F:Nat->Prop}(d:Gz h V D F)(hb:HB h)(i off:Int):
 Ok (O1 K (.ptr V 0) (I i) (I off) h) fun v h'=>v=.tuple [.agg (D.read i off).1,I (D.read i off).2]/\(D.read i off).1.length=64/\Gz h' V (D.begin i) (Bq F h h')/\A9 F h h'/\HB h':=by
 simp only[O1,Ab]
 have x1:Ext h (h.new (.cells (List.replicate 64 (.int .u8 0)) 103)):=A9.new _ _
 have g6:(h.new (.cells (List.replicate 64 (.int .u8 0)) 103)).get h.next=some (.cells Pu 103):=Ag _ _
 have hb1:HB (h.new (.cells (List.replicate 64 (.int .u8 0)) 103)):=hb.new _
 have d1:=d.ext x1
 generalize h.new (.cells (List.replicate 64 (.int .u8 0)) 103)=h1 at x1 g6 hb1 d1 ⊢
 refine(W8 (K:=K) d1 hb1 i).Al ?_
 rintro _ h2 ⟨rfl,d2,c2,hb2,n2⟩
 have nx:¬ F h.next:=fun y=>Nat.lt_irrefl _ (d.lt _ y)
 have g6:=c2.at hb1 g6 nx
 have c02:A9 F h h2:=(Ext.to x1).trans c2
 have fin:∀ (l:List EV) (e:Int) (h3:Aa),Ext h2 h3->l.length=64->Ok (Dw 64 (.ptr h.next 0) (.agg l) h3 fun h=>Ct TT [.c (.ptr h.next 0) 103,.v (I e)] h) (fun _ _=>True)->True:=fun _ _ _ _ _ _=>trivial
 clear fin
 have fin:∀ (l:List EV) (e:Int) (h3:Aa) (kk:Aa->R),(∀ h',kk h'=Ct TT [.c (.ptr h.next 0) 103,.v (I e)] h')->Ext h2 h3->l.length=64->(l,e)=D.read i off->Ok (Dw 64 (.ptr h.next 0) (.agg l) h3 kk) fun v h'=>v=.tuple [.agg (D.read i off).1,I (D.read i off).2]/\(D.read i off).1.length=64/\Gz h' V (D.begin i) (Bq F h h')/\A9 F h h'/\HB h':=by
  intro l e h3 kk hkk x3 hl he
  have hb3:=x3.hb hb2
  have g3:=x3.at hb2 g6
  refine Ok.st l g3 rfl (by rw[show EV.cells (.agg l)=l from rfl,B8,hl]) (Cb (by rw[I6];exact hl.symm)) ?_
  rw[hkk,Hs (Aj _ _ _) Adg.1 Adg.2 hl,<-he]
  have l3:=hb3 _ _ g3
  have c3:A9 F h (h3.put h.next (.cells l 103)):=(c02.trans (Ext.to x3)).A5 (.inr (Nat.le_refl _)) l3 _
  refine .ret ⟨rfl,hl,?_,c3,hb3.put l3 _⟩
  refine(((d2.ext x3).frame (h':=h3.put h.next (.cells l 103)) (Nat.le_refl _) fun j hj=>As _ fun y=>?_)).grow d.lt c3.next
  subst y;exact nx hj
 unfold Dv.read at fin ⊢
 by_cases hbe:D.Gb i=0
 ·rw[if_neg (by rw[hbe];exact fun y=>y rfl)]at fin ⊢
  have hbg:D.begin i=D.tick:=by unfold Dv.begin;rw[if_pos hbe]
  rw[hbg]at d2 fin ⊢
  rw[hbe]
  obtain⟨j,rfl,hj⟩:=Dv.A0x hbe
  obtain⟨zl,z,q,a,b⟩:=d2.Pb
  obtain⟨hix,hzp⟩:=a.Axy (j:=j) hj
  simp only[I,Ai,not_true_eq_false,decide_false,Ab,Wd,a.list,hix,hzp]
  refine(Aty (K:=K) (a.A7 j hj) hb2 off).Al ?_
  rintro _ h3 ⟨rfl,x3⟩
  simp only[Ab]
  exact fin _ _ h3 _ (fun _=>rfl) x3 (A3j (a.A7 j hj).wf off) rfl
 ·rw[if_pos hbe]at fin ⊢
  simp only[I,Ai,hbe,not_false_eq_true,decide_true,Ab]
  rw[B6 (l:=Pu) rfl]
  exact fin Pu (D.Gb i) h2 _ (fun _=>rfl) (A9.refl _) I6 rfl
noncomputable def Dv.finish(D:Dv)(i:Int):Dv × Int:=
 if D.Gb i ≠ 0 then (D,D.Gb i) else
 (if Ju (D.zs i.toNat).st=0 then D.tick.set i.toNat (D.zs i.toNat).finish else D.tick,Ju (D.zs i.toNat).st)
theorem Zn.Wf.finish {Z:Zn}{size:Nat}(w:Z.Wf size):Z.finish.Wf size:=⟨w.u8,by show 2<=4;omega,w.safe,w.len,fun y=>absurd y (by show ¬ 2<2;omega)⟩
theorem Ar4 {h:Aa}{V:Nat}{D:Dv}{F:Nat->Prop}(d:Gz h V D F)(hb:HB h)(i:Int):
 Ok (L6 K (.ptr V 0) (I i) h) fun v h'=>v=I (D.finish i).2/\Gz h' V (D.finish i).1 (Bq F h h')/\A9 F h h'/\HB h':=by
 simp only[L6]
 refine(W8 (K:=K) d hb i).Al ?_
 rintro _ h2 ⟨rfl,d2,c2,hb2,n2⟩
 unfold Dv.finish
 by_cases hbe:D.Gb i=0
 ·rw[if_neg (by rw[hbe];exact fun y=>y rfl),hbe]
  have hbg:D.begin i=D.tick:=by unfold Dv.begin;rw[if_pos hbe]
  rw[hbg]at d2
  obtain⟨j,rfl,hj⟩:=Dv.A0x hbe
  obtain⟨zl,z,q,a,b⟩:=d2.Pb
  obtain⟨hix,hzp⟩:=a.Axy (j:=j) hj
  simp only[I,Ai,not_true_eq_false,decide_false,Ab,S0,a.list,hix,hzp]
  refine(Apf (K:=K) (a.A7 j hj) hb2).Al ?_
  rintro _ h3 ⟨rfl,zz,c3,hb3⟩
  try simp only[Ab]
  rw[show (j:Int).toNat=j from rfl]
  have zz:Eo h3 (z j) (q j) D.size (if Ju (D.zs j).st=0 then (D.zs j).finish else D.zs j):=zz
  by_cases hf:Ju (D.zs j).st=0
  ·simp only[hf,if_true]at zz ⊢
   obtain⟨d3,c23⟩:=Gz.A7 d2.wf a b d2.lt hb2 hj (d2.wf.zs j hj).finish zz (c3.mono fun _=>.inl) hb3 (fun y=>.inr ⟨rfl,y⟩)
   refine .ret ⟨by rw[show Ju (D.tick.zs j).st=Ju (D.zs j).st from rfl,hf],d3.mono (fun i hi=>?_) (Bq.lt d.lt (c2.trans c23).next),c2.trans c23,hb3⟩
   rcases hi with y|y
   ·exact .inl y
   ·exact .inr ⟨Nat.le_trans c2.next y.1,y.2⟩
  ·simp only[hf,if_false]at zz ⊢
   obtain⟨d3,c23⟩:=Gz.A7 d2.wf a b d2.lt hb2 hj (d2.wf.zs j hj) zz (c3.mono fun _=>.inl) hb3 (fun y=>.inr ⟨rfl,y⟩)
   have e:D.tick.set j (D.zs j)=D.tick:=by
    unfold Dv.set
    have:K1 D.tick.zs j (D.zs j)=D.tick.zs:=by funext k;unfold K1;split <;> simp_all [Dv.tick]
    rw[this]
   have d3:Gz h3 V (D.tick.set j (D.zs j)) (Bq F h2 h3):=d3
   rw[e]at d3
   refine .ret ⟨rfl,d3.mono (fun i hi=>?_) (Bq.lt d.lt (c2.trans c23).next),c2.trans c23,hb3⟩
   rcases hi with y|y
   ·exact .inl y
   ·exact .inr ⟨Nat.le_trans c2.next y.1,y.2⟩
 ·rw[if_pos hbe]
  have hbg:D.begin i=D:=by unfold Dv.begin;rw[if_neg hbe]
  rw[hbg]at d2
  simp only[I,Ai,hbe,not_false_eq_true,decide_true,Ab]
  exact .ret ⟨rfl,d2.grow d.lt c2.next,c2,hb2⟩
noncomputable def Dv.Bdo(D:Dv):Dv:={ D with down:=true }
theorem Au9 {h:Aa}{V:Nat}{D:Dv}{F:Nat->Prop}(d:Gz h V D F)(hb:HB h):
 Ok (Nu K (.ptr V 0) h) fun v h'=>Gz h' V D.Bdo F/\A9 F h h'/\HB h':=by
 obtain⟨w,wl,zl,z,q,a,b⟩:=d
 simp only[Nu,Ab]
 have lV:=hb _ _ a.dev
 refine Ok.st1 a.dev rfl rfl (by show 4<5;decide) ?_
 exact .ret ⟨⟨⟨w.size,w.n,w.zs⟩,wl,zl,z,q,a.A01 D.cnt true,b⟩,(A9.refl h).A5 (.inl (b _ (.inl rfl))) lV _,hb.put lV _⟩
end Go.Ev

namespace Go.Ev
open Go.Proofs
set_option maxRecDepth 100000
variable {K:Nat}
structure Agu(h:Aa)(V zl:Nat)(z:Nat->Nat)(D:Dv)(F:Nat->Prop):Prop where
 wf:D.Wf
 lt:∀ i,F i->i<h.next
 Pb:∃ q,Js h V zl D.n z q D.size D.op D.cnt D.down D.zs/\∀ i,Ar1 V zl D.n z q D.zs i->F i
theorem Gz.z {h:Aa}{V:Nat}{D:Dv}{F:Nat->Prop}(d:Gz h V D F):∃ zl z,Agu h V zl z D F:=by
 obtain⟨zl,z,q,a,b⟩:=d.Pb
 exact⟨zl,z,d.wf,d.lt,q,a,b⟩
theorem Agu.s {h:Aa}{V zl:Nat}{z:Nat->Nat}{D:Dv}{F:Nat->Prop}(d:Agu h V zl z D F):Gz h V D F:=by
 obtain⟨q,a,b⟩:=d.Pb
 exact⟨d.wf,d.lt,zl,z,q,a,b⟩
theorem Agu.mono {h:Aa}{V zl:Nat}{z:Nat->Nat}{D:Dv}{F G:Nat->Prop}(d:Agu h V zl z D F)(s:∀ i,F i->G i)(l:∀ i,G i->i<h.next):Agu h V zl z D G:=by
 obtain⟨q,a,b⟩:=d.Pb
 exact⟨d.wf,l,q,a,fun i hi=>s i (b i hi)⟩
theorem Agu.congr {h:Aa}{V zl:Nat}{z:Nat->Nat}{D:Dv}{F:Nat->Prop}(d:Agu h V zl z D F){zs':Nat->Zn}(e:∀ i,i<D.n->zs' i=D.zs i):Agu h V zl z { D with zs:=zs' } F:=by
 obtain⟨q,a,b⟩:=d.Pb
 refine⟨⟨d.wf.size,d.wf.n,fun i hi=>?_⟩,d.lt,q,⟨a.pos,a.dev,a.row,fun i hi=>?_,a.Auy,fun i j hi hj=>?_⟩,?_⟩
 ·show (zs' i).Wf _;rw[e i hi];exact d.wf.zs i hi
 ·show Eo _ _ _ _ (zs' i);rw[e i hi];exact a.A7 i hi
 ·show (zs' i).l ≠ []->(zs' j).l ≠ []->_;rw[e i hi,e j hj];exact a.Ax6 i j hi hj
 ·rintro i (y|y|⟨k,hk,y⟩)
  ·exact b i (.inl y)
  ·exact b i (.inr (.inl y))
  ·refine b i (.inr (.inr ⟨k,hk,?_⟩))
   have y:i=z k\/(zs' k).l ≠ []/\i=q k:=y
   rw[e k hk]at y
   exact y
theorem Agu.A7 {h h':Aa}{V zl:Nat}{z:Nat->Nat}{D:Dv}{F:Nat->Prop}(d:Agu h V zl z D F){q:Nat->Nat}(a:Js h V zl D.n z q D.size D.op D.cnt D.down D.zs)(b:∀ i,Ar1 V zl D.n z q D.zs i->F i)(hb:HB h){i:Nat}(hi:i<D.n){q':Nat}{Z:Zn}
 (zw:Z.Wf D.size) (zz:Eo h' (z i) q' D.size Z) (c:A9 (fun j=>j=z i\/((D.zs i).l ≠ []/\j=q i)) h h') (hb':HB h') (hq:Z.l ≠ []->h.next<=q'\/(q'=q i/\(D.zs i).l ≠ [])) :
 Agu h' V zl z (D.set i Z) (Bq F h h')/\A9 F h h':=by
 have hF:∀ j,(j=z i\/((D.zs i).l ≠ []/\j=q i))->F j:=by
  rintro j (y|⟨y1,y2⟩)
  ·exact b j (.inr (.inr ⟨i,hi,.inl y⟩))
  ·exact b j (.inr (.inr ⟨i,hi,.inr ⟨y1,y2⟩⟩))
 refine⟨⟨d.wf.set zw,Bq.lt d.lt c.next,_,a.A1y hb hi zz c hq,?_⟩,c.mono hF⟩
 rintro j (y|y|⟨d,hd,y⟩)
 ·exact .inl (b j (.inl y))
 ·exact .inl (b j (.inr (.inl y)))
 ·rcases y with y|⟨y1,y2⟩
  ·exact .inl (b j (.inr (.inr ⟨d,hd,.inl y⟩)))
  ·by_cases hdi:d=i
   ·subst hdi
    simp only[Dv.set,K1,Asc,if_true]at y1 y2
    subst y2
    rcases hq y1 with y|⟨y3,y4⟩
    ·obtain⟨s,_,r⟩:=zz.A7
     exact .inr ⟨y,hb' _ _ (r.block (Aih.1 y1))⟩
    ·rw[y3];exact .inl (hF _ (.inr ⟨y4,rfl⟩))
   ·simp only[Dv.set,K1,Asc,hdi,if_false]at y1 y2
    exact .inl (b j (.inr (.inr ⟨d,hd,.inr ⟨y1,y2⟩⟩)))
def Amz(f:Nat->Zn->Zn)(zs:Nat->Zn)(i:Nat):Nat->Zn:=fun j=>if j<i then f j (zs j) else zs j
theorem A04(f:Nat->Zn->Zn)(zs:Nat->Zn)(i:Nat):Amz f zs (i+1)=K1 (Amz f zs i) i (f i (zs i)):=by
 funext j
 unfold Amz K1
 by_cases h1:j=i
 ·subst h1;simp
 ·by_cases h2:j<i
  ·rw[if_pos (by omega),if_neg h1];exact(if_pos h2).symm
  ·rw[if_neg (by omega),if_neg h1];exact(if_neg h2).symm
theorem Ayh(f:Nat->Zn->Zn)(zs:Nat->Zn)(i:Nat):Amz f zs i i=zs i:=by unfold Amz;rw[if_neg (by omega)]
noncomputable def Dv.flush(D:Dv):Dv × Int:=if D.down=true then (D,34) else ({ D.tick with zs:=fun i=>(D.zs i).flush },0)
theorem Zn.Wf.flush {Z:Zn}{size:Nat}(w:Z.Wf size):Z.flush.Wf size:=⟨w.u8,w.st,Nat.le_refl _,w.len,w.room⟩
theorem Ay4 {V zl:Nat}{z:Nat->Nat}{D:Dv}{F:Nat->Prop}(h0:Aa)(hF0:∀ j,F j->j<h0.next):∀ (m i:Nat) (h:Aa),D.n-i<m->i<=D.n->HB h->A9 F h0 h->Agu h V zl z { D with zs:=Amz (fun _ Z=>Z.flush) D.zs i } (Bq F h0 h) ->
 Ok (Eb K m (.slice zl 0 D.n D.n true) (I D.n) (I i) h) fun v h'=>v=I 0/\Agu h' V zl z { D with zs:=Amz (fun _ Z=>Z.flush) D.zs D.n } (Bq F h0 h')/\A9 F h0 h'/\HB h':=by
 intro m
 induction m with
 | zero=>intro i h hm;omega
 | succ m ih=>
  intro i h hm hi hb c d
  have hn:=d.wf.n
  have hn:D.n<=512:=hn
  simp only[Eb,I,Ai,Ab]
  by_cases hlt:(i:Int)<D.n
  ·have hin:i<D.n:=by omega
   obtain⟨q,a,b⟩:=d.Pb
   obtain⟨hix,hzp⟩:=a.Axy (j:=i) hin
   simp only[hlt,decide_true,Ab,Ul,hix,hzp]
   have za:=a.A7 i hin
   have wz:=d.wf.zs i hin
   simp only[Ayh]at za wz
   refine(Ash (K:=K) za hb).Al ?_
   rintro _ h1 ⟨zz,c1,hb1⟩
   simp only[Uv,I,Ai]
   rw[C8 (by omega) (by omega)]
   obtain⟨d1,c1'⟩:=d.A7 a b hb hin wz.flush zz (c1.mono fun _=>.inl) hb1 (fun y=>.inr ⟨rfl,by simp only[Ayh];exact y⟩)
   have c2:=c.grow c1'
   refine ih (i+1) h1 (by omega) (by omega) hb1 c2 ?_
   rw[A04]
   exact d1.mono (fun j hj=>Bq.trans c.next c1.next hj) (Bq.lt hF0 c2.next)
  ·have:i=D.n:=by omega
   subst this
   simp only[hlt,decide_false,Ab,N8]
   exact .ret ⟨rfl,d,c,hb⟩
theorem Auu {h:Aa}{V:Nat}{D:Dv}{F:Nat->Prop}(d:Gz h V D F)(hb:HB h)(hK:1000<K):
 Ok (Nq K (.ptr V 0) h) fun v h'=>v=I D.flush.2/\Gz h' V D.flush.1 (Bq F h h')/\A9 F h h'/\HB h':=by
 obtain⟨w,wl,zl,z,q,a,b⟩:=d
 have hn:=w.n
 unfold Dv.flush
 simp only[Nq,Ab,Ck a.dev rfl]
 cases hd:D.down with
 | true=>
  simp only[Ab,if_true]
  exact .ret ⟨rfl,Gz.grow ⟨w,wl,zl,z,q,a,b⟩ wl (Nat.le_refl _),A9.refl _,hb⟩
 | false=>
  simp only[Ab,Bool.false_eq_true,if_false,Vh,Ck a.dev rfl,I,Ai]
  have lV:=hb _ _ a.dev
  refine Ok.st1 a.dev rfl rfl (by show 3<5;decide) ?_
  have c1:A9 F h (h.put V (.cells ([EV.slice zl 0 D.n D.n true,I D.size,I D.op,I D.cnt,.bool D.down].set 3 (.int .i64 (Dk .i64 (D.cnt+1)))) 183)):=(A9.refl h).A5 (.inl (b _ (.inl rfl))) lV _
  have hb1:HB (h.put V (.cells ([EV.slice zl 0 D.n D.n true,I D.size,I D.op,I D.cnt,.bool D.down].set 3 (.int .i64 (Dk .i64 (D.cnt+1)))) 183)):=hb.put lV _
  have d1:Agu (h.put V (.cells ([EV.slice zl 0 D.n D.n true,I D.size,I D.op,I D.cnt,.bool D.down].set 3 (.int .i64 (Dk .i64 (D.cnt+1)))) 183)) V zl z D.tick F:=⟨⟨w.size,w.n,w.zs⟩,wl,q,a.A01 (Dk .i64 (D.cnt+1)) D.down,b⟩
  generalize h.put V (.cells ([EV.slice zl 0 D.n D.n true,I D.size,I D.op,I D.cnt,.bool D.down].set 3 (.int .i64 (Dk .i64 (D.cnt+1)))) 183)=h1 at c1 hb1 d1 ⊢
  obtain⟨q1,a1,b1⟩:=d1.Pb
  rw[Ck a1.dev rfl]
  simp only[Ab]
  have:=Ay4 (K:=K) (D:=D.tick) (F:=F) h wl K 0 h1 (by show D.n-0<K;omega) (Nat.zero_le _) hb1 c1 (Agu.congr (d1.mono (fun _=>.inl) (Bq.lt wl c1.next)) (fun i _=>by unfold Amz;rw[if_neg (Nat.not_lt_zero _)]))
  refine this.mono ?_
  rintro v h2 ⟨rfl,d2,c2,hb2⟩
  refine⟨rfl,?_,c2,hb2⟩
  exact(d2.congr (zs':=fun i=>(D.zs i).flush) fun i hi=>(if_pos hi).symm).s
structure Ave(h:Aa)(v:EV)(b:Nat)(l:List Int):Prop where
 row:(v=.Af/\l = [])\/∃ off r op,v=.slice b off l.length r op/\∀ j (hj:j<l.length) (k:EV->R),Av (.ptr b (off+j)) h k=k (I l[j])
theorem Ave.frame {h h':Aa}{v:EV}{b:Nat}{l:List Int}(r:Ave h v b l)(e:h'.get b=h.get b):Ave h' v b l:=by
 rcases r.row with y|⟨off,r',op,rfl,y⟩
 ·exact⟨.inl y⟩
 ·refine⟨.inr ⟨off,r',op,rfl,fun j hj k=>?_⟩⟩
  have:=y j hj k
  show oB _ (Ahf (h'.get b) _ 1)=_
  rw[e];exact this
def Asr(l:List Int)(i:Nat):Int:=(l[i]?).getD 0
def Dv.fail(D:Dv)(i:Int)(st:Nat):Dv:=if D.has i=true then D.set i.toNat ((D.zs i.toNat).fail st) else D
theorem Zn.Wf.fail {Z:Zn}{size:Nat}(w:Z.Wf size)(st:Nat):(Z.fail st).Wf size:=by
 unfold Zn.fail
 split
 ·exact⟨w.u8,by show st<=4;omega,w.safe,w.len,fun y=>absurd y (by show ¬ st<2;omega)⟩
 ·exact w
theorem Axk {h:Aa}{V:Nat}{D:Dv}{F:Nat->Prop}(d:Gz h V D F)(hb:HB h)(i:Int)(st:Nat):
 Ok (Jo K (.ptr V 0) (I i) (I st) h) fun v h'=>Gz h' V (D.fail i st) (Bq F h h')/\A9 F h h'/\HB h':=by
 simp only[Jo,Yg d,Ab]
 unfold Dv.fail
 cases hh:D.has i with
 | false=>
  simp only[Ab,Bool.false_eq_true,if_false]
  exact .ret ⟨d.grow d.lt (Nat.le_refl _),A9.refl _,hb⟩
 | true=>
  have:=of_decide_eq_true hh
  obtain⟨j,rfl⟩:∃ j:Nat,i=j:=⟨i.toNat,by omega⟩
  have hj:j<D.n:=by omega
  obtain⟨zl,z,q,a,b⟩:=d.Pb
  obtain⟨hix,hzp⟩:=a.Axy (j:=j) hj
  simp only[Ab,if_true,Wq,a.list]
  unfold I
  rw[hix,hzp]
  refine(Aue (K:=K) (a.A7 j hj) hb st).Al ?_
  rintro _ h3 ⟨zz,c3,hb3⟩
  obtain⟨d3,c23⟩:=Gz.A7 d.wf a b d.lt hb hj ((d.wf.zs j hj).fail st) zz (c3.mono fun _=>.inl) hb3 (fun y=>.inr ⟨rfl,by
   unfold Zn.fail at y;split at y <;> exact y⟩)
  exact .ret ⟨d3,c23,hb3⟩
end Go.Ev

namespace Go.Ev
open Go.Proofs
set_option maxRecDepth 100000
variable {K:Nat}
def kp(a b:Int):EV:=.agg [I a,I b]
def Abv(ms:List (EV × EV)):Prop:=∀ e ∈ ms,∃ a b p n,e=(kp a b,.agg (p++[I n]))/\U8 p/\p.length=64
theorem Aom(a b:Int):Ads (I a) (I b)=some (decide (a=b)):=by
 show Ay (Nat.beq (Mt .i64) (Mt .i64)) (some (eqB a b)) none=_
 rw[Nat.beq_refl,An,Aad]
theorem A7y(a b c d:Int):Aks (kp a b) (kp c d)=some (decide (a=c/\b=d)):=by
 show Gr [I a,I b] [I c,I d]=_
 unfold Gr
 rw[Aom]
 by_cases h1:a=c
 ·rw[decide_eq_true h1]
  simp only[Gr,Aom]
  by_cases h2:b=d
  ·rw[decide_eq_true h2,decide_eq_true ⟨h1,h2⟩]
  ·rw[decide_eq_false h2,decide_eq_false fun y=>h2 y.2]
 ·rw[decide_eq_false h1,decide_eq_false fun y=>h1 y.1]
  simp only[Gr,Aom]
  by_cases h2:b=d
  ·rw[decide_eq_true h2]
  ·rw[decide_eq_false h2]
theorem Acd(a b:Int):∀ (ms:List (EV × EV)) (i:Nat),Abv ms->Hv (kp a b) ms i=some none\/∃ j p n,Hv (kp a b) ms i=some (some (j,.agg (p++[I n])))/\U8 p/\p.length=64
 | [],i,_=>.inl rfl
 | (x,y)::r,i,hm=>by
  obtain⟨a',b',p,n,e,hp,hl⟩:=hm _ (List.mem_cons_self ..)
  cases e
  have ih:=Acd a b r (Nat.succ i) fun e he=>hm e (List.mem_cons_of_mem _ he)
  unfold Hv
  rw[A7y]
  by_cases hc:a=a'/\b=b'
  ·rw[decide_eq_true hc];exact .inr ⟨i,p,n,rfl,hp,hl⟩
  ·rw[decide_eq_false hc];exact ih
theorem Ah4(a b:Int):Lb TT 243 (kp a b)=true:=by
 have h1:TT.key 243=true:=by kernel_rfl
 have h2:TT.eqs 243=some [0,0]:=by kernel_rfl
 unfold Lb kp
 simp only[h1,h2,An]
 rw[show shaped [0,0] [I a,I b]=true from rfl,An]
 simp only[Gr,Aom,decide_true]
theorem Aso {h:Aa}{M:Nat}{ms:List (EV × EV)}(hg:h.get M=some (.map ms))(hm:Abv ms)(a b:Int):∃ ms',builtin TT .delete #[164,243] [.map M,kp a b] h=some (.tuple [],h.put M (.map ms'))/\Abv ms':=by
 have hu:TT.I5 164=some (.map 243 320):=by kernel_rfl
 have e:builtin TT .delete #[164,243] [.map M,kp a b] h=Ay (Lb TT 243 (kp a b)) (match h.get M with
  | some (.map es)=>match Hv (kp a b) es 0 with
   | some (some (j,_))=>some (.tuple [],h.put M (.map (es.eraseIdx j)))
   | some none=>some (.tuple [],h.put M (.map es))
   | none=>none
  | _=>none) none:=by
  unfold builtin
  simp only[hu]
  rfl
 rw[e,Ah4,An,hg]
 rcases Acd a b ms 0 hm with y|⟨j,p,n,y,_⟩
 ·simp only[y];exact⟨ms,rfl,hm⟩
 ·simp only[y];exact⟨_,rfl,fun e he=>hm e (List.mem_of_mem_eraseIdx he)⟩
theorem A4j {h:Aa}{M:Nat}{ms:List (EV × EV)}(hg:h.get M=some (.map ms))(hm:Abv ms)(a b:Int):∃ p n,Ako TT 243 320 false (.map M) (kp a b) h=some (.agg (p++[I n]),h)/\U8 p/\p.length=64:=by
 have e:Ako TT 243 320 false (.map M) (kp a b) h=Ay (Lb TT 243 (kp a b)) (match h.get M with
  | some (.map es)=>match Hv (kp a b) es 0 with
   | some (some (_,v))=>some (v,h)
   | some none=>oB (fun zv=>some (zv,h)) (zeroOf TT 320)
   | none=>none
  | _=>none) none:=rfl
 have hz:zeroOf TT 320=some (.agg (Pu++[I 0])):=by kernel_rfl
 rw[e,Ah4,An,hg]
 rcases Acd a b ms 0 hm with y|⟨j,p,n,y,hp,hl⟩
 ·simp only[y,hz];exact⟨Pu,0,rfl,U8.zs,I6⟩
 ·simp only[y];exact⟨p,n,rfl,hp,hl⟩
theorem At0 {h:Aa}{M:Nat}{ms:List (EV × EV)}(hg:h.get M=some (.map ms))(hm:Abv ms)(a b:Int){p:List EV}{n:Int}(hp:U8 p)(hl:p.length=64):∃ ms',Yw TT 243 (.map M) (kp a b) (.agg (p++[I n])) h=some (.tuple [],h.put M (.map ms'))/\Abv ms':=by
 have e:Yw TT 243 (.map M) (kp a b) (.agg (p++[I n])) h=Ay (Lb TT 243 (kp a b)) (match h.get M with
  | some (.map es)=>match Hv (kp a b) es 0 with
   | some (some (j,_))=>some (.tuple [],h.put M (.map (es.set j (kp a b,.agg (p++[I n])))))
   | some none=>some (.tuple [],h.put M (.map (es++[(kp a b,.agg (p++[I n]))])))
   | none=>none
  | _=>none) none:=rfl
 rw[e,Ah4,An,hg]
 rcases Acd a b ms 0 hm with y|⟨j,p',n',y,_⟩
 ·simp only[y]
  refine⟨_,rfl,fun e he=>?_⟩
  rcases List.mem_append.1 he with he|he
  ·exact hm e he
  ·rw[List.mem_singleton.1 he];exact⟨a,b,p,n,rfl,hp,hl⟩
 ·simp only[y]
  refine⟨_,rfl,fun e he=>?_⟩
  rcases List.mem_or_eq_of_mem_set he with he|he
  ·exact hm e he
  ·rw[he];exact⟨a,b,p,n,rfl,hp,hl⟩
structure Yy where
 Pb:Int
 kind:Int
 A7:Int
 off:Int
 pat:List EV
def Yy.cells(e:Yy):List EV:=[I e.Pb,I e.kind,I e.A7,I e.off]++e.pat
structure Yy.Wf(e:Yy):Prop where
 u8:U8 e.pat
 len:e.pat.length=64
structure K4 where
 dv:Dv
 ev:List Yy
 Qd:List Yy
def Brn:EV->EV->EV
 | .int k x,.int _ y=>.int k (Int.ofNat (Nat.xor x.toNat y.toNat))
 | a,_=>a
def Rf(a b:List EV):List EV:=List.zipWith Brn a b
def Dv.Ast(D:Dv)(z off:Int)(p:List EV):Dv:=
 if D.has z=true/\0<=off/\off<(D.zs z.toNat).l.length then D.set z.toNat { D.zs z.toNat with l:=(D.zs z.toNat).l.set off.toNat (Rf (((D.zs z.toNat).l[off.toNat]?).getD Pu) p) } else D
noncomputable def Dv.Sa(D:Dv)(e:Yy):Dv:=
 if e.kind=1 then D.Ast e.A7 e.off e.pat else if e.kind=2 then D.fail e.A7 3 else if e.kind=3 then D.fail e.A7 4 else if e.kind=4 then D.Bdo else D
noncomputable def Aud:List Yy->Dv->List Yy->K4
 | [],D,k=>⟨D,[],k⟩
 | e::r,D,k=>if D.down=true\/¬ e.Pb<=D.cnt then ⟨D,e::r,k⟩ else Aud r (D.Sa e) (k++[e])
noncomputable def K4.due(S:K4):K4:=Aud S.ev S.dv S.Qd
structure K4.Wf(S:K4):Prop where
 ev:S.ev.length+S.Qd.length<=200
 wf:∀ e ∈ S.ev,e.Wf
 Xq:∀ e ∈ S.Qd,e.Wf
structure Xy(h:Aa)(D V M qc qh:Nat)(cs hs:EV)(ms:List (EV × EV))(S:K4)(F G:Nat->Prop):Prop where
 D6:h.get D=some (.cells [.ptr V 0,cs,hs,.map M] 166)
 map:h.get M=some (.map ms)
 marks:Abv ms
 Ip:Bu h cs qc 105 68 S.ev.length (S.ev.map Yy.cells).flatten
 Aiw:Bu h hs qh 105 68 S.Qd.length (S.Qd.map Yy.cells).flatten
 dev:Gz h V S.dv F
 sub:(∀ i,F i->G i)/\G D/\G M/\(0<S.ev.length->G qc)/\(0<S.Qd.length->G qh)
 apart:¬ F D/\¬ F M/\(0<S.ev.length->¬ F qc)/\(0<S.Qd.length->¬ F qh)/\(0<S.ev.length->0<S.Qd.length->qc ≠ qh)
structure Fe(h:Aa)(D:Nat)(S:K4)(G:Nat->Prop):Prop where
 lt:∀ i,G i->i<h.next
 wf:S.Wf
 Pb:∃ V M qc qh cs hs ms F,Xy h D V M qc qh cs hs ms S F G
theorem Xy.mono {h:Aa}{D V M qc qh:Nat}{cs hs:EV}{ms:List (EV × EV)}{S:K4}{F G G':Nat->Prop}(a:Xy h D V M qc qh cs hs ms S F G)(s:∀ i,G i->G' i):Xy h D V M qc qh cs hs ms S F G':=
 ⟨a.D6,a.map,a.marks,a.Ip,a.Aiw,a.dev,⟨fun i hi=>s i (a.sub.1 i hi),s _ a.sub.2.1,s _ a.sub.2.2.1,fun y=>s _ (a.sub.2.2.2.1 y),fun y=>s _ (a.sub.2.2.2.2 y)⟩,a.apart⟩
theorem Fe.mono {h:Aa}{D:Nat}{S:K4}{G G':Nat->Prop}(d:Fe h D S G)(s:∀ i,G i->G' i)(l:∀ i,G' i->i<h.next):Fe h D S G':=by
 obtain⟨V,M,qc,qh,cs,hs,ms,F,a⟩:=d.Pb
 exact⟨l,d.wf,V,M,qc,qh,cs,hs,ms,F,a.mono s⟩
theorem Fe.grow {h h':Aa}{D:Nat}{S:K4}{G:Nat->Prop}(d:Fe h' D S G)(l:∀ i,G i->i<h.next)(n:h.next<=h'.next):Fe h' D S (Bq G h h'):=d.mono (fun _=>.inl) (Bq.lt l n)
theorem Fe.Baa {h h1 h2:Aa}{D:Nat}{S:K4}{G:Nat->Prop}(d:Fe h2 D S (Bq (Bq G h h1) h1 h2))(a:h.next<=h1.next)(b:h1.next<=h2.next)(l:∀ i,G i->i<h.next):Fe h2 D S (Bq G h h2):=
 d.mono (fun _=>Bq.trans a b) (Bq.lt l (Nat.le_trans a b))
theorem Xy.frame {h h':Aa}{D V M qc qh:Nat}{cs hs:EV}{ms:List (EV × EV)}{S:K4}{F G:Nat->Prop}(a:Xy h D V M qc qh cs hs ms S F G)(n:h.next<=h'.next)(e:∀ i,G i->h'.get i=h.get i):Xy h' D V M qc qh cs hs ms S F G:=
 ⟨by rw[e _ a.sub.2.1];exact a.D6,by rw[e _ a.sub.2.2.1];exact a.map,a.marks,a.Ip.frame fun y=>e _ (a.sub.2.2.2.1 y),a.Aiw.frame fun y=>e _ (a.sub.2.2.2.2 y),a.dev.frame n fun i hi=>e i (a.sub.1 i hi),a.sub,a.apart⟩
theorem Fe.frame {h h':Aa}{D:Nat}{S:K4}{G:Nat->Prop}(d:Fe h D S G)(n:h.next<=h'.next)(e:∀ i,G i->h'.get i=h.get i):Fe h' D S G:=by
 obtain⟨V,M,qc,qh,cs,hs,ms,F,a⟩:=d.Pb
 exact⟨fun i hi=>Nat.lt_of_lt_of_le (d.lt i hi) n,d.wf,V,M,qc,qh,cs,hs,ms,F,a.frame n e⟩
theorem Fe.chg {h h':Aa}{D:Nat}{S:K4}{G T:Nat->Prop}(d:Fe h D S G)(c:A9 T h h')(n:∀ i,G i->¬ T i):Fe h' D S G:=d.frame c.next fun i hi=>c.get i (d.lt i hi) (n i hi)
theorem Fe.ext {h h':Aa}{D:Nat}{S:K4}{G:Nat->Prop}(d:Fe h D S G)(c:Ext h h'):Fe h' D S G:=d.chg c fun _ _=>id
theorem Xy.put {h h':Aa}{D V M qc qh:Nat}{cs hs:EV}{ms:List (EV × EV)}{S:K4}{F G:Nat->Prop}(a:Xy h D V M qc qh cs hs ms S F G)(hb:HB h){dv:Dv}(d:Gz h' V dv (Bq F h h'))(c:A9 F h h'):
 Xy h' D V M qc qh cs hs ms { S with dv:=dv } (Bq F h h') (Bq G h h'):=by
 have lq:∀ {s q n l},Bu h s q 105 68 n l->0<n->q<h.next:=fun r y=>hb _ _ (r.block y)
 have nf:∀ {i},¬ F i->i<h.next->¬ Bq F h h' i:=fun y l z=>by
  rcases z with z|z
  ·exact y z
  ·omega
 refine⟨c.at hb a.D6 a.apart.1,c.at hb a.map a.apart.2.1,a.marks,a.Ip.frame fun y=>c.get _ (lq a.Ip y) (a.apart.2.2.1 y),a.Aiw.frame fun y=>c.get _ (lq a.Aiw y) (a.apart.2.2.2.1 y),d,⟨fun i hi=>?_,.inl a.sub.2.1,.inl a.sub.2.2.1,fun y=>.inl (a.sub.2.2.2.1 y),fun y=>.inl (a.sub.2.2.2.2 y)⟩,⟨nf a.apart.1 (hb _ _ a.D6),nf a.apart.2.1 (hb _ _ a.map),fun y=>nf (a.apart.2.2.1 y) (lq a.Ip y),fun y=>nf (a.apart.2.2.2.1 y) (lq a.Aiw y),a.apart.2.2.2.2⟩⟩
 rcases hi with hi|hi
 ·exact .inl (a.sub.1 i hi)
 ·exact .inr hi
theorem Fe.put {h h':Aa}{D V M qc qh:Nat}{cs hs:EV}{ms:List (EV × EV)}{S:K4}{F G:Nat->Prop}(s:Fe h D S G)(a:Xy h D V M qc qh cs hs ms S F G)(hb:HB h){dv:Dv}(d:Gz h' V dv (Bq F h h'))(c:A9 F h h'):
 Fe h' D { S with dv:=dv } (Bq G h h')/\A9 G h h':=
 ⟨⟨Bq.lt s.lt c.next,⟨s.wf.ev,s.wf.wf,s.wf.Xq⟩,V,M,qc,qh,cs,hs,ms,_,a.put hb d c⟩,c.mono a.sub.1⟩
theorem Xy.A9n {h:Aa}{D V M qc qh:Nat}{cs hs:EV}{ms ms':List (EV × EV)}{S:K4}{F G:Nat->Prop}(a:Xy h D V M qc qh cs hs ms S F G)(hm:Abv ms'):
 Xy (h.put M (.map ms')) D V M qc qh cs hs ms' S F G:=by
 refine⟨?_,Aj _ _ _,hm,a.Ip.frame fun y=>As _ ?_,a.Aiw.frame fun y=>As _ ?_,a.dev.frame (Nat.le_refl _) fun i hi=>As _ fun y=>?_,a.sub,a.apart⟩
 ·rw[As _ (Bt a.map a.D6 (by simp))];exact a.D6
 ·exact Bt a.map (a.Ip.block y) (by simp)
 ·exact Bt a.map (a.Aiw.block y) (by simp)
 ·rw[<-y]at hi;exact a.apart.2.1 hi
theorem Fe.A9n {h:Aa}{D V M qc qh:Nat}{cs hs:EV}{ms ms':List (EV × EV)}{S:K4}{F G:Nat->Prop}(s:Fe h D S G)(a:Xy h D V M qc qh cs hs ms S F G)(hb:HB h)(hm:Abv ms'):
 Fe (h.put M (.map ms')) D S G/\A9 G h (h.put M (.map ms'))/\HB (h.put M (.map ms')):=by
 have lM:=hb _ _ a.map
 exact⟨⟨s.lt,s.wf,V,M,qc,qh,cs,hs,ms',F,a.A9n hm⟩,(A9.refl h).A5 (.inl a.sub.2.2.1) lM _,hb.put lM _⟩
theorem Aha {h:Aa}{D V M qc qh:Nat}{cs hs:EV}{ms:List (EV × EV)}{S:K4}{F G:Nat->Prop}(a:Xy h D V M qc qh cs hs ms S F G):C2 K (.ptr D 0) h=some (.ptr V 0,h):=by simp only[C2,Ab,Ck a.D6 rfl]
def Bdp(disp:Nat->Option FT)(K d:Nat)(S:K4):Prop:=∀ (h:Aa) (D:Nat) (G:Nat->Prop),Fe h D S G->HB h->Ok (Ad TT disp K d false 118 [.ptr D 0] h) fun v h'=>Fe h' D S.due (Bq G h h')/\A9 G h h'/\HB h'
end Go.Ev

namespace Go.Ev
open Go.Proofs
set_option maxRecDepth 100000
variable {K:Nat}{disp:Nat->Option FT}
noncomputable def K4.begin(S:K4)(i:Int):K4:=if S.dv.has i=true then S.due else S
def Av3(disp:Nat->Option FT)(K:Nat)(S:K4):Prop:=∀ d,12<=d->Bdp disp K d S
theorem W6(H:Aq disp){d:Nat}(hd:13<=d){h:Aa}{D:Nat}{S:K4}{G:Nat->Prop}(hdue:Av3 disp K S)(s:Fe h D S G)(hb:HB h)(i:Int):
 Ok (Ad TT disp K d false 179 [.ptr D 0,I i] h) fun v h'=>Fe h' D (S.begin i) (Bq G h h')/\A9 G h h'/\HB h':=by
 obtain⟨e,rfl⟩:∃ k,d=k+1:=⟨d-1,by omega⟩
 rw[Ae8 H (by omega)]
 obtain⟨V,M,qc,qh,cs,hs',ms,F,a⟩:=s.Pb
 obtain⟨zl,z,q,b,_⟩:=a.dev.Pb
 have fin:Ok (some (.tuple [],h)) fun(_:EV) h'=>Fe h' D S (Bq G h h')/\A9 G h h'/\HB h':=.ret ⟨s.grow s.lt (Nat.le_refl _),A9.refl _,hb⟩
 unfold K4.begin
 simp only[Abn,I,Ai,Ab]
 by_cases h0:0<=i
 ·have hz:=Ak5 (K:=K) b
  simp only[I]at hz
  simp only[h0,decide_true,Ab,Ck a.D6 rfl,hz,Ai,K6]
  by_cases h1:i<S.dv.n
  ·have hh:S.dv.has i=true:=decide_eq_true ⟨h0,h1⟩
   simp only[h1,decide_true,Ab]
   rw[hh,if_pos rfl]
   refine(hdue e (by omega) h D G s hb).Al ?_
   intro v h' p
   exact .ret p
  ·have hh:S.dv.has i=false:=decide_eq_false fun y=>h1 y.2
   simp only[h1,decide_false,Ab]
   rw[hh,if_neg (by simp)]
   exact fin
 ·have hh:S.dv.has i=false:=decide_eq_false fun y=>h0 y.1
  simp only[h0,decide_false,Ab,K6]
  rw[hh,if_neg (by simp)]
  exact fin
noncomputable def K4.append(S:K4)(i:Int)(x:List EV):K4 × Int × Int:=({ S.begin i with dv:=((S.begin i).dv.append i x).1 },((S.begin i).dv.append i x).2)
theorem Ahc(H:Aq disp)(hK:1000<K){d:Nat}(hd:14<=d){h:Aa}{D:Nat}{S:K4}{G:Nat->Prop}(hdue:Av3 disp K S)(s:Fe h D S G)(hb:HB h)(i:Int){x:List EV}(hx:x.length=64)(hu:U8 x):
 Ok (Ad TT disp K d false 164 [.ptr D 0,I i,.agg x] h) fun v h'=>v=.tuple [I (S.append i x).2.1,I (S.append i x).2.2]/\Fe h' D (S.append i x).1 (Bq G h h')/\A9 G h h'/\HB h':=by
 obtain⟨e,rfl⟩:∃ k,d=k+1:=⟨d-1,by omega⟩
 rw[Ady H (by omega)]
 simp only[Zh,Ab]
 have x1:Ext h (h.new (.cells x 103)):=A9.new _ _
 have g5:(h.new (.cells x 103)).get h.next=some (.cells x 103):=Ag _ _
 have hb1:HB (h.new (.cells x 103)):=hb.new _
 have s1:=s.ext x1
 have n1:(h.new (.cells x 103)).next=h.next+1:=rfl
 generalize h.new (.cells x 103)=h1 at x1 g5 hb1 s1 n1 ⊢
 refine(W6 (K:=K) H (by omega) hdue s1 hb1 i).Al ?_
 rintro _ h2 ⟨s2,c2,hb2⟩
 have nx:¬ G h.next:=fun y=>Nat.lt_irrefl _ (s.lt _ y)
 have g5:=c2.at hb1 g5 nx
 have c02:A9 G h h2:=(Ext.to x1).trans c2
 have s2:Fe h2 D (S.begin i) (Bq G h1 h2):=s2
 unfold K4.append
 generalize S.begin i=T at s2 ⊢
 obtain⟨V,M,qc,qh,cs,hs',ms,F,a⟩:=s2.Pb
 have lD:=hb2 _ _ a.D6
 have l5:=hb2 _ _ g5
 simp only[Ab,Bz,A4 lD,Ck a.D6 rfl,A4 l5,Fy g5 rfl,A3 hx]
 refine Ok.Anz (S:=F) (by kernel_rfl) (by kernel_rfl) (fun _=>by kernel_rfl) (Ark (K:=K) a.dev.lift (F0 hb2) hK i hx hu) (fun _ _ p=>p.2.2.1) ?_
 rintro _ h3 h4 s' ⟨rfl,d3,_,hb3⟩ sm c4 _
 have hb4:=sm.hb hb3
 have d4:Gz h4 V (T.dv.append i x).1 (Bq F h2 h4):=by
  have:=d3.frame (h':=h4) (by rw[sm.next];exact Nat.le_refl _) fun j _=>sm.get j
  refine this.mono (fun j hj=>?_) (Bq.lt a.dev.lt c4.next)
  rcases hj with y|y
  ·exact .inl y
  ·exact .inr ⟨y.1,by rw[sm.next];exact y.2⟩
 have a4:=a.put hb2 d4 c4
 obtain⟨s4,c24⟩:=s2.put a hb2 d4 c4
 have cc:A9 G h h4:=by
  refine c02.then c24 fun j hj hl=>?_
  rcases hj with y|y
  ·exact y
  ·have:=x1.next;omega
 have s4:Fe h4 D { T with dv:=(T.dv.append i x).1 } (Bq G h h4):=s4.mono (fun j hj=>by
  rcases hj with (y|y)|y
  ·exact .inl y
  ·have:=x1.next;have:=c24.next;exact .inr ⟨by omega,by omega⟩
  ·have:=c02.next;exact .inr ⟨by omega,y.2⟩) (Bq.lt s.lt cc.next)
 simp only[Ab,I,Ai]
 by_cases hz:(T.dv.append i x).2.2=0
 ·simp only[hz,decide_true,Ab,Ck a4.D6 rfl]
  rw[B6 (l:=[I i,I (T.dv.append i x).2.1]) rfl]
  obtain⟨ms',e1,hm'⟩:=Aso a4.map a4.marks i (T.dv.append i x).2.1
  unfold kp at e1
  rw[e1,Bg]
  simp only[Ki]
  obtain⟨V',M',qc',qh',cs',hs'',ms'',F',a5⟩:=s4.Pb
  have lM:=hb4 _ _ a4.map
  have a6:=a4.A9n hm'
  have gM:Bq G h h4 M:=by
   rcases a.sub.2.2.1 with y|y
   ·exact .inl y
   ·have:=x1.next;have:=c24.next;exact .inr ⟨by omega,by omega⟩
  have c5:A9 (Bq G h h4) h4 (h4.put M (.map ms')):=(A9.refl h4).A5 (.inl gM) lM _
  refine .ret ⟨rfl,⟨Bq.lt s.lt (cc.grow c5).next,s4.wf,V,M,qc,qh,cs,hs',ms',_,a6.mono fun j hj=>?_⟩,cc.grow c5,hb4.put lM _⟩
  show Bq G h h4 j
  rcases hj with (y|y)|y
  ·exact .inl y
  ·have:=x1.next;have:=c24.next;exact .inr ⟨by omega,by omega⟩
  ·have:=c02.next;exact .inr ⟨by omega,y.2⟩
 ·simp only[hz,decide_false,Ab,Ki]
  exact .ret ⟨rfl,s4,cc,hb4⟩
noncomputable def K4.read(S:K4)(i off:Int):K4 × List EV × Int:=({ S.begin i with dv:=(S.begin i).dv.begin i },(S.begin i).dv.read i off)
theorem Aw3(H:Aq disp){d:Nat}(hd:14<=d){h:Aa}{D:Nat}{S:K4}{G:Nat->Prop}(hdue:Av3 disp K S)(s:Fe h D S G)(hb:HB h)(i off:Int):
 Ok (Ad TT disp K d false 133 [.ptr D 0,I i,I off] h) fun v h'=>v=.tuple [.agg (S.read i off).2.1,I (S.read i off).2.2]/\(S.read i off).2.1.length=64/\Fe h' D (S.read i off).1 (Bq G h h')/\A9 G h h'/\HB h':=by
 obtain⟨e,rfl⟩:∃ k,d=k+1:=⟨d-1,by omega⟩
 rw[Ag1 H (by omega)]
 simp only[Ado,Ab]
 have x1:Ext h (h.new (.cells (List.replicate 64 (.int .u8 0)) 103)):=A9.new _ _
 have g6:(h.new (.cells (List.replicate 64 (.int .u8 0)) 103)).get h.next=some (.cells Pu 103):=Ag _ _
 have hb1:HB (h.new (.cells (List.replicate 64 (.int .u8 0)) 103)):=hb.new _
 have s1:=s.ext x1
 generalize h.new (.cells (List.replicate 64 (.int .u8 0)) 103)=h1 at x1 g6 hb1 s1 ⊢
 refine(W6 (K:=K) H (by omega) hdue s1 hb1 i).Al ?_
 rintro _ h2 ⟨s2,c2,hb2⟩
 have nx:¬ G h.next:=fun y=>Nat.lt_irrefl _ (s.lt _ y)
 have g6:=c2.at hb1 g6 nx
 have l6:h.next<h1.next:=by
  have:=hb2 _ _ g6
  rcases Nat.lt_or_ge h.next h1.next with y|y
  ·exact y
  ·exact absurd (hb1 _ _ (show h1.get h.next=some (.cells Pu 103) by assumption)) (by omega)
 have c02:A9 G h h2:=(Ext.to x1).trans c2
 unfold K4.read
 generalize S.begin i=T at s2 ⊢
 obtain⟨V,M,qc,qh,cs,hs',ms,F,a⟩:=s2.Pb
 simp only[Ab,Ck a.D6 rfl]
 refine(Awk (K:=K) a.dev hb2 i off).Al ?_
 rintro _ h3 ⟨rfl,hlen,d3,c3,hb3⟩
 obtain⟨s3,c23⟩:=s2.put a hb2 d3 c3
 have nG:¬ Bq G h1 h2 h.next:=by
  rintro(y|y)
  ·exact nx y
  ·omega
 have g6:=c23.at hb2 g6 nG
 have lt6:=hb3 _ _ g6
 simp only[Ab]
 refine Ok.st (T.dv.read i off).1 g6 rfl (by rw[show EV.cells (.agg (T.dv.read i off).1)=(T.dv.read i off).1 from rfl,B8,hlen]) (Cb (by rw[I6];exact hlen.symm)) ?_
 rw[Hs (Aj _ _ _) Adg.1 Adg.2 hlen]
 have cc:A9 G h h3:=by
  refine c02.then c23 fun j hj hl=>?_
  rcases hj with y|y
  ·exact y
  ·have:=x1.next;omega
 have c4:A9 G h (h3.put h.next (.cells (T.dv.read i off).1 103)):=cc.A5 (.inr (Nat.le_refl _)) lt6 _
 refine .ret ⟨rfl,hlen,?_,c4,hb3.put lt6 _⟩
 refine Fe.mono (s3.frame (h':=h3.put h.next (.cells (T.dv.read i off).1 103)) (Nat.le_refl _) fun j hj=>As _ fun y=>?_) (fun j hj=>?_) (Bq.lt s.lt c4.next)
 ·subst y
  rcases hj with y|y
  ·exact nG y
  ·have:=c2.next;omega
 ·show Bq G h h3 j
  rcases hj with (y|y)|y
  ·exact .inl y
  ·have:=x1.next;have:=c23.next;exact .inr ⟨by omega,by omega⟩
  ·have:=c02.next;exact .inr ⟨by omega,y.2⟩
noncomputable def K4.flush(S:K4):K4 × Int:=({ S.due with dv:=S.due.dv.flush.1 },S.due.dv.flush.2)
theorem Ajy(H:Aq disp)(hK:1000<K){d:Nat}(hd:14<=d){h:Aa}{D:Nat}{S:K4}{G:Nat->Prop}(hdue:Av3 disp K S)(s:Fe h D S G)(hb:HB h):
 Ok (Ad TT disp K d false 67 [.ptr D 0] h) fun v h'=>v=I S.flush.2/\Fe h' D S.flush.1 (Bq G h h')/\A9 G h h'/\HB h':=by
 obtain⟨e,rfl⟩:∃ k,d=k+1:=⟨d-1,by omega⟩
 rw[Agd H (by omega)]
 simp only[Aa6]
 refine(hdue e (by omega) h D G s hb).Al ?_
 rintro _ h2 ⟨s2,c2,hb2⟩
 unfold K4.flush
 generalize S.due=T at s2 ⊢
 obtain⟨V,M,qc,qh,cs,hs',ms,F,a⟩:=s2.Pb
 simp only[Ab,Ck a.D6 rfl]
 refine(Auu (K:=K) a.dev hb2 hK).Al ?_
 rintro _ h3 ⟨rfl,d3,c3,hb3⟩
 obtain⟨s3,c23⟩:=s2.put a hb2 d3 c3
 exact .ret ⟨rfl,s3.Baa c2.next c23.next s.lt,c2.grow c23,hb3⟩
noncomputable def K4.finish(S:K4)(i:Int):K4 × Int:=({ S.begin i with dv:=((S.begin i).dv.finish i).1 },((S.begin i).dv.finish i).2)
theorem Aho(H:Aq disp){d:Nat}(hd:14<=d){h:Aa}{D:Nat}{S:K4}{G:Nat->Prop}(hdue:Av3 disp K S)(s:Fe h D S G)(hb:HB h)(i:Int):
 Ok (Ad TT disp K d false 165 [.ptr D 0,I i] h) fun v h'=>v=I (S.finish i).2/\Fe h' D (S.finish i).1 (Bq G h h')/\A9 G h h'/\HB h':=by
 obtain⟨e,rfl⟩:∃ k,d=k+1:=⟨d-1,by omega⟩
 rw[Aeg H (by omega)]
 simp only[Zw]
 refine(W6 (K:=K) H (by omega) hdue s hb i).Al ?_
 rintro _ h2 ⟨s2,c2,hb2⟩
 unfold K4.finish
 generalize S.begin i=T at s2 ⊢
 obtain⟨V,M,qc,qh,cs,hs',ms,F,a⟩:=s2.Pb
 simp only[Ab,Ck a.D6 rfl]
 refine(Ar4 (K:=K) a.dev hb2 i).Al ?_
 rintro _ h3 ⟨rfl,d3,c3,hb3⟩
 obtain⟨s3,c23⟩:=s2.put a hb2 d3 c3
 exact .ret ⟨rfl,s3.Baa c2.next c23.next s.lt,c2.grow c23,hb3⟩
end Go.Ev

namespace Go.Ev
open Go.Proofs
set_option maxRecDepth 100000
variable {K:Nat}{disp:Nat->Option FT}
theorem Ayp {D:Nat}{S:K4}{G:Nat->Prop}(z:Int):∀ (m i:Nat) (h:Aa),S.dv.size-i<m->Fe h D S G->HB h ->
 Ok (Ee K m (.ptr D 0) (I z) (I i) h) fun v h'=>Fe h' D S G/\A9 G h h'/\HB h':=by
 intro m
 induction m with
 | zero=>intro i h hm;omega
 | succ m ih=>
  intro i h hm s hb
  obtain⟨V,M,qc,qh,cs,hs',ms,F,a⟩:=s.Pb
  obtain⟨zl,zz,q,b,_⟩:=a.dev.Pb
  have hsz:=Am6 (K:=K) b
  have hsl:S.dv.size<=64:=a.dev.wf.size
  simp only[I]at hsz
  simp only[Ee,Ab,Ck a.D6 rfl,hsz,I,Ai]
  by_cases hlt:(i:Int)<S.dv.size
  ·simp only[hlt,decide_true,Ab,Vc,Ck a.D6 rfl]
   rw[B6 (l:=[I z,I i]) rfl]
   obtain⟨ms',e1,hm'⟩:=Aso a.map a.marks z i
   unfold kp at e1
   rw[e1,Bg]
   simp only[Us,I,Ai]
   rw[C8 (by omega) (by omega)]
   obtain⟨s2,c2,hb2⟩:=s.A9n a hb hm'
   refine(ih (i+1) _ (by omega) s2 hb2).mono ?_
   rintro v h' ⟨s3,c3,hb3⟩
   exact⟨s3,c2.trans c3,hb3⟩
  ·simp only[hlt,decide_false,Ab]
   exact .ret ⟨s,A9.refl _,hb⟩
end Go.Ev
