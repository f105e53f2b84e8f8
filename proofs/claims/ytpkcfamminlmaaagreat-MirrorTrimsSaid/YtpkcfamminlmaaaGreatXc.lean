import Derived.Test.YtpkcfamminlmaaaGreatXb
set_option linter.unusedVariables false
set_option linter.unusedSimpArgs false
set_option linter.unusedSectionVars false
namespace Go.Ev
open Go.Proofs
set_option maxRecDepth 100000
variable {K : Nat}
def Grow (F : Nat->Prop) (h h' : AHeap) : Nat->Prop:=fun i=>F i\/(h.next<=i/\i < h'.next)
theorem Chg.grow {F : Nat->Prop} {h h1 h2 : AHeap} (a : Chg F h h1) (b : Chg (Grow F h h1) h1 h2) : Chg F h h2:=
 a.then b fun i hi hl=>by
  rcases hi with hi | hi
  ·exact hi
  ·omega
theorem Grow.trans {F : Nat->Prop} {h h1 h2 : AHeap} (a : h.next<=h1.next) (b : h1.next<=h2.next) {i : Nat} (g : Grow (Grow F h h1) h1 h2 i) : Grow F h h2 i:=by
 rcases g with (g | g) | g
 ·exact .inl g
 ·exact .inr ⟨g.1,by omega⟩
 ·exact .inr ⟨by omega,g.2⟩
theorem Grow.le {F : Nat->Prop} {h h1 h2 : AHeap} (b : h1.next<=h2.next) {i : Nat} (g : Grow F h h1 i) : Grow F h h2 i:=by
 rcases g with g | g
 ·exact .inl g
 ·exact .inr ⟨g.1,by omega⟩
structure Dv where
 n : Nat
 size : Nat
 op : Int
 cnt : Int
 down : Bool
 zs : Nat->Zn
def u8s (l : List Nat) : List EV:=l.map fun (b : Nat)=>EV.int .u8 (Int.ofNat b)
def U8 (x : List EV) : Prop:=∃ l : List Nat,(∀ b ∈ l,b < 256)/\x = u8s l
theorem U8.zs : U8 zs64:=⟨List.replicate 64 0,fun b hb=>by rw [List.eq_of_mem_replicate hb]; decide,by unfold u8s zs64; rw [List.map_replicate]; rfl⟩
structure Zn.Wf (Z : Zn) (size : Nat) : Prop where
 u8 : ∀ x ∈ Z.l,U8 x
 st : Z.st<=4
 safe : Z.safe<=Z.l.length
 len : Z.l.length<=size
 room : Z.st < 2->Z.l.length < size
structure Dv.Wf (D : Dv) : Prop where
 size : D.size<=64
 n : D.n<=512
 zs : ∀ i,i < D.n->(D.zs i).Wf D.size
def DevF (V zl n : Nat) (z q : Nat->Nat) (zs : Nat->Zn) : Nat->Prop:=fun i=>i = V\/i = zl\/∃ d,d < n/\(i = z d\/((zs d).l ≠ []/\i = q d))
structure DevS (h : AHeap) (V : Nat) (D : Dv) (F : Nat->Prop) : Prop where
 wf : D.Wf
 lt : ∀ i,F i->i < h.next
 at' : ∃ zl z q,DevAt h V zl D.n z q D.size D.op D.cnt D.down D.zs/\∀ i,DevF V zl D.n z q D.zs i->F i
theorem DevS.mono {h : AHeap} {V : Nat} {D : Dv} {F G : Nat->Prop} (d : DevS h V D F) (s : ∀ i,F i->G i) (l : ∀ i,G i->i < h.next) : DevS h V D G:=by
 obtain ⟨zl,z,q,a,b⟩:=d.at'
 exact ⟨d.wf,l,zl,z,q,a,fun i hi=>s i (b i hi)⟩
theorem Grow.lt {F : Nat->Prop} {h h' : AHeap} (l : ∀ i,F i->i < h.next) (n : h.next<=h'.next) : ∀ i,Grow F h h' i->i < h'.next:=fun i hi=>by
 rcases hi with hi | hi
 ·have:=l i hi; omega
 ·exact hi.2
theorem DevS.grow {h h' : AHeap} {V : Nat} {D : Dv} {F : Nat->Prop} (d : DevS h' V D F) (l : ∀ i,F i->i < h.next) (n : h.next<=h'.next) : DevS h' V D (Grow F h h'):=
 d.mono (fun _=>.inl) (Grow.lt l n)
theorem DevS.grow2 {h h1 h2 : AHeap} {V : Nat} {D : Dv} {F : Nat->Prop} (d : DevS h2 V D (Grow (Grow F h h1) h1 h2)) (a : h.next<=h1.next) (b : h1.next<=h2.next) (l : ∀ i,F i->i < h.next) : DevS h2 V D (Grow F h h2):=
 d.mono (fun _=>Grow.trans a b) (Grow.lt l (Nat.le_trans a b))
theorem len_ne {l : List (List EV)} : l ≠ [] ↔ 0 < l.length:=by rw [List.length_pos_iff]
theorem DevAt.frame {h h' : AHeap} {V zl n : Nat} {z q : Nat->Nat} {size op cnt : Int} {down : Bool} {Zs : Nat->Zn} (d : DevAt h V zl n z q size op cnt down Zs) (e : ∀ i,DevF V zl n z q Zs i->h'.get i = h.get i) : DevAt h' V zl n z q size op cnt down Zs:=by
 refine ⟨d.pos,by rw [e _ (.inl rfl)]; exact d.dev,by rw [e _ (.inr (.inl rfl))]; exact d.row,fun i hi=>?_,d.zinj,d.qinj⟩
 obtain ⟨s,a,b⟩:=(d.zone i hi).zone
 exact ⟨⟨s,by rw [e _ (.inr (.inr ⟨i,hi,.inl rfl⟩))]; exact a,b.frame fun hl=>e _ (.inr (.inr ⟨i,hi,.inr ⟨len_ne.2 hl,rfl⟩⟩))⟩,(d.zone i hi).wf⟩
theorem DevS.frame {h h' : AHeap} {V : Nat} {D : Dv} {F : Nat->Prop} (d : DevS h V D F) (n : h.next<=h'.next) (e : ∀ i,F i->h'.get i = h.get i) : DevS h' V D F:=by
 obtain ⟨zl,z,q,a,b⟩:=d.at'
 exact ⟨d.wf,fun i hi=>Nat.lt_of_lt_of_le (d.lt i hi) n,zl,z,q,a.frame fun i hi=>e i (b i hi),b⟩
theorem DevS.chg {h h' : AHeap} {V : Nat} {D : Dv} {F S : Nat->Prop} (d : DevS h V D F) (c : Chg S h h') (n : ∀ i,F i->¬ S i) : DevS h' V D F:=
 d.frame c.next fun i hi=>c.get i (d.lt i hi) (n i hi)
theorem DevS.ext {h h' : AHeap} {V : Nat} {D : Dv} {F : Nat->Prop} (d : DevS h V D F) (c : Ext h h') : DevS h' V D F:=d.chg c fun _ _=>id
theorem DevAt.putDev {h : AHeap} {V zl n : Nat} {z q : Nat->Nat} {size op cnt : Int} {down : Bool} {Zs : Nat->Zn} (d : DevAt h V zl n z q size op cnt down Zs) (cnt' : Int) (down' : Bool) :
 DevAt (h.put V (.cells [.slice zl 0 n n true,I size,I op,I cnt',.bool down'] 183)) V zl n z q size op cnt' down' Zs:=by
 refine ⟨d.pos,get_put_same _ _ _,?_,fun i hi=>?_,d.zinj,d.qinj⟩
 ·rw [get_put_ne _ (ne_of_get d.dev d.row (by simp))]; exact d.row
 ·obtain ⟨s,a,b⟩:=(d.zone i hi).zone
  refine ⟨⟨s,?_,b.frame fun hl=>get_put_ne _ (ne_of_get d.dev (b.block hl) (by simp))⟩,(d.zone i hi).wf⟩
  rw [get_put_ne _ (ne_of_get d.dev a (by simp))]; exact a
def updZ (Zs : Nat->Zn) (d : Nat) (Z : Zn) : Nat->Zn:=fun e=>if e = d then Z else Zs e
def updN (q : Nat->Nat) (d x : Nat) : Nat->Nat:=fun e=>if e = d then x else q e
theorem DevAt.putZone {h h' : AHeap} {V zl n : Nat} {z q : Nat->Nat} {size op cnt : Int} {down : Bool} {Zs : Nat->Zn} (d : DevAt h V zl n z q size op cnt down Zs) (hb : HB h) {i : Nat} (hi : i < n) {q' : Nat} {Z : Zn}
 (zz : ZoneAt h' (z i) q' size Z) (c : Chg (fun j=>j = z i\/((Zs i).l ≠ []/\j = q i)) h h') (hq : Z.l ≠ []->h.next<=q'\/(q' = q i/\(Zs i).l ≠ [])) :
 DevAt h' V zl n z (updN q i q') size op cnt down (updZ Zs i Z):=by
 obtain ⟨si,ai,bi⟩:=(d.zone i hi).zone
 have nq : ∀ x o,h.get x = some o->(∀ l,o ≠ .vec l 103 64)->¬ ((Zs i).l ≠ []/\x = q i):=by
  rintro x o hx hno ⟨hl,rfl⟩
  rw [bi.block (len_ne.1 hl)] at hx
  cases hx; exact hno _ rfl
 have keep : ∀ x o,h.get x = some o->x ≠ z i->(∀ l,o ≠ .vec l 103 64)->h'.get x = some o:=fun x o hx hn hno=>by
  refine c.at hb hx ?_
  rintro (y | y)
  ·exact hn y
  ·exact nq x o hx hno y
 refine ⟨d.pos,keep _ _ d.dev (ne_of_get d.dev ai (by simp)) (by intros; simp),keep _ _ d.row (ne_of_get d.row ai (by simp)) (by intros; simp),fun j hj=>?_,d.zinj,?_⟩
 ·by_cases hji : j = i
  ·subst hji; simp only [updN,updZ,if_true]; exact zz
  ·simp only [updN,updZ,hji,if_false]
   obtain ⟨s,a,b⟩:=(d.zone j hj).zone
   refine ⟨⟨s,keep _ _ a (fun e=>hji (d.zinj j i hj hi e)) (by intros; simp),b.frame fun hl=>?_⟩,(d.zone j hj).wf⟩
   have gb:=b.block hl
   refine c.get _ (hb _ _ gb) ?_
   rintro (y | ⟨y1,y2⟩)
   ·exact ne_of_get gb ai (by simp) y
   ·exact hji (d.qinj j i hj hi (len_ne.2 hl) y1 y2)
 ·intro j k hj hk
  have lq : ∀ j,j < n->(Zs j).l ≠ []->q j < h.next:=fun j hj hl=>by
   obtain ⟨s,a,b⟩:=(d.zone j hj).zone
   exact hb _ _ (b.block (len_ne.1 hl))
  by_cases hji : j = i <;> by_cases hki : k = i
  ·intros; omega
  ·subst hji; simp only [updN,updZ,hki,if_true,if_false]
   intro a b e
   rcases hq a with y | ⟨y1,y2⟩
   ·have:=lq k hk b; omega
   ·exact absurd (d.qinj j k hj hk y2 b (by rw [<-y1]; exact e)).symm hki
  ·subst hki; simp only [updN,updZ,hji,if_true,if_false]
   intro a b e
   rcases hq b with y | ⟨y1,y2⟩
   ·have:=lq j hj a; omega
   ·exact absurd (d.qinj j k hj hk a y2 (by rw [<-y1]; exact e)) hji
  ·simp only [updN,updZ,hji,hki,if_false]
   exact d.qinj j k hj hk
def Dv.has (D : Dv) (i : Int) : Bool:=decide (0<=i/\i < D.n)
def Dv.beginE (D : Dv) (i : Int) : Int:=if D.down = true then 34 else if D.has i = false then 13 else 0
noncomputable def Dv.tick (D : Dv) : Dv:={ D with cnt:=wrapF .i64 (D.cnt + 1) }
noncomputable def Dv.begin (D : Dv) (i : Int) : Dv:=if D.beginE i = 0 then D.tick else D
def Dv.set (D : Dv) (i : Nat) (Z : Zn) : Dv:={ D with zs:=updZ D.zs i Z }
section
variable {h : AHeap} {V zl n : Nat} {z q : Nat->Nat} {size op cnt : Int} {down : Bool} {Zs : Nat->Zn} (d : DevAt h V zl n z q size op cnt down Zs)
include d
theorem DevAt.list (k : EV->R) : ld1E (.ptr V 0) h k = k (.slice zl 0 n n true):=by rw [lds d.dev rfl]; rfl
theorem DevAt.zptr {i : Nat} (hi : i < n) (k : EV->R) : ixSE 1 (.slice zl 0 n n true) (I i) (fun v=>ld1E v h k) = k (.ptr (z i) 0):=by
 unfold I
 rw [ixSE_n hi,lds d.row rfl,Nat.zero_add,Nat.mul_one,List.getElem?_map,List.getElem?_range hi]; rfl
theorem zdev_has_eq (i : Int) : zdev_Device_has K (.ptr V 0) (I i) h = some (.bool (decide (0<=i/\i < n)),h):=by
 simp only [zdev_Device_has,I,walkI,walkE]
 by_cases h0 : 0<=i
 ·simp only [h0,decide_true,walkE,walkI,d.list,zdev_Device_has_j0,true_and]
 ·simp only [h0,decide_false,walkE,zdev_Device_has_j0,false_and]
end
section
variable {h : AHeap} {V : Nat} {D : Dv} {F : Nat->Prop} (d : DevS h V D F) (hb : HB h)
include d
theorem dev_has_eq (i : Int) : zdev_Device_has K (.ptr V 0) (I i) h = some (.bool (D.has i),h):=by
 obtain ⟨w,wl,zl,z,q,a,b⟩:=d
 exact zdev_has_eq a i
theorem dev_state_eq (i : Int) : zdev_Device_State K (.ptr V 0) (I i) h = some (I (if D.has i = true then (D.zs i.toNat).st else 4),h):=by
 simp only [zdev_Device_State,dev_has_eq d,walkE]
 obtain ⟨w,wl,zl,z,q,a,b⟩:=d
 cases hh : D.has i with
 | false=>simp only [walkE,I,Bool.false_eq_true,if_false]
 | true=>
  have:=of_decide_eq_true hh
  obtain ⟨j,rfl⟩ : ∃ j : Nat,i = j:=⟨i.toNat,by omega⟩
  have hj : j < D.n:=by omega
  simp only [walkE,zdev_Device_State_j0,a.list,a.zptr hj,zone_state_eq (a.zone j hj),if_true]
  rfl
include hb
theorem dev_begin_ok (i : Int) : Ok (zdev_Device_begin K (.ptr V 0) (I i) h) fun v h'=>v = I (D.beginE i)/\DevS h' V (D.begin i) F/\Chg F h h'/\HB h'/\h'.next = h.next:=by
 have hh:=dev_has_eq (K:=K) d i
 obtain ⟨w,wl,zl,z,q,a,b⟩:=d
 unfold Dv.begin Dv.beginE
 simp only [zdev_Device_begin,walkE,lds a.dev rfl]
 cases hd : D.down with
 | true=>
  simp only [walkE,if_true,show ((34 : Int) = 0) = False by simp,if_false]
  exact .ret ⟨rfl,⟨w,wl,zl,z,q,a,b⟩,Chg.refl _,hb,rfl⟩
 | false=>
  simp only [walkE,hh,Bool.false_eq_true,if_false]
  cases hhs : D.has i with
  | false=>
   simp only [walkE,if_true,show ((13 : Int) = 0) = False by simp,if_false]
   exact .ret ⟨rfl,⟨w,wl,zl,z,q,a,b⟩,Chg.refl _,hb,rfl⟩
  | true=>
   simp only [walkE,Bool.true_eq_false,if_false,if_true,zdev_Device_begin_j0,lds a.dev rfl,I,walkI]
   have lV:=hb _ _ a.dev
   refine Ok.st1 a.dev rfl rfl (by show 3 < 5; decide) ?_
   refine .ret ⟨rfl,⟨⟨w.size,w.n,w.zs⟩,wl,zl,z,q,a.putDev (wrapF .i64 (D.cnt + 1)) D.down,b⟩,(Chg.refl h).andPut (.inl (b _ (.inl rfl))) lV _,hb.put lV _,rfl⟩
end
end Go.Ev

namespace Go.Ev
open Go.Proofs
set_option maxRecDepth 100000
variable {K : Nat}
theorem bigE_pure {i b : Nat} {s : DX} {h : AHeap} {call : AHeap->R} {k : EV->AHeap->DX->R} {v : EV} (hb : bigOk b s = true) (hl : loose b s.nw = []) (hc : call h.lift = some (v,h.lift)) : bigE i b s h call k = k v h (s.big i):=by
 have hf : bigFront b s h = h.lift:=by unfold bigFront; rw [hl]; rfl
 show cnd (bigOk b s) (Ev.andE (call (bigFront b s h)) fun v h'=>bigBack i b s h h' fun s h=>k v h s) none = _
 rw [hb,cnd_true,hf,hc]
 show bigBack i b s h h.lift (fun s h=>k v h s) = _
 unfold bigBack
 rw [Nat.ble_eq_true_of_le (show h.next<=h.lift.mw from Nat.le_refl _),cnd_true,hl]
 rfl
theorem DevAt.lift {h : AHeap} {V zl n : Nat} {z q : Nat->Nat} {size op cnt : Int} {down : Bool} {Zs : Nat->Zn} (d : DevAt h V zl n z q size op cnt down Zs) : DevAt h.lift V zl n z q size op cnt down Zs:=d.frame fun i _=>lift_get h i
theorem DevS.lift {h : AHeap} {V : Nat} {D : Dv} {F : Nat->Prop} (d : DevS h V D F) : DevS h.lift V D F:=d.frame (Nat.le_refl _) fun i _=>lift_get h i
def openN (Zs : Nat->Zn) (n : Nat) : Nat:=((List.range n).filter fun i=>(Zs i).st = 1).length
theorem openN_succ (Zs : Nat->Zn) (n : Nat) : openN Zs (n + 1) = openN Zs n + (if (Zs n).st = 1 then 1 else 0):=by
 unfold openN
 rw [List.range_succ,List.filter_append,List.length_append]
 congr 1
 by_cases hc : (Zs n).st = 1 <;> simp [hc]
theorem openN_le (Zs : Nat->Zn) (n : Nat) : openN Zs n<=n:=by
 unfold openN
 have:=List.length_filter_le (fun i=>decide ((Zs i).st = 1)) (List.range n)
 simpa using this
theorem opened_loop {h : AHeap} {V zl n : Nat} {z q : Nat->Nat} {size op cnt : Int} {down : Bool} {Zs : Nat->Zn} (d : DevAt h V zl n z q size op cnt down Zs) (hn : n<=512) : ∀ (m i : Nat),n - i < m->i<=n ->
 zdev_Device_opened_b4 K m (I (openN Zs i)) (.slice zl 0 n n true) (I n) (I i) h = some (I (openN Zs n),h):=by
 intro m
 induction m with
 | zero=>intro i hm; omega
 | succ m ih=>
  intro i hm hi
  simp only [zdev_Device_opened_b4,I,walkI,walkE]
  by_cases hlt : (i : Int) < n
  ·have hin : i < n:=by omega
   have hz:=d.zptr hin
   simp only [I] at hz
   have hle:=openN_le Zs i
   simp only [hlt,decide_true,walkE,zdev_Device_opened_j3,hz,zone_state_eq (d.zone i hin),I,walkI]
   have ih':=ih (i + 1) (by omega) (by omega)
   rw [openN_succ] at ih'
   by_cases h1 : (Zs i).st = 1
   ·rw [show decide (((Zs i).st : Int) = 1) = true by simp [h1]]
    rw [if_pos h1] at ih'
    simp only [walkE,walkI,zdev_Device_opened_j2]
    rw [wi64 (by omega) (by omega),wi64 (by omega) (by omega)]
    exact ih'
   ·rw [show decide (((Zs i).st : Int) = 1) = false by simp; omega]
    rw [if_neg h1] at ih'
    simp only [walkE,walkI,zdev_Device_opened_j2]
    rw [wi64 (by omega) (by omega)]
    exact ih'
  ·have : i = n:=by omega
   subst this
   simp only [hlt,decide_false,walkE,zdev_Device_opened_j0]
theorem opened_eq {h : AHeap} {V zl n : Nat} {z q : Nat->Nat} {size op cnt : Int} {down : Bool} {Zs : Nat->Zn} (d : DevAt h V zl n z q size op cnt down Zs) (hn : n<=512) (hK : 1000 < K) :
 zdev_Device_opened K (.ptr V 0) h = some (I (openN Zs n),h):=by
 simp only [zdev_Device_opened,walkE,d.list]
 exact opened_loop d hn K 0 (by omega) (Nat.zero_le _)
noncomputable def Dv.append (D : Dv) (i : Int) (x : List EV) : Dv × Int × Int:=
 if D.beginE i ≠ 0 then (D,0,D.beginE i) else
 if (D.zs i.toNat).st = 0/\D.op<=openN D.zs D.n then (D.tick,0,33) else
 if 2<=(D.zs i.toNat).st then (D.tick,0,if (D.zs i.toNat).st = 2 then 17 else failE (D.zs i.toNat).st) else
 (D.tick.set i.toNat ((D.zs i.toNat).app D.size x),(D.zs i.toNat).l.length,0)
theorem Zn.Wf.app {Z : Zn} {size : Nat} (w : Z.Wf size) (hs : Z.st < 2) {x : List EV} (hx : U8 x) : (Z.app size x).Wf size:=by
 have:=w.room hs
 have:=w.safe
 refine ⟨fun y hy=>?_,?_,?_,?_,?_⟩ <;> try simp only [Zn.app,List.length_append,List.length_singleton]
 ·rcases List.mem_append.1 hy with hy | hy
  ·exact w.u8 y hy
  ·rw [List.mem_singleton.1 hy]; exact hx
 ·split <;> omega
 ·omega
 ·omega
 ·split <;> omega
theorem Dv.Wf.set {D : Dv} (w : D.Wf) {i : Nat} {Z : Zn} (z : Z.Wf D.size) : (D.set i Z).Wf:=by
 refine ⟨w.size,w.n,fun j hj=>?_⟩
 show (updZ D.zs i Z j).Wf D.size
 unfold updZ
 split
 ·exact z
 ·exact w.zs j hj
theorem Dv.Wf.tick {D : Dv} (w : D.Wf) : D.tick.Wf:=⟨w.size,w.n,w.zs⟩
theorem DevS.zone {h h' : AHeap} {V : Nat} {D : Dv} {F : Nat->Prop} (w : D.Wf) {zl : Nat} {z q : Nat->Nat} (a : DevAt h V zl D.n z q D.size D.op D.cnt D.down D.zs) (b : ∀ i,DevF V zl D.n z q D.zs i->F i) (wl : ∀ i,F i->i < h.next) (hb : HB h) {i : Nat} (hi : i < D.n) {q' : Nat} {Z : Zn}
 (zw : Z.Wf D.size) (zz : ZoneAt h' (z i) q' D.size Z) (c : Chg (fun j=>j = z i\/((D.zs i).l ≠ []/\j = q i)) h h') (hb' : HB h') (hq : Z.l ≠ []->h.next<=q'\/(q' = q i/\(D.zs i).l ≠ [])) :
 DevS h' V (D.set i Z) (Grow F h h')/\Chg F h h':=by
 have hF : ∀ j,(j = z i\/((D.zs i).l ≠ []/\j = q i))->F j:=by
  rintro j (y | ⟨y1,y2⟩)
  ·exact b j (.inr (.inr ⟨i,hi,.inl y⟩))
  ·exact b j (.inr (.inr ⟨i,hi,.inr ⟨y1,y2⟩⟩))
 refine ⟨⟨w.set zw,Grow.lt wl c.next,zl,z,_,a.putZone hb hi zz c hq,?_⟩,c.mono hF⟩
 rintro j (y | y | ⟨d,hd,y⟩)
 ·exact .inl (b j (.inl y))
 ·exact .inl (b j (.inr (.inl y)))
 ·rcases y with y | ⟨y1,y2⟩
  ·exact .inl (b j (.inr (.inr ⟨d,hd,.inl y⟩)))
  ·by_cases hdi : d = i
   ·subst hdi
    simp only [Dv.set,updZ,updN,if_true] at y1 y2
    subst y2
    rcases hq y1 with y | ⟨y3,y4⟩
    ·obtain ⟨s,_,r⟩:=zz.zone
     exact .inr ⟨y,hb' _ _ (r.block (len_ne.1 y1))⟩
    ·rw [y3]; exact .inl (hF _ (.inr ⟨y4,rfl⟩))
   ·simp only [Dv.set,updZ,updN,hdi,if_false] at y1 y2
    exact .inl (b j (.inr (.inr ⟨d,hd,.inr ⟨y1,y2⟩⟩)))
theorem dev_append_ok {h : AHeap} {V : Nat} {D : Dv} {F : Nat->Prop} (d : DevS h V D F) (hb : HB h) (hK : 1000 < K) (i : Int) {x : List EV} (hx : x.length = 64) (hu : U8 x) :
 Ok (zdev_Device_Append K (.ptr V 0) (I i) (.agg x) h) fun v h'=>v = .tuple [I (D.append i x).2.1,I (D.append i x).2.2]/\DevS h' V (D.append i x).1 (Grow F h h')/\Chg F h h'/\HB h':=by
 simp only [zdev_Device_Append,walkE]
 have x1 : Ext h (h.new (.cells x 103)):=Chg.new _ _
 have g5 : (h.new (.cells x 103)).get h.next = some (.cells x 103):=get_new_same _ _
 have hb1 : HB (h.new (.cells x 103)):=hb.new _
 have d1:=d.ext x1
 have n1 : (h.new (.cells x 103)).next = h.next + 1:=rfl
 generalize h.new (.cells x 103) = h1 at x1 g5 hb1 d1 n1 ⊢
 refine (dev_begin_ok (K:=K) d1 hb1 i).andE ?_
 rintro _ h2 ⟨rfl,d2,c2,hb2,n2⟩
 have nx : ¬ F h.next:=fun y=>Nat.lt_irrefl _ (d.lt _ y)
 have g5:=c2.at hb1 g5 nx
 have c02 : Chg F h h2:=(Ext.to x1).trans c2
 unfold Dv.append
 unfold Dv.begin at d2
 by_cases hbe : D.beginE i = 0
 ·rw [if_pos hbe] at d2
  rw [if_neg (by rw [hbe]; exact fun y=>y rfl),hbe]
  simp only [I,walkI,not_true_eq_false,decide_false,walkE,zdev_Device_Append_j2]
  obtain ⟨w,wl,zl,z,q,a,b⟩:=d2
  have hhas : D.has i = true:=by
   unfold Dv.beginE at hbe
   cases hh : D.has i with
   | true=>rfl
   | false=>rw [hh] at hbe; split at hbe <;> simp at hbe
  have:=of_decide_eq_true hhas
  obtain ⟨j,rfl⟩ : ∃ j : Nat,i = j:=⟨i.toNat,by omega⟩
  have hj : j < D.n:=by omega
  rw [show (j : Int).toNat = j from rfl]
  have lV:=hb2 _ _ a.dev
  have lzl:=hb2 _ _ a.row
  have l5:=hb2 _ _ g5
  have lz:=hb2 _ _ (a.zone j hj).zone.choose_spec.1
  have hzp : ∀ k : EV->R,ld1E (.ptr zl j) h2 k = k (.ptr (z j) 0):=fun k=>by
   have:=a.zptr hj k
   unfold I at this
   rw [ixSE_n (show j < D.tick.n from hj),Nat.zero_add,Nat.mul_one] at this
   exact this
  have hix : ∀ k : EV->R,ixSE 1 (.slice zl 0 D.tick.n D.tick.n true) (.int .i64 (j : Int)) k = k (.ptr zl j):=fun k=>by
   rw [ixSE_n (show j < D.tick.n from hj),Nat.zero_add,Nat.mul_one]
  simp only [walkE,walkD,loadE_lt lV,a.list,hix,loadE_lt lzl,hzp]
  rw [bigE_pure (by kernel_rfl) (by kernel_rfl) (zone_state_eq (a.lift.zone j hj))]
  have hop:=opened_eq (K:=K) a.lift w.n hK
  have dd : ∀ h',Ext h2 h'->DevS h' V D.tick (Grow F h h')/\Chg F h h'/\HB h':=fun h' x'=>⟨(DevS.ext ⟨w,wl,zl,z,q,a,b⟩ x').grow d.lt (by have:=c02.next; have:=x'.next; omega),c02.trans (Ext.to x'),x'.hb hb2⟩
  have app : ¬ ((D.zs j).st = 0/\D.op<=openN D.zs D.n)->Ok (zdev_Device_Append_j0 K (.ptr V 0) (I j) (.ptr h.next 0) h2) fun v h'=>v = .tuple [I (if (D.zs j).st = 0/\D.op<=openN D.zs D.n then (D.tick,0,33) else if 2<=(D.zs j).st then (D.tick,0,if (D.zs j).st = 2 then 17 else failE (D.zs j).st) else (D.tick.set j ((D.zs j).app D.size x),((D.zs j).l.length : Int),(0 : Int))).2.1,I (if (D.zs j).st = 0/\D.op<=openN D.zs D.n then (D.tick,0,33) else if 2<=(D.zs j).st then (D.tick,0,if (D.zs j).st = 2 then 17 else failE (D.zs j).st) else (D.tick.set j ((D.zs j).app D.size x),((D.zs j).l.length : Int),(0 : Int))).2.2]/\DevS h' V (if (D.zs j).st = 0/\D.op<=openN D.zs D.n then (D.tick,0,33) else if 2<=(D.zs j).st then (D.tick,0,if (D.zs j).st = 2 then 17 else failE (D.zs j).st) else (D.tick.set j ((D.zs j).app D.size x),((D.zs j).l.length : Int),(0 : Int))).1 (Grow F h h')/\Chg F h h'/\HB h':=by
   intro hno
   rw [if_neg hno]
   simp only [zdev_Device_Append_j0,I,walkE,walkD,loadE_lt lV,a.list,hix,loadE_lt lzl,hzp,loadE_lt l5,ldsN g5 rfl,cutR_all hx]
   have wz:=w.zs j hj
   have wsz:=w.size
   have wl1:=wz.len
   by_cases hst : 2<=(D.zs j).st
   ·rw [if_pos hst]
    refine Ok.bigE (by kernel_rfl) (by kernel_rfl) (zone_append_no (K:=K) (a.lift.zone j hj) (lift_hb hb2) hst wz.st x) (fun _ _ p=>p.2) ?_
    rintro _ h3 h4 ⟨rfl,_⟩ sm x4
    simp only [walkE]
    exact .ret ⟨rfl,dd h4 x4⟩
   ·rw [if_neg hst]
    have hst' : (D.zs j).st < 2:=by omega
    refine Ok.bigC (S:=fun i=>i = z j\/(0 < (D.zs j).l.length/\i = q j)) (by kernel_rfl) (by kernel_rfl) (fun _=>by kernel_rfl) (zone_append_ok (K:=K) (size:=D.size) (a.lift.zone j hj) (lift_hb hb2) hst' (Nat.le_trans wl1 wsz) hx) (fun _ _ p=>p.2.2.1) ?_
    rintro _ h3 h4 s' ⟨rfl,⟨q',zz,hq'⟩,_,hb3⟩ sm c4 _
    simp only [walkE]
    have hb4:=sm.hb hb3
    have zz4 : ZoneAt h4 (z j) q' D.size ((D.zs j).app D.size x):=zz.ext fun i o g=>by rw [sm.get]; exact g
    obtain ⟨d4,c24⟩:=DevS.zone w a b wl hb2 hj (wz.app hst' hu) zz4 (c4.mono fun i hi=>by
     rcases hi with y | ⟨y1,y2⟩
     ·exact .inl y
     ·exact .inr ⟨len_ne.2 y1,y2⟩) hb4 (fun _=>.inl (by rw [lift_next] at hq'; exact hq'))
    refine .ret ⟨rfl,?_,c02.trans c24,hb4⟩
    refine d4.mono (fun i hi=>?_) (Grow.lt d.lt (c02.trans c24).next)
    rcases hi with y | y
    ·exact .inl y
    ·exact .inr ⟨Nat.le_trans c02.next y.1,y.2⟩
  simp only [I,walkI]
  by_cases h0 : (D.zs j).st = 0
  ·rw [show decide (((D.tick.zs j).st : Int) = 0) = true from decide_eq_true (by show ((D.zs j).st : Int) = 0; omega)]
   simp only [walkE,walkI]
   rw [bigE_pure (by kernel_rfl) (by kernel_rfl) hop]
   rw [loadE_lt lV (by kernel_rfl),lds a.dev rfl]
   simp only [walkE,I,walkI,zdev_Device_Append_j1]
   by_cases ho : D.op<=openN D.zs D.n
   ·rw [show decide (D.tick.op<=((openN D.tick.zs D.tick.n : Nat) : Int)) = true from decide_eq_true ho]
    simp only [walkE]
    rw [if_pos ⟨h0,ho⟩]
    exact .ret ⟨rfl,dd h2 (Chg.refl _)⟩
   ·rw [show decide (D.tick.op<=((openN D.tick.zs D.tick.n : Nat) : Int)) = false from decide_eq_false ho]
    simp only [walkE]
    exact app fun y=>ho y.2
  ·rw [show decide (((D.tick.zs j).st : Int) = 0) = false from decide_eq_false (by show ¬ ((D.zs j).st : Int) = 0; omega)]
   simp only [walkE,walkI,zdev_Device_Append_j1]
   exact app fun y=>h0 y.1
 ·rw [if_neg hbe] at d2
  rw [if_pos hbe]
  simp only [I,walkI,hbe,not_false_eq_true,decide_true,walkE]
  exact .ret ⟨rfl,d2.grow d.lt c02.next,c02,hb2⟩
end Go.Ev

namespace Go.Ev
open Go.Proofs
set_option maxRecDepth 100000
variable {K : Nat}
def Dv.read (D : Dv) (i off : Int) : List EV × Int:=if D.beginE i ≠ 0 then (zs64,D.beginE i) else readZ (D.zs i.toNat) off
theorem Dv.has_of {D : Dv} {i : Int} (hbe : D.beginE i = 0) : ∃ j : Nat,i = j/\j < D.n:=by
 have hhas : D.has i = true:=by
  unfold Dv.beginE at hbe
  cases hh : D.has i with
  | true=>rfl
  | false=>rw [hh] at hbe; split at hbe <;> simp at hbe
 have:=of_decide_eq_true hhas
 exact ⟨i.toNat,by omega,by omega⟩
theorem DevAt.zptr2 {h : AHeap} {V zl n : Nat} {z q : Nat->Nat} {size op cnt : Int} {down : Bool} {Zs : Nat->Zn} (d : DevAt h V zl n z q size op cnt down Zs) {j : Nat} (hj : j < n) :
 (∀ k : EV->R,ixSE 1 (.slice zl 0 n n true) (.int .i64 (j : Int)) k = k (.ptr zl j))/\(∀ k : EV->R,ld1E (.ptr zl j) h k = k (.ptr (z j) 0)):=by
 have hx : ∀ k : EV->R,ixSE 1 (.slice zl 0 n n true) (.int .i64 (j : Int)) k = k (.ptr zl j):=fun k=>by
  rw [ixSE_n hj,Nat.zero_add,Nat.mul_one]
 refine ⟨hx,fun k=>?_⟩
 have:=d.zptr hj k
 unfold I at this
 rw [hx] at this
 exact this
theorem dev_read_ok {h : AHeap} {V : Nat} {D : Dv} {F : Nat->Prop} (d : DevS h V D F) (hb : HB h) (i off : Int) :
 Ok (zdev_Device_Read K (.ptr V 0) (I i) (I off) h) fun v h'=>v = .tuple [.agg (D.read i off).1,I (D.read i off).2]/\(D.read i off).1.length = 64/\DevS h' V (D.begin i) (Grow F h h')/\Chg F h h'/\HB h':=by
 simp only [zdev_Device_Read,walkE]
 have x1 : Ext h (h.new (.cells (List.replicate 64 (.int .u8 0)) 103)):=Chg.new _ _
 have g6 : (h.new (.cells (List.replicate 64 (.int .u8 0)) 103)).get h.next = some (.cells zs64 103):=get_new_same _ _
 have hb1 : HB (h.new (.cells (List.replicate 64 (.int .u8 0)) 103)):=hb.new _
 have d1:=d.ext x1
 generalize h.new (.cells (List.replicate 64 (.int .u8 0)) 103) = h1 at x1 g6 hb1 d1 ⊢
 refine (dev_begin_ok (K:=K) d1 hb1 i).andE ?_
 rintro _ h2 ⟨rfl,d2,c2,hb2,n2⟩
 have nx : ¬ F h.next:=fun y=>Nat.lt_irrefl _ (d.lt _ y)
 have g6:=c2.at hb1 g6 nx
 have c02 : Chg F h h2:=(Ext.to x1).trans c2
 have fin : ∀ (l : List EV) (e : Int) (h3 : AHeap),Ext h2 h3->l.length = 64->Ok (stE 64 (.ptr h.next 0) (.agg l) h3 fun h=>resE TT [.c (.ptr h.next 0) 103,.v (I e)] h) (fun _ _=>True)->True:=fun _ _ _ _ _ _=>trivial
 clear fin
 have fin : ∀ (l : List EV) (e : Int) (h3 : AHeap) (kk : AHeap->R),(∀ h',kk h' = resE TT [.c (.ptr h.next 0) 103,.v (I e)] h')->Ext h2 h3->l.length = 64->(l,e) = D.read i off->Ok (stE 64 (.ptr h.next 0) (.agg l) h3 kk) fun v h'=>v = .tuple [.agg (D.read i off).1,I (D.read i off).2]/\(D.read i off).1.length = 64/\DevS h' V (D.begin i) (Grow F h h')/\Chg F h h'/\HB h':=by
  intro l e h3 kk hkk x3 hl he
  have hb3:=x3.hb hb2
  have g3:=x3.at hb2 g6
  refine Ok.st l g3 rfl (by rw [show EV.cells (.agg l) = l from rfl,len_length,hl]) (laidR_all (by rw [zs64_len]; exact hl.symm)) ?_
  rw [hkk,resE_cellV (get_put_same _ _ _) TT103.1 TT103.2 hl,<-he]
  have l3:=hb3 _ _ g3
  have c3 : Chg F h (h3.put h.next (.cells l 103)):=(c02.trans (Ext.to x3)).andPut (.inr (Nat.le_refl _)) l3 _
  refine .ret ⟨rfl,hl,?_,c3,hb3.put l3 _⟩
  refine (((d2.ext x3).frame (h':=h3.put h.next (.cells l 103)) (Nat.le_refl _) fun j hj=>get_put_ne _ fun y=>?_)).grow d.lt c3.next
  subst y; exact nx hj
 unfold Dv.read at fin ⊢
 by_cases hbe : D.beginE i = 0
 ·rw [if_neg (by rw [hbe]; exact fun y=>y rfl)] at fin ⊢
  have hbg : D.begin i = D.tick:=by unfold Dv.begin; rw [if_pos hbe]
  rw [hbg] at d2 fin ⊢
  rw [hbe]
  obtain ⟨j,rfl,hj⟩:=Dv.has_of hbe
  obtain ⟨zl,z,q,a,b⟩:=d2.at'
  obtain ⟨hix,hzp⟩:=a.zptr2 (j:=j) hj
  simp only [I,walkI,not_true_eq_false,decide_false,walkE,zdev_Device_Read_j0,a.list,hix,hzp]
  refine (zone_read_ok (K:=K) (a.zone j hj) hb2 off).andE ?_
  rintro _ h3 ⟨rfl,x3⟩
  simp only [walkE]
  exact fin _ _ h3 _ (fun _=>rfl) x3 (readZ_len (a.zone j hj).wf off) rfl
 ·rw [if_pos hbe] at fin ⊢
  simp only [I,walkI,hbe,not_false_eq_true,decide_true,walkE]
  rw [buildE_at (l:=zs64) rfl]
  exact fin zs64 (D.beginE i) h2 _ (fun _=>rfl) (Chg.refl _) zs64_len rfl
noncomputable def Dv.finish (D : Dv) (i : Int) : Dv × Int:=
 if D.beginE i ≠ 0 then (D,D.beginE i) else
 (if failE (D.zs i.toNat).st = 0 then D.tick.set i.toNat (D.zs i.toNat).finish else D.tick,failE (D.zs i.toNat).st)
theorem Zn.Wf.finish {Z : Zn} {size : Nat} (w : Z.Wf size) : Z.finish.Wf size:=⟨w.u8,by show 2<=4; omega,w.safe,w.len,fun y=>absurd y (by show ¬ 2 < 2; omega)⟩
theorem dev_finish_ok {h : AHeap} {V : Nat} {D : Dv} {F : Nat->Prop} (d : DevS h V D F) (hb : HB h) (i : Int) :
 Ok (zdev_Device_Finish K (.ptr V 0) (I i) h) fun v h'=>v = I (D.finish i).2/\DevS h' V (D.finish i).1 (Grow F h h')/\Chg F h h'/\HB h':=by
 simp only [zdev_Device_Finish]
 refine (dev_begin_ok (K:=K) d hb i).andE ?_
 rintro _ h2 ⟨rfl,d2,c2,hb2,n2⟩
 unfold Dv.finish
 by_cases hbe : D.beginE i = 0
 ·rw [if_neg (by rw [hbe]; exact fun y=>y rfl),hbe]
  have hbg : D.begin i = D.tick:=by unfold Dv.begin; rw [if_pos hbe]
  rw [hbg] at d2
  obtain ⟨j,rfl,hj⟩:=Dv.has_of hbe
  obtain ⟨zl,z,q,a,b⟩:=d2.at'
  obtain ⟨hix,hzp⟩:=a.zptr2 (j:=j) hj
  simp only [I,walkI,not_true_eq_false,decide_false,walkE,zdev_Device_Finish_j0,a.list,hix,hzp]
  refine (zone_finish_ok (K:=K) (a.zone j hj) hb2).andE ?_
  rintro _ h3 ⟨rfl,zz,c3,hb3⟩
  try simp only [walkE]
  rw [show (j : Int).toNat = j from rfl]
  have zz : ZoneAt h3 (z j) (q j) D.size (if failE (D.zs j).st = 0 then (D.zs j).finish else D.zs j):=zz
  by_cases hf : failE (D.zs j).st = 0
  ·simp only [hf,if_true] at zz ⊢
   obtain ⟨d3,c23⟩:=DevS.zone d2.wf a b d2.lt hb2 hj (d2.wf.zs j hj).finish zz (c3.mono fun _=>.inl) hb3 (fun y=>.inr ⟨rfl,y⟩)
   refine .ret ⟨by rw [show failE (D.tick.zs j).st = failE (D.zs j).st from rfl,hf],d3.mono (fun i hi=>?_) (Grow.lt d.lt (c2.trans c23).next),c2.trans c23,hb3⟩
   rcases hi with y | y
   ·exact .inl y
   ·exact .inr ⟨Nat.le_trans c2.next y.1,y.2⟩
  ·simp only [hf,if_false] at zz ⊢
   obtain ⟨d3,c23⟩:=DevS.zone d2.wf a b d2.lt hb2 hj (d2.wf.zs j hj) zz (c3.mono fun _=>.inl) hb3 (fun y=>.inr ⟨rfl,y⟩)
   have e : D.tick.set j (D.zs j) = D.tick:=by
    unfold Dv.set
    have : updZ D.tick.zs j (D.zs j) = D.tick.zs:=by funext k; unfold updZ; split <;> simp_all [Dv.tick]
    rw [this]
   have d3 : DevS h3 V (D.tick.set j (D.zs j)) (Grow F h2 h3):=d3
   rw [e] at d3
   refine .ret ⟨rfl,d3.mono (fun i hi=>?_) (Grow.lt d.lt (c2.trans c23).next),c2.trans c23,hb3⟩
   rcases hi with y | y
   ·exact .inl y
   ·exact .inr ⟨Nat.le_trans c2.next y.1,y.2⟩
 ·rw [if_pos hbe]
  have hbg : D.begin i = D:=by unfold Dv.begin; rw [if_neg hbe]
  rw [hbg] at d2
  simp only [I,walkI,hbe,not_false_eq_true,decide_true,walkE]
  exact .ret ⟨rfl,d2.grow d.lt c2.next,c2,hb2⟩
noncomputable def Dv.crash (D : Dv) : Dv:={ D with down:=true }
theorem dev_crash_ok {h : AHeap} {V : Nat} {D : Dv} {F : Nat->Prop} (d : DevS h V D F) (hb : HB h) :
 Ok (zdev_Device_Crash K (.ptr V 0) h) fun v h'=>DevS h' V D.crash F/\Chg F h h'/\HB h':=by
 obtain ⟨w,wl,zl,z,q,a,b⟩:=d
 simp only [zdev_Device_Crash,walkE]
 have lV:=hb _ _ a.dev
 refine Ok.st1 a.dev rfl rfl (by show 4 < 5; decide) ?_
 exact .ret ⟨⟨⟨w.size,w.n,w.zs⟩,wl,zl,z,q,a.putDev D.cnt true,b⟩,(Chg.refl h).andPut (.inl (b _ (.inl rfl))) lV _,hb.put lV _⟩
end Go.Ev

namespace Go.Ev
open Go.Proofs
set_option maxRecDepth 100000
variable {K : Nat}
structure DevZ (h : AHeap) (V zl : Nat) (z : Nat->Nat) (D : Dv) (F : Nat->Prop) : Prop where
 wf : D.Wf
 lt : ∀ i,F i->i < h.next
 at' : ∃ q,DevAt h V zl D.n z q D.size D.op D.cnt D.down D.zs/\∀ i,DevF V zl D.n z q D.zs i->F i
theorem DevS.z {h : AHeap} {V : Nat} {D : Dv} {F : Nat->Prop} (d : DevS h V D F) : ∃ zl z,DevZ h V zl z D F:=by
 obtain ⟨zl,z,q,a,b⟩:=d.at'
 exact ⟨zl,z,d.wf,d.lt,q,a,b⟩
theorem DevZ.s {h : AHeap} {V zl : Nat} {z : Nat->Nat} {D : Dv} {F : Nat->Prop} (d : DevZ h V zl z D F) : DevS h V D F:=by
 obtain ⟨q,a,b⟩:=d.at'
 exact ⟨d.wf,d.lt,zl,z,q,a,b⟩
theorem DevZ.mono {h : AHeap} {V zl : Nat} {z : Nat->Nat} {D : Dv} {F G : Nat->Prop} (d : DevZ h V zl z D F) (s : ∀ i,F i->G i) (l : ∀ i,G i->i < h.next) : DevZ h V zl z D G:=by
 obtain ⟨q,a,b⟩:=d.at'
 exact ⟨d.wf,l,q,a,fun i hi=>s i (b i hi)⟩
theorem DevZ.congr {h : AHeap} {V zl : Nat} {z : Nat->Nat} {D : Dv} {F : Nat->Prop} (d : DevZ h V zl z D F) {zs' : Nat->Zn} (e : ∀ i,i < D.n->zs' i = D.zs i) : DevZ h V zl z { D with zs:=zs' } F:=by
 obtain ⟨q,a,b⟩:=d.at'
 refine ⟨⟨d.wf.size,d.wf.n,fun i hi=>?_⟩,d.lt,q,⟨a.pos,a.dev,a.row,fun i hi=>?_,a.zinj,fun i j hi hj=>?_⟩,?_⟩
 ·show (zs' i).Wf _; rw [e i hi]; exact d.wf.zs i hi
 ·show ZoneAt _ _ _ _ (zs' i); rw [e i hi]; exact a.zone i hi
 ·show (zs' i).l ≠ []->(zs' j).l ≠ []->_; rw [e i hi,e j hj]; exact a.qinj i j hi hj
 ·rintro i (y | y | ⟨k,hk,y⟩)
  ·exact b i (.inl y)
  ·exact b i (.inr (.inl y))
  ·refine b i (.inr (.inr ⟨k,hk,?_⟩))
   have y : i = z k\/(zs' k).l ≠ []/\i = q k:=y
   rw [e k hk] at y
   exact y
theorem DevZ.zone {h h' : AHeap} {V zl : Nat} {z : Nat->Nat} {D : Dv} {F : Nat->Prop} (d : DevZ h V zl z D F) {q : Nat->Nat} (a : DevAt h V zl D.n z q D.size D.op D.cnt D.down D.zs) (b : ∀ i,DevF V zl D.n z q D.zs i->F i) (hb : HB h) {i : Nat} (hi : i < D.n) {q' : Nat} {Z : Zn}
 (zw : Z.Wf D.size) (zz : ZoneAt h' (z i) q' D.size Z) (c : Chg (fun j=>j = z i\/((D.zs i).l ≠ []/\j = q i)) h h') (hb' : HB h') (hq : Z.l ≠ []->h.next<=q'\/(q' = q i/\(D.zs i).l ≠ [])) :
 DevZ h' V zl z (D.set i Z) (Grow F h h')/\Chg F h h':=by
 have hF : ∀ j,(j = z i\/((D.zs i).l ≠ []/\j = q i))->F j:=by
  rintro j (y | ⟨y1,y2⟩)
  ·exact b j (.inr (.inr ⟨i,hi,.inl y⟩))
  ·exact b j (.inr (.inr ⟨i,hi,.inr ⟨y1,y2⟩⟩))
 refine ⟨⟨d.wf.set zw,Grow.lt d.lt c.next,_,a.putZone hb hi zz c hq,?_⟩,c.mono hF⟩
 rintro j (y | y | ⟨d,hd,y⟩)
 ·exact .inl (b j (.inl y))
 ·exact .inl (b j (.inr (.inl y)))
 ·rcases y with y | ⟨y1,y2⟩
  ·exact .inl (b j (.inr (.inr ⟨d,hd,.inl y⟩)))
  ·by_cases hdi : d = i
   ·subst hdi
    simp only [Dv.set,updZ,updN,if_true] at y1 y2
    subst y2
    rcases hq y1 with y | ⟨y3,y4⟩
    ·obtain ⟨s,_,r⟩:=zz.zone
     exact .inr ⟨y,hb' _ _ (r.block (len_ne.1 y1))⟩
    ·rw [y3]; exact .inl (hF _ (.inr ⟨y4,rfl⟩))
   ·simp only [Dv.set,updZ,updN,hdi,if_false] at y1 y2
    exact .inl (b j (.inr (.inr ⟨d,hd,.inr ⟨y1,y2⟩⟩)))
def stepZ (f : Nat->Zn->Zn) (zs : Nat->Zn) (i : Nat) : Nat->Zn:=fun j=>if j < i then f j (zs j) else zs j
theorem stepZ_succ (f : Nat->Zn->Zn) (zs : Nat->Zn) (i : Nat) : stepZ f zs (i + 1) = updZ (stepZ f zs i) i (f i (zs i)):=by
 funext j
 unfold stepZ updZ
 by_cases h1 : j = i
 ·subst h1; simp
 ·by_cases h2 : j < i
  ·rw [if_pos (by omega),if_neg h1]; exact (if_pos h2).symm
  ·rw [if_neg (by omega),if_neg h1]; exact (if_neg h2).symm
theorem stepZ_at (f : Nat->Zn->Zn) (zs : Nat->Zn) (i : Nat) : stepZ f zs i i = zs i:=by unfold stepZ; rw [if_neg (by omega)]
noncomputable def Dv.flush (D : Dv) : Dv × Int:=if D.down = true then (D,34) else ({ D.tick with zs:=fun i=>(D.zs i).flush },0)
theorem Zn.Wf.flush {Z : Zn} {size : Nat} (w : Z.Wf size) : Z.flush.Wf size:=⟨w.u8,w.st,Nat.le_refl _,w.len,w.room⟩
theorem flush_loop {V zl : Nat} {z : Nat->Nat} {D : Dv} {F : Nat->Prop} (h0 : AHeap) (hF0 : ∀ j,F j->j < h0.next) : ∀ (m i : Nat) (h : AHeap),D.n - i < m->i<=D.n->HB h->Chg F h0 h->DevZ h V zl z { D with zs:=stepZ (fun _ Z=>Z.flush) D.zs i } (Grow F h0 h) ->
 Ok (zdev_Device_Flush_b4 K m (.slice zl 0 D.n D.n true) (I D.n) (I i) h) fun v h'=>v = I 0/\DevZ h' V zl z { D with zs:=stepZ (fun _ Z=>Z.flush) D.zs D.n } (Grow F h0 h')/\Chg F h0 h'/\HB h':=by
 intro m
 induction m with
 | zero=>intro i h hm; omega
 | succ m ih=>
  intro i h hm hi hb c d
  have hn:=d.wf.n
  have hn : D.n<=512:=hn
  simp only [zdev_Device_Flush_b4,I,walkI,walkE]
  by_cases hlt : (i : Int) < D.n
  ·have hin : i < D.n:=by omega
   obtain ⟨q,a,b⟩:=d.at'
   obtain ⟨hix,hzp⟩:=a.zptr2 (j:=i) hin
   simp only [hlt,decide_true,walkE,zdev_Device_Flush_j3,hix,hzp]
   have za:=a.zone i hin
   have wz:=d.wf.zs i hin
   simp only [stepZ_at] at za wz
   refine (zone_flush_ok (K:=K) za hb).andE ?_
   rintro _ h1 ⟨zz,c1,hb1⟩
   simp only [zdev_Device_Flush_j2,I,walkI]
   rw [wi64 (by omega) (by omega)]
   obtain ⟨d1,c1'⟩:=d.zone a b hb hin wz.flush zz (c1.mono fun _=>.inl) hb1 (fun y=>.inr ⟨rfl,by simp only [stepZ_at]; exact y⟩)
   have c2:=c.grow c1'
   refine ih (i + 1) h1 (by omega) (by omega) hb1 c2 ?_
   rw [stepZ_succ]
   exact d1.mono (fun j hj=>Grow.trans c.next c1.next hj) (Grow.lt hF0 c2.next)
  ·have : i = D.n:=by omega
   subst this
   simp only [hlt,decide_false,walkE,zdev_Device_Flush_j0]
   exact .ret ⟨rfl,d,c,hb⟩
theorem dev_flush_ok {h : AHeap} {V : Nat} {D : Dv} {F : Nat->Prop} (d : DevS h V D F) (hb : HB h) (hK : 1000 < K) :
 Ok (zdev_Device_Flush K (.ptr V 0) h) fun v h'=>v = I D.flush.2/\DevS h' V D.flush.1 (Grow F h h')/\Chg F h h'/\HB h':=by
 obtain ⟨w,wl,zl,z,q,a,b⟩:=d
 have hn:=w.n
 unfold Dv.flush
 simp only [zdev_Device_Flush,walkE,lds a.dev rfl]
 cases hd : D.down with
 | true=>
  simp only [walkE,if_true]
  exact .ret ⟨rfl,DevS.grow ⟨w,wl,zl,z,q,a,b⟩ wl (Nat.le_refl _),Chg.refl _,hb⟩
 | false=>
  simp only [walkE,Bool.false_eq_true,if_false,zdev_Device_Flush_j5,lds a.dev rfl,I,walkI]
  have lV:=hb _ _ a.dev
  refine Ok.st1 a.dev rfl rfl (by show 3 < 5; decide) ?_
  have c1 : Chg F h (h.put V (.cells ([EV.slice zl 0 D.n D.n true,I D.size,I D.op,I D.cnt,.bool D.down].set 3 (.int .i64 (wrapF .i64 (D.cnt + 1)))) 183)):=(Chg.refl h).andPut (.inl (b _ (.inl rfl))) lV _
  have hb1 : HB (h.put V (.cells ([EV.slice zl 0 D.n D.n true,I D.size,I D.op,I D.cnt,.bool D.down].set 3 (.int .i64 (wrapF .i64 (D.cnt + 1)))) 183)):=hb.put lV _
  have d1 : DevZ (h.put V (.cells ([EV.slice zl 0 D.n D.n true,I D.size,I D.op,I D.cnt,.bool D.down].set 3 (.int .i64 (wrapF .i64 (D.cnt + 1)))) 183)) V zl z D.tick F:=⟨⟨w.size,w.n,w.zs⟩,wl,q,a.putDev (wrapF .i64 (D.cnt + 1)) D.down,b⟩
  generalize h.put V (.cells ([EV.slice zl 0 D.n D.n true,I D.size,I D.op,I D.cnt,.bool D.down].set 3 (.int .i64 (wrapF .i64 (D.cnt + 1)))) 183) = h1 at c1 hb1 d1 ⊢
  obtain ⟨q1,a1,b1⟩:=d1.at'
  rw [lds a1.dev rfl]
  simp only [walkE]
  have:=flush_loop (K:=K) (D:=D.tick) (F:=F) h wl K 0 h1 (by show D.n - 0 < K; omega) (Nat.zero_le _) hb1 c1 (DevZ.congr (d1.mono (fun _=>.inl) (Grow.lt wl c1.next)) (fun i _=>by unfold stepZ; rw [if_neg (Nat.not_lt_zero _)]))
  refine this.mono ?_
  rintro v h2 ⟨rfl,d2,c2,hb2⟩
  refine ⟨rfl,?_,c2,hb2⟩
  exact (d2.congr (zs':=fun i=>(D.zs i).flush) fun i hi=>(if_pos hi).symm).s
structure Ints (h : AHeap) (v : EV) (b : Nat) (l : List Int) : Prop where
 row : (v = .nilslice/\l = [])\/∃ off r op,v = .slice b off l.length r op/\∀ j (hj : j < l.length) (k : EV->R),ld1E (.ptr b (off + j)) h k = k (I l[j])
theorem Ints.frame {h h' : AHeap} {v : EV} {b : Nat} {l : List Int} (r : Ints h v b l) (e : h'.get b = h.get b) : Ints h' v b l:=by
 rcases r.row with y | ⟨off,r',op,rfl,y⟩
 ·exact ⟨.inl y⟩
 ·refine ⟨.inr ⟨off,r',op,rfl,fun j hj k=>?_⟩⟩
  have:=y j hj k
  show oB _ (readO (h'.get b) _ 1) = _
  rw [e]; exact this
def keepF (l : List Int) (i : Nat) : Int:=(l[i]?).getD 0
theorem Zn.Wf.crash {Z : Zn} {size : Nat} (w : Z.Wf size) (keep : Int) : (Z.crash size keep).Wf size:=by
 have h1:=w.safe
 have h2:=w.len
 have h3:=w.st
 have hle : Z.left keep<=Z.l.length:=by unfold Zn.left; omega
 refine ⟨fun x hx=>w.u8 x (List.mem_of_mem_take hx),?_,?_,?_,?_⟩ <;> try simp only [Zn.crash,List.length_take,Nat.min_eq_left hle]
 ·split
  ·exact h3
  ·split
   ·omega
   ·split <;> omega
 ·omega
 ·omega
 ·split
  ·omega
  ·split
   ·omega
   ·rename_i hc
    intro _
    have : ¬ Z.left keep = size:=fun y=>hc (.inr y)
    omega
def Dv.fail (D : Dv) (i : Int) (st : Nat) : Dv:=if D.has i = true then D.set i.toNat ((D.zs i.toNat).fail st) else D
theorem Zn.Wf.fail {Z : Zn} {size : Nat} (w : Z.Wf size) (st : Nat) : (Z.fail st).Wf size:=by
 unfold Zn.fail
 split
 ·exact ⟨w.u8,by show st<=4; omega,w.safe,w.len,fun y=>absurd y (by show ¬ st < 2; omega)⟩
 ·exact w
theorem dev_fail_ok {h : AHeap} {V : Nat} {D : Dv} {F : Nat->Prop} (d : DevS h V D F) (hb : HB h) (i : Int) (st : Nat) :
 Ok (zdev_Device_Fail K (.ptr V 0) (I i) (I st) h) fun v h'=>DevS h' V (D.fail i st) (Grow F h h')/\Chg F h h'/\HB h':=by
 simp only [zdev_Device_Fail,dev_has_eq d,walkE]
 unfold Dv.fail
 cases hh : D.has i with
 | false=>
  simp only [walkE,Bool.false_eq_true,if_false]
  exact .ret ⟨d.grow d.lt (Nat.le_refl _),Chg.refl _,hb⟩
 | true=>
  have:=of_decide_eq_true hh
  obtain ⟨j,rfl⟩ : ∃ j : Nat,i = j:=⟨i.toNat,by omega⟩
  have hj : j < D.n:=by omega
  obtain ⟨zl,z,q,a,b⟩:=d.at'
  obtain ⟨hix,hzp⟩:=a.zptr2 (j:=j) hj
  simp only [walkE,if_true,zdev_Device_Fail_j0,a.list]
  unfold I
  rw [hix,hzp]
  refine (zone_fail_ok (K:=K) (a.zone j hj) hb st).andE ?_
  rintro _ h3 ⟨zz,c3,hb3⟩
  obtain ⟨d3,c23⟩:=DevS.zone d.wf a b d.lt hb hj ((d.wf.zs j hj).fail st) zz (c3.mono fun _=>.inl) hb3 (fun y=>.inr ⟨rfl,by
   unfold Zn.fail at y; split at y <;> exact y⟩)
  exact .ret ⟨d3,c23,hb3⟩
end Go.Ev

namespace Go.Ev
open Go.Proofs
set_option maxRecDepth 100000
variable {K : Nat}
def kp (a b : Int) : EV:=.agg [I a,I b]
def MarkOk (ms : List (EV × EV)) : Prop:=∀ e ∈ ms,∃ a b p n,e = (kp a b,.agg (p ++ [I n]))/\U8 p/\p.length = 64
theorem litEq_i (a b : Int) : litEq (I a) (I b) = some (decide (a = b)):=by
 show cnd (Nat.beq (kcode .i64) (kcode .i64)) (some (eqB a b)) none = _
 rw [Nat.beq_refl,cnd_true,eqB_eq]
theorem keyEq_kp (a b c d : Int) : keyEq (kp a b) (kp c d) = some (decide (a = c/\b = d)):=by
 show litsEq [I a,I b] [I c,I d] = _
 unfold litsEq
 rw [litEq_i]
 by_cases h1 : a = c
 ·rw [decide_eq_true h1]
  simp only [litsEq,litEq_i]
  by_cases h2 : b = d
  ·rw [decide_eq_true h2,decide_eq_true ⟨h1,h2⟩]
  ·rw [decide_eq_false h2,decide_eq_false fun y=>h2 y.2]
 ·rw [decide_eq_false h1,decide_eq_false fun y=>h1 y.1]
  simp only [litsEq,litEq_i]
  by_cases h2 : b = d
  ·rw [decide_eq_true h2]
  ·rw [decide_eq_false h2]
theorem mapFind_ok (a b : Int) : ∀ (ms : List (EV × EV)) (i : Nat),MarkOk ms->mapFind (kp a b) ms i = some none\/∃ j p n,mapFind (kp a b) ms i = some (some (j,.agg (p ++ [I n])))/\U8 p/\p.length = 64
 | [],i,_=>.inl rfl
 | (x,y) :: r,i,hm=>by
  obtain ⟨a',b',p,n,e,hp,hl⟩:=hm _ (List.mem_cons_self ..)
  cases e
  have ih:=mapFind_ok a b r (Nat.succ i) fun e he=>hm e (List.mem_cons_of_mem _ he)
  unfold mapFind
  rw [keyEq_kp]
  by_cases hc : a = a'/\b = b'
  ·rw [decide_eq_true hc]; exact .inr ⟨i,p,n,rfl,hp,hl⟩
  ·rw [decide_eq_false hc]; exact ih
theorem keyFine_kp (a b : Int) : keyFine TT 243 (kp a b) = true:=by
 have h1 : TT.key 243 = true:=by kernel_rfl
 have h2 : TT.eqs 243 = some [0,0]:=by kernel_rfl
 unfold keyFine kp
 simp only [h1,h2,cnd_true]
 rw [show shaped [0,0] [I a,I b] = true from rfl,cnd_true]
 simp only [litsEq,litEq_i,decide_true]
theorem delete_ok {h : AHeap} {M : Nat} {ms : List (EV × EV)} (hg : h.get M = some (.map ms)) (hm : MarkOk ms) (a b : Int) : ∃ ms',builtin TT .delete #[164,243] [.map M,kp a b] h = some (.tuple [],h.put M (.map ms'))/\MarkOk ms':=by
 have hu : TT.und 164 = some (.map 243 320):=by kernel_rfl
 have e : builtin TT .delete #[164,243] [.map M,kp a b] h = cnd (keyFine TT 243 (kp a b)) (match h.get M with
  | some (.map es)=>match mapFind (kp a b) es 0 with
   | some (some (j,_))=>some (.tuple [],h.put M (.map (es.eraseIdx j)))
   | some none=>some (.tuple [],h.put M (.map es))
   | none=>none
  | _=>none) none:=by
  unfold builtin
  simp only [hu]
  rfl
 rw [e,keyFine_kp,cnd_true,hg]
 rcases mapFind_ok a b ms 0 hm with y | ⟨j,p,n,y,_⟩
 ·simp only [y]; exact ⟨ms,rfl,hm⟩
 ·simp only [y]; exact ⟨_,rfl,fun e he=>hm e (List.mem_of_mem_eraseIdx he)⟩
theorem lookup_ok {h : AHeap} {M : Nat} {ms : List (EV × EV)} (hg : h.get M = some (.map ms)) (hm : MarkOk ms) (a b : Int) : ∃ p n,lookupE TT 243 320 false (.map M) (kp a b) h = some (.agg (p ++ [I n]),h)/\U8 p/\p.length = 64:=by
 have e : lookupE TT 243 320 false (.map M) (kp a b) h = cnd (keyFine TT 243 (kp a b)) (match h.get M with
  | some (.map es)=>match mapFind (kp a b) es 0 with
   | some (some (_,v))=>some (v,h)
   | some none=>oB (fun zv=>some (zv,h)) (zeroOf TT 320)
   | none=>none
  | _=>none) none:=rfl
 have hz : zeroOf TT 320 = some (.agg (zs64 ++ [I 0])):=by kernel_rfl
 rw [e,keyFine_kp,cnd_true,hg]
 rcases mapFind_ok a b ms 0 hm with y | ⟨j,p,n,y,hp,hl⟩
 ·simp only [y,hz]; exact ⟨zs64,0,rfl,U8.zs,zs64_len⟩
 ·simp only [y]; exact ⟨p,n,rfl,hp,hl⟩
theorem mapUpdate_ok {h : AHeap} {M : Nat} {ms : List (EV × EV)} (hg : h.get M = some (.map ms)) (hm : MarkOk ms) (a b : Int) {p : List EV} {n : Int} (hp : U8 p) (hl : p.length = 64) : ∃ ms',mapUpdateE TT 243 (.map M) (kp a b) (.agg (p ++ [I n])) h = some (.tuple [],h.put M (.map ms'))/\MarkOk ms':=by
 have e : mapUpdateE TT 243 (.map M) (kp a b) (.agg (p ++ [I n])) h = cnd (keyFine TT 243 (kp a b)) (match h.get M with
  | some (.map es)=>match mapFind (kp a b) es 0 with
   | some (some (j,_))=>some (.tuple [],h.put M (.map (es.set j (kp a b,.agg (p ++ [I n])))))
   | some none=>some (.tuple [],h.put M (.map (es ++ [(kp a b,.agg (p ++ [I n]))])))
   | none=>none
  | _=>none) none:=rfl
 rw [e,keyFine_kp,cnd_true,hg]
 rcases mapFind_ok a b ms 0 hm with y | ⟨j,p',n',y,_⟩
 ·simp only [y]
  refine ⟨_,rfl,fun e he=>?_⟩
  rcases List.mem_append.1 he with he | he
  ·exact hm e he
  ·rw [List.mem_singleton.1 he]; exact ⟨a,b,p,n,rfl,hp,hl⟩
 ·simp only [y]
  refine ⟨_,rfl,fun e he=>?_⟩
  rcases List.mem_or_eq_of_mem_set he with he | he
  ·exact hm e he
  ·rw [he]; exact ⟨a,b,p,n,rfl,hp,hl⟩
structure Evt where
 at' : Int
 kind : Int
 zone : Int
 off : Int
 pat : List EV
def Evt.cells (e : Evt) : List EV:=[I e.at',I e.kind,I e.zone,I e.off] ++ e.pat
structure Evt.Wf (e : Evt) : Prop where
 u8 : U8 e.pat
 len : e.pat.length = 64
structure Drv where
 dv : Dv
 ev : List Evt
 hap : List Evt
def xorC : EV->EV->EV
 | .int k x,.int _ y=>.int k (Int.ofNat (Nat.xor x.toNat y.toNat))
 | a,_=>a
def xorL (a b : List EV) : List EV:=List.zipWith xorC a b
def Dv.spoil (D : Dv) (z off : Int) (p : List EV) : Dv:=
 if D.has z = true/\0<=off/\off < (D.zs z.toNat).l.length then D.set z.toNat { D.zs z.toNat with l:=(D.zs z.toNat).l.set off.toNat (xorL (((D.zs z.toNat).l[off.toNat]?).getD zs64) p) } else D
noncomputable def Dv.happen (D : Dv) (e : Evt) : Dv:=
 if e.kind = 1 then D.spoil e.zone e.off e.pat else if e.kind = 2 then D.fail e.zone 3 else if e.kind = 3 then D.fail e.zone 4 else if e.kind = 4 then D.crash else D
noncomputable def dueF : List Evt->Dv->List Evt->Drv
 | [],D,k=>⟨D,[],k⟩
 | e :: r,D,k=>if D.down = true\/¬ e.at'<=D.cnt then ⟨D,e :: r,k⟩ else dueF r (D.happen e) (k ++ [e])
noncomputable def Drv.due (S : Drv) : Drv:=dueF S.ev S.dv S.hap
structure Drv.Wf (S : Drv) : Prop where
 ev : S.ev.length + S.hap.length<=200
 wf : ∀ e ∈ S.ev,e.Wf
 hwf : ∀ e ∈ S.hap,e.Wf
structure DrvA (h : AHeap) (D V M qc qh : Nat) (cs hs : EV) (ms : List (EV × EV)) (S : Drv) (F G : Nat->Prop) : Prop where
 drive : h.get D = some (.cells [.ptr V 0,cs,hs,.map M] 166)
 map : h.get M = some (.map ms)
 marks : MarkOk ms
 coming : RowAt h cs qc 105 68 S.ev.length (S.ev.map Evt.cells).flatten
 past : RowAt h hs qh 105 68 S.hap.length (S.hap.map Evt.cells).flatten
 dev : DevS h V S.dv F
 sub : (∀ i,F i->G i)/\G D/\G M/\(0 < S.ev.length->G qc)/\(0 < S.hap.length->G qh)
 apart : ¬ F D/\¬ F M/\(0 < S.ev.length->¬ F qc)/\(0 < S.hap.length->¬ F qh)/\(0 < S.ev.length->0 < S.hap.length->qc ≠ qh)
structure DrvS (h : AHeap) (D : Nat) (S : Drv) (G : Nat->Prop) : Prop where
 lt : ∀ i,G i->i < h.next
 wf : S.Wf
 at' : ∃ V M qc qh cs hs ms F,DrvA h D V M qc qh cs hs ms S F G
theorem DrvA.mono {h : AHeap} {D V M qc qh : Nat} {cs hs : EV} {ms : List (EV × EV)} {S : Drv} {F G G' : Nat->Prop} (a : DrvA h D V M qc qh cs hs ms S F G) (s : ∀ i,G i->G' i) : DrvA h D V M qc qh cs hs ms S F G':=
 ⟨a.drive,a.map,a.marks,a.coming,a.past,a.dev,⟨fun i hi=>s i (a.sub.1 i hi),s _ a.sub.2.1,s _ a.sub.2.2.1,fun y=>s _ (a.sub.2.2.2.1 y),fun y=>s _ (a.sub.2.2.2.2 y)⟩,a.apart⟩
theorem DrvS.mono {h : AHeap} {D : Nat} {S : Drv} {G G' : Nat->Prop} (d : DrvS h D S G) (s : ∀ i,G i->G' i) (l : ∀ i,G' i->i < h.next) : DrvS h D S G':=by
 obtain ⟨V,M,qc,qh,cs,hs,ms,F,a⟩:=d.at'
 exact ⟨l,d.wf,V,M,qc,qh,cs,hs,ms,F,a.mono s⟩
theorem DrvS.grow {h h' : AHeap} {D : Nat} {S : Drv} {G : Nat->Prop} (d : DrvS h' D S G) (l : ∀ i,G i->i < h.next) (n : h.next<=h'.next) : DrvS h' D S (Grow G h h'):=d.mono (fun _=>.inl) (Grow.lt l n)
theorem DrvS.grow2 {h h1 h2 : AHeap} {D : Nat} {S : Drv} {G : Nat->Prop} (d : DrvS h2 D S (Grow (Grow G h h1) h1 h2)) (a : h.next<=h1.next) (b : h1.next<=h2.next) (l : ∀ i,G i->i < h.next) : DrvS h2 D S (Grow G h h2):=
 d.mono (fun _=>Grow.trans a b) (Grow.lt l (Nat.le_trans a b))
theorem DrvA.frame {h h' : AHeap} {D V M qc qh : Nat} {cs hs : EV} {ms : List (EV × EV)} {S : Drv} {F G : Nat->Prop} (a : DrvA h D V M qc qh cs hs ms S F G) (n : h.next<=h'.next) (e : ∀ i,G i->h'.get i = h.get i) : DrvA h' D V M qc qh cs hs ms S F G:=
 ⟨by rw [e _ a.sub.2.1]; exact a.drive,by rw [e _ a.sub.2.2.1]; exact a.map,a.marks,a.coming.frame fun y=>e _ (a.sub.2.2.2.1 y),a.past.frame fun y=>e _ (a.sub.2.2.2.2 y),a.dev.frame n fun i hi=>e i (a.sub.1 i hi),a.sub,a.apart⟩
theorem DrvS.frame {h h' : AHeap} {D : Nat} {S : Drv} {G : Nat->Prop} (d : DrvS h D S G) (n : h.next<=h'.next) (e : ∀ i,G i->h'.get i = h.get i) : DrvS h' D S G:=by
 obtain ⟨V,M,qc,qh,cs,hs,ms,F,a⟩:=d.at'
 exact ⟨fun i hi=>Nat.lt_of_lt_of_le (d.lt i hi) n,d.wf,V,M,qc,qh,cs,hs,ms,F,a.frame n e⟩
theorem DrvS.chg {h h' : AHeap} {D : Nat} {S : Drv} {G T : Nat->Prop} (d : DrvS h D S G) (c : Chg T h h') (n : ∀ i,G i->¬ T i) : DrvS h' D S G:=d.frame c.next fun i hi=>c.get i (d.lt i hi) (n i hi)
theorem DrvS.ext {h h' : AHeap} {D : Nat} {S : Drv} {G : Nat->Prop} (d : DrvS h D S G) (c : Ext h h') : DrvS h' D S G:=d.chg c fun _ _=>id
theorem DrvA.put {h h' : AHeap} {D V M qc qh : Nat} {cs hs : EV} {ms : List (EV × EV)} {S : Drv} {F G : Nat->Prop} (a : DrvA h D V M qc qh cs hs ms S F G) (hb : HB h) {dv : Dv} (d : DevS h' V dv (Grow F h h')) (c : Chg F h h') :
 DrvA h' D V M qc qh cs hs ms { S with dv:=dv } (Grow F h h') (Grow G h h'):=by
 have lq : ∀ {s q n l},RowAt h s q 105 68 n l->0 < n->q < h.next:=fun r y=>hb _ _ (r.block y)
 have nf : ∀ {i},¬ F i->i < h.next->¬ Grow F h h' i:=fun y l z=>by
  rcases z with z | z
  ·exact y z
  ·omega
 refine ⟨c.at hb a.drive a.apart.1,c.at hb a.map a.apart.2.1,a.marks,a.coming.frame fun y=>c.get _ (lq a.coming y) (a.apart.2.2.1 y),a.past.frame fun y=>c.get _ (lq a.past y) (a.apart.2.2.2.1 y),d,⟨fun i hi=>?_,.inl a.sub.2.1,.inl a.sub.2.2.1,fun y=>.inl (a.sub.2.2.2.1 y),fun y=>.inl (a.sub.2.2.2.2 y)⟩,⟨nf a.apart.1 (hb _ _ a.drive),nf a.apart.2.1 (hb _ _ a.map),fun y=>nf (a.apart.2.2.1 y) (lq a.coming y),fun y=>nf (a.apart.2.2.2.1 y) (lq a.past y),a.apart.2.2.2.2⟩⟩
 rcases hi with hi | hi
 ·exact .inl (a.sub.1 i hi)
 ·exact .inr hi
theorem DrvS.put {h h' : AHeap} {D V M qc qh : Nat} {cs hs : EV} {ms : List (EV × EV)} {S : Drv} {F G : Nat->Prop} (s : DrvS h D S G) (a : DrvA h D V M qc qh cs hs ms S F G) (hb : HB h) {dv : Dv} (d : DevS h' V dv (Grow F h h')) (c : Chg F h h') :
 DrvS h' D { S with dv:=dv } (Grow G h h')/\Chg G h h':=
 ⟨⟨Grow.lt s.lt c.next,⟨s.wf.ev,s.wf.wf,s.wf.hwf⟩,V,M,qc,qh,cs,hs,ms,_,a.put hb d c⟩,c.mono a.sub.1⟩
theorem DrvA.putM {h : AHeap} {D V M qc qh : Nat} {cs hs : EV} {ms ms' : List (EV × EV)} {S : Drv} {F G : Nat->Prop} (a : DrvA h D V M qc qh cs hs ms S F G) (hm : MarkOk ms') :
 DrvA (h.put M (.map ms')) D V M qc qh cs hs ms' S F G:=by
 refine ⟨?_,get_put_same _ _ _,hm,a.coming.frame fun y=>get_put_ne _ ?_,a.past.frame fun y=>get_put_ne _ ?_,a.dev.frame (Nat.le_refl _) fun i hi=>get_put_ne _ fun y=>?_,a.sub,a.apart⟩
 ·rw [get_put_ne _ (ne_of_get a.map a.drive (by simp))]; exact a.drive
 ·exact ne_of_get a.map (a.coming.block y) (by simp)
 ·exact ne_of_get a.map (a.past.block y) (by simp)
 ·rw [<-y] at hi; exact a.apart.2.1 hi
theorem DrvS.putM {h : AHeap} {D V M qc qh : Nat} {cs hs : EV} {ms ms' : List (EV × EV)} {S : Drv} {F G : Nat->Prop} (s : DrvS h D S G) (a : DrvA h D V M qc qh cs hs ms S F G) (hb : HB h) (hm : MarkOk ms') :
 DrvS (h.put M (.map ms')) D S G/\Chg G h (h.put M (.map ms'))/\HB (h.put M (.map ms')):=by
 have lM:=hb _ _ a.map
 exact ⟨⟨s.lt,s.wf,V,M,qc,qh,cs,hs,ms',F,a.putM hm⟩,(Chg.refl h).andPut (.inl a.sub.2.2.1) lM _,hb.put lM _⟩
theorem drv_device_eq {h : AHeap} {D V M qc qh : Nat} {cs hs : EV} {ms : List (EV × EV)} {S : Drv} {F G : Nat->Prop} (a : DrvA h D V M qc qh cs hs ms S F G) : plan_Drive_Device K (.ptr D 0) h = some (.ptr V 0,h):=by simp only [plan_Drive_Device,walkE,lds a.drive rfl]
def DueOk (disp : Nat->Option FT) (K d : Nat) (S : Drv) : Prop:=∀ (h : AHeap) (D : Nat) (G : Nat->Prop),DrvS h D S G->HB h->Ok (callC TT disp K d false 118 [.ptr D 0] h) fun v h'=>DrvS h' D S.due (Grow G h h')/\Chg G h h'/\HB h'
end Go.Ev

namespace Go.Ev
open Go.Proofs
set_option maxRecDepth 100000
variable {K : Nat} {disp : Nat->Option FT}
noncomputable def Drv.begin (S : Drv) (i : Int) : Drv:=if S.dv.has i = true then S.due else S
def Dues (disp : Nat->Option FT) (K : Nat) (S : Drv) : Prop:=∀ d,12<=d->DueOk disp K d S
theorem drv_begin_ok (H : Agree disp) {d : Nat} (hd : 13<=d) {h : AHeap} {D : Nat} {S : Drv} {G : Nat->Prop} (hdue : Dues disp K S) (s : DrvS h D S G) (hb : HB h) (i : Int) :
 Ok (callC TT disp K d false 179 [.ptr D 0,I i] h) fun v h'=>DrvS h' D (S.begin i) (Grow G h h')/\Chg G h h'/\HB h':=by
 obtain ⟨e,rfl⟩ : ∃ k,d = k + 1:=⟨d - 1,by omega⟩
 rw [plan_Drive_begin_run H (by omega)]
 obtain ⟨V,M,qc,qh,cs,hs',ms,F,a⟩:=s.at'
 obtain ⟨zl,z,q,b,_⟩:=a.dev.at'
 have fin : Ok (some (.tuple [],h)) fun (_ : EV) h'=>DrvS h' D S (Grow G h h')/\Chg G h h'/\HB h':=.ret ⟨s.grow s.lt (Nat.le_refl _),Chg.refl _,hb⟩
 unfold Drv.begin
 simp only [plan_Drive_begin,I,walkI,walkE]
 by_cases h0 : 0<=i
 ·have hz:=dev_zones_eq (K:=K) b
  simp only [I] at hz
  simp only [h0,decide_true,walkE,lds a.drive rfl,hz,walkI,plan_Drive_begin_j0]
  by_cases h1 : i < S.dv.n
  ·have hh : S.dv.has i = true:=decide_eq_true ⟨h0,h1⟩
   simp only [h1,decide_true,walkE]
   rw [hh,if_pos rfl]
   refine (hdue e (by omega) h D G s hb).andE ?_
   intro v h' p
   exact .ret p
  ·have hh : S.dv.has i = false:=decide_eq_false fun y=>h1 y.2
   simp only [h1,decide_false,walkE]
   rw [hh,if_neg (by simp)]
   exact fin
 ·have hh : S.dv.has i = false:=decide_eq_false fun y=>h0 y.1
  simp only [h0,decide_false,walkE,plan_Drive_begin_j0]
  rw [hh,if_neg (by simp)]
  exact fin
noncomputable def Drv.append (S : Drv) (i : Int) (x : List EV) : Drv × Int × Int:=({ S.begin i with dv:=((S.begin i).dv.append i x).1 },((S.begin i).dv.append i x).2)
theorem drv_append_ok (H : Agree disp) (hK : 1000 < K) {d : Nat} (hd : 14<=d) {h : AHeap} {D : Nat} {S : Drv} {G : Nat->Prop} (hdue : Dues disp K S) (s : DrvS h D S G) (hb : HB h) (i : Int) {x : List EV} (hx : x.length = 64) (hu : U8 x) :
 Ok (callC TT disp K d false 164 [.ptr D 0,I i,.agg x] h) fun v h'=>v = .tuple [I (S.append i x).2.1,I (S.append i x).2.2]/\DrvS h' D (S.append i x).1 (Grow G h h')/\Chg G h h'/\HB h':=by
 obtain ⟨e,rfl⟩ : ∃ k,d = k + 1:=⟨d - 1,by omega⟩
 rw [plan_Drive_Append_run H (by omega)]
 simp only [plan_Drive_Append,walkE]
 have x1 : Ext h (h.new (.cells x 103)):=Chg.new _ _
 have g5 : (h.new (.cells x 103)).get h.next = some (.cells x 103):=get_new_same _ _
 have hb1 : HB (h.new (.cells x 103)):=hb.new _
 have s1:=s.ext x1
 have n1 : (h.new (.cells x 103)).next = h.next + 1:=rfl
 generalize h.new (.cells x 103) = h1 at x1 g5 hb1 s1 n1 ⊢
 refine (drv_begin_ok (K:=K) H (by omega) hdue s1 hb1 i).andE ?_
 rintro _ h2 ⟨s2,c2,hb2⟩
 have nx : ¬ G h.next:=fun y=>Nat.lt_irrefl _ (s.lt _ y)
 have g5:=c2.at hb1 g5 nx
 have c02 : Chg G h h2:=(Ext.to x1).trans c2
 have s2 : DrvS h2 D (S.begin i) (Grow G h1 h2):=s2
 unfold Drv.append
 generalize S.begin i = T at s2 ⊢
 obtain ⟨V,M,qc,qh,cs,hs',ms,F,a⟩:=s2.at'
 have lD:=hb2 _ _ a.drive
 have l5:=hb2 _ _ g5
 simp only [walkE,walkD,loadE_lt lD,lds a.drive rfl,loadE_lt l5,ldsN g5 rfl,cutR_all hx]
 refine Ok.bigC (S:=F) (by kernel_rfl) (by kernel_rfl) (fun _=>by kernel_rfl) (dev_append_ok (K:=K) a.dev.lift (lift_hb hb2) hK i hx hu) (fun _ _ p=>p.2.2.1) ?_
 rintro _ h3 h4 s' ⟨rfl,d3,_,hb3⟩ sm c4 _
 have hb4:=sm.hb hb3
 have d4 : DevS h4 V (T.dv.append i x).1 (Grow F h2 h4):=by
  have:=d3.frame (h':=h4) (by rw [sm.next]; exact Nat.le_refl _) fun j _=>sm.get j
  refine this.mono (fun j hj=>?_) (Grow.lt a.dev.lt c4.next)
  rcases hj with y | y
  ·exact .inl y
  ·exact .inr ⟨y.1,by rw [sm.next]; exact y.2⟩
 have a4:=a.put hb2 d4 c4
 obtain ⟨s4,c24⟩:=s2.put a hb2 d4 c4
 have cc : Chg G h h4:=by
  refine c02.then c24 fun j hj hl=>?_
  rcases hj with y | y
  ·exact y
  ·have:=x1.next; omega
 have s4 : DrvS h4 D { T with dv:=(T.dv.append i x).1 } (Grow G h h4):=s4.mono (fun j hj=>by
  rcases hj with (y | y) | y
  ·exact .inl y
  ·have:=x1.next; have:=c24.next; exact .inr ⟨by omega,by omega⟩
  ·have:=c02.next; exact .inr ⟨by omega,y.2⟩) (Grow.lt s.lt cc.next)
 simp only [walkE,I,walkI]
 by_cases hz : (T.dv.append i x).2.2 = 0
 ·simp only [hz,decide_true,walkE,lds a4.drive rfl]
  rw [buildE_at (l:=[I i,I (T.dv.append i x).2.1]) rfl]
  obtain ⟨ms',e1,hm'⟩:=delete_ok a4.map a4.marks i (T.dv.append i x).2.1
  unfold kp at e1
  rw [e1,andE_some]
  simp only [plan_Drive_Append_j0]
  obtain ⟨V',M',qc',qh',cs',hs'',ms'',F',a5⟩:=s4.at'
  have lM:=hb4 _ _ a4.map
  have a6:=a4.putM hm'
  have gM : Grow G h h4 M:=by
   rcases a.sub.2.2.1 with y | y
   ·exact .inl y
   ·have:=x1.next; have:=c24.next; exact .inr ⟨by omega,by omega⟩
  have c5 : Chg (Grow G h h4) h4 (h4.put M (.map ms')):=(Chg.refl h4).andPut (.inl gM) lM _
  refine .ret ⟨rfl,⟨Grow.lt s.lt (cc.grow c5).next,s4.wf,V,M,qc,qh,cs,hs',ms',_,a6.mono fun j hj=>?_⟩,cc.grow c5,hb4.put lM _⟩
  show Grow G h h4 j
  rcases hj with (y | y) | y
  ·exact .inl y
  ·have:=x1.next; have:=c24.next; exact .inr ⟨by omega,by omega⟩
  ·have:=c02.next; exact .inr ⟨by omega,y.2⟩
 ·simp only [hz,decide_false,walkE,plan_Drive_Append_j0]
  exact .ret ⟨rfl,s4,cc,hb4⟩
noncomputable def Drv.read (S : Drv) (i off : Int) : Drv × List EV × Int:=({ S.begin i with dv:=(S.begin i).dv.begin i },(S.begin i).dv.read i off)
theorem drv_read_ok (H : Agree disp) {d : Nat} (hd : 14<=d) {h : AHeap} {D : Nat} {S : Drv} {G : Nat->Prop} (hdue : Dues disp K S) (s : DrvS h D S G) (hb : HB h) (i off : Int) :
 Ok (callC TT disp K d false 133 [.ptr D 0,I i,I off] h) fun v h'=>v = .tuple [.agg (S.read i off).2.1,I (S.read i off).2.2]/\(S.read i off).2.1.length = 64/\DrvS h' D (S.read i off).1 (Grow G h h')/\Chg G h h'/\HB h':=by
 obtain ⟨e,rfl⟩ : ∃ k,d = k + 1:=⟨d - 1,by omega⟩
 rw [plan_Drive_Read_run H (by omega)]
 simp only [plan_Drive_Read,walkE]
 have x1 : Ext h (h.new (.cells (List.replicate 64 (.int .u8 0)) 103)):=Chg.new _ _
 have g6 : (h.new (.cells (List.replicate 64 (.int .u8 0)) 103)).get h.next = some (.cells zs64 103):=get_new_same _ _
 have hb1 : HB (h.new (.cells (List.replicate 64 (.int .u8 0)) 103)):=hb.new _
 have s1:=s.ext x1
 generalize h.new (.cells (List.replicate 64 (.int .u8 0)) 103) = h1 at x1 g6 hb1 s1 ⊢
 refine (drv_begin_ok (K:=K) H (by omega) hdue s1 hb1 i).andE ?_
 rintro _ h2 ⟨s2,c2,hb2⟩
 have nx : ¬ G h.next:=fun y=>Nat.lt_irrefl _ (s.lt _ y)
 have g6:=c2.at hb1 g6 nx
 have l6 : h.next < h1.next:=by
  have:=hb2 _ _ g6
  rcases Nat.lt_or_ge h.next h1.next with y | y
  ·exact y
  ·exact absurd (hb1 _ _ (show h1.get h.next = some (.cells zs64 103) by assumption)) (by omega)
 have c02 : Chg G h h2:=(Ext.to x1).trans c2
 unfold Drv.read
 generalize S.begin i = T at s2 ⊢
 obtain ⟨V,M,qc,qh,cs,hs',ms,F,a⟩:=s2.at'
 simp only [walkE,lds a.drive rfl]
 refine (dev_read_ok (K:=K) a.dev hb2 i off).andE ?_
 rintro _ h3 ⟨rfl,hlen,d3,c3,hb3⟩
 obtain ⟨s3,c23⟩:=s2.put a hb2 d3 c3
 have nG : ¬ Grow G h1 h2 h.next:=by
  rintro (y | y)
  ·exact nx y
  ·omega
 have g6:=c23.at hb2 g6 nG
 have lt6:=hb3 _ _ g6
 simp only [walkE]
 refine Ok.st (T.dv.read i off).1 g6 rfl (by rw [show EV.cells (.agg (T.dv.read i off).1) = (T.dv.read i off).1 from rfl,len_length,hlen]) (laidR_all (by rw [zs64_len]; exact hlen.symm)) ?_
 rw [resE_cellV (get_put_same _ _ _) TT103.1 TT103.2 hlen]
 have cc : Chg G h h3:=by
  refine c02.then c23 fun j hj hl=>?_
  rcases hj with y | y
  ·exact y
  ·have:=x1.next; omega
 have c4 : Chg G h (h3.put h.next (.cells (T.dv.read i off).1 103)):=cc.andPut (.inr (Nat.le_refl _)) lt6 _
 refine .ret ⟨rfl,hlen,?_,c4,hb3.put lt6 _⟩
 refine DrvS.mono (s3.frame (h':=h3.put h.next (.cells (T.dv.read i off).1 103)) (Nat.le_refl _) fun j hj=>get_put_ne _ fun y=>?_) (fun j hj=>?_) (Grow.lt s.lt c4.next)
 ·subst y
  rcases hj with y | y
  ·exact nG y
  ·have:=c2.next; omega
 ·show Grow G h h3 j
  rcases hj with (y | y) | y
  ·exact .inl y
  ·have:=x1.next; have:=c23.next; exact .inr ⟨by omega,by omega⟩
  ·have:=c02.next; exact .inr ⟨by omega,y.2⟩
noncomputable def Drv.flush (S : Drv) : Drv × Int:=({ S.due with dv:=S.due.dv.flush.1 },S.due.dv.flush.2)
theorem drv_flush_ok (H : Agree disp) (hK : 1000 < K) {d : Nat} (hd : 14<=d) {h : AHeap} {D : Nat} {S : Drv} {G : Nat->Prop} (hdue : Dues disp K S) (s : DrvS h D S G) (hb : HB h) :
 Ok (callC TT disp K d false 67 [.ptr D 0] h) fun v h'=>v = I S.flush.2/\DrvS h' D S.flush.1 (Grow G h h')/\Chg G h h'/\HB h':=by
 obtain ⟨e,rfl⟩ : ∃ k,d = k + 1:=⟨d - 1,by omega⟩
 rw [plan_Drive_Flush_run H (by omega)]
 simp only [plan_Drive_Flush]
 refine (hdue e (by omega) h D G s hb).andE ?_
 rintro _ h2 ⟨s2,c2,hb2⟩
 unfold Drv.flush
 generalize S.due = T at s2 ⊢
 obtain ⟨V,M,qc,qh,cs,hs',ms,F,a⟩:=s2.at'
 simp only [walkE,lds a.drive rfl]
 refine (dev_flush_ok (K:=K) a.dev hb2 hK).andE ?_
 rintro _ h3 ⟨rfl,d3,c3,hb3⟩
 obtain ⟨s3,c23⟩:=s2.put a hb2 d3 c3
 exact .ret ⟨rfl,s3.grow2 c2.next c23.next s.lt,c2.grow c23,hb3⟩
noncomputable def Drv.finish (S : Drv) (i : Int) : Drv × Int:=({ S.begin i with dv:=((S.begin i).dv.finish i).1 },((S.begin i).dv.finish i).2)
theorem drv_finish_ok (H : Agree disp) {d : Nat} (hd : 14<=d) {h : AHeap} {D : Nat} {S : Drv} {G : Nat->Prop} (hdue : Dues disp K S) (s : DrvS h D S G) (hb : HB h) (i : Int) :
 Ok (callC TT disp K d false 165 [.ptr D 0,I i] h) fun v h'=>v = I (S.finish i).2/\DrvS h' D (S.finish i).1 (Grow G h h')/\Chg G h h'/\HB h':=by
 obtain ⟨e,rfl⟩ : ∃ k,d = k + 1:=⟨d - 1,by omega⟩
 rw [plan_Drive_Finish_run H (by omega)]
 simp only [plan_Drive_Finish]
 refine (drv_begin_ok (K:=K) H (by omega) hdue s hb i).andE ?_
 rintro _ h2 ⟨s2,c2,hb2⟩
 unfold Drv.finish
 generalize S.begin i = T at s2 ⊢
 obtain ⟨V,M,qc,qh,cs,hs',ms,F,a⟩:=s2.at'
 simp only [walkE,lds a.drive rfl]
 refine (dev_finish_ok (K:=K) a.dev hb2 i).andE ?_
 rintro _ h3 ⟨rfl,d3,c3,hb3⟩
 obtain ⟨s3,c23⟩:=s2.put a hb2 d3 c3
 exact .ret ⟨rfl,s3.grow2 c2.next c23.next s.lt,c2.grow c23,hb3⟩
end Go.Ev

namespace Go.Ev
open Go.Proofs
set_option maxRecDepth 100000
variable {K : Nat} {disp : Nat->Option FT}
end Go.Ev
