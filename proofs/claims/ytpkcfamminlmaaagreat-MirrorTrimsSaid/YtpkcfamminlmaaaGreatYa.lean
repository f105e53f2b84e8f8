import Derived.Test.YtpkcfamminlmaaaGreatXc
import Derived.Test.YtpkcfamminlmaaaGreatXb
set_option linter.unusedVariables false
set_option linter.unusedSimpArgs false
set_option linter.unusedSectionVars false
namespace Go.Ev
open Go.Proofs
set_option maxRecDepth 100000
variable {K : Nat}
abbrev Nk (k : IntKind) (a : Nat) : EV:=.int k (Int.ofNat a)
theorem wrap_u8 (a : Nat) : wrapF .u8 (Int.ofNat a) = Int.ofNat (a % 256):=by
 rw [wrapF_eq]
 rfl
theorem wrap_u32 (a : Nat) : wrapF .u32 (Int.ofNat a) = Int.ofNat (a % 4294967296):=by
 rw [wrapF_eq]
 rfl
theorem conv_u8 {c : IntKind} {a : Nat} {k : EV->R} : convE .u8 (.int c (Int.ofNat a)) k = k (Nk .u8 (a % 256)):=by
 rw [convE_int,wrap_u8]
theorem shr8_i64 {t : Nat} {a : Nat} {k : EV->R} : binE (bin TT .shr t) (.int .i64 (Int.ofNat a)) (.int .u64 8) k = k (Nk .i64 (a / 256)):=by
 show k (.int .i64 (.ofNat (Nat.shiftRight a 8))) = _
 have : Nat.shiftRight a 8 = a / 256:=Nat.shiftRight_eq_div_pow a 8
 rw [this]
theorem shr_u32 {t s : Nat} (hs : s<=32) {a : Nat} {k : EV->R} : binE (bin TT .shr t) (.int .u32 (Int.ofNat a)) (.int .u64 (Int.ofNat s)) k = k (Nk .u32 (a / 2 ^ s)):=by
 show k (.int .u32 (.ofNat (Nat.shiftRight a (cnd (Nat.ble s 32) s 32)))) = _
 rw [Nat.ble_eq_true_of_le hs,cnd_true]
 have : Nat.shiftRight a s = a / 2 ^ s:=Nat.shiftRight_eq_div_pow a s
 rw [this]
theorem xor_u32 {t : Nat} {a b : Nat} (ha : a < 4294967296) (hb : b < 4294967296) {k : EV->R} : binE (bin TT .xor t) (.int .u32 (Int.ofNat a)) (.int .u32 (Int.ofNat b)) k = k (Nk .u32 (a ^^^ b)):=by
 show k (.int .u32 (wrapF .u32 (.ofNat (Nat.xor a b)))) = _
 rw [wrap_u32]
 have : Nat.xor a b < 2 ^ 32:=Nat.xor_lt_two_pow (n:=32) ha hb
 rw [Nat.mod_eq_of_lt (by exact this)]; rfl
theorem xor_u8 {t : Nat} {a b : Nat} (ha : a < 256) (hb : b < 256) {k : EV->R} : binE (bin TT .xor t) (.int .u8 (Int.ofNat a)) (.int .u8 (Int.ofNat b)) k = k (Nk .u8 (a ^^^ b)):=by
 show k (.int .u8 (wrapF .u8 (.ofNat (Nat.xor a b)))) = _
 rw [wrap_u8]
 have : Nat.xor a b < 2 ^ 8:=Nat.xor_lt_two_pow (n:=8) ha hb
 rw [Nat.mod_eq_of_lt (by exact this)]; rfl
def wd : Nat->Nat->Nat
 | 0,_=>1
 | f + 1,a=>if a / 256 = 0 then 1 else wd f (a / 256) + 1
theorem wd_le : ∀ (f a w : Nat),a < 256 ^ (f + 1)->1<=w->(wd f a<=w ↔ a < 256 ^ w)
 | 0,a,w,h,hw=>by
  refine ⟨fun _=>Nat.lt_of_lt_of_le h (Nat.pow_le_pow_right (by decide) (by omega)),fun _=>hw⟩
 | f + 1,a,w,h,hw=>by
  unfold wd
  by_cases h0 : a / 256 = 0
  ·rw [if_pos h0]
   refine ⟨fun _=>?_,fun _=>hw⟩
   have : a < 256:=by omega
   exact Nat.lt_of_lt_of_le this (by have:=Nat.pow_le_pow_right (n:=256) (by decide) hw; simpa using this)
  ·rw [if_neg h0]
   have ih:=wd_le f (a / 256) (w - 1) (by rw [Nat.pow_succ] at h; exact Nat.div_lt_of_lt_mul (by rw [Nat.mul_comm]; exact h))
   by_cases h1 : w = 1
   ·subst h1
    refine ⟨fun y=>?_,fun y=>?_⟩
    ·have : 1<=wd f (a / 256):=by cases f <;> unfold wd <;> (try split) <;> omega
     omega
    ·exfalso; apply h0; simp at y; omega
   ·have ih:=ih (by omega)
    obtain ⟨v,rfl⟩ : ∃ v,w = v + 1:=⟨w - 1,by omega⟩
    rw [Nat.add_sub_cancel] at ih
    rw [Nat.pow_succ]
    refine ⟨fun y=>?_,fun y=>?_⟩
    ·have:=ih.1 (by omega)
     have:=Nat.div_lt_iff_lt_mul (k:=256) (x:=a) (y:=256 ^ v) (by decide)
     omega
    ·have:=ih.2 (Nat.div_lt_of_lt_mul (by rw [Nat.mul_comm]; exact y))
     omega
theorem width_loop : ∀ (f m a n : Nat) (h : AHeap),f < m->a < 256 ^ (f + 1)->n + f<=100->f<=10 ->
 codec_Width_b5 K m (Nk .i64 a) (Nk .i64 n) h = codec_Width_j2 K (Nk .i64 (a / 256 ^ (wd f a - 1))) (Nk .i64 (n + wd f a - 1)) h:=by
 intro f
 induction f with
 | zero=>
  intro m a n h hm ha hn hf
  obtain ⟨m,rfl⟩ : ∃ k,m = k + 1:=⟨m - 1,by omega⟩
  have : a / 256 = 0:=by simp at ha; omega
  simp only [codec_Width_b5]
  rw [shr8_i64,this]
  simp only [Nk,walkI]
  rw [show decide ((0 : Int) < Int.ofNat 0) = false from rfl]
  simp only [walkE,wd,Nat.sub_self,Nat.pow_zero,Nat.div_one,Nat.add_sub_cancel]
 | succ f ih=>
  intro m a n h hm ha hn hf
  obtain ⟨m,rfl⟩ : ∃ k,m = k + 1:=⟨m - 1,by omega⟩
  simp only [codec_Width_b5]
  rw [shr8_i64]
  simp only [Nk,walkI]
  unfold wd
  by_cases h0 : a / 256 = 0
  ·rw [if_pos h0,h0]
   rw [show decide ((0 : Int) < Int.ofNat 0) = false from rfl]
   simp only [walkE,Nat.sub_self,Nat.pow_zero,Nat.div_one,Nat.add_sub_cancel]
  ·rw [if_neg h0,show decide ((0 : Int) < Int.ofNat (a / 256)) = true from decide_eq_true (by show (0 : Int) < ((a / 256 : Nat) : Int); omega)]
   simp only [walkE,codec_Width_j4]
   rw [shr8_i64]
   simp only [Nk,walkI]
   rw [show wrapF .i64 (Int.ofNat n + 1) = Int.ofNat (n + 1) from wi64 (by show _<=((n : Nat) : Int) + 1; omega) (by show ((n : Nat) : Int) + 1<=_; omega)]
   have e:=ih m (a / 256) (n + 1) h (by omega) (Nat.div_lt_of_lt_mul (by rw [Nat.mul_comm,<-Nat.pow_succ]; exact ha)) (by omega) (by omega)
   rw [e]
   have hw : 1<=wd f (a / 256):=by cases f <;> unfold wd <;> (try split) <;> omega
   obtain ⟨u,hu⟩ : ∃ u,wd f (a / 256) = u + 1:=⟨wd f (a / 256) - 1,by omega⟩
   rw [hu,Nat.add_sub_cancel,show u + 1 + 1 - 1 = u + 1 from rfl,Nat.pow_succ',Nat.div_div_eq_div_mul,show n + 1 + (u + 1) - 1 = n + (u + 1 + 1) - 1 by omega]
def widthF (a : Nat) : Nat:=if 7 < wd 7 a then 8 else wd 7 a
theorem width_pos {a : Nat} (ha : a < 9223372036854775808) (hK : 1000 < K) (h : AHeap) : codec_Width K (.int .i64 (Int.ofNat a)) h = some (Nk .i64 (widthF a),h):=by
 unfold codec_Width widthF
 have e:=width_loop (K:=K) 7 K a 1 h (by omega) (Nat.lt_trans ha (by decide)) (by decide) (by decide)
 have : (EV.int .i64 1) = Nk .i64 1:=rfl
 rw [this,e]
 have hw : 1<=wd 7 a:=by unfold wd; split <;> omega
 simp only [codec_Width_j2,Nk,walkI]
 rw [show decide (Int.ofNat (a / 256 ^ (wd 7 a - 1)) < 0) = false from decide_eq_false (by show ¬ (((a / 256 ^ (wd 7 a - 1) : Nat) : Int) < 0); exact Int.not_lt.2 (Int.natCast_nonneg _))]
 rw [show 1 + wd 7 a - 1 = wd 7 a by omega]
 by_cases h7 : 7 < wd 7 a
 ·rw [show decide ((7 : Int) < Int.ofNat (wd 7 a)) = true from decide_eq_true (by show (7 : Int) < ((wd 7 a : Nat) : Int); omega),if_pos h7]
  simp only [walkE,codec_Width_j1]
  rfl
 ·rw [show decide ((7 : Int) < Int.ofNat (wd 7 a)) = false from decide_eq_false (by show ¬ ((7 : Int) < ((wd 7 a : Nat) : Int)); omega),if_neg h7]
  simp only [walkE,codec_Width_j1,codec_Width_j0]
theorem width_neg {a : Nat} (hK : 1000 < K) (h : AHeap) : codec_Width K (.int .i64 (Int.negSucc a)) h = some (I 8,h):=by
 obtain ⟨m,rfl⟩ : ∃ k,K = k + 1:=⟨K - 1,by omega⟩
 unfold codec_Width
 simp only [codec_Width_b5]
 have e : ∀ k : EV->R,binE (bin TT .shr 3) (.int .i64 (Int.negSucc a)) (.int .u64 8) k = k (.int .i64 ((Int.negSucc a).fdiv 256)):=fun k=>rfl
 have hneg : (Int.negSucc a).fdiv 256 < 0:=by
  rw [Int.fdiv_eq_ediv_of_nonneg _ (by decide)]
  have : Int.negSucc a < 0:=Int.negSucc_lt_zero a
  omega
 rw [e]
 simp only [walkI]
 rw [show decide ((0 : Int) < (Int.negSucc a).fdiv 256) = false from decide_eq_false (by omega)]
 simp only [walkE,codec_Width_j2,walkI]
 rw [show decide (Int.negSucc a < 0) = true from decide_eq_true (Int.negSucc_lt_zero a)]
 simp only [walkE,codec_Width_j1,I]
theorem widthF_le {a w : Nat} (ha : a < 9223372036854775808) (h1 : 1<=w) (h7 : w<=7) : widthF a<=w ↔ a < 256 ^ w:=by
 have:=wd_le 7 a w (Nat.lt_trans ha (by decide)) h1
 rw [<-this]
 unfold widthF
 split <;> omega
def leN (w a : Nat) : List Nat:=(List.range w).map fun i=>a / 256 ^ i % 256
theorem leN_succ (w a : Nat) : leN (w + 1) a = leN w a ++ [a / 256 ^ w % 256]:=by unfold leN; rw [List.range_succ,List.map_append]; rfl
theorem leN_len (w a : Nat) : (leN w a).length = w:=by simp [leN]
theorem u8s_app (a b : List Nat) : u8s (a ++ b) = u8s a ++ u8s b:=List.map_append
theorem u8s_len (a : List Nat) : (u8s a).length = a.length:=List.length_map _
structure PenB (h : AHeap) (P t : Nat) (out : List Nat) (bad : Bool) : Prop where
 at' : ∃ s q,h.get P = some (.cells [s,.bool bad] t)/\RowAt h s q 5 1 out.length (u8s out)/\(0 < out.length->P < q)
theorem PenB.chg {h h' : AHeap} {P t : Nat} {out : List Nat} {bad : Bool} {S : Nat->Prop} (p : PenB h P t out bad) (hb : HB h) (c : Chg S h h') (n : ∀ i,P<=i->¬ S i) : PenB h' P t out bad:=by
 obtain ⟨s,q,g,r,l⟩:=p.at'
 exact ⟨s,q,c.at hb g (n _ (Nat.le_refl _)),r.frame fun y=>c.get _ (hb _ _ (r.block y)) (n _ (Nat.le_of_lt (l y))),l⟩
theorem codec_within_eq (n : Int) (h : AHeap) : codec_within K (I n) h = some (.bool (decide (1<=n/\n<=7)),h):=by
 simp only [codec_within,I,walkI,walkE]
 by_cases h1 : 1<=n
 ·simp only [h1,decide_true,walkE,walkI,codec_within_j0,true_and]
 ·simp only [h1,decide_false,walkE,codec_within_j0,false_and]
theorem pen_loop {P t w : Nat} {bad : Bool} {a : Nat} (ha : a < 9223372036854775808) (hw : w<=7) {out : List Nat} (ho : out.length<=60000) (h0 : AHeap) (hP : P < h0.next) : ∀ (m i : Nat) (h : AHeap),w - i < m->i<=w->HB h->Chg (fun i=>P<=i) h0 h->PenB h P t (out ++ leN i a) bad ->
 Ok (codec_Pen_Num_b3 K m (.ptr P 0) (Nk .i64 (a / 256 ^ i)) (I w) (I i) h) fun _ h'=>PenB h' P t (out ++ leN w a) bad/\Chg (fun i=>P<=i) h0 h'/\HB h':=by
 intro m
 induction m with
 | zero=>intro i h hm; omega
 | succ m ih=>
  intro i h hm hi hb c p
  obtain ⟨s,q,g,r,l⟩:=p.at'
  simp only [codec_Pen_Num_b3,I,walkI,walkE]
  by_cases hlt : (i : Int) < w
  ·simp only [hlt,decide_true,walkE,codec_Pen_Num_j2,lds g rfl]
   rw [wrap_u8]
   have hlen : (out ++ leN i a).length = out.length + i:=by rw [List.length_append,leN_len]
   refine append_one (z:=[.int .u8 0]) r hb rfl rfl rfl (by omega) (by omega) ?_
   intro h2 r2 n2 c2
   have gq : ¬ (0 < (out ++ leN i a).length/\P = q):=fun y=>by have:=l y.1; omega
   have g2:=c2.at hb g gq
   have lP:=(c2.hb hb) _ _ g2
   refine Ok.st1 g2 rfl rfl (by show 0 < 2; decide) ?_
   rw [shr8_i64]
   simp only [codec_Pen_Num_j1,I,walkI]
   rw [wi64 (by omega) (by omega),Nat.div_div_eq_div_mul,<-Nat.pow_succ]
   have c3 : Chg (fun i=>P<=i) h (h2.put P (.cells ([s,EV.bool bad].set 0 (.slice (h.next + 1) 0 ((out ++ leN i a).length + 1) ((out ++ leN i a).length + 1) true)) t)):=(c2.mono fun j hj=>by have:=l hj.1; show P<=j; omega).andPut (.inl (Nat.le_refl _)) lP _
   refine ih (i + 1) _ (by omega) (by omega) ((c2.hb hb).put lP _) (c.trans c3) ?_
   rw [leN_succ,<-List.append_assoc]
   refine ⟨_,h.next + 1,get_put_same _ _ _,?_,fun _=>by have:=c.next; omega⟩
   have e1 : ((out ++ leN i a) ++ [a / 256 ^ i % 256]).length = (out ++ leN i a).length + 1:=by rw [List.length_append]; rfl
   have e2 : u8s ((out ++ leN i a) ++ [a / 256 ^ i % 256]) = u8s (out ++ leN i a) ++ EV.cells (Nk .u8 (a / 256 ^ i % 256)):=by rw [u8s_app]; rfl
   rw [e1,e2]
   refine r2.frame fun _=>get_put_ne _ ?_
   have:=hb _ _ g; omega
  ·have : i = w:=by omega
   subst this
   simp only [hlt,decide_false,walkE]
   exact .ret ⟨p,c,hb⟩
def fits (w : Nat) (v : Int) : Bool:=decide (0<=v/\v < (256 ^ w : Nat))
theorem pen_num_ok {P t w : Nat} {bad : Bool} {out : List Nat} (hK : 1000 < K) {h : AHeap} (p : PenB h P t out bad) (hb : HB h) (ho : out.length<=60000) (h1 : 1<=w) (h7 : w<=7) {v : Int} (hv : -9223372036854775808<=v/\v<=9223372036854775807) :
 Ok (codec_Pen_Num K (.ptr P 0) (I w) (I v) h) fun _ h'=>PenB h' P t (if fits w v = true then out ++ leN w v.toNat else out) (bad || !fits w v)/\Chg (fun i=>P<=i) h h'/\HB h':=by
 obtain ⟨s,q,g,r,l⟩:=p.at'
 have lP:=hb _ _ g
 simp only [codec_Pen_Num]
 rw [codec_within_eq,decide_eq_true ⟨by omega,by omega⟩]
 simp only [walkE,walkI]
 have no : fits w v = false->Ok (stE 1 (.ptr P 1) (.bool true) h fun h=>some (.tuple [],h)) fun _ h'=>PenB h' P t (if fits w v = true then out ++ leN w v.toNat else out) (bad || !fits w v)/\Chg (fun i=>P<=i) h h'/\HB h':=by
  intro hf
  refine Ok.st1 g rfl rfl (by show 1 < 2; decide) ?_
  refine .ret ⟨?_,(Chg.refl (S:=fun i=>P<=i) h).andPut (.inl (Nat.le_refl _)) lP _,hb.put lP _⟩
  rw [hf,if_neg (by simp),Bool.not_false,Bool.or_true]
  exact ⟨s,q,get_put_same _ _ _,r.frame fun y=>get_put_ne _ (by have:=l y; omega),l⟩
 cases v with
 | negSucc a=>
  unfold I
  rw [width_neg hK,andE_some]
  simp only [I,walkI]
  rw [show decide ((w : Int) < 8) = true from decide_eq_true (by omega)]
  simp only [walkE,codec_Pen_Num_j5]
  exact no (decide_eq_false fun y=>absurd y.1 (by have:=Int.negSucc_lt_zero a; omega))
 | ofNat a=>
  have ha : a < 9223372036854775808:=by have : ((a : Nat) : Int)<=9223372036854775807:=hv.2; omega
  unfold I
  rw [width_pos ha hK,andE_some]
  have hfit:=widthF_le ha h1 h7
  simp only [Nk,walkI]
  by_cases hw : widthF a<=w
  ·have hf : fits w (Int.ofNat a) = true:=decide_eq_true ⟨Int.natCast_nonneg a,by have:=hfit.1 hw; exact Int.ofNat_lt.2 this⟩
   rw [show decide ((w : Int) < Int.ofNat (widthF a)) = false from decide_eq_false (by show ¬ (w : Int) < ((widthF a : Nat) : Int); omega)]
   simp only [walkE,codec_Pen_Num_j5,codec_Pen_Num_j4]
   have:=pen_loop (K:=K) (P:=P) (t:=t) (w:=w) (bad:=bad) ha h7 ho h lP K 0 h (by omega) (Nat.zero_le _) hb (Chg.refl _) (by simpa [leN] using p)
   rw [Nat.pow_zero,Nat.div_one] at this
   rw [hf,if_pos rfl,Bool.not_true,Bool.or_false]
   exact this
  ·rw [show decide ((w : Int) < Int.ofNat (widthF a)) = true from decide_eq_true (by show (w : Int) < ((widthF a : Nat) : Int); omega)]
   simp only [walkE,codec_Pen_Num_j5]
   exact no (decide_eq_false fun y=>hw (hfit.2 (Int.ofNat_lt.1 y.2)))
theorem pen_bytes_ok {P t n : Nat} {bad : Bool} {out new : List Nat} {h : AHeap} (p : PenB h P t out bad) (hb : HB h) (ho : out.length<=60000) {x : EV} (hx : lenOf x = some n) (h0 : 0 < n) (hn : n<=5000) (hc : cellsF h 1 n x = some (u8s new)) (hl : new.length = n) :
 Ok (codec_Pen_Bytes K (.ptr P 0) x h) fun _ h'=>PenB h' P t (out ++ new) bad/\Chg (fun i=>P<=i) h h'/\HB h':=by
 obtain ⟨s,q,g,r,l⟩:=p.at'
 have lP:=hb _ _ g
 simp only [codec_Pen_Bytes,walkE,lds g rfl]
 obtain ⟨h2,e,r2,n2,c2⟩:=append_row r hx h0 (by omega) (by omega) hc (by rw [u8s_len,hl,Nat.mul_one])
 rw [e,andE_some]
 have gq : ¬ (0 < out.length/\P = q):=fun y=>by have:=l y.1; omega
 have g2:=c2.at hb g gq
 have lP2:=(c2.hb hb) _ _ g2
 try simp only [walkE]
 refine Ok.st1 g2 rfl rfl (by show 0 < 2; decide) ?_
 refine .ret ⟨⟨_,h.next,get_put_same _ _ _,?_,fun _=>by omega⟩,(c2.mono fun j hj=>by have:=l hj.1; show P<=j; omega).andPut (.inl (Nat.le_refl _)) lP2 _,(c2.hb hb).put lP2 _⟩
 rw [List.length_append,hl,u8s_app]
 exact r2.frame fun _=>get_put_ne _ (by omega)
end Go.Ev

namespace Go.Ev
open Go.Proofs
set_option maxRecDepth 100000
variable {K : Nat}
structure Bs (h : AHeap) (x : EV) (b off : Nat) (l : List Nat) : Prop where
 at' : ∃ r op o row,x = .slice b off l.length r op/\l.length<=r/\h.get b = some o/\rowOf o = some row/\off + l.length<=row.length/\(row.drop off).take l.length = u8s l
theorem Bs.frame {h h' : AHeap} {x : EV} {b off : Nat} {l : List Nat} (s : Bs h x b off l) (e : h'.get b = h.get b) : Bs h' x b off l:=by
 obtain ⟨r,op,o,row,e1,e0,e2,e3,e4,e5⟩:=s.at'
 exact ⟨r,op,o,row,e1,e0,by rw [e]; exact e2,e3,e4,e5⟩
theorem Bs.lt {h : AHeap} {x : EV} {b off : Nat} {l : List Nat} (s : Bs h x b off l) (hb : HB h) : b < h.next:=by
 obtain ⟨r,op,o,row,e1,e0,e2,e3,e4,e5⟩:=s.at'
 exact hb _ _ e2
theorem Bs.ext {h h' : AHeap} {x : EV} {b off : Nat} {l : List Nat} (s : Bs h x b off l) (hb : HB h) (c : Ext h h') : Bs h' x b off l:=s.frame (c.get _ (s.lt hb) id)
theorem Bs.lift {h : AHeap} {x : EV} {b off : Nat} {l : List Nat} (s : Bs h x b off l) : Bs h.lift x b off l:=s.frame (lift_get _ _)
theorem Bs.len {h : AHeap} {x : EV} {b off : Nat} {l : List Nat} (s : Bs h x b off l) : lenOf x = some l.length:=by
 obtain ⟨r,op,o,row,rfl,_⟩:=s.at'; rfl
theorem Bs.lenE {h : AHeap} {x : EV} {b off : Nat} {l : List Nat} (s : Bs h x b off l) (k : EV->R) : Ev.lenE x k = k (I l.length):=by
 obtain ⟨r,op,o,row,rfl,_⟩:=s.at'; rfl
theorem Bs.cells {h : AHeap} {x : EV} {b off : Nat} {l : List Nat} (s : Bs h x b off l) : cellsF h 1 l.length x = some (u8s l):=by
 obtain ⟨r,op,o,row,rfl,e0,e2,e3,e4,e5⟩:=s.at'
 show cnd (Nat.beq l.length 0) (some []) (readF h b off (Nat.mul l.length 1)) = _
 rw [show Nat.mul l.length 1 = l.length from Nat.mul_one _]
 have hc : cutR row off l.length = some (u8s l):=by rw [cutR_take e4,e5]
 cases hl : l with
 | nil=>rfl
 | cons a r=>
  rw [show Nat.beq (a :: r).length 0 = false from rfl,cnd_false]
  unfold readF
  rw [e2,<-hl]
  cases o <;> first | (cases e3; done) | (cases e3; exact hc)
theorem Bs.ix {h : AHeap} {x : EV} {b off : Nat} {l : List Nat} (s : Bs h x b off l) {i : Nat} (hi : i < l.length) : (∀ k : EV->R,ixSE 1 x (.int .i64 (i : Int)) k = k (.ptr b (off + i)))/\(∀ k : EV->R,ld1E (.ptr b (off + i)) h k = k (Nk .u8 l[i])):=by
 obtain ⟨r,op,o,row,rfl,e0,e2,e3,e4,e5⟩:=s.at'
 refine ⟨fun k=>by rw [ixSE_n hi,Nat.mul_one],fun k=>?_⟩
 rw [lds e2 e3]
 have : row[off + i]? = some (Nk .u8 l[i]):=by
  have e5:=congrArg (fun z=>z[i]?) e5
  simp only [List.getElem?_take,hi,if_true,List.getElem?_drop] at e5
  rw [e5]
  unfold u8s
  rw [List.getElem?_map,List.getElem?_eq_getElem hi]; rfl
 rw [this]; rfl
theorem Bs.take {h : AHeap} {x : EV} {b off : Nat} {l : List Nat} (s : Bs h x b off l) {n : Nat} (hn : n<=l.length) : ∃ y,(∀ k : EV->R,sliE 1 x none (some (.int .i64 (n : Int))) none k = k y)/\Bs h y b off (l.take n):=by
 obtain ⟨r,op,o,row,rfl,e0,e2,e3,e4,e5⟩:=s.at'
 have hl : (l.take n).length = n:=by rw [List.length_take,Nat.min_eq_left hn]
 refine ⟨EV.slice b off n r op,fun k=>?_,⟨r,op,o,row,by rw [hl],by rw [hl]; omega,e2,e3,by rw [hl]; omega,?_⟩⟩
 ·have : slc (EV.slice b off l.length r op) 1 none (some (.int .i64 (n : Int))) none = some (EV.slice b off n r op):=by
   have hbd : bound (some (.int .i64 (n : Int))) r l.length = some n:=by
    show cnd (Nat.ble n r) (some n) none = _
    rw [Nat.ble_eq_true_of_le (by omega),cnd_true]
   unfold slc
   simp only [hbd]
   cases op with
   | true=>rfl
   | false=>
    show cnd (Nat.ble 0 r) (some (EV.slice b (cnd (Nat.beq r 0) off (Nat.add off (Nat.mul 0 1))) n r false)) none = _
    rw [Nat.ble_eq_true_of_le (Nat.zero_le _),cnd_true]
    have : cnd (Nat.beq r 0) off (Nat.add off (Nat.mul 0 1)) = off:=by
     rw [show Nat.add off (Nat.mul 0 1) = off from rfl]; cases Nat.beq r 0 <;> rfl
    rw [this]
  unfold sliE; rw [this]; rfl
 ·rw [hl]
  have:=congrArg (fun z=>z.take n) e5
  simp only [List.take_take,Nat.min_eq_left hn] at this
  rw [this]; unfold u8s; rw [List.map_take]
theorem Bs.drop {h : AHeap} {b off : Nat} {l : List Nat} {r : Nat} {op : Bool} (s : Bs h (.slice b off l.length r op) b off l) {n : Nat} (hn : n < l.length) : (∀ k : EV->R,sliE 1 (.slice b off l.length r op) (some (.int .i64 (n : Int))) none none k = k (.slice b (off + n) (l.length - n) (r - n) op))/\Bs h (.slice b (off + n) (l.length - n) (r - n) op) b (off + n) (l.drop n):=by
 obtain ⟨r',op',o,row,e1,e0,e2,e3,e4,e5⟩:=s.at'
 injection e1 with _ _ _ a1 a2
 subst a1 a2
 have hl : (l.drop n).length = l.length - n:=by rw [List.length_drop]
 refine ⟨fun k=>?_,⟨r - n,op,o,row,by rw [hl],by rw [hl]; omega,e2,e3,by rw [hl]; omega,?_⟩⟩
 ·have : slc (.slice b off l.length r op) 1 (some (.int .i64 (n : Int))) none none = some (.slice b (off + n) (l.length - n) (r - n) op):=by
   have hbd : bound (some (.int .i64 (n : Int))) l.length 0 = some n:=by
    show cnd (Nat.ble n l.length) (some n) none = _
    rw [Nat.ble_eq_true_of_le (by omega),cnd_true]
   have hb2 : bound none r l.length = some l.length:=rfl
   unfold slc
   simp only [hbd,hb2]
   cases op with
   | true=>
    rw [cnd_true]
    cases n with
    | zero=>rfl
    | succ n=>
     rw [show Nat.beq (n + 1) 0 = false from rfl,cnd_false,Nat.ble_eq_true_of_le (by show n + 1 + 1<=r; omega),cnd_true,show Nat.mul (n + 1) 1 = n + 1 from Nat.mul_one _]
     rfl
   | false=>
    rw [cnd_false,Nat.ble_eq_true_of_le (by show n<=r; omega),cnd_true,show Nat.mul n 1 = n from Nat.mul_one _]
    have : Nat.beq r n = false:=by
     cases hq : Nat.beq r n with
     | false=>rfl
     | true=>have:=Nat.eq_of_beq_eq_true hq; omega
    rw [this,cnd_false]; rfl
  unfold sliE; rw [this]; rfl
 ·have:=congrArg (fun z=>z.drop n) e5
  rw [hl]
  simp only [List.drop_take,List.drop_drop] at this
  rw [this]; unfold u8s; rw [List.map_drop]
theorem RowAt.bs {h : AHeap} {s : EV} {q : Nat} {l : List Nat} (r : RowAt h s q 5 1 l.length (u8s l)) (hl : 0 < l.length) : Bs h s q 0 l:=by
 refine ⟨l.length,true,_,u8s l,r.slice hl,Nat.le_refl _,r.block hl,rfl,by rw [u8s_len,Nat.zero_add]; exact Nat.le_refl _,?_⟩
 rw [List.drop_zero,<-u8s_len,List.take_length]
def cellN : EV->Nat
 | .int _ x=>x.toNat
 | _=>0
noncomputable def tabN : List Nat:=crcCells.map cellN
theorem tab_cells : crcCells = tabN.map (Nk .u32):=by kernel_rfl
theorem tab_lt : tabN.all (fun n=>Nat.blt n 4294967296) = true:=by kernel_rfl
theorem tab_len : tabN.length = 256:=by kernel_rfl
noncomputable def stepN (r c : Nat) : Nat:=(r / 256) ^^^ (tabN[(r % 256) ^^^ c]?).getD 0
theorem tab_at {i : Nat} (hi : i < 256) : crcCells[i]? = some (Nk .u32 ((tabN[i]?).getD 0))/\(tabN[i]?).getD 0 < 4294967296:=by
 have hi' : i < tabN.length:=by rw [tab_len]; exact hi
 rw [tab_cells,List.getElem?_map,List.getElem?_eq_getElem hi']
 refine ⟨rfl,?_⟩
 have:=List.all_eq_true.1 tab_lt _ (List.getElem_mem hi')
 exact Nat.le_of_ble_eq_true this
theorem step_lt {r c : Nat} (hr : r < 4294967296) (hc : c < 256) : stepN r c < 4294967296:=by
 unfold stepN
 have h1 : (r % 256) ^^^ c < 2 ^ 8:=Nat.xor_lt_two_pow (n:=8) (Nat.mod_lt _ (by decide)) hc
 exact Nat.xor_lt_two_pow (n:=32) (by show r / 256 < 4294967296; omega) (tab_at h1).2
theorem step_ok {h : AHeap} {r c : Nat} (hr : r < 4294967296) (hc : c < 256) : Ok (crc_Table_Step K crcV (Nk .u32 r) (Nk .u8 c) h) fun v h'=>v = Nk .u32 (stepN r c)/\Ext h h':=by
 unfold crcV
 simp only [crc_Table_Step,walkE]
 have g3 : (h.new (.cells crcCells 72)).get h.next = some (.cells crcCells 72):=get_new_same _ _
 have x1 : Ext h (h.new (.cells crcCells 72)):=Chg.new _ _
 generalize h.new (.cells crcCells 72) = h1 at g3 x1 ⊢
 rw [show ∀ k : EV->R,binE (bin TT .shr 70) (Nk .u32 r) (.int .u64 8) k = k (Nk .u32 (r / 256)) from fun k=>shr_u32 (s:=8) (by decide)]
 have h1' : (r % 256) ^^^ c < 256:=Nat.xor_lt_two_pow (n:=8) (Nat.mod_lt _ (by decide)) hc
 rw [wrap_u8,xor_u8 (Nat.mod_lt _ (by decide)) hc,show ∀ k : EV->R,ixAE 256 1 (.ptr h.next 0) (Nk .u8 ((r % 256) ^^^ c)) k = k (.ptr h.next (0 + ((r % 256) ^^^ c) * 1)) from fun k=>ixAE_at h1']
 rw [lds g3 rfl,Nat.zero_add,Nat.mul_one,(tab_at h1').1]
 simp only [oB_s]
 rw [xor_u32 (by omega) (tab_at h1').2]
 exact .ret ⟨rfl,x1⟩
noncomputable def overN (r : Nat) (l : List Nat) : Nat:=l.foldl stepN r
theorem over_lt : ∀ (l : List Nat) (r : Nat),r < 4294967296->(∀ b ∈ l,b < 256)->overN r l < 4294967296
 | [],r,hr,_=>hr
 | c :: l,r,hr,hl=>over_lt l (stepN r c) (step_lt hr (hl c (List.mem_cons_self ..))) fun b hb=>hl b (List.mem_cons_of_mem _ hb)
theorem over_loop {T b off : Nat} {x : EV} {l : List Nat} (hl : ∀ b ∈ l,b < 256) (hn : l.length<=5000) {r0 : Nat} (h0 : r0 < 4294967296) : ∀ (m i : Nat) (h : AHeap),l.length - i < m->i<=l.length->HB h->h.get T = some (.cells crcCells 72)->Bs h x b off l ->
 Ok (crc_Table_over_b4 K m (.ptr T 0) (Nk .u32 (overN r0 (l.take i))) x (I l.length) (I i) h) fun v h'=>v = Nk .u32 (overN r0 l)/\Ext h h':=by
 intro m
 induction m with
 | zero=>intro i h hm; omega
 | succ m ih=>
  intro i h hm hi hb gT s
  simp only [crc_Table_over_b4,I,walkI,walkE]
  by_cases hlt : (i : Int) < l.length
  ·have hin : i < l.length:=by omega
   obtain ⟨e1,e2⟩:=s.ix hin
   simp only [hlt,decide_true,walkE,crc_Table_over_j3,e1,e2,ldsN gT rfl]
   rw [cutR_all crc_len]
   simp only [oB_s]
   have htk : ∀ b ∈ l.take i,b < 256:=fun b hb=>hl b (List.mem_of_mem_take hb)
   refine (step_ok (K:=K) (over_lt _ _ h0 htk) (hl _ (List.getElem_mem hin))).andE ?_
   rintro _ h1 ⟨rfl,x1⟩
   simp only [crc_Table_over_j2,I,walkI]
   rw [wi64 (by omega) (by omega)]
   have e : stepN (overN r0 (l.take i)) l[i] = overN r0 (l.take (i + 1)):=by
    unfold overN
    rw [List.take_add_one,List.foldl_append,List.getElem?_eq_getElem hin]; rfl
   rw [e]
   refine (ih (i + 1) h1 (by omega) (by omega) (x1.hb hb) (x1.at hb gT) (s.ext hb x1)).mono ?_
   rintro v h' ⟨e,x2⟩
   exact ⟨e,x1.trans x2⟩
  ·have : i = l.length:=by omega
   subst this
   simp only [hlt,decide_false,walkE,crc_Table_over_j0,List.take_length]
   exact .ret ⟨rfl,Chg.refl _⟩
noncomputable def sumN (l : List Nat) : Nat:=overN 4294967295 l ^^^ 4294967295
theorem sum_lt {l : List Nat} (hl : ∀ b ∈ l,b < 256) : sumN l < 4294967296:=Nat.xor_lt_two_pow (n:=32) (over_lt l _ (by decide) hl) (by decide)
theorem sum_ok {h : AHeap} {x : EV} {b off : Nat} {l : List Nat} (hK : 10000 < K) (s : Bs h x b off l) (hb : HB h) (hl : ∀ b ∈ l,b < 256) (hn : l.length<=5000) : Ok (crc_Table_Sum K crcV x h) fun v h'=>v = Nk .u32 (sumN l)/\Ext h h':=by
 unfold crcV
 simp only [crc_Table_Sum,walkE]
 have g3 : (h.new (.cells crcCells 72)).get h.next = some (.cells crcCells 72):=get_new_same _ _
 have x1 : Ext h (h.new (.cells crcCells 72)):=Chg.new _ _
 generalize h.new (.cells crcCells 72) = h1 at g3 x1 ⊢
 have s1:=s.ext hb x1
 simp only [crc_Table_over,s1.lenE]
 refine (over_loop (K:=K) hl hn (r0:=4294967295) (by decide) K 0 h1 (by omega) (Nat.zero_le _) (x1.hb hb) g3 s1).andE ?_
 rintro _ h2 ⟨rfl,x2⟩
 rw [show ∀ k : EV->R,binE (bin TT .xor 70) (Nk .u32 (overN 4294967295 l)) (.int .u32 4294967295) k = k (Nk .u32 (sumN l)) from fun k=>xor_u32 (b:=4294967295) (over_lt l _ (by decide) hl) (by decide)]
 exact .ret ⟨rfl,x1.trans x2⟩
end Go.Ev

namespace Go.Ev
open Go.Proofs
set_option maxRecDepth 100000
variable {K : Nat}
theorem RowAt.cells {h : AHeap} {s : EV} {q : Nat} {l : List Nat} (r : RowAt h s q 5 1 l.length (u8s l)) : cellsF h 1 l.length s = some (u8s l):=by
 rcases Nat.eq_zero_or_pos l.length with h0 | hp
 ·have : l = []:=List.length_eq_zero_iff.1 h0
  subst this
  rcases r with ⟨_,_,rfl | ⟨b,rfl⟩⟩ | ⟨y,_⟩
  ·rfl
  ·rfl
  ·exact absurd y (Nat.lt_irrefl _)
 ·exact (r.bs hp).cells
theorem pen_out_ok {h : AHeap} {P t : Nat} {out : List Nat} (p : PenB h P t out false) (hb : HB h) (ho : out.length<=60000) :
 Ok (codec_Pen_Out K (.ptr P 0) h) fun v h'=>∃ y q',v = .tuple [y,I 0]/\RowAt h' y q' 5 1 out.length (u8s out)/\Ext h h'/\HB h'/\(0 < out.length->h.next<=q'):=by
 obtain ⟨s,q,g,r,l⟩:=p.at'
 simp only [codec_Pen_Out,walkE,lds g rfl,codec_Pen_Out_j0]
 rw [show buildSliceE [(.int .u8 0)] 5 1 0 [] h = some (.slice h.next 0 0 0 false,h.new (.cells [] 5)) from rfl,andE_some]
 have x1 : Ext h (h.new (.cells [] 5)):=Chg.new _ _
 have g1:=x1.at hb g
 have r1 : RowAt (h.new (.cells [] 5)) s q 5 1 out.length (u8s out):=r.frame fun y=>x1.get _ (hb _ _ (r.block y)) id
 generalize h.new (.cells [] 5) = h1 at x1 g1 r1 ⊢
 simp only [walkE,lds g1 rfl]
 refine (append_fresh (b:=h.next) (e:=5) r1.len (by omega) r1.cells (by rw [u8s_len,Nat.mul_one]) 0).andE ?_
 rintro v h2 ⟨q',r2,x2,l2⟩
 refine .ret ⟨v,q',rfl,r2,x1.trans x2,(x1.trans x2).hb hb,fun y=>?_⟩
 have:=l2 y
 have:=x1.next
 omega
theorem leN4 (s : Nat) : leN 4 s = [s % 256,s / 256 % 256,s / 65536 % 256,s / 16777216 % 256]:=by
 simp [leN,List.range_succ]
theorem build4 (a b c d : Int) (h : AHeap) : buildSliceE [(.int .u8 0)] 5 1 4 [(0,.int .u8 a),(1,.int .u8 b),(2,.int .u8 c),(3,.int .u8 d)] h = some (.slice h.next 0 4 4 false,h.new (.cells [.int .u8 a,.int .u8 b,.int .u8 c,.int .u8 d] 5)):=rfl
theorem seal_ok {h : AHeap} {x : EV} {b off : Nat} {l : List Nat} (hK : 10000 < K) (s : Bs h x b off l) (hb : HB h) (hl : ∀ b ∈ l,b < 256) (h0 : 0 < l.length) (hn : l.length<=5000) :
 Ok (crc_Table_Seal K crcV x h) fun v h'=>∃ q',RowAt h' v q' 5 1 (l ++ leN 4 (sumN l)).length (u8s (l ++ leN 4 (sumN l)))/\Ext h h'/\HB h'/\h.next<=q':=by
 unfold crcV
 simp only [crc_Table_Seal,walkE]
 have g3 : (h.new (.cells crcCells 72)).get h.next = some (.cells crcCells 72):=get_new_same _ _
 have x1 : Ext h (h.new (.cells crcCells 72)):=Chg.new _ _
 generalize h.new (.cells crcCells 72) = h1 at g3 x1 ⊢
 have hb1:=x1.hb hb
 rw [ldsN g3 rfl,cutR_all crc_len]
 simp only [oB_s]
 refine (sum_ok (K:=K) hK (s.ext hb x1) hb1 hl hn).andE ?_
 rintro _ h2 ⟨rfl,x2⟩
 have hb2:=x2.hb hb1
 have s2:=(s.ext hb x1).ext hb1 x2
 rw [show buildSliceE [(.int .u8 0)] 5 1 0 [] h2 = some (.slice h2.next 0 0 0 false,h2.new (.cells [] 5)) from rfl,andE_some]
 have x3 : Ext h2 (h2.new (.cells [] 5)):=Chg.new _ _
 have s3:=s2.ext hb2 x3
 have n3 : (h2.new (.cells [] 5)).next = h2.next + 1:=rfl
 generalize h2.new (.cells [] 5) = h3 at x3 s3 n3 ⊢
 have hb3:=x3.hb hb2
 refine (append_fresh (b:=h2.next) (e:=5) s3.len (by omega) s3.cells (by rw [u8s_len,Nat.mul_one]) 0).andE ?_
 rintro v h4 ⟨q',r4,x4,l4⟩
 have hb4:=x4.hb hb3
 rw [show ∀ k : EV->R,convE .u8 (Nk .u32 (sumN l)) k = k (Nk .u8 (sumN l % 256)) from fun k=>conv_u8]
 rw [show ∀ k : EV->R,binE (bin TT .shr 70) (Nk .u32 (sumN l)) (.int .u64 8) k = k (Nk .u32 (sumN l / 256)) from fun k=>shr_u32 (s:=8) (by decide)]
 rw [show ∀ k : EV->R,convE .u8 (Nk .u32 (sumN l / 256)) k = k (Nk .u8 (sumN l / 256 % 256)) from fun k=>conv_u8]
 rw [show ∀ k : EV->R,binE (bin TT .shr 70) (Nk .u32 (sumN l)) (.int .u64 16) k = k (Nk .u32 (sumN l / 65536)) from fun k=>shr_u32 (s:=16) (by decide)]
 rw [show ∀ k : EV->R,convE .u8 (Nk .u32 (sumN l / 65536)) k = k (Nk .u8 (sumN l / 65536 % 256)) from fun k=>conv_u8]
 rw [show ∀ k : EV->R,binE (bin TT .shr 70) (Nk .u32 (sumN l)) (.int .u64 24) k = k (Nk .u32 (sumN l / 16777216)) from fun k=>shr_u32 (s:=24) (by decide)]
 rw [show ∀ k : EV->R,convE .u8 (Nk .u32 (sumN l / 16777216)) k = k (Nk .u8 (sumN l / 16777216 % 256)) from fun k=>conv_u8]
 rw [build4,andE_some]
 have x5 : Ext h4 (h4.new (.cells (u8s (leN 4 (sumN l))) 5)):=Chg.new _ _
 have e5 : u8s (leN 4 (sumN l)) = [Nk .u8 (sumN l % 256),Nk .u8 (sumN l / 256 % 256),Nk .u8 (sumN l / 65536 % 256),Nk .u8 (sumN l / 16777216 % 256)]:=by rw [leN4]; rfl
 rw [e5] at x5
 have r5 : RowAt (h4.new (.cells [Nk .u8 (sumN l % 256),Nk .u8 (sumN l / 256 % 256),Nk .u8 (sumN l / 65536 % 256),Nk .u8 (sumN l / 16777216 % 256)] 5)) v q' 5 1 l.length (u8s l):=r4.frame fun y=>x5.get _ (hb4 _ _ (r4.block y)) id
 have g5 : (h4.new (.cells [Nk .u8 (sumN l % 256),Nk .u8 (sumN l / 256 % 256),Nk .u8 (sumN l / 65536 % 256),Nk .u8 (sumN l / 16777216 % 256)] 5)).get h4.next = some (.cells [Nk .u8 (sumN l % 256),Nk .u8 (sumN l / 256 % 256),Nk .u8 (sumN l / 65536 % 256),Nk .u8 (sumN l / 16777216 % 256)] 5):=get_new_same _ _
 have n5 : (h4.new (.cells [Nk .u8 (sumN l % 256),Nk .u8 (sumN l / 256 % 256),Nk .u8 (sumN l / 65536 % 256),Nk .u8 (sumN l / 16777216 % 256)] 5)).next = h4.next + 1:=rfl
 generalize h4.new (.cells [Nk .u8 (sumN l % 256),Nk .u8 (sumN l / 256 % 256),Nk .u8 (sumN l / 65536 % 256),Nk .u8 (sumN l / 16777216 % 256)] 5) = h5 at x5 r5 g5 n5 ⊢
 have hc5 : cellsF h5 1 4 (.slice h4.next 0 4 4 false) = some (u8s (leN 4 (sumN l))):=by
  show readF h5 h4.next 0 4 = _
  unfold readF onRow
  rw [g5,e5]; rfl
 obtain ⟨h6,e6,r6,n6,c6⟩:=append_row r5 rfl (by decide) (by decide) (by omega) hc5 (by rw [u8s_len,leN_len])
 rw [e6,andE_some]
 have hq:=l4 h0
 have x16 : Ext h h6:=by
  refine ((x1.trans x2).trans ((x3.trans x4).trans x5)).then c6 fun j hj hlt=>?_
  have:=x1.next; have:=x2.next; have:=hj.2; omega
 refine .ret ⟨h5.next,?_,x16,x16.hb hb,?_⟩
 ·rw [u8s_app,List.length_append,leN_len]; exact r6
 ·have:=x1.next; have:=x2.next; have:=x4.next; omega
theorem neq_u8 {t a b : Nat} (k : EV->R) : intE gNeq (bin TT .neq t) (Nk .u8 a) (Nk .u8 b) k = k (.bool (decide (¬ a = b))):=by
 show k (gNeq .u8 (Int.ofNat a) (Int.ofNat b)) = _
 rw [gNeq_eq,eqI_dec,notB_dec]
 exact congrArg (fun b=>k (.bool b)) (decide_eq_decide.2 (not_congr ⟨Int.ofNat.inj,congrArg _⟩))
noncomputable def openB (l : List Nat) : Bool:=decide (leN 4 (sumN (l.take (l.length - 4))) = l.drop (l.length - 4))
def OpenQ (h : AHeap) (l : List Nat) (v : EV) (h' : AHeap) : Prop:=Ext h h'/\HB h'/\((openB l = false/\v = .tuple [.nilslice,I 11])\/(openB l = true/\∃ y q',v = .tuple [y,I 0]/\RowAt h' y q' 5 1 (l.take (l.length - 4)).length (u8s (l.take (l.length - 4)))/\h.next<=q'))
theorem open_loop {x y : EV} {b off off' : Nat} {l : List Nat} (h4 : 4 < l.length) (hn : l.length<=5000) (hl : ∀ b ∈ l,b < 256) (h0 : AHeap) : ∀ (m i : Nat) (h : AHeap),4 - i < m->i<=4->HB h->Ext h0 h->Bs h x b off l->Bs h y b off' (l.drop (l.length - 4))->(∀ j (hj : j < i),(l.drop (l.length - 4))[j]? = some (sumN (l.take (l.length - 4)) / 256 ^ j % 256)) ->
 Ok (crc_Table_Open_b5 K m x (I ((l.length - 4 : Nat) : Int)) (Nk .u32 (sumN (l.take (l.length - 4)) / 256 ^ i)) y (I 4) (I i) h) (OpenQ h0 l):=by
 intro m
 have hd : (l.drop (l.length - 4)).length = 4:=by rw [List.length_drop]; omega
 have hs:=sum_lt (l:=l.take (l.length - 4)) fun b hb=>hl b (List.mem_of_mem_take hb)
 induction m with
 | zero=>intro i h hm; omega
 | succ m ih=>
  intro i h hm hi hb x0 sx sy hj
  simp only [crc_Table_Open_b5,I,walkI,walkE]
  by_cases hlt : (i : Int) < 4
  ·have hin : i < (l.drop (l.length - 4)).length:=by omega
   obtain ⟨e1,e2⟩:=sy.ix hin
   simp only [hlt,decide_true,walkE,crc_Table_Open_j4,e1,e2]
   rw [wrap_u8]
   rw [neq_u8]
   by_cases hc : (l.drop (l.length - 4))[i] = sumN (l.take (l.length - 4)) / 256 ^ i % 256
   ·simp only [hc,not_true_eq_false,decide_false,walkE,crc_Table_Open_j3]
    rw [show ∀ k : EV->R,binE (bin TT .shr 70) (Nk .u32 (sumN (l.take (l.length - 4)) / 256 ^ i)) (.int .u64 8) k = k (Nk .u32 (sumN (l.take (l.length - 4)) / 256 ^ i / 256)) from fun k=>shr_u32 (s:=8) (by decide)]
    simp only [crc_Table_Open_j2,I,walkI]
    rw [wi64 (by omega) (by omega),Nat.div_div_eq_div_mul,<-Nat.pow_succ]
    refine ih (i + 1) h (by omega) (by omega) hb x0 sx sy fun j hj'=>?_
    by_cases hji : j = i
    ·subst hji; rw [List.getElem?_eq_getElem hin,hc]
    ·exact hj j (by omega)
   ·simp only [hc,not_false_eq_true,decide_true,walkE]
    refine .ret ⟨x0,hb,.inl ⟨decide_eq_false fun y=>hc ?_,rfl⟩⟩
    have:=congrArg (fun z=>z[i]?) y
    simp only [leN] at this
    rw [List.getElem?_eq_getElem hin,List.getElem?_map,List.getElem?_range (by omega)] at this
    exact (Option.some.inj this).symm
  ·have : i = 4:=by omega
   subst this
   simp only [hlt,decide_false,walkE,crc_Table_Open_j0]
   have ho : openB l = true:=decide_eq_true (by
    apply List.ext_getElem?
    intro j
    by_cases hj4 : j < 4
    ·rw [hj j hj4]; unfold leN; rw [List.getElem?_map,List.getElem?_range hj4]; rfl
    ·rw [List.getElem?_eq_none (by rw [leN_len]; omega),List.getElem?_eq_none (by omega)])
   rw [show buildSliceE [(.int .u8 0)] 5 1 0 [] h = some (.slice h.next 0 0 0 false,h.new (.cells [] 5)) from rfl,andE_some]
   have x3 : Ext h (h.new (.cells [] 5)):=Chg.new _ _
   have s3:=sx.ext hb x3
   have n3 : (h.new (.cells [] 5)).next = h.next + 1:=rfl
   generalize h.new (.cells [] 5) = h3 at x3 s3 n3 ⊢
   have hb3:=x3.hb hb
   obtain ⟨w,e3,s4⟩:=s3.take (n:=l.length - 4) (by omega)
   rw [e3]
   refine (append_fresh (b:=h.next) (e:=5) s4.len (by rw [List.length_take]; omega) s4.cells (by rw [u8s_len,Nat.mul_one]) 0).andE ?_
   rintro v h4' ⟨q',r4,x4,l4⟩
   refine .ret ⟨x0.trans (x3.trans x4),x4.hb hb3,.inr ⟨ho,v,q',rfl,r4,?_⟩⟩
   have:=l4 (by rw [List.length_take]; omega)
   have:=x0.next
   omega
theorem open_ok {h : AHeap} {b off r : Nat} {op : Bool} {l : List Nat} (hK : 10000 < K) (s : Bs h (.slice b off l.length r op) b off l) (hb : HB h) (hl : ∀ b ∈ l,b < 256) (h4 : 4 < l.length) (hn : l.length<=5000) :
 Ok (crc_Table_Open K crcV (.slice b off l.length r op) h) (OpenQ h l):=by
 unfold crcV
 simp only [crc_Table_Open,walkE]
 have g3 : (h.new (.cells crcCells 72)).get h.next = some (.cells crcCells 72):=get_new_same _ _
 have x1 : Ext h (h.new (.cells crcCells 72)):=Chg.new _ _
 generalize h.new (.cells crcCells 72) = h1 at g3 x1 ⊢
 have hb1:=x1.hb hb
 have s1:=s.ext hb x1
 have l3:=hb1 _ _ g3
 simp only [walkI]
 rw [wi64 (by omega) (by omega),show (l.length : Int) - 4 = ((l.length - 4 : Nat) : Int) by omega,show decide (((l.length - 4 : Nat) : Int) < 0) = false from decide_eq_false (by omega)]
 simp only [walkE,crc_Table_Open_j6,loadE_lt l3,walkD,ldsN g3 rfl,cutR_all crc_len]
 obtain ⟨w,e3,s4⟩:=s1.take (n:=l.length - 4) (by omega)
 rw [e3]
 refine Ok.bigE (by kernel_rfl) (by kernel_rfl) (sum_ok (K:=K) hK s4.lift (lift_hb hb1) (fun b hb=>hl b (List.mem_of_mem_take hb)) (by rw [List.length_take]; omega)) (fun _ _ p=>p.2) ?_
 rintro _ h2 h3 ⟨rfl,_⟩ sm x3
 have hb3:=x3.hb hb1
 obtain ⟨e5,s5⟩:=(s1.ext hb1 x3).drop (n:=l.length - 4) (by omega)
 rw [e5]
 simp only [walkE]
 have:=open_loop (K:=K) (x:=.slice b off l.length r op) h4 hn hl h K 0 h3 (by omega) (by decide) hb3 (x1.trans x3) (s1.ext hb1 x3) s5 (fun j hj=>absurd hj (Nat.not_lt_zero _))
 rw [Nat.pow_zero,Nat.div_one] at this
 rw [show l.length - (l.length - 4) = 4 by omega] at this ⊢
 exact this
end Go.Ev

namespace Go.Ev
open Go.Proofs
set_option maxRecDepth 100000
variable {K : Nat}
structure Rd (h : AHeap) (R q off : Nat) (l : List Nat) : Prop where
 at' : ∃ s,h.get R = some (.cells [s,.bool false] 316)/\lenOf s = some l.length/\(0 < l.length->s = .slice q off l.length l.length true/\Bs h s q off l)
 ne : q < R
theorem Rd.ext {h h' : AHeap} {R q off : Nat} {l : List Nat} (d : Rd h R q off l) (hb : HB h) (c : Ext h h') : Rd h' R q off l:=by
 obtain ⟨s,g,e,f⟩:=d.at'
 exact ⟨⟨s,c.at hb g,e,fun y=>⟨(f y).1,(f y).2.ext hb c⟩⟩,d.ne⟩
theorem codec_new_ok {h : AHeap} {x : EV} {b off : Nat} {l : List Nat} (s : Bs h x b off l) (hb : HB h) (h0 : 0 < l.length) (hn : l.length<=5000) :
 Ok (codec_New K x h) fun v h'=>∃ R q,v = .ptr R 0/\Rd h' R q 0 l/\Ext h h'/\HB h'/\h.next<=q:=by
 simp only [codec_New]
 rw [show buildSliceE [(.int .u8 0)] 5 1 0 [] h = some (.slice h.next 0 0 0 false,h.new (.cells [] 5)) from rfl,andE_some]
 have x1 : Ext h (h.new (.cells [] 5)):=Chg.new _ _
 have s1:=s.ext hb x1
 generalize h.new (.cells [] 5) = h1 at x1 s1 ⊢
 have hb1:=x1.hb hb
 refine (append_fresh (b:=h.next) (e:=5) s1.len (by omega) s1.cells (by rw [u8s_len,Nat.mul_one]) 0).andE ?_
 rintro v h2 ⟨q',r2,x2,l2⟩
 have hb2:=x2.hb hb1
 have hsl:=r2.slice h0
 subst hsl
 rw [buildE_at (l:=[.slice q' 0 l.length l.length true,.bool false]) rfl]
 simp only [walkE]
 have x3 : Ext h2 (h2.new (.cells [.slice q' 0 l.length l.length true,.bool false] 316)):=Chg.new _ _
 have bb:=(r2.bs h0).ext hb2 x3
 refine .ret ⟨h2.next,q',rfl,⟨⟨_,get_new_same _ _,rfl,fun _=>⟨rfl,bb⟩⟩,hb2 _ _ (r2.block h0)⟩,x1.trans (x2.trans x3),x3.hb hb2,?_⟩
 have:=l2 h0
 have:=x1.next
 omega
theorem take_ok' {h : AHeap} {R q off n : Nat} {l : List Nat} (d : Rd h R q off l) (hb : HB h) (h0 : 0 < n) (hn : n<=l.length) :
 Ok (codec_Reader_take K (.ptr R 0) (I n) h) fun v h'=>Bs h' v q off (l.take n)/\Rd h' R q (off + n) (l.drop n)/\Chg (fun i=>i = R) h h'/\HB h':=by
 obtain ⟨s,g,e,f⟩:=d.at'
 obtain ⟨rfl,s1⟩:=f (by omega)
 have lR:=hb _ _ g
 have hne : R ≠ q:=by have:=d.ne; omega
 simp only [codec_Reader_take,walkE,lds g rfl,walkI,I]
 rw [show decide ((n : Int) < 0) = false from decide_eq_false (by omega)]
 simp only [walkE,codec_Reader_take_j2,walkI,lds g rfl]
 rw [show decide ((l.length : Int) < (n : Int)) = false from decide_eq_false (by omega)]
 simp only [walkE,codec_Reader_take_j1,codec_Reader_take_j0,lds g rfl]
 have e1 : ∀ k : EV->Go.Ev.R,sliE 1 (.slice q off l.length l.length true) none (some (.int .i64 (n : Int))) (some (.int .i64 (n : Int))) k = k (.slice q off n n false):=fun k=>by
  have : slc (.slice q off l.length l.length true) 1 none (some (.int .i64 (n : Int))) (some (.int .i64 (n : Int))) = some (.slice q off n n false):=by
   have b1 : bound (some (.int .i64 (n : Int))) l.length 0 = some n:=by
    show cnd (Nat.ble n l.length) (some n) none = _
    rw [Nat.ble_eq_true_of_le hn,cnd_true]
   have b2 : bound (some (.int .i64 (n : Int))) n 0 = some n:=by
    show cnd (Nat.ble n n) (some n) none = _
    rw [Nat.ble_eq_true_of_le (Nat.le_refl _),cnd_true]
   unfold slc
   simp only [b1,b2]
   show some (EV.slice q (cnd (Nat.beq n 0) off (Nat.add off (Nat.mul 0 1))) n n false) = _
   rw [show Nat.add off (Nat.mul 0 1) = off from rfl]
   cases Nat.beq n 0 <;> rfl
  unfold sliE; rw [this]; rfl
 rw [e1]
 obtain ⟨r',op',o,row,f1,f0,f2,f3,f4,f5⟩:=s1.at'
 have htl : (l.take n).length = n:=by rw [List.length_take,Nat.min_eq_left hn]
 have hdl : (l.drop n).length = l.length - n:=List.length_drop
 have bt : Bs h (.slice q off n n false) q off (l.take n):=by
  refine ⟨n,false,o,row,by rw [htl],by rw [htl]; exact Nat.le_refl _,f2,f3,by rw [htl]; omega,?_⟩
  rw [htl]
  have:=congrArg (fun z=>z.take n) f5
  simp only [List.take_take,Nat.min_eq_left hn] at this
  rw [this]; unfold u8s; rw [List.map_take]
 have put : ∀ w : EV,(h.put R (.cells [w,.bool false] 316)).get q = h.get q:=fun w=>get_put_ne _ hne
 rcases Nat.lt_or_ge n l.length with hlt | hge
 ·obtain ⟨e2,s2⟩:=s1.drop hlt
  rw [e2]
  refine Ok.st1 g rfl rfl (by show 0 < 2; decide) ?_
  refine .ret ⟨bt.frame (put _),⟨⟨_,get_put_same _ _ _,by rw [hdl]; rfl,fun _=>⟨by rw [hdl],s2.frame (put _)⟩⟩,d.ne⟩,(Chg.refl (S:=fun i=>i = R) h).andPut (.inl rfl) lR _,hb.put lR _⟩
 ·have hnl : n = l.length:=by omega
  subst hnl
  have e2 : ∀ k : EV->Go.Ev.R,sliE 1 (.slice q off l.length l.length true) (some (.int .i64 (l.length : Int))) none none k = k (.tail q (off + l.length) off):=fun k=>by
   have : slc (.slice q off l.length l.length true) 1 (some (.int .i64 (l.length : Int))) none none = some (.tail q (off + l.length) off):=by
    have b1 : bound (some (.int .i64 (l.length : Int))) l.length 0 = some l.length:=by
     show cnd (Nat.ble l.length l.length) (some l.length) none = _
     rw [Nat.ble_eq_true_of_le (Nat.le_refl _),cnd_true]
    have b2 : bound none l.length l.length = some l.length:=rfl
    unfold slc
    simp only [b1,b2]
    rw [cnd_true]
    have z1 : Nat.beq l.length 0 = false:=by
     cases hq : Nat.beq l.length 0 with
     | false=>rfl
     | true=>have:=Nat.eq_of_beq_eq_true hq; omega
    have z2 : Nat.ble (Nat.succ l.length) l.length = false:=by
     cases hq : Nat.ble (Nat.succ l.length) l.length with
     | false=>rfl
     | true=>have:=Nat.le_of_ble_eq_true hq; omega
    rw [z1,cnd_false,z2,cnd_false,Nat.beq_refl,cnd_true,cnd_true,show Nat.mul l.length 1 = l.length from Nat.mul_one _]
    rfl
   unfold sliE; rw [this]; rfl
  rw [e2]
  refine Ok.st1 g rfl rfl (by show 0 < 2; decide) ?_
  refine .ret ⟨bt.frame (put _),⟨⟨_,get_put_same _ _ _,by rw [hdl,Nat.sub_self]; rfl,fun y=>by rw [hdl,Nat.sub_self] at y; exact absurd y (Nat.lt_irrefl _)⟩,d.ne⟩,(Chg.refl (S:=fun i=>i = R) h).andPut (.inl rfl) lR _,hb.put lR _⟩
def leV : List Nat->Nat
 | []=>0
 | b :: r=>b + 256 * leV r
theorem leV_app : ∀ (a : List Nat) (b : Nat),leV (a ++ [b]) = leV a + 256 ^ a.length * b
 | [],b=>by simp [leV]
 | x :: a,b=>by
  have:=leV_app a b
  simp only [List.cons_append,leV,this,List.length_cons,Nat.pow_succ]
  rw [Nat.mul_add,<-Nat.add_assoc,Nat.mul_comm (256 ^ a.length) 256,Nat.mul_assoc]
theorem leV_lt : ∀ (a : List Nat),(∀ b ∈ a,b < 256)->leV a < 256 ^ a.length
 | [],_=>by simp [leV]
 | x :: a,h=>by
  have h1:=h x (List.mem_cons_self ..)
  have h2:=leV_lt a fun b hb=>h b (List.mem_cons_of_mem _ hb)
  simp only [leV,List.length_cons,Nat.pow_succ]
  omega
theorem wrap_u64 (a : Nat) : wrapF .u64 (Int.ofNat a) = Int.ofNat (a % 18446744073709551616):=by
 rw [wrapF_eq]
 rfl
theorem shl_i64 {t a s : Nat} (hs : s<=64) (hb : a * 2 ^ s < 9223372036854775808) {k : EV->Go.Ev.R} : binE (bin TT .shl t) (.int .i64 (Int.ofNat a)) (.int .u64 (Int.ofNat s)) k = k (Nk .i64 (a * 2 ^ s)):=by
 show k (.int .i64 (wrapF .i64 (Int.mul (.ofNat a) (.ofNat (Nat.pow 2 (cnd (Nat.ble s 64) s 64)))))) = _
 rw [Nat.ble_eq_true_of_le hs,cnd_true]
 have : Int.mul (.ofNat a) (.ofNat (Nat.pow 2 s)) = ((a * 2 ^ s : Nat) : Int):=rfl
 rw [this,wi64 (by omega) (by omega)]; rfl
theorem or_i64 {t a b : Nat} (h : a ||| b < 9223372036854775808) {k : EV->Go.Ev.R} : binE (bin TT .or t) (.int .i64 (Int.ofNat a)) (.int .i64 (Int.ofNat b)) k = k (Nk .i64 (a ||| b)):=by
 show k (.int .i64 (wrapF .i64 (.ofNat (Nat.lor a b)))) = _
 have : Int.ofNat (Nat.lor a b) = ((a ||| b : Nat) : Int):=rfl
 rw [this,wi64 (by omega) (by omega)]; rfl
theorem num_loop {b off : Nat} {x : EV} {l : List Nat} (hl : ∀ b ∈ l,b < 256) (h7 : l.length<=7) : ∀ (m i : Nat) (h : AHeap),l.length - i < m->i<=l.length->Bs h x b off l ->
 codec_Reader_Num_b4 K m (Nk .i64 (leV (l.take i))) x (I l.length) (I i) h = some (Nk .i64 (leV l),h):=by
 intro m
 induction m with
 | zero=>intro i h hm; omega
 | succ m ih=>
  intro i h hm hi s
  simp only [codec_Reader_Num_b4,I,walkI,walkE]
  by_cases hlt : (i : Int) < l.length
  ·have hin : i < l.length:=by omega
   obtain ⟨e1,e2⟩:=s.ix hin
   have hb:=hl _ (List.getElem_mem hin)
   simp only [hlt,decide_true,walkE,codec_Reader_Num_j3,e1,e2,walkI]
   have hp : (256 : Nat) ^ i = 2 ^ (8 * i):=by rw [Nat.pow_mul]
   have hp6 : (256 : Nat) ^ i<=256 ^ 6:=Nat.pow_le_pow_right (by decide) (by omega)
   have hp6 : (256 : Nat) ^ i<=281474976710656:=hp6
   have hmul : l[i] * 256 ^ i<=255 * 281474976710656:=Nat.mul_le_mul (by omega) hp6
   rw [show wrapF .i64 (Int.ofNat l[i]) = Int.ofNat l[i] from wi64 (by show _<=((l[i] : Nat) : Int); omega) (by show ((l[i] : Nat) : Int)<=_; omega)]
   rw [show (8 : Int) * (i : Int) = ((8 * i : Nat) : Int) by omega,wi64 (by omega) (by omega)]
   rw [show wrapF .u64 ((8 * i : Nat) : Int) = Int.ofNat (8 * i) from by have:=wrap_u64 (8 * i); rw [Nat.mod_eq_of_lt (by omega)] at this; exact this]
   rw [shl_i64 (by omega) (by rw [<-hp]; omega)]
   have ht : (l.take i).length = i:=by rw [List.length_take,Nat.min_eq_left hi]
   have hlow : leV (l.take i) < 2 ^ (8 * i):=by
    have:=leV_lt (l.take i) fun b hb=>hl b (List.mem_of_mem_take hb)
    rw [ht,hp] at this
    exact this
   have hor : leV (l.take i) ||| l[i] * 2 ^ (8 * i) = leV (l.take (i + 1)):=by
    rw [List.take_add_one,List.getElem?_eq_getElem hin]
    show _ = leV (l.take i ++ [l[i]])
    rw [leV_app,ht,Nat.or_comm,Nat.mul_comm l[i],<-Nat.two_pow_add_eq_or_of_lt hlow,hp,Nat.add_comm]
   have hlt7 : leV (l.take (i + 1)) < 9223372036854775808:=by
    have:=leV_lt (l.take (i + 1)) fun b hb=>hl b (List.mem_of_mem_take hb)
    have h2 : (256 : Nat) ^ (l.take (i + 1)).length<=256 ^ 7:=Nat.pow_le_pow_right (by decide) (by rw [List.length_take]; omega)
    have h3 : (256 : Nat) ^ 7 = 72057594037927936:=by decide
    omega
   rw [or_i64 (by rw [hor]; exact hlt7),hor]
   simp only [codec_Reader_Num_j2,I,walkI]
   rw [wi64 (by omega) (by omega)]
   exact ih (i + 1) h (by omega) (by omega) s
  ·have : i = l.length:=by omega
   subst this
   simp only [hlt,decide_false,walkE,codec_Reader_Num_j0,List.take_length]
theorem num_ok {h : AHeap} {R q off w : Nat} {l : List Nat} (d : Rd h R q off l) (hb : HB h) (hK : 1000 < K) (h1 : 1<=w) (h7 : w<=7) (hn : w<=l.length) (hl : ∀ b ∈ l,b < 256) :
 Ok (codec_Reader_Num K (.ptr R 0) (I w) h) fun v h'=>v = Nk .i64 (leV (l.take w))/\Rd h' R q (off + w) (l.drop w)/\Chg (fun i=>i = R) h h'/\HB h':=by
 simp only [codec_Reader_Num]
 rw [codec_within_eq,decide_eq_true ⟨by omega,by omega⟩]
 simp only [walkE,codec_Reader_Num_j5]
 refine (take_ok' (K:=K) d hb h1 hn).andE ?_
 rintro v h2 ⟨s,d2,c2,hb2⟩
 rw [s.lenE]
 have ht : (l.take w).length = w:=by rw [List.length_take,Nat.min_eq_left hn]
 have:=num_loop (K:=K) (l:=l.take w) (fun b hb=>hl b (List.mem_of_mem_take hb)) (by omega) K 0 h2 (by omega) (Nat.zero_le _) s
 rw [show EV.int .i64 0 = Nk .i64 (leV ((l.take w).take 0)) from rfl]
 exact ⟨_,_,this,rfl,d2,c2,hb2⟩
theorem bytes_ok {h : AHeap} {R q off n : Nat} {l : List Nat} (d : Rd h R q off l) (hb : HB h) (h0 : 0 < n) (hn : n<=l.length) :
 Ok (codec_Reader_Bytes K (.ptr R 0) (I n) h) fun v h'=>Bs h' v q off (l.take n)/\Rd h' R q (off + n) (l.drop n)/\Chg (fun i=>i = R) h h'/\HB h':=by
 simp only [codec_Reader_Bytes]
 refine (take_ok' (K:=K) d hb h0 hn).andE ?_
 intro v h2 p
 exact .ret p
theorem done_eq {h : AHeap} {R q off : Nat} (d : Rd h R q off []) : codec_Reader_Done K (.ptr R 0) h = some (I 0,h):=by
 obtain ⟨s,g,e,f⟩:=d.at'
 simp only [codec_Reader_Done,walkE,lds g rfl,walkI]
 have : ∀ k : EV->Go.Ev.R,lenE s k = k (I 0):=fun k=>by unfold lenE; rw [e]; rfl
 rw [this]
 simp only [I,walkI]
 rfl
end Go.Ev

namespace Go.Ev
open Go.Proofs
set_option maxRecDepth 100000
variable {K : Nat}
structure Fr where
 kind : Int
 zone : Int
 off : Int
 epoch : Int
 seq : Int
 body : List Nat
def Fr.cells (f : Fr) : List EV:=[I f.kind,I f.zone,I f.off,I f.epoch,I f.seq] ++ u8s f.body
structure Fr.Wf (f : Fr) : Prop where
 len : f.body.length = 44
 u8 : ∀ b ∈ f.body,b < 256
def frB (f : Fr) : Bool:=wi f.kind 1 5 && (wi f.zone 0 65535 && (wi f.off 0 65535 && (wi f.epoch 1 4294967295 && wi f.seq 0 281474976710655)))
theorem frame_within_eq (n a b : Int) (h : AHeap) : frame_within K (.int .i64 n) (.int .i64 a) (.int .i64 b) h = some (.bool (wi n a b),h):=by
 simp only [frame_within,walkI,walkE]
 by_cases h1 : a<=n
 ·simp only [h1,decide_true,walkE,walkI,frame_within_j0,wi,Bool.true_and]
 ·simp only [h1,decide_false,walkE,frame_within_j0,wi,Bool.false_and]
theorem Fr.cells_len {f : Fr} (w : f.Wf) : f.cells.length = 49:=by
 unfold Fr.cells; rw [List.length_append,u8s_len,w.len]; rfl
theorem frame_right_ok {h : AHeap} (f : Fr) : Ok (frame_Frame_Right K (.agg f.cells) h) fun v h'=>v = .bool (frB f)/\Ext h h':=by
 simp only [frame_Frame_Right,walkE]
 have x1 : Ext h (h.new (.cells f.cells 120)):=Chg.new _ _
 have g1 : (h.new (.cells f.cells 120)).get h.next = some (.cells f.cells 120):=get_new_same _ _
 generalize h.new (.cells f.cells 120) = h1 at x1 g1 ⊢
 have l0 : f.cells[0]? = some (I f.kind):=rfl
 have l1 : f.cells[1]? = some (I f.zone):=rfl
 have l2 : f.cells[2]? = some (I f.off):=rfl
 have l3 : f.cells[3]? = some (I f.epoch):=rfl
 have l4 : f.cells[4]? = some (I f.seq):=rfl
 simp only [lds g1 rfl,walkE,l0,I,frame_within_eq,walkI]
 unfold frB
 cases wi f.kind 1 5 with
 | false=>simp only [walkE,frame_Frame_Right_j3,frame_Frame_Right_j2,frame_Frame_Right_j1,frame_Frame_Right_j0,walkI]; exact .ret ⟨rfl,x1⟩
 | true=>
 simp only [walkE,lds g1 rfl,l1,I,frame_within_eq,walkI,frame_Frame_Right_j3]
 cases wi f.zone 0 65535 with
 | false=>simp only [walkE,frame_Frame_Right_j2,frame_Frame_Right_j1,frame_Frame_Right_j0,walkI]; exact .ret ⟨rfl,x1⟩
 | true=>
 simp only [walkE,lds g1 rfl,l2,I,frame_within_eq,walkI,frame_Frame_Right_j2]
 cases wi f.off 0 65535 with
 | false=>simp only [walkE,frame_Frame_Right_j1,frame_Frame_Right_j0,walkI]; exact .ret ⟨rfl,x1⟩
 | true=>
 simp only [walkE,lds g1 rfl,l3,I,frame_within_eq,walkI,frame_Frame_Right_j1]
 cases wi f.epoch 1 4294967295 with
 | false=>simp only [walkE,frame_Frame_Right_j0,walkI]; exact .ret ⟨rfl,x1⟩
 | true=>
 simp only [walkE,lds g1 rfl,l4,I,frame_within_eq,walkI,frame_Frame_Right_j0]
 exact .ret ⟨by simp only [Bool.true_and],x1⟩
def hdrF (f : Fr) : List Nat:=leN 1 f.kind.toNat ++ leN 1 1 ++ leN 2 f.zone.toNat ++ leN 2 f.off.toNat ++ leN 4 f.epoch.toNat ++ leN 6 f.seq.toNat ++ f.body
noncomputable def encF (f : Fr) : List Nat:=hdrF f ++ leN 4 (sumN (hdrF f))
theorem leN_u8 (w a : Nat) : ∀ b ∈ leN w a,b < 256:=fun b hb=>by
 unfold leN at hb
 obtain ⟨i,_,rfl⟩:=List.mem_map.1 hb
 exact Nat.mod_lt _ (by decide)
theorem hdrF_len {f : Fr} (w : f.Wf) : (hdrF f).length = 60:=by
 unfold hdrF; simp only [List.length_append,leN_len,w.len]
theorem encF_len {f : Fr} (w : f.Wf) : (encF f).length = 64:=by
 unfold encF; rw [List.length_append,hdrF_len w,leN_len]
theorem hdrF_u8 {f : Fr} (w : f.Wf) : ∀ b ∈ hdrF f,b < 256:=fun b hb=>by
 unfold hdrF at hb
 simp only [List.mem_append] at hb
 rcases hb with (((((hb | hb) | hb) | hb) | hb) | hb) | hb
 ·exact leN_u8 _ _ b hb
 ·exact leN_u8 _ _ b hb
 ·exact leN_u8 _ _ b hb
 ·exact leN_u8 _ _ b hb
 ·exact leN_u8 _ _ b hb
 ·exact leN_u8 _ _ b hb
 ·exact w.u8 b hb
theorem encF_u8 {f : Fr} (w : f.Wf) : ∀ b ∈ encF f,b < 256:=fun b hb=>by
 unfold encF at hb
 rcases List.mem_append.1 hb with hb | hb
 ·exact hdrF_u8 w b hb
 ·exact leN_u8 _ _ b hb
theorem fits_of {w : Nat} {v b : Int} (h0 : 0<=v) (hb : v<=b) (hw : b < (256 ^ w : Nat)) : fits w v = true:=decide_eq_true ⟨h0,by omega⟩
theorem frame_encode_ok {h : AHeap} {f : Fr} (w : f.Wf) (hr : frB f = true) (hb : HB h) (hK : 10000 < K) :
 Ok (frame_Encode K crcV (.agg f.cells) h) fun v h'=>v = .tuple [.agg (u8s (encF f)),I 0]/\Ext h h':=by
 have hr':=hr
 simp only [frB,Bool.and_eq_true] at hr'
 obtain ⟨r1,r2,r3,r4,r5⟩:=hr'
 obtain ⟨a1,b1⟩:=wi_iff.1 r1
 obtain ⟨a2,b2⟩:=wi_iff.1 r2
 obtain ⟨a3,b3⟩:=wi_iff.1 r3
 obtain ⟨a4,b4⟩:=wi_iff.1 r4
 obtain ⟨a5,b5⟩:=wi_iff.1 r5
 have l0 : f.cells[0]? = some (I f.kind):=rfl
 have l1 : f.cells[1]? = some (I f.zone):=rfl
 have l2 : f.cells[2]? = some (I f.off):=rfl
 have l3 : f.cells[3]? = some (I f.epoch):=rfl
 have l4 : f.cells[4]? = some (I f.seq):=rfl
 have hfl:=Fr.cells_len w
 unfold crcV
 simp only [frame_Encode,walkE]
 have x1 : Ext h (((h.new (.cells crcCells 72)).new (.cells f.cells 120)).new (.cells zs64 103)):=((Chg.new _ _).andNew _).andNew _
 have g2 : (((h.new (.cells crcCells 72)).new (.cells f.cells 120)).new (.cells zs64 103)).get h.next = some (.cells crcCells 72):=by
  rw [get_new_lt _ (by show h.next < h.next + 1 + 1; omega),get_new_lt _ (Nat.lt_succ_self _)]; exact get_new_same _ _
 have g3 : (((h.new (.cells crcCells 72)).new (.cells f.cells 120)).new (.cells zs64 103)).get (h.next + 1) = some (.cells f.cells 120):=by
  rw [get_new_lt _ (by show h.next + 1 < h.next + 1 + 1; omega)]; exact get_new_same _ _
 have g4 : (((h.new (.cells crcCells 72)).new (.cells f.cells 120)).new (.cells zs64 103)).get (h.next + 2) = some (.cells zs64 103):=get_new_same _ _
 have n1 : (((h.new (.cells crcCells 72)).new (.cells f.cells 120)).new (.cells zs64 103)).next = h.next + 3:=rfl
 rw [show (h.new (.cells crcCells 72)).next = h.next + 1 from rfl,show ((h.new (.cells crcCells 72)).new (.cells f.cells 120)).next = h.next + 2 from rfl,show List.replicate 64 (EV.int .u8 0) = zs64 from rfl]
 generalize ((h.new (.cells crcCells 72)).new (.cells f.cells 120)).new (.cells zs64 103) = h1 at x1 g2 g3 g4 n1 ⊢
 have hb1:=x1.hb hb
 rw [ldsN g3 rfl,cutR_all hfl]
 simp only [oB_s]
 refine (frame_right_ok (K:=K) f).andE ?_
 rintro _ h2 ⟨rfl,x2⟩
 rw [hr]
 simp only [walkE,frame_Encode_j1]
 have hb2:=x2.hb hb1
 have x12:=x1.trans x2
 have g2:=x2.at hb1 g2
 have g3:=x2.at hb1 g3
 have g4:=x2.at hb1 g4
 have n2 : h.next + 3<=h2.next:=by have:=x2.next; omega
 have p0 : PenB (h2.new (.cells [.nilslice,.bool false] 278)) h2.next 278 [] false:=⟨.nilslice,0,get_new_same _ _,.nil _ _ _ _,fun y=>absurd y (Nat.lt_irrefl _)⟩
 have x3 : Ext h2 (h2.new (.cells [.nilslice,.bool false] 278)):=Chg.new _ _
 have g2:=x3.at hb2 g2
 have g3:=x3.at hb2 g3
 have g4:=x3.at hb2 g4
 have hb3:=x3.hb hb2
 have x13:=x12.trans x3
 generalize h2.new (.cells [.nilslice,.bool false] 278) = h3 at p0 x3 g2 g3 g4 hb3 x13 ⊢
 generalize hP : h2.next = P at p0 n2 ⊢
 have up : ∀ {ha hc : AHeap},Ext h ha->Chg (fun i=>P<=i) ha hc->Ext h hc:=fun x c=>x.then c fun j hj hl=>by
  have hj : P<=j:=hj
  omega
 have lo : ∀ {ha hc : AHeap} {i : Nat} {o : AObj},Chg (fun i=>P<=i) ha hc->HB ha->ha.get i = some o->i < P->hc.get i = some o:=fun c hb g hi=>c.at hb g (by omega)
 simp only [lds g3 rfl,l0]
 simp only [oB_s]
 refine (pen_num_ok (K:=K) (w:=1) (by omega) p0 hb3 (by simp) (by decide) (by decide) (v:=f.kind) (by omega)).andE ?_
 rintro _ h5 ⟨p,c,hb5⟩
 rw [fits_of (b:=5) (by omega) b1 (by decide),if_pos rfl] at p
 have x5:=up x13 c
 have g2:=lo c hb3 g2 (by omega)
 have g3:=lo c hb3 g3 (by omega)
 have g4:=lo c hb3 g4 (by omega)
 refine (pen_num_ok (K:=K) (w:=1) (by omega) p hb5 (by simp [leN_len]) (by decide) (by decide) (v:=1) (by omega)).andE ?_
 rintro _ h6 ⟨p,c,hb6⟩
 rw [fits_of (b:=1) (by omega) (Int.le_refl _) (by decide),if_pos rfl] at p
 have x6:=up x5 c
 have g2:=lo c hb5 g2 (by omega)
 have g3:=lo c hb5 g3 (by omega)
 have g4:=lo c hb5 g4 (by omega)
 simp only [walkE,lds g3 rfl,l1]
 refine (pen_num_ok (K:=K) (w:=2) (by omega) p hb6 (by simp [leN_len]) (by decide) (by decide) (v:=f.zone) (by omega)).andE ?_
 rintro _ h7 ⟨p,c,hb7⟩
 rw [fits_of (b:=65535) a2 b2 (by decide),if_pos rfl] at p
 have x7:=up x6 c
 have g2:=lo c hb6 g2 (by omega)
 have g3:=lo c hb6 g3 (by omega)
 have g4:=lo c hb6 g4 (by omega)
 simp only [walkE,lds g3 rfl,l2]
 refine (pen_num_ok (K:=K) (w:=2) (by omega) p hb7 (by simp [leN_len]) (by decide) (by decide) (v:=f.off) (by omega)).andE ?_
 rintro _ h8 ⟨p,c,hb8⟩
 rw [fits_of (b:=65535) a3 b3 (by decide),if_pos rfl] at p
 have x8:=up x7 c
 have g2:=lo c hb7 g2 (by omega)
 have g3:=lo c hb7 g3 (by omega)
 have g4:=lo c hb7 g4 (by omega)
 simp only [walkE,lds g3 rfl,l3]
 refine (pen_num_ok (K:=K) (w:=4) (by omega) p hb8 (by simp [leN_len]) (by decide) (by decide) (v:=f.epoch) (by omega)).andE ?_
 rintro _ h9 ⟨p,c,hb9⟩
 rw [fits_of (b:=4294967295) (by omega) b4 (by decide),if_pos rfl] at p
 have x9:=up x8 c
 have g2:=lo c hb8 g2 (by omega)
 have g3:=lo c hb8 g3 (by omega)
 have g4:=lo c hb8 g4 (by omega)
 simp only [walkE,lds g3 rfl,l4]
 refine (pen_num_ok (K:=K) (w:=6) (by omega) p hb9 (by simp [leN_len]) (by decide) (by decide) (v:=f.seq) (by omega)).andE ?_
 rintro _ h10 ⟨p,c,hb10⟩
 rw [fits_of (b:=281474976710655) a5 b5 (by decide),if_pos rfl] at p
 have x10:=up x9 c
 have g2:=lo c hb9 g2 (by omega)
 have g3:=lo c hb9 g3 (by omega)
 have g4:=lo c hb9 g4 (by omega)
 try simp only [walkE]
 rw [show ∀ k : EV->R,sliAE 44 1 (.ptr (h.next + 1) 5) none none none k = k (.slice (h.next + 1) 5 44 44 false) from fun k=>rfl]
 have hcb : cellsF h10 1 44 (.slice (h.next + 1) 5 44 44 false) = some (u8s f.body):=by
  show readF h10 (h.next + 1) 5 44 = _
  unfold readF onRow
  rw [g3]
  show cutR f.cells 5 44 = _
  rw [cutR_take (by rw [hfl]; decide)]
  show some (List.take 44 (u8s f.body)) = _
  rw [List.take_of_length_le (by rw [u8s_len,w.len]; decide)]
 refine (pen_bytes_ok (K:=K) (n:=44) p hb10 (by simp [leN_len]) rfl (by decide) (by decide) hcb w.len).andE ?_
 rintro _ h11 ⟨p,c,hb11⟩
 have x11:=up x10 c
 have g2:=lo c hb10 g2 (by omega)
 have g4:=lo c hb10 g4 (by omega)
 have ep : ([] ++ leN 1 f.kind.toNat ++ leN 1 (1 : Int).toNat ++ leN 2 f.zone.toNat ++ leN 2 f.off.toNat ++ leN 4 f.epoch.toNat ++ leN 6 f.seq.toNat ++ f.body) = hdrF f:=by
  unfold hdrF; rw [List.nil_append]; rfl
 have ebad : ∀ b : Bool,(b || !true) = b:=by decide
 rw [ep] at p
 simp only [ebad] at p
 refine (pen_out_ok (K:=K) p hb11 (by rw [hdrF_len w]; decide)).andE ?_
 rintro _ h12 ⟨y,q',rfl,ry,x12',hb12,lq⟩
 have g2:=x12'.at hb11 g2
 have g4:=x12'.at hb11 g4
 simp only [walkE,I,walkI]
 simp only [not_true_eq_false,decide_false,walkE,frame_Encode_j0]
 rw [ldsN g2 rfl,cutR_all crc_len]
 simp only [oB_s]
 have hpos : 0 < (hdrF f).length:=by rw [hdrF_len w]; decide
 refine (seal_ok (K:=K) hK (ry.bs hpos) hb12 (hdrF_u8 w) hpos (by rw [hdrF_len w]; decide)).andE ?_
 rintro v h13 ⟨q2,r13,x13',hb13,lq2⟩
 have r13 : RowAt h13 v q2 5 1 (encF f).length (u8s (encF f)):=r13
 have g4:=x13'.at hb12 g4
 have hel:=encF_len w
 have hsl:=r13.slice (by rw [hel]; decide)
 subst hsl
 rw [show ∀ k : EV->R,s2apE 64 (.slice q2 0 (encF f).length (encF f).length true) k = k (.ptr q2 0) from fun k=>by rw [hel]; rfl]
 rw [ldsN (r13.block (by rw [hel]; decide)) rfl,cutR_all (by rw [u8s_len,hel])]
 simp only [oB_s]
 refine Ok.st (u8s (encF f)) g4 rfl (by show lenR (u8s (encF f)) = 64; rw [len_length,u8s_len,hel]) (laidR_all (by rw [zs64_len]; show 64 = (u8s (encF f)).length; rw [u8s_len,hel])) ?_
 have g14 : (h13.put (h.next + 2) (.cells (u8s (encF f)) 103)).get (h.next + 2) = some (.cells (u8s (encF f)) 103):=get_put_same _ _ _
 rw [resE_cellV g14 TT103.1 TT103.2 (by rw [u8s_len,hel])]
 have xx : Ext h h13:=x11.trans (x12'.trans x13')
 exact .ret ⟨rfl,xx.andPut (.inr (by omega)) (hb13 _ _ g4) _⟩
end Go.Ev

namespace Go.Ev
open Go.Proofs
set_option maxRecDepth 100000
variable {K : Nat}
theorem Ok.st1' {h : AHeap} {i o t : Nat} {l : List EV} {v : EV} {kk : AHeap->R} {Q : EV->AHeap->Prop} (hg : h.get i = some (.cells l t)) (hb : HB h) (hp : v.plain = true) (hc : v.cells = [v]) (ho : o < l.length)
 (hk : ∀ h',h'.get i = some (.cells (l.set o v) t)->Chg (fun j=>j = i) h h'->HB h'->Ok (kk h') Q) : Ok (stE 1 (.ptr i o) v h kk) Q:=by
 have lt:=hb _ _ hg
 exact Ok.st1 hg hp hc ho (hk _ (get_put_same _ _ _) ((Chg.refl (S:=fun j=>j = i) h).andPut (.inl rfl) lt _) (hb.put lt _))
theorem splice_at : ∀ (hd old new : List EV),old.length = new.length->spliceN (hd ++ old) hd.length new = some (hd ++ new)
 | [],old,new,h=>by
  have:=laidR_all (l:=old) (vs:=new) h
  rw [laidR_eq] at this
  exact this
 | a :: hd,old,new,h=>by
  have ih:=splice_at hd old new h
  show cnd (Nat.beq (hd.length + 1) 0) _ (match spliceN (hd ++ old) hd.length new with | some x=>some (a :: x) | none=>none) = _
  rw [show Nat.beq (hd.length + 1) 0 = false from rfl,cnd_false,ih]
  rfl
theorem copy_ok {h : AHeap} {i n r : Nat} {op : Bool} {t : TypeId} {hd old new : List EV} {y : EV} (g : h.get i = some (.cells (hd ++ old) t)) (hy : lenOf y = some n) (hn : 0 < n) (hc : cellsF h 1 n y = some new) (hl : new.length = n) (ho : old.length = n) :
 builtin TT .copy #[174,174] [.slice i hd.length n r op,y] h = some (I n,h.put i (.cells (hd ++ new) t)):=by
 have hu : TT.und 174 = some (.slice 5):=by kernel_rfl
 have hs : TT.size 5 = some 1:=by kernel_rfl
 have hb : Nat.ble n n = true:=Nat.ble_eq_true_of_le (Nat.le_refl _)
 have h0 : Nat.beq n 0 = false:=by cases n with | zero=>omega | succ n=>rfl
 have hw : writeAt h i hd.length new = some (h.put i (.cells (hd ++ new) t)):=by
  unfold writeAt; rw [g]; simp only; rw [splice_at hd old new (by omega)]
 rw [cellsF_eq] at hc
 have hld : lenOf (.slice i hd.length n r op) = some n:=rfl
 unfold builtin
 simp only [hu,hs,hld,hy,hb,cnd_true,h0,cnd_false,hc,hw]
 rfl
theorem Rd.chg {h h' : AHeap} {R q off : Nat} {l : List Nat} {S : Nat->Prop} (d : Rd h R q off l) (hb : HB h) (c : Chg S h h') (n1 : ¬ S q) (n2 : ¬ S R) : Rd h' R q off l:=by
 obtain ⟨s,g,e,f⟩:=d.at'
 exact ⟨⟨s,c.at hb g n2,e,fun y=>⟨(f y).1,(f y).2.frame (c.get _ ((f y).2.lt hb) n1)⟩⟩,d.ne⟩
def Fr.zero : Fr:=⟨0,0,0,0,0,List.replicate 44 0⟩
theorem Fr.zero_cells : List.replicate 5 (EV.int .i64 0) ++ List.replicate 44 (EV.int .u8 0) = Fr.zero.cells:=by kernel_rfl
def fieldsF (p : List Nat) : Fr:=⟨leV (p.take 1),leV (((p.drop 1).drop 1).take 2),leV ((((p.drop 1).drop 1).drop 2).take 2),leV (((((p.drop 1).drop 1).drop 2).drop 2).take 4),leV ((((((p.drop 1).drop 1).drop 2).drop 2).drop 4).take 6),(((((((p.drop 1).drop 1).drop 2).drop 2).drop 4).drop 6).take 44)⟩
noncomputable def decF (s : List Nat) : Fr × Int:=
 if openB s = false then (Fr.zero,11) else
 if leV (((s.take 60).drop 1).take 1) = 1/\frB (fieldsF (s.take 60)) = true then (fieldsF (s.take 60),0) else (Fr.zero,10)
theorem TT120 : TT.size 120 = some 49/\TT.agg 120 = some true:=⟨by kernel_rfl,by kernel_rfl⟩
theorem fieldsF_wf {p : List Nat} (hp : p.length = 60) (hu : ∀ b ∈ p,b < 256) : (fieldsF p).Wf:=by
 refine ⟨?_,fun b hb=>hu b ?_⟩
 ·simp only [fieldsF,List.length_take,List.length_drop,hp]; decide
 ·simp only [fieldsF] at hb
  exact List.mem_of_mem_drop (List.mem_of_mem_drop (List.mem_of_mem_drop (List.mem_of_mem_drop (List.mem_of_mem_drop (List.mem_of_mem_drop (List.mem_of_mem_take hb))))))
theorem Fr.zero_wf : Fr.zero.Wf:=⟨by simp [Fr.zero],fun b hb=>by rw [List.eq_of_mem_replicate hb]; decide⟩
theorem decF_wf {s : List Nat} (hl : s.length = 64) (hu : ∀ b ∈ s,b < 256) : (decF s).1.Wf:=by
 unfold decF
 split
 ·exact Fr.zero_wf
 ·split
  ·exact fieldsF_wf (by rw [List.length_take,hl]; decide) fun b hb=>hu b (List.mem_of_mem_take hb)
  ·exact Fr.zero_wf
theorem frame_decode_ok {h : AHeap} {s : List Nat} (hl : s.length = 64) (hu : ∀ b ∈ s,b < 256) (hb : HB h) (hK : 10000 < K) :
 Ok (frame_Decode K crcV (.agg (u8s s)) h) fun v h'=>v = .tuple [.agg (decF s).1.cells,I (decF s).2]/\Ext h h':=by
 unfold crcV
 simp only [frame_Decode,walkE]
 rw [Fr.zero_cells]
 have x1 : Ext h (((h.new (.cells crcCells 72)).new (.cells (u8s s) 103)).new (.cells Fr.zero.cells 120)):=((Chg.new _ _).andNew _).andNew _
 have g2 : (((h.new (.cells crcCells 72)).new (.cells (u8s s) 103)).new (.cells Fr.zero.cells 120)).get h.next = some (.cells crcCells 72):=by
  rw [get_new_lt _ (by show h.next < h.next + 1 + 1; omega),get_new_lt _ (Nat.lt_succ_self _)]; exact get_new_same _ _
 have g3 : (((h.new (.cells crcCells 72)).new (.cells (u8s s) 103)).new (.cells Fr.zero.cells 120)).get (h.next + 1) = some (.cells (u8s s) 103):=by
  rw [get_new_lt _ (by show h.next + 1 < h.next + 1 + 1; omega)]; exact get_new_same _ _
 have g4 : (((h.new (.cells crcCells 72)).new (.cells (u8s s) 103)).new (.cells Fr.zero.cells 120)).get (h.next + 2) = some (.cells Fr.zero.cells 120):=get_new_same _ _
 have n1 : (((h.new (.cells crcCells 72)).new (.cells (u8s s) 103)).new (.cells Fr.zero.cells 120)).next = h.next + 3:=rfl
 rw [show (h.new (.cells crcCells 72)).next = h.next + 1 from rfl,show ((h.new (.cells crcCells 72)).new (.cells (u8s s) 103)).next = h.next + 2 from rfl]
 generalize ((h.new (.cells crcCells 72)).new (.cells (u8s s) 103)).new (.cells Fr.zero.cells 120) = h1 at x1 g2 g3 g4 n1 ⊢
 have hb1:=x1.hb hb
 have ln2:=hb1 _ _ g2
 have zl:=Fr.cells_len Fr.zero_wf
 have fin : ∀ (f : Fr) (e : Int) (h5 : AHeap) (kk : AHeap->R),(∀ h',kk h' = resE TT [.c (.ptr (h.next + 2) 0) 120,.v (I e)] h')->HB h5->Ext h h5->h5.get (h.next + 2) = some (.cells Fr.zero.cells 120)->f.Wf->(f,e) = decF s ->
  Ok (stE 49 (.ptr (h.next + 2) 0) (.agg f.cells) h5 kk) fun v h'=>v = .tuple [.agg (decF s).1.cells,I (decF s).2]/\Ext h h':=by
  intro f e h5 kk hkk hb5 x5 g5 wf he
  have fl:=Fr.cells_len wf
  refine Ok.st f.cells g5 rfl (by show lenR f.cells = 49; rw [len_length,fl]) (laidR_all (by rw [zl]; exact fl.symm)) ?_
  have g6 : (h5.put (h.next + 2) (.cells f.cells 120)).get (h.next + 2) = some (.cells f.cells 120):=get_put_same _ _ _
  rw [hkk,resE_cellV g6 TT120.1 TT120.2 fl,<-he]
  exact .ret ⟨rfl,x5.andPut (.inr (by omega)) (hb5 _ _ g5) _⟩
 simp only [loadE_lt ln2,walkD,walkE,ldsN g2 rfl,cutR_all crc_len]
 rw [show ∀ k : EV->R,sliAE 64 1 (.ptr (h.next + 1) 0) none none none k = k (.slice (h.next + 1) 0 64 64 false) from fun k=>rfl]
 have bs : Bs h1 (.slice (h.next + 1) 0 s.length 64 false) (h.next + 1) 0 s:=by
  refine ⟨64,false,_,u8s s,rfl,by omega,g3,rfl,by rw [u8s_len]; omega,?_⟩
  rw [List.drop_zero,<-u8s_len,List.take_length]
 have hop:=open_ok (K:=K) hK bs.lift (lift_hb hb1) hu (by omega) (by omega)
 rw [hl] at hop
 refine Ok.bigE (by kernel_rfl) (by kernel_rfl) hop (fun _ _ p=>p.1) ?_
 rintro v h2 h3 ⟨_,_,hv⟩ sm x3
 have hb3:=x3.hb hb1
 have g4:=x3.at hb1 g4
 have x13:=x1.trans x3
 rcases hv with ⟨ho,rfl⟩ | ⟨ho,y,q',rfl,ry,lq⟩
 ·simp only [walkE,I,walkI]
  simp only [show ¬ ((11 : Int) = 0) by decide,not_false_eq_true,decide_true,walkE]
  rw [buildE_at (l:=Fr.zero.cells) rfl]
  exact fin Fr.zero 11 h3 _ (fun _=>rfl) hb3 x13 g4 Fr.zero_wf (by unfold decF; rw [if_pos ho])
 ·have hne : ¬ openB s = false:=by rw [ho]; simp
  simp only [walkE,I,walkI]
  simp only [not_true_eq_false,decide_false,walkE,frame_Decode_j3]
  have h60 : s.length - 4 = 60:=by omega
  rw [h60] at ry
  have hpl : (s.take 60).length = 60:=by rw [List.length_take,hl]; decide
  have hpu : ∀ b ∈ s.take 60,b < 256:=fun b hb=>hu b (List.mem_of_mem_take hb)
  have ry3 : RowAt h3 y q' 5 1 (s.take 60).length (u8s (s.take 60)):=ry.frame fun _=>sm.get _
  have hdec : decF s = if leV (((s.take 60).drop 1).take 1) = 1/\frB (fieldsF (s.take 60)) = true then (fieldsF (s.take 60),0) else (Fr.zero,10):=by unfold decF; rw [if_neg hne]
  have wfF:=fieldsF_wf hpl hpu
  rw [hdec] at fin ⊢
  unfold fieldsF at fin hdec wfF ⊢
  generalize s.take 60 = p at ry3 hpl hpu fin hdec wfF ⊢
  refine (codec_new_ok (K:=K) (ry3.bs (by omega)) hb3 (by omega) (by omega)).andE ?_
  rintro _ h5 ⟨Rr,q,rfl,d0,x5,hb5,lq5⟩
  have g4:=x5.at hb3 g4
  have x15:=x13.trans x5
  have hRn : Rr < h5.next:=by obtain ⟨_,g,_⟩:=d0.at'; exact hb5 _ _ g
  have hR4 : h.next + 2 < Rr:=by have:=d0.ne; have:=x3.next; omega
  have up : ∀ {ha hc : AHeap},Ext h ha->Chg (fun i=>i = Rr) ha hc->Ext h hc:=fun x c=>x.then c fun j hj hlt=>by
   have hj : j = Rr:=hj
   omega
  have keep : ∀ {ha hc : AHeap} {i : Nat} {o : AObj},Chg (fun i=>i = Rr) ha hc->HB ha->ha.get i = some o->i ≠ Rr->hc.get i = some o:=fun c hb g hi=>c.at hb g hi
  refine (num_ok (K:=K) (w:=1) d0 hb5 (by omega) (by decide) (by decide) (by omega) hpu).andE ?_
  rintro _ h6 ⟨rfl,d1,c6,hb6⟩
  have g4:=keep c6 hb5 g4 (by omega)
  have x6:=up x15 c6
  rw [buildE_at (l:=(⟨leV (p.take 1),0,0,0,0,List.replicate 44 0⟩ : Fr).cells) rfl]
  try simp only [walkE]
  rw [Fr.zero_cells]
  have x7 : Ext h6 (h6.new (.cells Fr.zero.cells 120)):=Chg.new _ _
  have g9 : (h6.new (.cells Fr.zero.cells 120)).get h6.next = some (.cells Fr.zero.cells 120):=get_new_same _ _
  have n7 : (h6.new (.cells Fr.zero.cells 120)).next = h6.next + 1:=rfl
  have g4:=x7.at hb6 g4
  have hb7:=x7.hb hb6
  have d1:=d1.ext hb6 x7
  have x17:=x6.trans x7
  have hF : Rr < h6.next:=by have:=c6.next; omega
  generalize h6.new (.cells Fr.zero.cells 120) = h7 at x7 g9 n7 g4 hb7 d1 x17 ⊢
  generalize h6.next = Fb at g9 n7 hF ⊢
  refine Ok.st (⟨leV (p.take 1),0,0,0,0,List.replicate 44 0⟩ : Fr).cells g9 rfl (by kernel_rfl) (laidR_all (by kernel_rfl)) ?_
  have lF:=hb7 _ _ g9
  have g9 : (h7.put Fb (.cells (⟨leV (p.take 1),0,0,0,0,List.replicate 44 0⟩ : Fr).cells 120)).get Fb = some (.cells (⟨leV (p.take 1),0,0,0,0,List.replicate 44 0⟩ : Fr).cells 120):=get_put_same _ _ _
  have g4 : (h7.put Fb (.cells (⟨leV (p.take 1),0,0,0,0,List.replicate 44 0⟩ : Fr).cells 120)).get (h.next + 2) = some (.cells Fr.zero.cells 120):=by rw [get_put_ne _ (by omega)]; exact g4
  have d1 : Rd (h7.put Fb (.cells (⟨leV (p.take 1),0,0,0,0,List.replicate 44 0⟩ : Fr).cells 120)) Rr q (0 + 1) (p.drop 1):=by
   have c : Chg (fun i=>i = Fb) h7 (h7.put Fb (.cells (⟨leV (p.take 1),0,0,0,0,List.replicate 44 0⟩ : Fr).cells 120)):=(Chg.refl (S:=fun i=>i = Fb) h7).andPut (.inl rfl) lF _
   exact d1.chg hb7 c (by have:=d1.ne; intro y; omega) (by intro y; omega)
  have x8 : Ext h (h7.put Fb (.cells (⟨leV (p.take 1),0,0,0,0,List.replicate 44 0⟩ : Fr).cells 120)):=x17.andPut (.inr (by omega)) lF _
  have hb8:=hb7.put lF (.cells (⟨leV (p.take 1),0,0,0,0,List.replicate 44 0⟩ : Fr).cells 120)
  generalize h7.put Fb (.cells (⟨leV (p.take 1),0,0,0,0,List.replicate 44 0⟩ : Fr).cells 120) = h8 at g9 g4 d1 x8 hb8 ⊢
  refine (num_ok (K:=K) (w:=1) d1 hb8 (by omega) (by decide) (by decide) (by simp only [List.length_drop]; omega) (fun b hb=>hpu b (by revert hb; exact fun y=>List.mem_of_mem_drop y))).andE ?_
  rintro _ h9 ⟨rfl,d2,c9,hb9⟩
  have g4:=keep c9 hb8 g4 (by omega)
  have g9:=keep c9 hb8 g9 (by omega)
  have x9:=up x8 c9
  refine (num_ok (K:=K) (w:=2) d2 hb9 (by omega) (by decide) (by decide) (by simp only [List.length_drop]; omega) (fun b hb=>hpu b (List.mem_of_mem_drop (List.mem_of_mem_drop hb)))).andE ?_
  rintro _ h10 ⟨rfl,d3,c10,hb10⟩
  have g4:=keep c10 hb9 g4 (by omega)
  have g9:=keep c10 hb9 g9 (by omega)
  have x10:=up x9 c10
  refine (num_ok (K:=K) (w:=2) d3 hb10 (by omega) (by decide) (by decide) (by simp only [List.length_drop]; omega) (fun b hb=>hpu b (List.mem_of_mem_drop (List.mem_of_mem_drop (List.mem_of_mem_drop hb))))).andE ?_
  rintro _ h11 ⟨rfl,d4,c11,hb11⟩
  have g4:=keep c11 hb10 g4 (by omega)
  have g9:=keep c11 hb10 g9 (by omega)
  have x11:=up x10 c11
  refine (num_ok (K:=K) (w:=4) d4 hb11 (by omega) (by decide) (by decide) (by simp only [List.length_drop]; omega) (fun b hb=>hpu b (List.mem_of_mem_drop (List.mem_of_mem_drop (List.mem_of_mem_drop (List.mem_of_mem_drop hb)))))).andE ?_
  rintro _ h12 ⟨rfl,d5,c12,hb12⟩
  have g4:=keep c12 hb11 g4 (by omega)
  have g9:=keep c12 hb11 g9 (by omega)
  have x12:=up x11 c12
  refine (num_ok (K:=K) (w:=6) d5 hb12 (by omega) (by decide) (by decide) (by simp only [List.length_drop]; omega) (fun b hb=>hpu b (List.mem_of_mem_drop (List.mem_of_mem_drop (List.mem_of_mem_drop (List.mem_of_mem_drop (List.mem_of_mem_drop hb))))))).andE ?_
  rintro _ h13 ⟨rfl,d6,c13,hb13⟩
  have g4:=keep c13 hb12 g4 (by omega)
  have g9:=keep c13 hb12 g9 (by omega)
  have x13':=up x12 c13
  have upF : ∀ {ha hc : AHeap},Ext h ha->Chg (fun i=>i = Fb) ha hc->Ext h hc:=fun x c=>x.then c fun j hj hlt=>by
   have hj : j = Fb:=hj
   omega
  have keepF : ∀ {ha hc : AHeap} {i : Nat} {o : AObj},Chg (fun i=>i = Fb) ha hc->HB ha->ha.get i = some o->i ≠ Fb->hc.get i = some o:=fun c hb g hi=>c.at hb g hi
  have keepR : ∀ {ha hc : AHeap} {off : Nat} {l : List Nat},Chg (fun i=>i = Fb) ha hc->HB ha->Rd ha Rr q off l->Rd hc Rr q off l:=fun c hb d=>d.chg hb c (by have:=d.ne; intro y; omega) (by intro y; omega)
  have hz : (⟨leV (p.take 1),0,0,0,0,List.replicate 44 0⟩ : Fr).cells.length = 49:=by kernel_rfl
  refine Ok.st1' g9 hb13 rfl rfl (by rw [hz]; decide) ?_
  intro h14 g9 c14 hb14
  have g4:=keepF c14 hb13 g4 (by omega)
  have d6:=keepR c14 hb13 d6
  have x14:=upF x13' c14
  try simp only [walkE]
  refine Ok.st1' g9 hb14 rfl rfl (by rw [List.length_set,hz]; decide) ?_
  intro h15 g9 c15 hb15
  have g4:=keepF c15 hb14 g4 (by omega)
  have d6:=keepR c15 hb14 d6
  have x15':=upF x14 c15
  try simp only [walkE]
  refine Ok.st1' g9 hb15 rfl rfl (by rw [List.length_set,List.length_set,hz]; decide) ?_
  intro h16 g9 c16 hb16
  have g4:=keepF c16 hb15 g4 (by omega)
  have d6:=keepR c16 hb15 d6
  have x16:=upF x15' c16
  try simp only [walkE]
  refine Ok.st1' g9 hb16 rfl rfl (by rw [List.length_set,List.length_set,List.length_set,hz]; decide) ?_
  intro h17 g9 c17 hb17
  have g4:=keepF c17 hb16 g4 (by omega)
  have d6:=keepR c17 hb16 d6
  have x17':=upF x16 c17
  try simp only [walkE]
  have g9 : h17.get Fb = some (.cells ([Nk .i64 (leV (p.take 1)),Nk .i64 (leV (((p.drop 1).drop 1).take 2)),Nk .i64 (leV ((((p.drop 1).drop 1).drop 2).take 2)),Nk .i64 (leV (((((p.drop 1).drop 1).drop 2).drop 2).take 4)),Nk .i64 (leV ((((((p.drop 1).drop 1).drop 2).drop 2).drop 4).take 6))] ++ u8s (List.replicate 44 0)) 120):=g9
  rw [show ∀ k : EV->R,sliAE 44 1 (.ptr Fb 5) none none none k = k (.slice Fb 5 44 44 false) from fun k=>rfl]
  have hlen44 : ((((((p.drop 1).drop 1).drop 2).drop 2).drop 4).drop 6).length = 44:=by simp only [List.length_drop]; omega
  have dl : Rd h17.lift Rr q (0 + 1 + 1 + 2 + 2 + 4 + 6) ((((((p.drop 1).drop 1).drop 2).drop 2).drop 4).drop 6):=d6.chg hb17 (S:=fun _=>False) ⟨fun i _ _=>lift_get _ _,Nat.le_refl _,fun w _ w2 _=>w2,fun y=>lift_hb y⟩ id id
  refine Ok.bigC (S:=fun i=>i = Rr) (by kernel_rfl) (by kernel_rfl) (fun _=>by kernel_rfl) (bytes_ok (K:=K) (n:=44) dl (lift_hb hb17) (by decide) (by omega)) (fun _ _ p=>p.2.2.1) ?_
  rintro v43 h18' h18 s' ⟨b43,d7,_,hb18'⟩ sm18 c18 hs'
  have hb18:=sm18.hb hb18'
  have b43 : Bs h18 v43 q (0 + 1 + 1 + 2 + 2 + 4 + 6) (((((((p.drop 1).drop 1).drop 2).drop 2).drop 4).drop 6).take 44):=b43.frame (sm18.get _)
  have d7 : Rd h18 Rr q (0 + 1 + 1 + 2 + 2 + 4 + 6 + 44) (((((((p.drop 1).drop 1).drop 2).drop 2).drop 4).drop 6).drop 44):=by
   obtain ⟨s0,g,e,f⟩:=d7.at'
   exact ⟨⟨s0,by rw [sm18.get]; exact g,e,fun y=>⟨(f y).1,(f y).2.frame (sm18.get _)⟩⟩,d7.ne⟩
  have g4:=keep c18 hb17 g4 (by omega)
  have g9:=keep c18 hb17 g9 (by omega)
  have x18:=up x17' c18
  generalize hbd : (((((p.drop 1).drop 1).drop 2).drop 2).drop 4).drop 6 = body at b43 d7 hlen44 fin wfF ⊢
  generalize hq : leV ((p.drop 1).take 1) = ver at fin ⊢
  generalize leV (p.take 1) = na at g9 fin wfF ⊢
  generalize leV (((p.drop 1).drop 1).take 2) = nz at g9 fin wfF ⊢
  generalize leV ((((p.drop 1).drop 1).drop 2).take 2) = no at g9 fin wfF ⊢
  generalize leV (((((p.drop 1).drop 1).drop 2).drop 2).take 4) = ne at g9 fin wfF ⊢
  generalize leV ((((((p.drop 1).drop 1).drop 2).drop 2).drop 4).take 6) = ns at g9 fin wfF ⊢
  have htk : body.take 44 = body:=List.take_of_length_le (by omega)
  rw [htk] at b43 fin wfF ⊢
  have hdk : body.drop 44 = []:=List.drop_eq_nil_of_le (by omega)
  rw [hdk] at d7
  have hlen : lenOf v43 = some 44:=by have:=b43.len; rw [hlen44] at this; exact this
  have hcel : cellsF h18.lift 1 44 v43 = some (u8s body):=by have:=b43.lift.cells; rw [hlen44] at this; exact this
  have hcp:=copy_ok (h:=h18.lift) (i:=Fb) (n:=44) (r:=44) (op:=false) (t:=120) (hd:=[Nk .i64 na,Nk .i64 nz,Nk .i64 no,Nk .i64 ne,Nk .i64 ns]) (old:=u8s (List.replicate 44 0)) (by rw [lift_get]; exact g9) hlen (by decide) hcel (by rw [u8s_len,hlen44]) (by rw [u8s_len,List.length_replicate])
  have lF18:=hb18 _ _ g9
  refine Ok.bigC (S:=fun i=>i = Fb) (by rcases hs' with rfl | ⟨w,rfl,_⟩ <;> kernel_rfl) (by rcases hs' with rfl | ⟨w,rfl,_⟩ <;> kernel_rfl) (fun w=>by rcases hs' with rfl | ⟨w,rfl,_⟩ <;> kernel_rfl) (P:=fun v h'=>h' = h18.lift.put Fb (.cells ([Nk .i64 na,Nk .i64 nz,Nk .i64 no,Nk .i64 ne,Nk .i64 ns] ++ u8s body) 120)) ⟨_,_,hcp,rfl⟩ (fun _ _ p=>by rw [p]; exact (Chg.refl (S:=fun i=>i = Fb) h18.lift).andPut (.inl rfl) (show Fb < h18.lift.next from lF18) _) ?_
  rintro v44 h19' h19 s2 rfl sm19 c19 _
  have hb19:=c19.hb hb18
  have g9 : h19.get Fb = some (.cells ([Nk .i64 na,Nk .i64 nz,Nk .i64 no,Nk .i64 ne,Nk .i64 ns] ++ u8s body) 120):=by rw [sm19.get]; exact get_put_same _ _ _
  have g4:=keepF c19 hb18 g4 (by omega)
  have d7:=keepR c19 hb18 d7
  have x19:=upF x18 c19
  simp only [walkI]
  have cl : ([Nk .i64 na,Nk .i64 nz,Nk .i64 no,Nk .i64 ne,Nk .i64 ns] ++ u8s body).length = 49:=by rw [List.length_append,u8s_len,hlen44]; rfl
  have bad : ∀ h20 : AHeap,Ext h19 h20->¬ (ver = 1/\frB ⟨na,nz,no,ne,ns,body⟩ = true)->∀ w : EV,Ok (frame_Decode_j1 K (.ptr (h.next + 2) 0) (.ptr Fb 0) (.bool true) w h20) _:=fun h20 x20 hno w=>by
   simp only [frame_Decode_j1,walkE]
   rw [buildE_at (l:=Fr.zero.cells) rfl]
   exact fin Fr.zero 10 h20 _ (fun _=>rfl) (x20.hb hb19) (x19.trans x20) (x20.at hb19 g4) Fr.zero_wf (by rw [if_neg hno])
  by_cases hv : ver = 1
  ·rw [show decide (¬ Int.ofNat ver = 1) = false from decide_eq_false (by rw [hv]; exact fun y=>y rfl)]
   simp only [walkE]
   rw [ldsN g9 rfl,cutR_all cl]
   simp only [oB_s]
   refine (frame_right_ok (K:=K) ⟨na,nz,no,ne,ns,body⟩).andE ?_
   rintro _ h20 ⟨rfl,x20⟩
   generalize frB ⟨na,nz,no,ne,ns,body⟩ = fb at fin bad ⊢
   cases fb with
   | false=>
    simp only [walkE,frame_Decode_j2,walkI]
    exact bad h20 x20 (by simp) _
   | true=>
    have hb20:=x20.hb hb19
    simp only [walkE,frame_Decode_j2,walkI,done_eq (d7.ext hb19 x20),I]
    simp only [frame_Decode_j1,walkE,not_true_eq_false,decide_false,frame_Decode_j0]
    rw [ldsN (x20.at hb19 g9) rfl,cutR_all cl]
    simp only [oB_s]
    have r:=fin ⟨na,nz,no,ne,ns,body⟩ 0 h20 (fun z=>resE TT [RV.c (EV.ptr (h.next + 2) 0) 120,RV.v (EV.int IntKind.i64 0)] z) (fun _=>rfl) hb20 (x19.trans x20) (x20.at hb19 g4) wfF (by rw [if_pos ⟨hv,rfl⟩])
    simp only [eq_self] at r
    exact r
  ·rw [show decide (¬ Int.ofNat ver = 1) = true from decide_eq_true fun y=>hv (Int.ofNat.inj y)]
   simp only [walkE,frame_Decode_j2,walkI]
   exact bad h19 (Chg.refl _) (fun y=>hv y.1) _
end Go.Ev

namespace Go.Ev
open Go.Proofs
set_option maxRecDepth 100000
variable {K : Nat}
noncomputable def atF (s : List Nat) (zone off : Int) : Fr × Int:=
 if ¬ (decF s).2 = 0 then (Fr.zero,(decF s).2) else if ¬ (decF s).1.zone = zone\/¬ (decF s).1.off = off then (Fr.zero,12) else ((decF s).1,0)
theorem frame_at_ok {h : AHeap} {s : List Nat} (hl : s.length = 64) (hu : ∀ b ∈ s,b < 256) (hb : HB h) (hK : 10000 < K) (zone off : Int) :
 Ok (frame_At K crcV (.agg (u8s s)) (I zone) (I off) h) fun v h'=>v = .tuple [.agg (atF s zone off).1.cells,I (atF s zone off).2]/\(atF s zone off).1.Wf/\Ext h h':=by
 unfold crcV
 simp only [frame_At,walkE]
 rw [Fr.zero_cells]
 have x1 : Ext h (((h.new (.cells crcCells 72)).new (.cells (u8s s) 103)).new (.cells Fr.zero.cells 120)):=((Chg.new _ _).andNew _).andNew _
 have g2 : (((h.new (.cells crcCells 72)).new (.cells (u8s s) 103)).new (.cells Fr.zero.cells 120)).get h.next = some (.cells crcCells 72):=by
  rw [get_new_lt _ (by show h.next < h.next + 1 + 1; omega),get_new_lt _ (Nat.lt_succ_self _)]; exact get_new_same _ _
 have g3 : (((h.new (.cells crcCells 72)).new (.cells (u8s s) 103)).new (.cells Fr.zero.cells 120)).get (h.next + 1) = some (.cells (u8s s) 103):=by
  rw [get_new_lt _ (by show h.next + 1 < h.next + 1 + 1; omega)]; exact get_new_same _ _
 have g4 : (((h.new (.cells crcCells 72)).new (.cells (u8s s) 103)).new (.cells Fr.zero.cells 120)).get (h.next + 2) = some (.cells Fr.zero.cells 120):=get_new_same _ _
 have n1 : (((h.new (.cells crcCells 72)).new (.cells (u8s s) 103)).new (.cells Fr.zero.cells 120)).next = h.next + 3:=rfl
 rw [show (h.new (.cells crcCells 72)).next = h.next + 1 from rfl,show ((h.new (.cells crcCells 72)).new (.cells (u8s s) 103)).next = h.next + 2 from rfl]
 generalize ((h.new (.cells crcCells 72)).new (.cells (u8s s) 103)).new (.cells Fr.zero.cells 120) = h1 at x1 g2 g3 g4 n1 ⊢
 have hb1:=x1.hb hb
 have zl:=Fr.cells_len Fr.zero_wf
 have dwf:=decF_wf hl hu
 have fin : ∀ (f : Fr) (e : Int) (h5 : AHeap) (kk : AHeap->R),(∀ h',kk h' = resE TT [.c (.ptr (h.next + 2) 0) 120,.v (I e)] h')->HB h5->Ext h h5->h5.get (h.next + 2) = some (.cells Fr.zero.cells 120)->f.Wf->(f,e) = atF s zone off ->
  Ok (stE 49 (.ptr (h.next + 2) 0) (.agg f.cells) h5 kk) fun v h'=>v = .tuple [.agg (atF s zone off).1.cells,I (atF s zone off).2]/\(atF s zone off).1.Wf/\Ext h h':=by
  intro f e h5 kk hkk hb5 x5 g5 wf he
  have fl:=Fr.cells_len wf
  refine Ok.st f.cells g5 rfl (by show lenR f.cells = 49; rw [len_length,fl]) (laidR_all (by rw [zl]; exact fl.symm)) ?_
  have g6 : (h5.put (h.next + 2) (.cells f.cells 120)).get (h.next + 2) = some (.cells f.cells 120):=get_put_same _ _ _
  rw [hkk,resE_cellV g6 TT120.1 TT120.2 fl,<-he]
  exact .ret ⟨rfl,wf,x5.andPut (.inr (by omega)) (hb5 _ _ g5) _⟩
 have u64 : (u8s s).length = 64:=by rw [u8s_len,hl]
 rw [ldsN g2 rfl,cutR_all crc_len]
 simp only [oB_s]
 rw [ldsN g3 rfl,cutR_all u64]
 simp only [oB_s]
 refine (frame_decode_ok (K:=K) hl hu hb1 hK).andE ?_
 rintro _ h2 ⟨rfl,x2⟩
 have hb2:=x2.hb hb1
 have g4:=x2.at hb1 g4
 have x12:=x1.trans x2
 simp only [walkE]
 have x3 : Ext h2 (h2.new (.cells Fr.zero.cells 120)):=Chg.new _ _
 have g9 : (h2.new (.cells Fr.zero.cells 120)).get h2.next = some (.cells Fr.zero.cells 120):=get_new_same _ _
 have g4:=x3.at hb2 g4
 have hb3:=x3.hb hb2
 have x13:=x12.trans x3
 have n2 : h.next + 3<=h2.next:=by have:=x2.next; omega
 generalize h2.new (.cells Fr.zero.cells 120) = h3 at x3 g9 g4 hb3 x13 ⊢
 generalize h2.next = Fb at g9 n2 ⊢
 have dl:=Fr.cells_len dwf
 refine Ok.st (decF s).1.cells g9 rfl (by show lenR (decF s).1.cells = 49; rw [len_length,dl]) (laidR_all (by rw [zl]; exact dl.symm)) ?_
 have lF:=hb3 _ _ g9
 have g9 : (h3.put Fb (.cells (decF s).1.cells 120)).get Fb = some (.cells (decF s).1.cells 120):=get_put_same _ _ _
 have g4 : (h3.put Fb (.cells (decF s).1.cells 120)).get (h.next + 2) = some (.cells Fr.zero.cells 120):=by rw [get_put_ne _ (by omega)]; exact g4
 have x4 : Ext h (h3.put Fb (.cells (decF s).1.cells 120)):=x13.andPut (.inr (by omega)) lF _
 have hb4:=hb3.put lF (.cells (decF s).1.cells 120)
 have e0 : EV.cells (EV.agg (decF s).1.cells) = (decF s).1.cells:=rfl
 generalize h3.put Fb (.cells (decF s).1.cells 120) = h4 at g9 g4 x4 hb4 ⊢
 unfold atF at fin ⊢
 generalize (decF s).2 = e at fin ⊢
 generalize (decF s).1 = f at fin dwf dl g9 ⊢
 simp only [I,walkI]
 by_cases he : e = 0
 ·subst he
  simp only [not_true_eq_false,decide_false,walkE,frame_At_j2,lds g9 rfl,if_false] at fin ⊢
  have l1 : f.cells[1]? = some (I f.zone):=rfl
  have l2 : f.cells[2]? = some (I f.off):=rfl
  rw [l1]
  simp only [oB_s,I,walkI]
  by_cases hz : f.zone = zone
  ·simp only [hz,not_true_eq_false,decide_false,walkE,lds g9 rfl,false_or] at fin ⊢
   rw [l2]
   simp only [oB_s,I,walkI]
   by_cases ho : f.off = off
   ·simp only [ho,not_true_eq_false,decide_false,walkE,frame_At_j1,if_false,frame_At_j0] at fin ⊢
    rw [ldsN g9 rfl,cutR_all dl]
    exact fin f 0 h4 _ (fun _=>rfl) hb4 x4 g4 dwf rfl
   ·simp only [ho,not_false_eq_true,decide_true,walkE,frame_At_j1,if_true] at fin ⊢
    rw [buildE_at (l:=Fr.zero.cells) rfl]
    exact fin Fr.zero 12 h4 _ (fun _=>rfl) hb4 x4 g4 Fr.zero_wf rfl
  ·simp only [hz,not_false_eq_true,decide_true,walkE,true_or,if_true,frame_At_j1] at fin ⊢
   rw [buildE_at (l:=Fr.zero.cells) rfl]
   exact fin Fr.zero 12 h4 _ (fun _=>rfl) hb4 x4 g4 Fr.zero_wf rfl
 ·simp only [he,not_false_eq_true,decide_true,walkE,if_true] at fin ⊢
  rw [buildE_at (l:=Fr.zero.cells) rfl]
  exact fin Fr.zero e h4 _ (fun _=>rfl) hb4 x4 g4 Fr.zero_wf rfl
end Go.Ev

namespace Go.Ev
open Go.Proofs
set_option maxRecDepth 100000
variable {K : Nat}
structure En where
 kind : Int
 first : Int
 count : Int
 block : Int
 many : Int
 mate : Int
 bytes : List Nat
def En.cells (e : En) : List EV:=[I e.kind,I e.first,I e.count,I e.block,I e.many,I e.mate] ++ u8s e.bytes
structure En.Wf (e : En) : Prop where
 len : e.bytes.length = 32
 u8 : ∀ b ∈ e.bytes,b < 256
theorem En.cells_len {e : En} (w : e.Wf) : e.cells.length = 38:=by
 unfold En.cells; rw [List.length_append,u8s_len,w.len]; rfl
theorem litEq_u8 (a b : Nat) : litEq (Nk .u8 a) (Nk .u8 b) = some (decide (a = b)):=by
 show cnd (Nat.beq (kcode .u8) (kcode .u8)) (some (eqB (Int.ofNat a) (Int.ofNat b))) none = _
 rw [Nat.beq_refl,cnd_true,eqB_eq]
 exact congrArg some (decide_eq_decide.2 ⟨Int.ofNat.inj,congrArg _⟩)
theorem litsEq_u8 : ∀ (a b : List Nat),a.length = b.length->litsEq (u8s a) (u8s b) = some (decide (a = b))
 | [],[],_=>rfl
 | x :: a,y :: b,h=>by
  have ih:=litsEq_u8 a b (by simpa using h)
  show (match litEq (Nk .u8 x) (Nk .u8 y) with | some true=>litsEq (u8s a) (u8s b) | some false=>(match litsEq (u8s a) (u8s b) with | some _=>some false | none=>none) | none=>none) = _
  rw [litEq_u8,ih]
  by_cases hx : x = y
  ·rw [decide_eq_true hx]
   subst hx
   simp
  ·rw [decide_eq_false hx]
   simp [hx]
theorem shaped_u8 : ∀ (a : List Nat),shaped (List.replicate a.length 0) (u8s a) = true
 | []=>rfl
 | x :: a=>by
  show cnd (Nat.beq 0 0) (shaped (List.replicate a.length 0) (u8s a)) false = true
  rw [shaped_u8 a]; rfl
theorem eql_bytes {t n : Nat} (ht : TT.eqs t = some (List.replicate n 0)) {a b : List Nat} (ha : a.length = n) (hb : b.length = n) (k : EV->R) : intE gEql (bin TT .eql t) (.agg (u8s a)) (.agg (u8s b)) k = k (.bool (decide (a = b))):=by
 have e : bin TT .eql t (.agg (u8s a)) (.agg (u8s b)) = some (.bool (decide (a = b))):=by
  show (match evEq TT t (.agg (u8s a)) (.agg (u8s b)) with | some b=>some (EV.bool b) | none=>none) = _
  have : evEq TT t (.agg (u8s a)) (.agg (u8s b)) = some (decide (a = b)):=by
   show (match TT.eqs t with | some sh=>cnd (shaped sh (u8s a)) (litsEq (u8s a) (u8s b)) none | none=>none) = _
   rw [ht]
   simp only
   rw [show List.replicate n 0 = List.replicate a.length 0 by rw [ha],shaped_u8,cnd_true,litsEq_u8 a b (by omega)]
  rw [this]
 show oB k (bin TT .eql t (.agg (u8s a)) (.agg (u8s b))) = _
 rw [e]; rfl
theorem neq_bytes {t n : Nat} (ht : TT.eqs t = some (List.replicate n 0)) {a b : List Nat} (ha : a.length = n) (hb : b.length = n) (k : EV->R) : intE gNeq (bin TT .neq t) (.agg (u8s a)) (.agg (u8s b)) k = k (.bool (decide (¬ a = b))):=by
 have e : bin TT .neq t (.agg (u8s a)) (.agg (u8s b)) = some (.bool (decide (¬ a = b))):=by
  show (match evEq TT t (.agg (u8s a)) (.agg (u8s b)) with | some b=>some (EV.bool (cnd b false true)) | none=>none) = _
  have : evEq TT t (.agg (u8s a)) (.agg (u8s b)) = some (decide (a = b)):=by
   show (match TT.eqs t with | some sh=>cnd (shaped sh (u8s a)) (litsEq (u8s a) (u8s b)) none | none=>none) = _
   rw [ht]
   simp only
   rw [show List.replicate n 0 = List.replicate a.length 0 by rw [ha],shaped_u8,cnd_true,litsEq_u8 a b (by omega)]
  rw [this]
  by_cases h : a = b
  ·simp [h,cnd]
  ·simp [h,cnd]
 show oB k (bin TT .neq t (.agg (u8s a)) (.agg (u8s b))) = _
 rw [e]; rfl
theorem eqs87 : TT.eqs 87 = some (List.replicate 32 0):=by kernel_rfl
theorem eqs118 : TT.eqs 118 = some (List.replicate 44 0):=by kernel_rfl
theorem entry_within_eq (n a b : Int) (h : AHeap) : entry_within K (.int .i64 n) (.int .i64 a) (.int .i64 b) h = some (.bool (wi n a b),h):=by
 simp only [entry_within,walkI,walkE]
 by_cases h1 : a<=n
 ·simp only [h1,decide_true,walkE,walkI,entry_within_j0,wi,Bool.true_and]
 ·simp only [h1,decide_false,walkE,entry_within_j0,wi,Bool.false_and]
def zs32 : List Nat:=List.replicate 32 0
def countsB (e : En) : Bool:=
 if e.kind = 1 then wi e.count 1 4 && decide (e.many = 0) else
 if e.kind = 2 then (decide (e.count = 1) && wi e.many 1 (256 - e.block)) && decide (e.bytes = zs32) else
 if e.kind = 3 then decide (e.count = 1) && decide (e.many = 0) else false
theorem zs32_cells : List.replicate 32 (EV.int .u8 0) = u8s zs32:=by kernel_rfl
theorem entry_counts_ok {h : AHeap} {e : En} (w : e.Wf) (hbl : wi e.block 0 255 = true) : Ok (entry_Entry_counts K (.agg e.cells) h) fun v h'=>v = .bool (countsB e)/\Ext h h':=by
 obtain ⟨b0,b1⟩:=wi_iff.1 hbl
 simp only [entry_Entry_counts,walkE]
 have x1 : Ext h (h.new (.cells e.cells 89)):=Chg.new _ _
 have g1 : (h.new (.cells e.cells 89)).get h.next = some (.cells e.cells 89):=get_new_same _ _
 generalize h.new (.cells e.cells 89) = h1 at x1 g1 ⊢
 have l0 : e.cells[0]? = some (I e.kind):=rfl
 have l2 : e.cells[2]? = some (I e.count):=rfl
 have l3 : e.cells[3]? = some (I e.block):=rfl
 have l4 : e.cells[4]? = some (I e.many):=rfl
 have l6 : cutR e.cells 6 32 = some (u8s e.bytes):=by
  rw [cutR_take (by rw [En.cells_len w]; decide)]
  show some (List.take 32 (u8s e.bytes)) = _
  rw [List.take_of_length_le (by rw [u8s_len,w.len]; decide)]
 simp only [lds g1 rfl,walkE,l0,I,walkI]
 unfold countsB
 by_cases k1 : e.kind = 1
 ·simp only [k1,decide_true,walkE,lds g1 rfl,l2,I,entry_within_eq,walkI,if_true]
  cases wi e.count 1 4 with
  | false=>simp only [walkE,entry_Entry_counts_j1,walkI]; exact .ret ⟨rfl,x1⟩
  | true=>
   simp only [walkE,lds g1 rfl,l4,I,walkI,entry_Entry_counts_j1,Bool.true_and]
   exact .ret ⟨rfl,x1⟩
 ·simp only [k1,decide_false,walkE,if_false,walkI]
  by_cases k2 : e.kind = 2
  ·simp only [k2,decide_true,walkE,lds g1 rfl,l2,I,walkI,if_true]
   by_cases c1 : e.count = 1
   ·simp only [c1,decide_true,walkE,lds g1 rfl,l4,l3,I,walkI,Bool.true_and]
    rw [wi64 (by omega) (by omega),entry_within_eq]
    simp only [walkE,entry_Entry_counts_j3]
    cases wi e.many 1 (256 - e.block) with
    | false=>simp only [walkE,entry_Entry_counts_j2,walkI,Bool.false_and]; exact .ret ⟨rfl,x1⟩
    | true=>
     simp only [walkE,walkI,ldsN g1 rfl,l6]
     rw [buildE_at (l:=u8s zs32) (by rw [zs32_cells]; rfl),eql_bytes eqs87 w.len (by rfl)]
     simp only [entry_Entry_counts_j2,walkE,Bool.true_and]
     exact .ret ⟨rfl,x1⟩
   ·simp only [c1,decide_false,walkE,walkI,entry_Entry_counts_j3,entry_Entry_counts_j2,Bool.false_and]
    exact .ret ⟨rfl,x1⟩
  ·simp only [k2,decide_false,walkE,if_false,walkI]
   by_cases k3 : e.kind = 3
   ·simp only [k3,decide_true,walkE,lds g1 rfl,l2,I,walkI,if_true]
    by_cases c1 : e.count = 1
    ·simp only [c1,decide_true,walkE,lds g1 rfl,l4,I,walkI,entry_Entry_counts_j4,Bool.true_and]
     exact .ret ⟨rfl,x1⟩
    ·simp only [c1,decide_false,walkE,walkI,entry_Entry_counts_j4,Bool.false_and]
     exact .ret ⟨rfl,x1⟩
   ·simp only [k3,decide_false,walkE,if_false,entry_Entry_counts_j0]
    exact .ret ⟨rfl,x1⟩
def erB (e : En) : Bool:=wi e.first 0 281474976710655 && (wi e.block 0 255 && (wi e.mate 0 65535 && countsB e))
theorem entry_right_ok {h : AHeap} {e : En} (w : e.Wf) : Ok (entry_Entry_Right K (.agg e.cells) h) fun v h'=>v = .bool (erB e)/\Ext h h':=by
 simp only [entry_Entry_Right,walkE]
 have x1 : Ext h (h.new (.cells e.cells 89)):=Chg.new _ _
 have g1 : (h.new (.cells e.cells 89)).get h.next = some (.cells e.cells 89):=get_new_same _ _
 generalize h.new (.cells e.cells 89) = h1 at x1 g1 ⊢
 have l1 : e.cells[1]? = some (I e.first):=rfl
 have l3 : e.cells[3]? = some (I e.block):=rfl
 have l5 : e.cells[5]? = some (I e.mate):=rfl
 simp only [lds g1 rfl,walkE,l1,I,entry_within_eq,walkI]
 unfold erB
 cases wi e.first 0 281474976710655 with
 | false=>simp only [walkE,walkI,entry_Entry_Right_j2,entry_Entry_Right_j1,entry_Entry_Right_j0]; exact .ret ⟨rfl,x1⟩
 | true=>
 simp only [walkE,walkI,lds g1 rfl,l3,I,entry_within_eq,entry_Entry_Right_j2,Bool.true_and]
 cases hbl : wi e.block 0 255 with
 | false=>simp only [walkE,walkI,entry_Entry_Right_j1,entry_Entry_Right_j0]; exact .ret ⟨rfl,x1⟩
 | true=>
 simp only [walkE,walkI,lds g1 rfl,l5,I,entry_within_eq,entry_Entry_Right_j1,Bool.true_and]
 cases wi e.mate 0 65535 with
 | false=>simp only [walkE,walkI,entry_Entry_Right_j0]; exact .ret ⟨rfl,x1⟩
 | true=>
 simp only [walkE,walkI,Bool.true_and]
 rw [ldsN g1 rfl,cutR_all (En.cells_len w)]
 simp only [oB_s]
 refine (entry_counts_ok (K:=K) w hbl).andE ?_
 rintro _ h2 ⟨rfl,x2⟩
 simp only [entry_Entry_Right_j0,walkE]
 exact .ret ⟨rfl,x1.trans x2⟩
end Go.Ev

namespace Go.Ev
open Go.Proofs
set_option maxRecDepth 100000
variable {K : Nat}
def bodyE (e : En) : List Nat:=leN 6 e.first.toNat ++ leN 1 e.count.toNat ++ leN 1 e.block.toNat ++ leN 2 e.many.toNat ++ leN 2 e.mate.toNat ++ e.bytes
def zs44 : List Nat:=List.replicate 44 0
theorem zs44_cells : List.replicate 44 (EV.int .u8 0) = u8s zs44:=by kernel_rfl
def bodyF (e : En) : List Nat × Int:=if erB e = true then (bodyE e,0) else (zs44,10)
theorem bodyE_len {e : En} (w : e.Wf) : (bodyE e).length = 44:=by
 unfold bodyE; simp only [List.length_append,leN_len,w.len]
theorem bodyE_u8 {e : En} (w : e.Wf) : ∀ b ∈ bodyE e,b < 256:=fun b hb=>by
 unfold bodyE at hb
 simp only [List.mem_append] at hb
 rcases hb with ((((hb | hb) | hb) | hb) | hb) | hb
 ·exact leN_u8 _ _ b hb
 ·exact leN_u8 _ _ b hb
 ·exact leN_u8 _ _ b hb
 ·exact leN_u8 _ _ b hb
 ·exact leN_u8 _ _ b hb
 ·exact w.u8 b hb
theorem bodyF_len {e : En} (w : e.Wf) : (bodyF e).1.length = 44:=by
 unfold bodyF; split
 ·exact bodyE_len w
 ·rfl
theorem bodyF_u8 {e : En} (w : e.Wf) : ∀ b ∈ (bodyF e).1,b < 256:=by
 unfold bodyF; split
 ·exact bodyE_u8 w
 ·intro b hb; rw [List.eq_of_mem_replicate hb]; decide
theorem TT118 : TT.size 118 = some 44/\TT.agg 118 = some true:=⟨by kernel_rfl,by kernel_rfl⟩
theorem erB_bd {e : En} (hr : erB e = true) : (0<=e.first/\e.first<=281474976710655)/\(0<=e.block/\e.block<=255)/\(0<=e.mate/\e.mate<=65535)/\(1<=e.count/\e.count<=4)/\(0<=e.many/\e.many<=256)/\(1<=e.kind/\e.kind<=3):=by
 unfold erB at hr
 simp only [Bool.and_eq_true] at hr
 obtain ⟨r1,r2,r3,r4⟩:=hr
 have a:=wi_iff.1 r1
 have b:=wi_iff.1 r2
 have c:=wi_iff.1 r3
 refine ⟨a,b,c,?_⟩
 unfold countsB at r4
 split at r4
 ·simp only [Bool.and_eq_true,decide_eq_true_eq] at r4
  have:=wi_iff.1 r4.1
  omega
 ·split at r4
  ·simp only [Bool.and_eq_true,decide_eq_true_eq] at r4
   have:=wi_iff.1 r4.1.2
   omega
  ·split at r4
   ·simp only [Bool.and_eq_true,decide_eq_true_eq] at r4
    omega
   ·cases r4
theorem entry_body_ok {h : AHeap} {e : En} (w : e.Wf) (hb : HB h) (hK : 10000 < K) :
 Ok (entry_Entry_Body K (.agg e.cells) h) fun v h'=>v = .tuple [.agg (u8s (bodyF e).1),I (bodyF e).2]/\Ext h h':=by
 have l1 : e.cells[1]? = some (I e.first):=rfl
 have l2 : e.cells[2]? = some (I e.count):=rfl
 have l3 : e.cells[3]? = some (I e.block):=rfl
 have l4 : e.cells[4]? = some (I e.many):=rfl
 have l5 : e.cells[5]? = some (I e.mate):=rfl
 have hfl:=En.cells_len w
 simp only [entry_Entry_Body,walkE]
 rw [zs44_cells]
 have x1 : Ext h (((h.new (.cells e.cells 89)).new (.cells (u8s zs44) 118)).new (.cells (u8s zs44) 118)):=((Chg.new _ _).andNew _).andNew _
 have g1 : (((h.new (.cells e.cells 89)).new (.cells (u8s zs44) 118)).new (.cells (u8s zs44) 118)).get h.next = some (.cells e.cells 89):=by
  rw [get_new_lt _ (by show h.next < h.next + 1 + 1; omega),get_new_lt _ (Nat.lt_succ_self _)]; exact get_new_same _ _
 have g2 : (((h.new (.cells e.cells 89)).new (.cells (u8s zs44) 118)).new (.cells (u8s zs44) 118)).get (h.next + 1) = some (.cells (u8s zs44) 118):=by
  rw [get_new_lt _ (by show h.next + 1 < h.next + 1 + 1; omega)]; exact get_new_same _ _
 have g4 : (((h.new (.cells e.cells 89)).new (.cells (u8s zs44) 118)).new (.cells (u8s zs44) 118)).get (h.next + 2) = some (.cells (u8s zs44) 118):=get_new_same _ _
 have n1 : (((h.new (.cells e.cells 89)).new (.cells (u8s zs44) 118)).new (.cells (u8s zs44) 118)).next = h.next + 3:=rfl
 rw [show (h.new (.cells e.cells 89)).next = h.next + 1 from rfl,show ((h.new (.cells e.cells 89)).new (.cells (u8s zs44) 118)).next = h.next + 2 from rfl]
 generalize ((h.new (.cells e.cells 89)).new (.cells (u8s zs44) 118)).new (.cells (u8s zs44) 118) = h1 at x1 g1 g2 g4 n1 ⊢
 have hb1:=x1.hb hb
 have zl : (u8s zs44).length = 44:=by rw [u8s_len]; rfl
 have fin : ∀ (l : List Nat) (er : Int) (h5 : AHeap) (kk : AHeap->R),(∀ h',kk h' = resE TT [.c (.ptr (h.next + 1) 0) 118,.v (I er)] h')->HB h5->Ext h h5->h5.get (h.next + 1) = some (.cells (u8s zs44) 118)->l.length = 44->(l,er) = bodyF e ->
  Ok (stE 44 (.ptr (h.next + 1) 0) (.agg (u8s l)) h5 kk) fun v h'=>v = .tuple [.agg (u8s (bodyF e).1),I (bodyF e).2]/\Ext h h':=by
  intro l er h5 kk hkk hb5 x5 g5 hl he
  have fl : (u8s l).length = 44:=by rw [u8s_len,hl]
  refine Ok.st (u8s l) g5 rfl (by show lenR (u8s l) = 44; rw [len_length,fl]) (laidR_all (by rw [zl]; exact fl.symm)) ?_
  have g6 : (h5.put (h.next + 1) (.cells (u8s l) 118)).get (h.next + 1) = some (.cells (u8s l) 118):=get_put_same _ _ _
  rw [hkk,resE_cellV g6 TT118.1 TT118.2 fl,<-he]
  exact .ret ⟨rfl,x5.andPut (.inr (by omega)) (hb5 _ _ g5) _⟩
 rw [ldsN g1 rfl,cutR_all hfl]
 simp only [oB_s]
 refine (entry_right_ok (K:=K) w).andE ?_
 rintro _ h2 ⟨rfl,x2⟩
 have hb2:=x2.hb hb1
 have x12:=x1.trans x2
 have g1:=x2.at hb1 g1
 have g2:=x2.at hb1 g2
 have g4:=x2.at hb1 g4
 have n2 : h.next + 3<=h2.next:=by have:=x2.next; omega
 unfold bodyF at fin ⊢
 cases hr : erB e with
 | false=>
  rw [hr] at fin
  simp only [walkE,Bool.false_eq_true,if_false] at fin ⊢
  rw [ldsN g4 rfl,cutR_all zl]
  simp only [oB_s]
  exact fin zs44 10 h2 _ (fun _=>rfl) hb2 x12 g2 rfl rfl
 | true=>
 rw [hr] at fin
 simp only [walkE,if_true,entry_Entry_Body_j0] at fin ⊢
 obtain ⟨⟨a1,b1⟩,⟨a2,b2⟩,⟨a3,b3⟩,⟨a4,b4⟩,⟨a5,b5⟩,_⟩:=erB_bd hr
 have p0 : PenB (h2.new (.cells [.nilslice,.bool false] 278)) h2.next 278 [] false:=⟨.nilslice,0,get_new_same _ _,.nil _ _ _ _,fun y=>absurd y (Nat.lt_irrefl _)⟩
 have x3 : Ext h2 (h2.new (.cells [.nilslice,.bool false] 278)):=Chg.new _ _
 have g1:=x3.at hb2 g1
 have g2:=x3.at hb2 g2
 have g4:=x3.at hb2 g4
 have hb3:=x3.hb hb2
 have x13:=x12.trans x3
 generalize h2.new (.cells [.nilslice,.bool false] 278) = h3 at p0 x3 g1 g2 g4 hb3 x13 ⊢
 generalize hP : h2.next = P at p0 n2 ⊢
 have up : ∀ {ha hc : AHeap},Ext h ha->Chg (fun i=>P<=i) ha hc->Ext h hc:=fun x c=>x.then c fun j hj hl=>by
  have hj : P<=j:=hj
  omega
 have lo : ∀ {ha hc : AHeap} {i : Nat} {o : AObj},Chg (fun i=>P<=i) ha hc->HB ha->ha.get i = some o->i < P->hc.get i = some o:=fun c hb g hi=>c.at hb g (by omega)
 rw [lds g1 rfl,l1]
 simp only [oB_s]
 refine (pen_num_ok (K:=K) (w:=6) (by omega) p0 hb3 (by simp) (by decide) (by decide) (v:=e.first) (by omega)).andE ?_
 rintro _ h5 ⟨p,c,hb5⟩
 rw [fits_of (b:=281474976710655) a1 b1 (by decide),if_pos rfl] at p
 have x5:=up x13 c
 have g1:=lo c hb3 g1 (by omega)
 have g2:=lo c hb3 g2 (by omega)
 have g4:=lo c hb3 g4 (by omega)
 rw [lds g1 rfl,l2]
 simp only [oB_s]
 refine (pen_num_ok (K:=K) (w:=1) (by omega) p hb5 (by simp [leN_len]) (by decide) (by decide) (v:=e.count) (by omega)).andE ?_
 rintro _ h6 ⟨p,c,hb6⟩
 rw [fits_of (b:=4) (by omega) b4 (by decide),if_pos rfl] at p
 have x6:=up x5 c
 have g1:=lo c hb5 g1 (by omega)
 have g2:=lo c hb5 g2 (by omega)
 have g4:=lo c hb5 g4 (by omega)
 rw [lds g1 rfl,l3]
 simp only [oB_s]
 refine (pen_num_ok (K:=K) (w:=1) (by omega) p hb6 (by simp [leN_len]) (by decide) (by decide) (v:=e.block) (by omega)).andE ?_
 rintro _ h7 ⟨p,c,hb7⟩
 rw [fits_of (b:=255) a2 b2 (by decide),if_pos rfl] at p
 have x7:=up x6 c
 have g1:=lo c hb6 g1 (by omega)
 have g2:=lo c hb6 g2 (by omega)
 have g4:=lo c hb6 g4 (by omega)
 rw [lds g1 rfl,l4]
 simp only [oB_s]
 refine (pen_num_ok (K:=K) (w:=2) (by omega) p hb7 (by simp [leN_len]) (by decide) (by decide) (v:=e.many) (by omega)).andE ?_
 rintro _ h8 ⟨p,c,hb8⟩
 rw [fits_of (b:=256) a5 b5 (by decide),if_pos rfl] at p
 have x8:=up x7 c
 have g1:=lo c hb7 g1 (by omega)
 have g2:=lo c hb7 g2 (by omega)
 have g4:=lo c hb7 g4 (by omega)
 rw [lds g1 rfl,l5]
 simp only [oB_s]
 refine (pen_num_ok (K:=K) (w:=2) (by omega) p hb8 (by simp [leN_len]) (by decide) (by decide) (v:=e.mate) (by omega)).andE ?_
 rintro _ h9 ⟨p,c,hb9⟩
 rw [fits_of (b:=65535) a3 b3 (by decide),if_pos rfl] at p
 have x9:=up x8 c
 have g1:=lo c hb8 g1 (by omega)
 have g2:=lo c hb8 g2 (by omega)
 have g4:=lo c hb8 g4 (by omega)
 try simp only [walkE]
 rw [show ∀ k : EV->R,sliAE 32 1 (.ptr h.next 6) none none none k = k (.slice h.next 6 32 32 false) from fun k=>rfl]
 have hcb : cellsF h9 1 32 (.slice h.next 6 32 32 false) = some (u8s e.bytes):=by
  show readF h9 h.next 6 32 = _
  unfold readF onRow
  rw [g1]
  show cutR e.cells 6 32 = _
  rw [cutR_take (by rw [hfl]; decide)]
  show some (List.take 32 (u8s e.bytes)) = _
  rw [List.take_of_length_le (by rw [u8s_len,w.len]; decide)]
 refine (pen_bytes_ok (K:=K) (n:=32) p hb9 (by simp [leN_len]) rfl (by decide) (by decide) hcb w.len).andE ?_
 rintro _ h11 ⟨p,c,hb11⟩
 have x11:=up x9 c
 have g2:=lo c hb9 g2 (by omega)
 have g4:=lo c hb9 g4 (by omega)
 have ep : ([] ++ leN 6 e.first.toNat ++ leN 1 e.count.toNat ++ leN 1 e.block.toNat ++ leN 2 e.many.toNat ++ leN 2 e.mate.toNat ++ e.bytes) = bodyE e:=by
  unfold bodyE; rw [List.nil_append]
 have ebad : ∀ b : Bool,(b || !true) = b:=by decide
 rw [ep] at p
 simp only [ebad] at p
 have hel:=bodyE_len w
 refine (pen_out_ok (K:=K) p hb11 (by rw [hel]; decide)).andE ?_
 rintro _ h12 ⟨y,q',rfl,ry,x12',hb12,lq⟩
 have g2:=x12'.at hb11 g2
 have g4:=x12'.at hb11 g4
 have x112:=x11.trans x12'
 simp only [walkE]
 rw [show ∀ k : EV->R,sliAE 44 1 (.ptr (h.next + 2) 0) none none none k = k (.slice (h.next + 2) 0 44 44 false) from fun k=>rfl]
 have bsy:=ry.bs (by rw [hel]; decide)
 have hlen:=bsy.len
 have hcel:=bsy.cells
 rw [hel] at hlen hcel
 have hcp:=copy_ok (h:=h12) (i:=h.next + 2) (n:=44) (r:=44) (op:=false) (t:=118) (hd:=[]) (old:=u8s zs44) g4 hlen (by decide) hcel (by rw [u8s_len,hel]) zl
 rw [show ([] : List EV).length = 0 from rfl,List.nil_append] at hcp
 rw [hcp,andE_some]
 have l44:=hb12 _ _ g4
 have g4 : (h12.put (h.next + 2) (.cells (u8s (bodyE e)) 118)).get (h.next + 2) = some (.cells (u8s (bodyE e)) 118):=get_put_same _ _ _
 have g2 : (h12.put (h.next + 2) (.cells (u8s (bodyE e)) 118)).get (h.next + 1) = some (.cells (u8s zs44) 118):=by rw [get_put_ne _ (by omega)]; exact g2
 rw [ldsN g4 rfl,cutR_all (by rw [u8s_len,hel])]
 simp only [oB_s]
 exact fin (bodyE e) 0 _ _ (fun _=>rfl) (hb12.put l44 _) (x112.andPut (.inr (by omega)) l44 _) g2 hel rfl
end Go.Ev

namespace Go.Ev
open Go.Proofs
set_option maxRecDepth 100000
variable {K : Nat}
theorem fill_frame (a b c d e : Int) {l : List EV} (hl : l.length = 44) : fillR (nthPR [(0,1),(1,1),(2,1),(3,1),(4,1),(5,44)]) [(0,I a),(1,I b),(2,I c),(3,I d),(4,I e),(5,.agg l)] Fr.zero.cells = some ([I a,I b,I c,I d,I e] ++ l):=by
 have hs:=splice_at [I a,I b,I c,I d,I e] (u8s (List.replicate 44 0)) l (by rw [u8s_len,List.length_replicate,hl])
 rw [<-laidR_eq] at hs
 show cnd (Nat.beq (lenR l) 44) (oB (fun z=>some z) (laidR ([I a,I b,I c,I d,I e] ++ u8s (List.replicate 44 0)) 5 l)) none = _
 rw [len_length,hl,Nat.beq_refl,cnd_true]
 rw [show (5 : Nat) = [I a,I b,I c,I d,I e].length from rfl,hs]
 rfl
def frameE (e : En) (zone off epoch seq : Int) : Fr × Int:=
 if erB e = true/\frB ⟨e.kind,zone,off,epoch,seq,(bodyF e).1⟩ = true/\e.first<=seq/\seq - e.count < e.first then (⟨e.kind,zone,off,epoch,seq,(bodyF e).1⟩,0) else (Fr.zero,10)
theorem frameE_wf {e : En} (w : e.Wf) (zone off epoch seq : Int) : (frameE e zone off epoch seq).1.Wf:=by
 unfold frameE
 split
 ·exact ⟨bodyF_len w,bodyF_u8 w⟩
 ·exact Fr.zero_wf
theorem entry_frame_ok {h : AHeap} {e : En} (w : e.Wf) (hb : HB h) (hK : 10000 < K) (zone off epoch seq : Int) :
 Ok (entry_Entry_Frame K (.agg e.cells) (I zone) (I off) (I epoch) (I seq) h) fun v h'=>v = .tuple [.agg (frameE e zone off epoch seq).1.cells,I (frameE e zone off epoch seq).2]/\Ext h h':=by
 have l0 : e.cells[0]? = some (I e.kind):=rfl
 have l1 : e.cells[1]? = some (I e.first):=rfl
 have l2 : e.cells[2]? = some (I e.count):=rfl
 have hfl:=En.cells_len w
 have zl:=Fr.cells_len Fr.zero_wf
 have fwf : (⟨e.kind,zone,off,epoch,seq,(bodyF e).1⟩ : Fr).Wf:=⟨bodyF_len w,bodyF_u8 w⟩
 have fl:=Fr.cells_len fwf
 simp only [entry_Entry_Frame,walkE]
 rw [Fr.zero_cells]
 have x1 : Ext h ((h.new (.cells e.cells 89)).new (.cells Fr.zero.cells 120)):=(Chg.new _ _).andNew _
 have g5 : ((h.new (.cells e.cells 89)).new (.cells Fr.zero.cells 120)).get h.next = some (.cells e.cells 89):=by
  rw [get_new_lt _ (Nat.lt_succ_self _)]; exact get_new_same _ _
 have g10 : ((h.new (.cells e.cells 89)).new (.cells Fr.zero.cells 120)).get (h.next + 1) = some (.cells Fr.zero.cells 120):=get_new_same _ _
 have n1 : ((h.new (.cells e.cells 89)).new (.cells Fr.zero.cells 120)).next = h.next + 2:=rfl
 rw [show (h.new (.cells e.cells 89)).next = h.next + 1 from rfl]
 generalize (h.new (.cells e.cells 89)).new (.cells Fr.zero.cells 120) = h1 at x1 g5 g10 n1 ⊢
 have hb1:=x1.hb hb
 have fin : ∀ (f : Fr) (er : Int) (h5 : AHeap) (kk : AHeap->R),(∀ h',kk h' = resE TT [.c (.ptr (h.next + 1) 0) 120,.v (I er)] h')->HB h5->Ext h h5->h5.get (h.next + 1) = some (.cells Fr.zero.cells 120)->f.Wf->(f,er) = frameE e zone off epoch seq ->
  Ok (stE 49 (.ptr (h.next + 1) 0) (.agg f.cells) h5 kk) fun v h'=>v = .tuple [.agg (frameE e zone off epoch seq).1.cells,I (frameE e zone off epoch seq).2]/\Ext h h':=by
  intro f er h5 kk hkk hb5 x5 g5 wf he
  have fl:=Fr.cells_len wf
  refine Ok.st f.cells g5 rfl (by show lenR f.cells = 49; rw [len_length,fl]) (laidR_all (by rw [zl]; exact fl.symm)) ?_
  have g6 : (h5.put (h.next + 1) (.cells f.cells 120)).get (h.next + 1) = some (.cells f.cells 120):=get_put_same _ _ _
  rw [hkk,resE_cellV g6 TT120.1 TT120.2 fl,<-he]
  exact .ret ⟨rfl,x5.andPut (.inr (by omega)) (hb5 _ _ g5) _⟩
 rw [ldsN g5 rfl,cutR_all hfl]
 simp only [oB_s]
 refine (entry_body_ok (K:=K) w hb1 hK).andE ?_
 rintro _ h2 ⟨rfl,x2⟩
 have hb2:=x2.hb hb1
 have x12:=x1.trans x2
 have g5:=x2.at hb1 g5
 have g10:=x2.at hb1 g10
 have n2 : h.next + 2<=h2.next:=by have:=x2.next; omega
 simp only [walkE]
 rw [zs44_cells]
 have x3 : Ext h2 (h2.new (.cells (u8s zs44) 118)):=Chg.new _ _
 have g12 : (h2.new (.cells (u8s zs44) 118)).get h2.next = some (.cells (u8s zs44) 118):=get_new_same _ _
 have g5:=x3.at hb2 g5
 have g10:=x3.at hb2 g10
 have hb3:=x3.hb hb2
 have x13:=x12.trans x3
 have n3 : (h2.new (.cells (u8s zs44) 118)).next = h2.next + 1:=rfl
 generalize h2.new (.cells (u8s zs44) 118) = h3 at x3 g12 g5 g10 hb3 x13 n3 ⊢
 generalize h2.next = P at g12 n2 n3 ⊢
 have bl : (u8s (bodyF e).1).length = 44:=by rw [u8s_len,bodyF_len w]
 refine Ok.st (u8s (bodyF e).1) g12 rfl (by show lenR (u8s (bodyF e).1) = 44; rw [len_length,bl]) (laidR_all (by rw [u8s_len]; exact bl.symm)) ?_
 have l12:=hb3 _ _ g12
 have g12 : (h3.put P (.cells (u8s (bodyF e).1) 118)).get P = some (.cells (u8s (bodyF e).1) 118):=get_put_same _ _ _
 have g5 : (h3.put P (.cells (u8s (bodyF e).1) 118)).get h.next = some (.cells e.cells 89):=by rw [get_put_ne _ (by omega)]; exact g5
 have g10 : (h3.put P (.cells (u8s (bodyF e).1) 118)).get (h.next + 1) = some (.cells Fr.zero.cells 120):=by rw [get_put_ne _ (by omega)]; exact g10
 have x4 : Ext h (h3.put P (.cells (u8s (bodyF e).1) 118)):=x13.andPut (.inr (by omega)) l12 _
 have hb4:=hb3.put l12 (.cells (u8s (bodyF e).1) 118)
 have n4 : (h3.put P (.cells (u8s (bodyF e).1) 118)).next = P + 1:=n3
 generalize h3.put P (.cells (u8s (bodyF e).1) 118) = h4 at g12 g5 g10 x4 hb4 n4 ⊢
 try simp only [walkE]
 rw [lds g5 rfl,l0]
 simp only [oB_s]
 rw [ldsN g12 rfl,cutR_all bl]
 simp only [oB_s]
 try rw [Fr.zero_cells]
 rw [buildE_at (fill_frame e.kind zone off epoch seq bl)]
 try simp only [walkE]
 have x5 : Ext h4 (h4.new (.cells Fr.zero.cells 120)):=Chg.new _ _
 have g14 : (h4.new (.cells Fr.zero.cells 120)).get h4.next = some (.cells Fr.zero.cells 120):=get_new_same _ _
 have g5:=x5.at hb4 g5
 have g10:=x5.at hb4 g10
 have hb5:=x5.hb hb4
 have x15:=x4.trans x5
 generalize h4.new (.cells Fr.zero.cells 120) = h5 at x5 g14 g5 g10 hb5 x15 ⊢
 generalize h4.next = Q at g14 n4 ⊢
 refine Ok.st (⟨e.kind,zone,off,epoch,seq,(bodyF e).1⟩ : Fr).cells g14 rfl (by show lenR (⟨e.kind,zone,off,epoch,seq,(bodyF e).1⟩ : Fr).cells = 49; rw [len_length,fl]) (laidR_all (by rw [zl]; exact fl.symm)) ?_
 have l14:=hb5 _ _ g14
 have g14 : (h5.put Q (.cells (⟨e.kind,zone,off,epoch,seq,(bodyF e).1⟩ : Fr).cells 120)).get Q = some (.cells (⟨e.kind,zone,off,epoch,seq,(bodyF e).1⟩ : Fr).cells 120):=get_put_same _ _ _
 have g5 : (h5.put Q (.cells (⟨e.kind,zone,off,epoch,seq,(bodyF e).1⟩ : Fr).cells 120)).get h.next = some (.cells e.cells 89):=by rw [get_put_ne _ (by omega)]; exact g5
 have g10 : (h5.put Q (.cells (⟨e.kind,zone,off,epoch,seq,(bodyF e).1⟩ : Fr).cells 120)).get (h.next + 1) = some (.cells Fr.zero.cells 120):=by rw [get_put_ne _ (by omega)]; exact g10
 have x6 : Ext h (h5.put Q (.cells (⟨e.kind,zone,off,epoch,seq,(bodyF e).1⟩ : Fr).cells 120)):=x15.andPut (.inr (by omega)) l14 _
 have hb6:=hb5.put l14 (.cells (⟨e.kind,zone,off,epoch,seq,(bodyF e).1⟩ : Fr).cells 120)
 generalize h5.put Q (.cells (⟨e.kind,zone,off,epoch,seq,(bodyF e).1⟩ : Fr).cells 120) = h6 at g14 g5 g10 x6 hb6 ⊢
 have hbf : (bodyF e).2 = if erB e = true then 0 else 10:=by unfold bodyF; split <;> rfl
 rw [hbf]
 unfold frameE at fin ⊢
 generalize hfr : (⟨e.kind,zone,off,epoch,seq,(bodyF e).1⟩ : Fr) = f at fin fwf fl g14 ⊢
 have no : ∀ h7 : AHeap,Ext h6 h7->¬ (erB e = true/\frB f = true/\e.first<=seq/\seq - e.count < e.first)->Ok (buildE (nthPR [(0,1),(1,1),(2,1),(3,1),(4,1),(5,44)]) Fr.zero.cells [] fun v50=>stE 49 (.ptr (h.next + 1) 0) v50 h7 fun z=>resE TT [.c (.ptr (h.next + 1) 0) 120,.v (.int .i64 10)] z) _:=fun h7 x7 hno=>by
  rw [buildE_at (l:=Fr.zero.cells) rfl]
  exact fin Fr.zero 10 h7 _ (fun _=>rfl) (x7.hb hb6) (x6.trans x7) (x7.at hb6 g10) Fr.zero_wf (by rw [if_neg hno])
 simp only [I,walkI]
 by_cases hr : erB e = true
 ·rw [if_pos hr]
  simp only [not_true_eq_false,decide_false,walkE]
  rw [ldsN g14 rfl,cutR_all fl]
  simp only [oB_s]
  refine (frame_right_ok (K:=K) f).andE ?_
  rintro _ h7 ⟨rfl,x7⟩
  have g5:=x7.at hb6 g5
  cases hf : frB f with
  | false=>
   simp only [walkE,walkI,entry_Entry_Frame_j3,entry_Entry_Frame_j2,entry_Entry_Frame_j1]
   have r:=no h7 x7 (by rw [hf]; simp)
   rw [hf] at r
   exact r
  | true=>
   have hf':=hf
   rw [<-hfr] at hf'
   simp only [frB,Bool.and_eq_true] at hf'
   have hsq:=wi_iff.1 hf'.2.2.2.2
   have hct:=(erB_bd hr).2.2.2.1
   have rr:=no h7 x7
   have rf:=fin f 0 h7 (fun z=>resE TT [RV.c (EV.ptr (h.next + 1) 0) 120,RV.v (EV.int IntKind.i64 0)] z) (fun _=>rfl) (x7.hb hb6) (x6.trans x7) (x7.at hb6 g10) fwf
   rw [hf] at rr rf
   simp only [eq_self] at rr rf
   simp only [walkE,walkI,entry_Entry_Frame_j3]
   rw [lds g5 rfl,l1]
   simp only [oB_s,I,walkI]
   by_cases h1' : seq < e.first
   ·rw [show decide (seq < e.first) = true from decide_eq_true h1']
    simp only [walkE,walkI,entry_Entry_Frame_j2,entry_Entry_Frame_j1]
    exact rr fun y=>by omega
   ·rw [show decide (seq < e.first) = false from decide_eq_false h1']
    simp only [walkE,walkI,entry_Entry_Frame_j2]
    rw [lds g5 rfl,l1]
    simp only [oB_s]
    rw [lds g5 rfl,l2]
    simp only [oB_s,I,walkI]
    rw [wi64 (by omega) (by omega)]
    by_cases h2' : e.first<=seq - e.count
    ·rw [show decide (e.first<=seq - e.count) = true from decide_eq_true h2']
     simp only [walkE,walkI,entry_Entry_Frame_j1]
     exact rr fun y=>by omega
    ·rw [show decide (e.first<=seq - e.count) = false from decide_eq_false h2']
     simp only [walkE,walkI,entry_Entry_Frame_j1,entry_Entry_Frame_j0]
     rw [ldsN (x7.at hb6 g14) rfl,cutR_all fl]
     exact rf (by rw [if_pos ⟨hr,trivial,by omega,by omega⟩])
 ·rw [if_neg hr]
  simp only [show ¬ ((10 : Int) = 0) by decide,not_false_eq_true,decide_true,walkE,walkI,entry_Entry_Frame_j3,entry_Entry_Frame_j2,entry_Entry_Frame_j1]
  exact no h6 (Chg.refl _) fun y=>hr y.1
end Go.Ev

namespace Go.Ev
open Go.Proofs
set_option maxRecDepth 100000
variable {K : Nat}
def En.zero : En:=⟨0,0,0,0,0,0,zs32⟩
theorem En.zero_cells : List.replicate 6 (EV.int .i64 0) ++ List.replicate 32 (EV.int .u8 0) = En.zero.cells:=by kernel_rfl
theorem En.zero_wf : En.zero.Wf:=⟨rfl,fun b hb=>by rw [List.eq_of_mem_replicate hb]; decide⟩
theorem TT89 : TT.size 89 = some 38/\TT.agg 89 = some true:=⟨by kernel_rfl,by kernel_rfl⟩
def fieldsE (kind : Int) (p : List Nat) : En:=⟨kind,leV (p.take 6),leV ((p.drop 6).take 1),leV (((p.drop 6).drop 1).take 1),leV ((((p.drop 6).drop 1).drop 1).take 2),leV (((((p.drop 6).drop 1).drop 1).drop 2).take 2),((((((p.drop 6).drop 1).drop 1).drop 2).drop 2).take 32)⟩
theorem fieldsE_wf {kind : Int} {p : List Nat} (hp : p.length = 44) (hu : ∀ b ∈ p,b < 256) : (fieldsE kind p).Wf:=by
 refine ⟨?_,fun b hb=>hu b ?_⟩
 ·simp only [fieldsE,List.length_take,List.length_drop,hp]; decide
 ·simp only [fieldsE] at hb
  exact List.mem_of_mem_drop (List.mem_of_mem_drop (List.mem_of_mem_drop (List.mem_of_mem_drop (List.mem_of_mem_drop (List.mem_of_mem_take hb)))))
def ofF (kind : Int) (p : List Nat) : En × Int:=
 if (bodyF (fieldsE kind p)).2 = 0/\(bodyF (fieldsE kind p)).1 = p then (fieldsE kind p,0) else (En.zero,10)
theorem ofF_wf {kind : Int} {p : List Nat} (hp : p.length = 44) (hu : ∀ b ∈ p,b < 256) : (ofF kind p).1.Wf:=by
 unfold ofF
 split
 ·exact fieldsE_wf hp hu
 ·exact En.zero_wf
theorem fill_entry (k : Int) (a b c d e : Nat) : fillR (nthPR [(0,1),(1,1),(2,1),(3,1),(4,1),(5,1),(6,32)]) [(0,I k),(1,Nk .i64 a),(2,Nk .i64 b),(3,Nk .i64 c),(4,Nk .i64 d),(5,Nk .i64 e)] En.zero.cells = some ([I k,Nk .i64 a,Nk .i64 b,Nk .i64 c,Nk .i64 d,Nk .i64 e] ++ u8s zs32):=rfl
theorem entry_of_ok {h : AHeap} {p : List Nat} (hp : p.length = 44) (hu : ∀ b ∈ p,b < 256) (hb : HB h) (hK : 10000 < K) (kind : Int) :
 Ok (entry_Of K (I kind) (.agg (u8s p)) h) fun v h'=>v = .tuple [.agg (ofF kind p).1.cells,I (ofF kind p).2]/\Ext h h':=by
 have zl:=En.cells_len En.zero_wf
 have ul : (u8s p).length = 44:=by rw [u8s_len,hp]
 simp only [entry_Of,walkE]
 rw [En.zero_cells]
 have x1 : Ext h ((h.new (.cells (u8s p) 118)).new (.cells En.zero.cells 89)):=(Chg.new _ _).andNew _
 have g3 : ((h.new (.cells (u8s p) 118)).new (.cells En.zero.cells 89)).get h.next = some (.cells (u8s p) 118):=by
  rw [get_new_lt _ (Nat.lt_succ_self _)]; exact get_new_same _ _
 have g4 : ((h.new (.cells (u8s p) 118)).new (.cells En.zero.cells 89)).get (h.next + 1) = some (.cells En.zero.cells 89):=get_new_same _ _
 have n1 : ((h.new (.cells (u8s p) 118)).new (.cells En.zero.cells 89)).next = h.next + 2:=rfl
 rw [show (h.new (.cells (u8s p) 118)).next = h.next + 1 from rfl]
 generalize (h.new (.cells (u8s p) 118)).new (.cells En.zero.cells 89) = h1 at x1 g3 g4 n1 ⊢
 have hb1:=x1.hb hb
 have wfE:=fieldsE_wf (kind:=kind) hp hu
 have fin : ∀ (e : En) (er : Int) (h5 : AHeap) (kk : AHeap->R),(∀ h',kk h' = resE TT [.c (.ptr (h.next + 1) 0) 89,.v (I er)] h')->HB h5->Ext h h5->h5.get (h.next + 1) = some (.cells En.zero.cells 89)->e.Wf->(e,er) = ofF kind p ->
  Ok (stE 38 (.ptr (h.next + 1) 0) (.agg e.cells) h5 kk) fun v h'=>v = .tuple [.agg (ofF kind p).1.cells,I (ofF kind p).2]/\Ext h h':=by
  intro e er h5 kk hkk hb5 x5 g5 wf he
  have fl:=En.cells_len wf
  refine Ok.st e.cells g5 rfl (by show lenR e.cells = 38; rw [len_length,fl]) (laidR_all (by rw [zl]; exact fl.symm)) ?_
  have g6 : (h5.put (h.next + 1) (.cells e.cells 89)).get (h.next + 1) = some (.cells e.cells 89):=get_put_same _ _ _
  rw [hkk,resE_cellV g6 TT89.1 TT89.2 fl,<-he]
  exact .ret ⟨rfl,x5.andPut (.inr (by omega)) (hb5 _ _ g5) _⟩
 rw [show ∀ k : EV->R,sliAE 44 1 (.ptr h.next 0) none none none k = k (.slice h.next 0 44 44 false) from fun k=>rfl]
 have bs : Bs h1 (.slice h.next 0 44 44 false) h.next 0 p:=by
  refine ⟨44,false,_,u8s p,by rw [hp],by omega,g3,rfl,by rw [ul]; omega,?_⟩
  rw [List.drop_zero,hp,<-ul,List.take_length]
 refine (codec_new_ok (K:=K) bs hb1 (by omega) (by omega)).andE ?_
 rintro _ h5 ⟨Rr,q,rfl,d0,x5,hb5,lq5⟩
 have g3:=x5.at hb1 g3
 have g4:=x5.at hb1 g4
 have x15:=x1.trans x5
 have hRn : Rr < h5.next:=by obtain ⟨_,g,_⟩:=d0.at'; exact hb5 _ _ g
 have hR4 : h.next + 1 < Rr:=by have:=d0.ne; omega
 have up : ∀ {ha hc : AHeap},Ext h ha->Chg (fun i=>i = Rr) ha hc->Ext h hc:=fun x c=>x.then c fun j hj hlt=>by
  have hj : j = Rr:=hj
  omega
 have keep : ∀ {ha hc : AHeap} {i : Nat} {o : AObj},Chg (fun i=>i = Rr) ha hc->HB ha->ha.get i = some o->i ≠ Rr->hc.get i = some o:=fun c hb g hi=>c.at hb g hi
 refine (num_ok (K:=K) (w:=6) d0 hb5 (by omega) (by decide) (by decide) (by omega) hu).andE ?_
 rintro _ h6 ⟨rfl,d1,c6,hb6⟩
 have g3:=keep c6 hb5 g3 (by omega)
 have g4:=keep c6 hb5 g4 (by omega)
 have x6:=up x15 c6
 refine (num_ok (K:=K) (w:=1) d1 hb6 (by omega) (by decide) (by decide) (by simp only [List.length_drop]; omega) (fun b hb=>hu b (List.mem_of_mem_drop hb))).andE ?_
 rintro _ h7 ⟨rfl,d2,c7,hb7⟩
 have g3:=keep c7 hb6 g3 (by omega)
 have g4:=keep c7 hb6 g4 (by omega)
 have x7:=up x6 c7
 refine (num_ok (K:=K) (w:=1) d2 hb7 (by omega) (by decide) (by decide) (by simp only [List.length_drop]; omega) (fun b hb=>hu b (List.mem_of_mem_drop (List.mem_of_mem_drop hb)))).andE ?_
 rintro _ h8 ⟨rfl,d3,c8,hb8⟩
 have g3:=keep c8 hb7 g3 (by omega)
 have g4:=keep c8 hb7 g4 (by omega)
 have x8:=up x7 c8
 refine (num_ok (K:=K) (w:=2) d3 hb8 (by omega) (by decide) (by decide) (by simp only [List.length_drop]; omega) (fun b hb=>hu b (List.mem_of_mem_drop (List.mem_of_mem_drop (List.mem_of_mem_drop hb))))).andE ?_
 rintro _ h9 ⟨rfl,d4,c9,hb9⟩
 have g3:=keep c9 hb8 g3 (by omega)
 have g4:=keep c9 hb8 g4 (by omega)
 have x9:=up x8 c9
 refine (num_ok (K:=K) (w:=2) d4 hb9 (by omega) (by decide) (by decide) (by simp only [List.length_drop]; omega) (fun b hb=>hu b (List.mem_of_mem_drop (List.mem_of_mem_drop (List.mem_of_mem_drop (List.mem_of_mem_drop hb)))))).andE ?_
 rintro _ h10 ⟨rfl,d5,c10,hb10⟩
 have g3:=keep c10 hb9 g3 (by omega)
 have g4:=keep c10 hb9 g4 (by omega)
 have x10:=up x9 c10
 try rw [En.zero_cells]
 rw [buildE_at (fill_entry kind _ _ _ _ _)]
 try simp only [walkE]
 have x11 : Ext h10 (h10.new (.cells En.zero.cells 89)):=Chg.new _ _
 have g9 : (h10.new (.cells En.zero.cells 89)).get h10.next = some (.cells En.zero.cells 89):=get_new_same _ _
 have n11 : (h10.new (.cells En.zero.cells 89)).next = h10.next + 1:=rfl
 have g3:=x11.at hb10 g3
 have g4:=x11.at hb10 g4
 have hb11:=x11.hb hb10
 have d5:=d5.ext hb10 x11
 have x1b:=x10.trans x11
 have hF : Rr < h10.next:=by have:=c6.next; have:=c7.next; have:=c8.next; have:=c9.next; have:=c10.next; omega
 generalize h10.new (.cells En.zero.cells 89) = h11 at x11 g9 n11 g3 g4 hb11 d5 x1b ⊢
 generalize h10.next = Fb at g9 n11 hF ⊢
 have hlen32 : (((((p.drop 6).drop 1).drop 1).drop 2).drop 2).length = 32:=by simp only [List.length_drop]; omega
 unfold ofF fieldsE at fin ⊢
 unfold fieldsE at wfE
 generalize (((((p.drop 6).drop 1).drop 1).drop 2).drop 2) = body at d5 hlen32 fin wfE ⊢
 generalize leV (p.take 6) = n1' at fin wfE ⊢
 generalize leV ((p.drop 6).take 1) = n2' at fin wfE ⊢
 generalize leV (((p.drop 6).drop 1).take 1) = n3' at fin wfE ⊢
 generalize leV ((((p.drop 6).drop 1).drop 1).take 2) = n4' at fin wfE ⊢
 generalize leV (((((p.drop 6).drop 1).drop 1).drop 2).take 2) = n5' at fin wfE ⊢
 have htk : body.take 32 = body:=List.take_of_length_le (by omega)
 rw [htk] at fin wfE ⊢
 have hl38 : ([I kind,Nk .i64 n1',Nk .i64 n2',Nk .i64 n3',Nk .i64 n4',Nk .i64 n5'] ++ u8s zs32).length = 38:=by rw [List.length_append,u8s_len]; rfl
 refine Ok.st ([I kind,Nk .i64 n1',Nk .i64 n2',Nk .i64 n3',Nk .i64 n4',Nk .i64 n5'] ++ u8s zs32) g9 rfl (by show lenR ([I kind,Nk .i64 n1',Nk .i64 n2',Nk .i64 n3',Nk .i64 n4',Nk .i64 n5'] ++ u8s zs32) = 38; rw [len_length,hl38]) (laidR_all (by rw [zl]; exact hl38.symm)) ?_
 have lF:=hb11 _ _ g9
 have c12 : Chg (fun i=>i = Fb) h11 (h11.put Fb (.cells ([I kind,Nk .i64 n1',Nk .i64 n2',Nk .i64 n3',Nk .i64 n4',Nk .i64 n5'] ++ u8s zs32) 89)):=(Chg.refl (S:=fun i=>i = Fb) h11).andPut (.inl rfl) lF _
 have g9 : (h11.put Fb (.cells ([I kind,Nk .i64 n1',Nk .i64 n2',Nk .i64 n3',Nk .i64 n4',Nk .i64 n5'] ++ u8s zs32) 89)).get Fb = some (.cells ([I kind,Nk .i64 n1',Nk .i64 n2',Nk .i64 n3',Nk .i64 n4',Nk .i64 n5'] ++ u8s zs32) 89):=get_put_same _ _ _
 have hb12:=hb11.put lF (.cells ([I kind,Nk .i64 n1',Nk .i64 n2',Nk .i64 n3',Nk .i64 n4',Nk .i64 n5'] ++ u8s zs32) 89)
 generalize h11.put Fb (.cells ([I kind,Nk .i64 n1',Nk .i64 n2',Nk .i64 n3',Nk .i64 n4',Nk .i64 n5'] ++ u8s zs32) 89) = h12 at c12 g9 hb12 ⊢
 have upF : ∀ {ha hc : AHeap},Ext h ha->Chg (fun i=>i = Fb) ha hc->Ext h hc:=fun x c=>x.then c fun j hj hlt=>by
  have hj : j = Fb:=hj
  omega
 have keepF : ∀ {ha hc : AHeap} {i : Nat} {o : AObj},Chg (fun i=>i = Fb) ha hc->HB ha->ha.get i = some o->i ≠ Fb->hc.get i = some o:=fun c hb g hi=>c.at hb g hi
 have g3:=keepF c12 hb11 g3 (by omega)
 have g4:=keepF c12 hb11 g4 (by omega)
 have d5:=d5.chg hb11 c12 (by have:=d5.ne; intro y; omega) (by intro y; omega)
 have x12:=upF x1b c12
 try simp only [walkE]
 rw [show ∀ k : EV->R,sliAE 32 1 (.ptr Fb 6) none none none k = k (.slice Fb 6 32 32 false) from fun k=>rfl]
 have dl : Rd h12.lift Rr q (0 + 6 + 1 + 1 + 2 + 2) body:=d5.chg hb12 (S:=fun _=>False) ⟨fun i _ _=>lift_get _ _,Nat.le_refl _,fun w _ w2 _=>w2,fun y=>lift_hb y⟩ id id
 refine Ok.bigC (S:=fun i=>i = Rr) (by kernel_rfl) (by kernel_rfl) (fun _=>by kernel_rfl) (bytes_ok (K:=K) (n:=32) dl (lift_hb hb12) (by decide) (by omega)) (fun _ _ p=>p.2.2.1) ?_
 rintro v43 h18' h18 s' ⟨b43,_,_,hb18'⟩ sm18 c18 hs'
 have hb18:=sm18.hb hb18'
 have b43:=b43.frame (sm18.get _)
 rw [htk] at b43
 have g3:=keep c18 hb12 g3 (by omega)
 have g4:=keep c18 hb12 g4 (by omega)
 have g9:=keep c18 hb12 g9 (by omega)
 have x18:=up x12 c18
 have hlen : lenOf v43 = some 32:=by have:=b43.len; rw [hlen32] at this; exact this
 have hcel : cellsF h18.lift 1 32 v43 = some (u8s body):=by have:=b43.lift.cells; rw [hlen32] at this; exact this
 have hcp:=copy_ok (h:=h18.lift) (i:=Fb) (n:=32) (r:=32) (op:=false) (t:=89) (hd:=[I kind,Nk .i64 n1',Nk .i64 n2',Nk .i64 n3',Nk .i64 n4',Nk .i64 n5']) (old:=u8s zs32) (by rw [lift_get]; exact g9) hlen (by decide) hcel (by rw [u8s_len,hlen32]) (by rw [u8s_len]; rfl)
 have lF18:=hb18 _ _ g9
 refine Ok.bigC (S:=fun i=>i = Fb) (by rcases hs' with rfl | ⟨w,rfl,_⟩ <;> kernel_rfl) (by rcases hs' with rfl | ⟨w,rfl,_⟩ <;> kernel_rfl) (fun w=>by rcases hs' with rfl | ⟨w,rfl,_⟩ <;> kernel_rfl) (P:=fun v h'=>h' = h18.lift.put Fb (.cells ([I kind,Nk .i64 n1',Nk .i64 n2',Nk .i64 n3',Nk .i64 n4',Nk .i64 n5'] ++ u8s body) 89)) ⟨_,_,hcp,rfl⟩ (fun _ _ p=>by rw [p]; exact (Chg.refl (S:=fun i=>i = Fb) h18.lift).andPut (.inl rfl) (show Fb < h18.lift.next from lF18) _) ?_
 rintro v44 h19' h19 s2 rfl sm19 c19 _
 have hb19:=c19.hb hb18
 have g9 : h19.get Fb = some (.cells (⟨kind,n1',n2',n3',n4',n5',body⟩ : En).cells 89):=by rw [sm19.get]; exact get_put_same _ _ _
 have g3:=keepF c19 hb18 g3 (by omega)
 have g4:=keepF c19 hb18 g4 (by omega)
 have x19:=upF x18 c19
 generalize hE : (⟨kind,n1',n2',n3',n4',n5',body⟩ : En) = E at fin wfE g9 ⊢
 have el:=En.cells_len wfE
 rw [ldsN g9 rfl,cutR_all el]
 simp only [oB_s]
 refine (entry_body_ok (K:=K) wfE hb19 hK).andE ?_
 rintro _ h20 ⟨rfl,x20⟩
 have hb20:=x20.hb hb19
 have g3:=x20.at hb19 g3
 have g4:=x20.at hb19 g4
 have g9:=x20.at hb19 g9
 have x120:=x19.trans x20
 have lF20:=hb20 _ _ g9
 try simp only [walkE]
 rw [zs44_cells]
 have x21 : Ext h20 (h20.new (.cells (u8s zs44) 118)):=Chg.new _ _
 have g8 : (h20.new (.cells (u8s zs44) 118)).get h20.next = some (.cells (u8s zs44) 118):=get_new_same _ _
 have g3:=x21.at hb20 g3
 have g4:=x21.at hb20 g4
 have g9:=x21.at hb20 g9
 have hb21:=x21.hb hb20
 have x121:=x120.trans x21
 have lt20 : h.next + 2<=h20.next:=by have:=x1.next; have:=x120.next; have:=hb20 _ _ (by assumption : h20.get (h.next + 1) = some (.cells En.zero.cells 89)); omega
 generalize h20.new (.cells (u8s zs44) 118) = h21 at x21 g8 g3 g4 g9 hb21 x121 ⊢
 generalize h20.next = P at g8 lF20 lt20 ⊢
 have bl : (u8s (bodyF E).1).length = 44:=by rw [u8s_len,bodyF_len wfE]
 refine Ok.st (u8s (bodyF E).1) g8 rfl (by show lenR (u8s (bodyF E).1) = 44; rw [len_length,bl]) (laidR_all (by rw [u8s_len]; exact bl.symm)) ?_
 have l8:=hb21 _ _ g8
 have g8 : (h21.put P (.cells (u8s (bodyF E).1) 118)).get P = some (.cells (u8s (bodyF E).1) 118):=get_put_same _ _ _
 have g3 : (h21.put P (.cells (u8s (bodyF E).1) 118)).get h.next = some (.cells (u8s p) 118):=by rw [get_put_ne _ (by omega)]; exact g3
 have g4 : (h21.put P (.cells (u8s (bodyF E).1) 118)).get (h.next + 1) = some (.cells En.zero.cells 89):=by rw [get_put_ne _ (by omega)]; exact g4
 have g9 : (h21.put P (.cells (u8s (bodyF E).1) 118)).get Fb = some (.cells E.cells 89):=by rw [get_put_ne _ (by omega)]; exact g9
 have x122 : Ext h (h21.put P (.cells (u8s (bodyF E).1) 118)):=x121.andPut (.inr (by omega)) l8 _
 have hb22:=hb21.put l8 (.cells (u8s (bodyF E).1) 118)
 generalize h21.put P (.cells (u8s (bodyF E).1) 118) = h22 at g8 g3 g4 g9 x122 hb22 ⊢
 simp only [I,walkI]
 have no : ¬ ((bodyF E).2 = 0/\(bodyF E).1 = p)->Ok (buildE (nthPR [(0,1),(1,1),(2,1),(3,1),(4,1),(5,1),(6,32)]) En.zero.cells [] fun v41=>stE 38 (.ptr (h.next + 1) 0) v41 h22 fun z=>resE TT [.c (.ptr (h.next + 1) 0) 89,.v (.int .i64 10)] z) _:=fun hno=>by
  rw [buildE_at (l:=En.zero.cells) rfl]
  exact fin En.zero 10 h22 _ (fun _=>rfl) hb22 x122 g4 En.zero_wf (by rw [if_neg hno])
 by_cases h0 : (bodyF E).2 = 0
 ·rw [show decide (¬ (bodyF E).2 = 0) = false from decide_eq_false fun y=>y h0]
  simp only [walkE]
  rw [ldsN g8 rfl,cutR_all bl]
  simp only [oB_s]
  rw [ldsN g3 rfl,cutR_all ul]
  simp only [oB_s]
  rw [neq_bytes eqs118 (bodyF_len wfE) hp]
  by_cases h1' : (bodyF E).1 = p
  ·rw [show decide (¬ (bodyF E).1 = p) = false from decide_eq_false fun y=>y h1']
   simp only [entry_Of_j1,walkE,entry_Of_j0]
   rw [ldsN g9 rfl,cutR_all el]
   exact fin E 0 h22 _ (fun _=>rfl) hb22 x122 g4 wfE (by rw [if_pos ⟨h0,h1'⟩])
  ·rw [show decide (¬ (bodyF E).1 = p) = true from decide_eq_true h1']
   simp only [entry_Of_j1,walkE]
   exact no fun y=>h1' y.2
 ·rw [show decide (¬ (bodyF E).2 = 0) = true from decide_eq_true h0]
  simp only [walkE,entry_Of_j1]
  exact no fun y=>h0 y.1
end Go.Ev

namespace Go.Ev
open Go.Proofs
set_option maxRecDepth 100000
variable {K : Nat}
def readE (f : Fr) : En × Int:=
 if ¬ (ofF f.kind f.body).2 = 0 then (En.zero,(ofF f.kind f.body).2) else
 if ¬ (frameE (ofF f.kind f.body).1 f.zone f.off f.epoch f.seq).2 = 0 then (En.zero,(frameE (ofF f.kind f.body).1 f.zone f.off f.epoch f.seq).2) else ((ofF f.kind f.body).1,0)
theorem entry_read_ok {h : AHeap} {f : Fr} (w : f.Wf) (hb : HB h) (hK : 10000 < K) :
 Ok (entry_Read K (.agg f.cells) h) fun v h'=>v = .tuple [.agg (readE f).1.cells,I (readE f).2]/\(readE f).1.Wf/\Ext h h':=by
 have l0 : f.cells[0]? = some (I f.kind):=rfl
 have l1 : f.cells[1]? = some (I f.zone):=rfl
 have l2 : f.cells[2]? = some (I f.off):=rfl
 have l3 : f.cells[3]? = some (I f.epoch):=rfl
 have l4 : f.cells[4]? = some (I f.seq):=rfl
 have hfl:=Fr.cells_len w
 have l5 : cutR f.cells 5 44 = some (u8s f.body):=by
  rw [cutR_take (by rw [hfl]; decide)]
  show some (List.take 44 (u8s f.body)) = _
  rw [List.take_of_length_le (by rw [u8s_len,w.len]; decide)]
 have zl:=En.cells_len En.zero_wf
 have owf:=ofF_wf (kind:=f.kind) w.len w.u8
 have ol:=En.cells_len owf
 simp only [entry_Read,walkE]
 rw [En.zero_cells]
 have x1 : Ext h ((h.new (.cells f.cells 120)).new (.cells En.zero.cells 89)):=(Chg.new _ _).andNew _
 have g1 : ((h.new (.cells f.cells 120)).new (.cells En.zero.cells 89)).get h.next = some (.cells f.cells 120):=by
  rw [get_new_lt _ (Nat.lt_succ_self _)]; exact get_new_same _ _
 have g2 : ((h.new (.cells f.cells 120)).new (.cells En.zero.cells 89)).get (h.next + 1) = some (.cells En.zero.cells 89):=get_new_same _ _
 have n1 : ((h.new (.cells f.cells 120)).new (.cells En.zero.cells 89)).next = h.next + 2:=rfl
 rw [show (h.new (.cells f.cells 120)).next = h.next + 1 from rfl]
 generalize (h.new (.cells f.cells 120)).new (.cells En.zero.cells 89) = h1 at x1 g1 g2 n1 ⊢
 have hb1:=x1.hb hb
 have fin : ∀ (e : En) (er : Int) (h5 : AHeap) (kk : AHeap->R),(∀ h',kk h' = resE TT [.c (.ptr (h.next + 1) 0) 89,.v (I er)] h')->HB h5->Ext h h5->h5.get (h.next + 1) = some (.cells En.zero.cells 89)->e.Wf->(e,er) = readE f ->
  Ok (stE 38 (.ptr (h.next + 1) 0) (.agg e.cells) h5 kk) fun v h'=>v = .tuple [.agg (readE f).1.cells,I (readE f).2]/\(readE f).1.Wf/\Ext h h':=by
  intro e er h5 kk hkk hb5 x5 g5 wf he
  have fl:=En.cells_len wf
  refine Ok.st e.cells g5 rfl (by show lenR e.cells = 38; rw [len_length,fl]) (laidR_all (by rw [zl]; exact fl.symm)) ?_
  have g6 : (h5.put (h.next + 1) (.cells e.cells 89)).get (h.next + 1) = some (.cells e.cells 89):=get_put_same _ _ _
  rw [hkk,resE_cellV g6 TT89.1 TT89.2 fl,<-he]
  exact .ret ⟨rfl,wf,x5.andPut (.inr (by omega)) (hb5 _ _ g5) _⟩
 rw [lds g1 rfl,l0]
 simp only [oB_s]
 rw [ldsN g1 rfl,l5]
 simp only [oB_s]
 refine (entry_of_ok (K:=K) w.len w.u8 hb1 hK f.kind).andE ?_
 rintro _ h2 ⟨rfl,x2⟩
 have hb2:=x2.hb hb1
 have x12:=x1.trans x2
 have g1:=x2.at hb1 g1
 have g2:=x2.at hb1 g2
 have n2 : h.next + 2<=h2.next:=by have:=x2.next; omega
 try simp only [walkE]
 try rw [En.zero_cells]
 have x3 : Ext h2 (h2.new (.cells En.zero.cells 89)):=Chg.new _ _
 have g4 : (h2.new (.cells En.zero.cells 89)).get h2.next = some (.cells En.zero.cells 89):=get_new_same _ _
 have g1:=x3.at hb2 g1
 have g2:=x3.at hb2 g2
 have hb3:=x3.hb hb2
 have x13:=x12.trans x3
 generalize h2.new (.cells En.zero.cells 89) = h3 at x3 g4 g1 g2 hb3 x13 ⊢
 generalize h2.next = P at g4 n2 ⊢
 refine Ok.st (ofF f.kind f.body).1.cells g4 rfl (by show lenR (ofF f.kind f.body).1.cells = 38; rw [len_length,ol]) (laidR_all (by rw [zl]; exact ol.symm)) ?_
 have l4':=hb3 _ _ g4
 have g4 : (h3.put P (.cells (ofF f.kind f.body).1.cells 89)).get P = some (.cells (ofF f.kind f.body).1.cells 89):=get_put_same _ _ _
 have g1 : (h3.put P (.cells (ofF f.kind f.body).1.cells 89)).get h.next = some (.cells f.cells 120):=by rw [get_put_ne _ (by omega)]; exact g1
 have g2 : (h3.put P (.cells (ofF f.kind f.body).1.cells 89)).get (h.next + 1) = some (.cells En.zero.cells 89):=by rw [get_put_ne _ (by omega)]; exact g2
 have x4 : Ext h (h3.put P (.cells (ofF f.kind f.body).1.cells 89)):=x13.andPut (.inr (by omega)) l4' _
 have hb4:=hb3.put l4' (.cells (ofF f.kind f.body).1.cells 89)
 generalize h3.put P (.cells (ofF f.kind f.body).1.cells 89) = h4 at g4 g1 g2 x4 hb4 ⊢
 unfold readE at fin ⊢
 generalize (ofF f.kind f.body).2 = er at fin ⊢
 generalize (ofF f.kind f.body).1 = e at fin owf ol g4 ⊢
 simp only [I,walkI]
 by_cases h0 : er = 0
 ·subst h0
  simp only [not_true_eq_false,decide_false,walkE,if_false,entry_Read_j1] at fin ⊢
  rw [ldsN g4 rfl,cutR_all ol]
  simp only [oB_s]
  rw [lds g1 rfl,l1]
  simp only [oB_s,walkE]
  rw [lds g1 rfl,l2]
  simp only [oB_s,walkE]
  rw [lds g1 rfl,l3]
  simp only [oB_s,walkE]
  rw [lds g1 rfl,l4]
  simp only [oB_s,walkE]
  refine (entry_frame_ok (K:=K) owf hb4 hK f.zone f.off f.epoch f.seq).andE ?_
  rintro _ h5 ⟨rfl,x5⟩
  have hb5:=x5.hb hb4
  have g2:=x5.at hb4 g2
  have g4:=x5.at hb4 g4
  have x15:=x4.trans x5
  generalize (frameE e f.zone f.off f.epoch f.seq).2 = er2 at fin ⊢
  simp only [walkE,I,walkI]
  by_cases h1' : er2 = 0
  ·subst h1'
   simp only [not_true_eq_false,decide_false,walkE,if_false,entry_Read_j0] at fin ⊢
   rw [ldsN g4 rfl,cutR_all ol]
   exact fin e 0 h5 _ (fun _=>rfl) hb5 x15 g2 owf rfl
  ·simp only [h1',not_false_eq_true,decide_true,walkE,if_true] at fin ⊢
   rw [buildE_at (l:=En.zero.cells) rfl]
   exact fin En.zero er2 h5 _ (fun _=>rfl) hb5 x15 g2 En.zero_wf rfl
 ·simp only [h0,not_false_eq_true,decide_true,walkE,if_true] at fin ⊢
  rw [buildE_at (l:=En.zero.cells) rfl]
  exact fin En.zero er h4 _ (fun _=>rfl) hb4 x4 g2 En.zero_wf rfl
end Go.Ev

namespace Go.Ev
open Go.Proofs
set_option maxRecDepth 100000
theorem leV_leN : ∀ (w a : Nat),leV (leN w a) = a % 256 ^ w
 | 0,a=>by simp [leN,leV,Nat.mod_one]
 | w + 1,a=>by
  rw [leN_succ,leV_app,leV_leN w a,leN_len,Nat.mod_pow_succ]
theorem leV_leI {w : Nat} {v b : Int} (h0 : 0<=v) (hb : v<=b) (hw : b < (256 ^ w : Nat)) : ((leV (leN w v.toNat) : Nat) : Int) = v:=by
 rw [leV_leN,Nat.mod_eq_of_lt (by omega)]; omega
theorem take_l {a b : List Nat} {n : Nat} (h : a.length = n) : (a ++ b).take n = a:=by subst h; simp
theorem drop_l {a b : List Nat} {n : Nat} (h : a.length = n) : (a ++ b).drop n = b:=by subst h; simp
theorem openB_encF {f : Fr} (w : f.Wf) : openB (encF f) = true:=by
 have h1:=encF_len w
 have h2:=hdrF_len w
 unfold openB
 rw [h1]
 apply decide_eq_true
 unfold encF
 rw [take_l h2,drop_l h2]
theorem fieldsF_hdrF {f : Fr} (w : f.Wf) (hr : frB f = true) : fieldsF (hdrF f) = f/\leV (((hdrF f).drop 1).take 1) = 1:=by
 simp only [frB,Bool.and_eq_true] at hr
 obtain ⟨r1,r2,r3,r4,r5⟩:=hr
 obtain ⟨a1,b1⟩:=wi_iff.1 r1
 obtain ⟨a2,b2⟩:=wi_iff.1 r2
 obtain ⟨a3,b3⟩:=wi_iff.1 r3
 obtain ⟨a4,b4⟩:=wi_iff.1 r4
 obtain ⟨a5,b5⟩:=wi_iff.1 r5
 have hl:=w.len
 have t44 : f.body.take 44 = f.body:=List.take_of_length_le (by omega)
 unfold fieldsF hdrF
 simp only [List.append_assoc,take_l (leN_len _ _),drop_l (leN_len _ _),t44]
 rw [leV_leI (w:=1) (by omega) b1 (by decide),leV_leI (w:=2) a2 b2 (by decide),leV_leI (w:=2) a3 b3 (by decide),leV_leI (w:=4) (by omega) b4 (by decide),leV_leI (w:=6) a5 b5 (by decide)]
 exact ⟨rfl,by rw [leV_leN]⟩
theorem decF_encF {f : Fr} (w : f.Wf) (hr : frB f = true) : decF (encF f) = (f,0):=by
 obtain ⟨e1,e2⟩:=fieldsF_hdrF w hr
 have h2:=hdrF_len w
 have ht : (encF f).take 60 = hdrF f:=by unfold encF; exact take_l h2
 unfold decF
 rw [if_neg (by rw [openB_encF w]; simp),ht,e1,if_pos ⟨e2,hr⟩]
theorem atF_encF {f : Fr} (w : f.Wf) (hr : frB f = true) : atF (encF f) f.zone f.off = (f,0):=by
 unfold atF
 rw [decF_encF w hr]
 simp
theorem fieldsE_bodyE {e : En} (w : e.Wf) (hr : erB e = true) : fieldsE e.kind (bodyE e) = e:=by
 obtain ⟨⟨a1,b1⟩,⟨a2,b2⟩,⟨a3,b3⟩,⟨a4,b4⟩,⟨a5,b5⟩,_⟩:=erB_bd hr
 have hl:=w.len
 have t32 : e.bytes.take 32 = e.bytes:=List.take_of_length_le (by omega)
 unfold fieldsE bodyE
 simp only [List.append_assoc,take_l (leN_len _ _),drop_l (leN_len _ _),t32]
 rw [leV_leI (w:=6) a1 b1 (by decide),leV_leI (w:=1) (by omega) b4 (by decide),leV_leI (w:=1) a2 b2 (by decide),leV_leI (w:=2) a5 b5 (by decide),leV_leI (w:=2) a3 b3 (by decide)]
theorem ofF_bodyE {e : En} (w : e.Wf) (hr : erB e = true) : ofF e.kind (bodyE e) = (e,0):=by
 unfold ofF
 rw [fieldsE_bodyE w hr]
 unfold bodyF
 rw [if_pos hr]
 simp
theorem readE_frameE {e : En} (w : e.Wf) {zone off epoch seq : Int} (h : (frameE e zone off epoch seq).2 = 0) :
 (frameE e zone off epoch seq).1 = ⟨e.kind,zone,off,epoch,seq,bodyE e⟩/\frB ⟨e.kind,zone,off,epoch,seq,bodyE e⟩ = true/\erB e = true/\readE ⟨e.kind,zone,off,epoch,seq,bodyE e⟩ = (e,0):=by
 by_cases hc : erB e = true/\frB ⟨e.kind,zone,off,epoch,seq,(bodyF e).1⟩ = true/\e.first<=seq/\seq - e.count < e.first
 ·have hb : (bodyF e).1 = bodyE e:=by unfold bodyF; rw [if_pos hc.1]
  have hf : frameE e zone off epoch seq = (⟨e.kind,zone,off,epoch,seq,bodyE e⟩,0):=by unfold frameE; rw [if_pos hc,hb]
  rw [hb] at hc
  refine ⟨by rw [hf],hc.2.1,hc.1,?_⟩
  unfold readE
  simp only [ofF_bodyE w hc.1,hf]
  simp
 ·exfalso
  unfold frameE at h
  rw [if_neg hc] at h
  exact absurd h (by decide)
end Go.Ev
