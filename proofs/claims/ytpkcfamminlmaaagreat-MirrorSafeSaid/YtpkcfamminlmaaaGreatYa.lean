import Derived.Test.YtpkcfamminlmaaaGreatXc
import Derived.Test.YtpkcfamminlmaaaGreatXb
set_option linter.unusedVariables false
set_option linter.unusedSimpArgs false
set_option linter.unusedSectionVars false
namespace Go.Ev
open Go.Proofs
set_option maxRecDepth 100000
variable {K:Nat}
abbrev Nk(k:IntKind)(a:Nat):EV:=.int k (Int.ofNat a)
theorem wrap_u8(a:Nat):Cv .u8 (Int.ofNat a)=Int.ofNat (a % 256):=by
 rw[Lp]
 rfl
theorem wrap_u32(a:Nat):Cv .u32 (Int.ofNat a)=Int.ofNat (a % 4294967296):=by
 rw[Lp]
 rfl
theorem Amr {c:IntKind}{a:Nat}{k:EV->R}:My .u8 (.int c (Int.ofNat a)) k=k (Nk .u8 (a % 256)):=by
 rw[A1o,wrap_u8]
theorem Ajb {t:Nat}{a:Nat}{k:EV->R}:Lt (bin TT .shr t) (.int .i64 (Int.ofNat a)) (.int .u64 8) k=k (Nk .i64 (a / 256)):=by
 show k (.int .i64 (.ofNat (Nat.shiftRight a 8)))=_
 have:Nat.shiftRight a 8=a / 256:=Nat.shiftRight_eq_div_pow a 8
 rw[this]
theorem Aj2 {t s:Nat}(hs:s<=32){a:Nat}{k:EV->R}:Lt (bin TT .shr t) (.int .u32 (Int.ofNat a)) (.int .u64 (Int.ofNat s)) k=k (Nk .u32 (a / 2 ^ s)):=by
 show k (.int .u32 (.ofNat (Nat.shiftRight a (As (Nat.ble s 32) s 32))))=_
 rw[Nat.ble_eq_true_of_le hs,Ak]
 have:Nat.shiftRight a s=a / 2 ^ s:=Nat.shiftRight_eq_div_pow a s
 rw[this]
theorem Ay6 {t:Nat}{a b:Nat}(ha:a<4294967296)(hb:b<4294967296){k:EV->R}:Lt (bin TT .xor t) (.int .u32 (Int.ofNat a)) (.int .u32 (Int.ofNat b)) k=k (Nk .u32 (a ^^^ b)):=by
 show k (.int .u32 (Cv .u32 (.ofNat (Nat.xor a b))))=_
 rw[wrap_u32]
 have:Nat.xor a b<2 ^ 32:=Nat.xor_lt_two_pow (n:=32) ha hb
 rw[Nat.mod_eq_of_lt (by exact this)];rfl
theorem A3g {t:Nat}{a b:Nat}(ha:a<256)(hb:b<256){k:EV->R}:Lt (bin TT .xor t) (.int .u8 (Int.ofNat a)) (.int .u8 (Int.ofNat b)) k=k (Nk .u8 (a ^^^ b)):=by
 show k (.int .u8 (Cv .u8 (.ofNat (Nat.xor a b))))=_
 rw[wrap_u8]
 have:Nat.xor a b<2 ^ 8:=Nat.xor_lt_two_pow (n:=8) ha hb
 rw[Nat.mod_eq_of_lt (by exact this)];rfl
def wd:Nat->Nat->Nat
 | 0,_=>1
 | f+1,a=>if a / 256=0 then 1 else wd f (a / 256)+1
theorem A8h:∀ (f a w:Nat),a<256 ^ (f+1)->1<=w->(wd f a<=w ↔ a<256 ^ w)
 | 0,a,w,h,hw=>by
  refine⟨fun _=>Nat.lt_of_lt_of_le h (Nat.pow_le_pow_right (by decide) (by omega)),fun _=>hw⟩
 | f+1,a,w,h,hw=>by
  unfold wd
  by_cases h0:a / 256=0
  ·rw[if_pos h0]
   refine⟨fun _=>?_,fun _=>hw⟩
   have:a<256:=by omega
   exact Nat.lt_of_lt_of_le this (by have:=Nat.pow_le_pow_right (n:=256) (by decide) hw;simpa using this)
  ·rw[if_neg h0]
   have ih:=A8h f (a / 256) (w-1) (by rw[Nat.pow_succ]at h;exact Nat.div_lt_of_lt_mul (by rw[Nat.mul_comm];exact h))
   by_cases h1:w=1
   ·subst h1
    refine⟨fun y=>?_,fun y=>?_⟩
    ·have:1<=wd f (a / 256):=by cases f <;> unfold wd <;> (try split) <;> omega
     omega
    ·exfalso;apply h0;simp at y;omega
   ·have ih:=ih (by omega)
    obtain⟨v,rfl⟩:∃ v,w=v+1:=⟨w-1,by omega⟩
    rw[Nat.add_sub_cancel]at ih
    rw[Nat.pow_succ]
    refine⟨fun y=>?_,fun y=>?_⟩
    ·have:=ih.1 (by omega)
     have:=Nat.div_lt_iff_lt_mul (k:=256) (x:=a) (y:=256 ^ v) (by decide)
     omega
    ·have:=ih.2 (Nat.div_lt_of_lt_mul (by rw[Nat.mul_comm];exact y))
     omega
theorem Ax5:∀ (f m a n:Nat) (h:Aa),f<m->a<256 ^ (f+1)->n+f<=100->f<=10 ->
 F4 K m (Nk .i64 a) (Nk .i64 n) h=Oi K (Nk .i64 (a / 256 ^ (wd f a-1))) (Nk .i64 (n+wd f a-1)) h:=by
 intro f
 induction f with
 | zero=>
  intro m a n h hm ha hn hf
  obtain⟨m,rfl⟩:∃ k,m=k+1:=⟨m-1,by omega⟩
  have:a / 256=0:=by simp at ha;omega
  simp only[F4]
  rw[Ajb,this]
  simp only[Nk,Af]
  rw[show decide ((0:Int)<Int.ofNat 0)=false from rfl]
  simp only[Ab,wd,Nat.sub_self,Nat.pow_zero,Nat.div_one,Nat.add_sub_cancel]
 | succ f ih=>
  intro m a n h hm ha hn hf
  obtain⟨m,rfl⟩:∃ k,m=k+1:=⟨m-1,by omega⟩
  simp only[F4]
  rw[Ajb]
  simp only[Nk,Af]
  unfold wd
  by_cases h0:a / 256=0
  ·rw[if_pos h0,h0]
   rw[show decide ((0:Int)<Int.ofNat 0)=false from rfl]
   simp only[Ab,Nat.sub_self,Nat.pow_zero,Nat.div_one,Nat.add_sub_cancel]
  ·rw[if_neg h0,show decide ((0:Int)<Int.ofNat (a / 256))=true from decide_eq_true (by show (0:Int)<((a / 256:Nat):Int);omega)]
   simp only[Ab,Ae9]
   rw[Ajb]
   simp only[Nk,Af]
   rw[show Cv .i64 (Int.ofNat n+1)=Int.ofNat (n+1) from Cq (by show _<=((n:Nat):Int)+1;omega) (by show ((n:Nat):Int)+1<=_;omega)]
   have e:=ih m (a / 256) (n+1) h (by omega) (Nat.div_lt_of_lt_mul (by rw[Nat.mul_comm,<-Nat.pow_succ];exact ha)) (by omega) (by omega)
   rw[e]
   have hw:1<=wd f (a / 256):=by cases f <;> unfold wd <;> (try split) <;> omega
   obtain⟨u,hu⟩:∃ u,wd f (a / 256)=u+1:=⟨wd f (a / 256)-1,by omega⟩
   rw[hu,Nat.add_sub_cancel,show u+1+1-1=u+1 from rfl,Nat.pow_succ',Nat.div_div_eq_div_mul,show n+1+(u+1)-1=n+(u+1+1)-1 by omega]
def Ack(a:Nat):Nat:=if 7<wd 7 a then 8 else wd 7 a
theorem A15 {a:Nat}(ha:a<9223372036854775808)(hK:1000<K)(h:Aa):Oj K (.int .i64 (Int.ofNat a)) h=some (Nk .i64 (Ack a),h):=by
 unfold Oj Ack
 have e:=Ax5 (K:=K) 7 K a 1 h (by omega) (Nat.lt_trans ha (by decide)) (by decide) (by decide)
 have:(EV.int .i64 1)=Nk .i64 1:=rfl
 rw[this,e]
 have hw:1<=wd 7 a:=by unfold wd;split <;> omega
 simp only[Oi,Nk,Af]
 rw[show decide (Int.ofNat (a / 256 ^ (wd 7 a-1))<0)=false from decide_eq_false (by show ¬ (((a / 256 ^ (wd 7 a-1):Nat):Int)<0);exact Int.not_lt.2 (Int.natCast_nonneg _))]
 rw[show 1+wd 7 a-1=wd 7 a by omega]
 by_cases h7:7<wd 7 a
 ·rw[show decide ((7:Int)<Int.ofNat (wd 7 a))=true from decide_eq_true (by show (7:Int)<((wd 7 a:Nat):Int);omega),if_pos h7]
  simp only[Ab,Oq]
  rfl
 ·rw[show decide ((7:Int)<Int.ofNat (wd 7 a))=false from decide_eq_false (by show ¬ ((7:Int)<((wd 7 a:Nat):Int));omega),if_neg h7]
  simp only[Ab,Oq,Adx]
theorem A2b {a:Nat}(hK:1000<K)(h:Aa):Oj K (.int .i64 (Int.negSucc a)) h=some (I 8,h):=by
 obtain⟨m,rfl⟩:∃ k,K=k+1:=⟨K-1,by omega⟩
 unfold Oj
 simp only[F4]
 have e:∀ k:EV->R,Lt (bin TT .shr 3) (.int .i64 (Int.negSucc a)) (.int .u64 8) k=k (.int .i64 ((Int.negSucc a).fdiv 256)):=fun k=>rfl
 have hneg:(Int.negSucc a).fdiv 256<0:=by
  rw[Int.fdiv_eq_ediv_of_nonneg _ (by decide)]
  have:Int.negSucc a<0:=Int.negSucc_lt_zero a
  omega
 rw[e]
 simp only[Af]
 rw[show decide ((0:Int)<(Int.negSucc a).fdiv 256)=false from decide_eq_false (by omega)]
 simp only[Ab,Oi,Af]
 rw[show decide (Int.negSucc a<0)=true from decide_eq_true (Int.negSucc_lt_zero a)]
 simp only[Ab,Oq,I]
theorem A12 {a w:Nat}(ha:a<9223372036854775808)(h1:1<=w)(h7:w<=7):Ack a<=w ↔ a<256 ^ w:=by
 have:=A8h 7 a w (Nat.lt_trans ha (by decide)) h1
 rw[<-this]
 unfold Ack
 split <;> omega
def Sj(w a:Nat):List Nat:=(List.range w).map fun i=>a / 256 ^ i % 256
theorem Avi(w a:Nat):Sj (w+1) a=Sj w a++[a / 256 ^ w % 256]:=by unfold Sj;rw[List.range_succ,List.map_append];rfl
theorem Gz(w a:Nat):(Sj w a).length=w:=by simp[Sj]
theorem Atd(a b:List Nat):Bj (a++b)=Bj a++Bj b:=List.map_append
theorem Bt(a:List Nat):(Bj a).length=a.length:=List.length_map _
structure Am6(h:Aa)(P t:Nat)(out:List Nat)(bad:Bool):Prop where
 O1:∃ s q,h.get P=some (.cells [s,.bool bad] t)/\B7 h s q 5 1 out.length (Bj out)/\(0<out.length->P<q)
theorem Acy(n:Int)(h:Aa):L9 K (I n) h=some (.bool (decide (1<=n/\n<=7)),h):=by
 simp only[L9,I,Af,Ab]
 by_cases h1:1<=n
 ·simp only[h1,decide_true,Ab,Af,Qc,true_and]
 ·simp only[h1,decide_false,Ab,Qc,false_and]
theorem A3z {P t w:Nat}{bad:Bool}{a:Nat}(ha:a<9223372036854775808)(hw:w<=7){out:List Nat}(ho:out.length<=60000)(h0:Aa)(hP:P<h0.next):∀ (m i:Nat) (h:Aa),w-i<m->i<=w->HB h->A0 (fun i=>P<=i) h0 h->Am6 h P t (out++Sj i a) bad ->
 Ok (Gk K m (.ptr P 0) (Nk .i64 (a / 256 ^ i)) (I w) (I i) h) fun _ h'=>Am6 h' P t (out++Sj w a) bad/\A0 (fun i=>P<=i) h0 h'/\HB h':=by
 intro m
 induction m with
 | zero=>intro i h hm;omega
 | succ m ih=>
  intro i h hm hi hb c p
  obtain⟨s,q,g,r,l⟩:=p.O1
  simp only[Gk,I,Af,Ab]
  by_cases hlt:(i:Int)<w
  ·simp only[hlt,decide_true,Ab,Aap,B8 g rfl]
   rw[wrap_u8]
   have hlen:(out++Sj i a).length=out.length+i:=by rw[List.length_append,Gz]
   refine S2 (z:=[.int .u8 0]) r hb rfl rfl rfl (by omega) (by omega) ?_
   intro h2 r2 n2 c2
   have gq:¬ (0<(out++Sj i a).length/\P=q):=fun y=>by have:=l y.1;omega
   have g2:=c2.at hb g gq
   have lP:=(c2.hb hb) _ _ g2
   refine Ok.st1 g2 rfl rfl (by show 0<2;decide) ?_
   rw[Ajb]
   simp only[Z8,I,Af]
   rw[Cq (by omega) (by omega),Nat.div_div_eq_div_mul,<-Nat.pow_succ]
   have c3:A0 (fun i=>P<=i) h (h2.put P (.cells ([s,EV.bool bad].set 0 (.slice (h.next+1) 0 ((out++Sj i a).length+1) ((out++Sj i a).length+1) true)) t)):=(c2.mono fun j hj=>by have:=l hj.1;show P<=j;omega).Az (.inl (Nat.le_refl _)) lP _
   refine ih (i+1) _ (by omega) (by omega) ((c2.hb hb).put lP _) (c.trans c3) ?_
   rw[Avi,<-List.append_assoc]
   refine⟨_,h.next+1,Ah _ _ _,?_,fun _=>by have:=c.next;omega⟩
   have e1:((out++Sj i a)++[a / 256 ^ i % 256]).length=(out++Sj i a).length+1:=by rw[List.length_append];rfl
   have e2:Bj ((out++Sj i a)++[a / 256 ^ i % 256])=Bj (out++Sj i a)++EV.cells (Nk .u8 (a / 256 ^ i % 256)):=by rw[Atd];rfl
   rw[e1,e2]
   refine r2.frame fun _=>Aq _ ?_
   have:=hb _ _ g;omega
  ·have:i=w:=by omega
   subst this
   simp only[hlt,decide_false,Ab]
   exact .ret ⟨p,c,hb⟩
def fits(w:Nat)(v:Int):Bool:=decide (0<=v/\v<(256 ^ w:Nat))
theorem Js {P t w:Nat}{bad:Bool}{out:List Nat}(hK:1000<K){h:Aa}(p:Am6 h P t out bad)(hb:HB h)(ho:out.length<=60000)(h1:1<=w)(h7:w<=7){v:Int}(hv : -9223372036854775808<=v/\v<=9223372036854775807):
 Ok (Dj K (.ptr P 0) (I w) (I v) h) fun _ h'=>Am6 h' P t (if fits w v=true then out++Sj w v.toNat else out) (bad || !fits w v)/\A0 (fun i=>P<=i) h h'/\HB h':=by
 obtain⟨s,q,g,r,l⟩:=p.O1
 have lP:=hb _ _ g
 simp only[Dj]
 rw[Acy,decide_eq_true ⟨by omega,by omega⟩]
 simp only[Ab,Af]
 have no:fits w v=false->Ok (D5 1 (.ptr P 1) (.bool true) h fun h=>some (.tuple [],h)) fun _ h'=>Am6 h' P t (if fits w v=true then out++Sj w v.toNat else out) (bad || !fits w v)/\A0 (fun i=>P<=i) h h'/\HB h':=by
  intro hf
  refine Ok.st1 g rfl rfl (by show 1<2;decide) ?_
  refine .ret ⟨?_,(A0.refl (S:=fun i=>P<=i) h).Az (.inl (Nat.le_refl _)) lP _,hb.put lP _⟩
  rw[hf,if_neg (by simp),Bool.not_false,Bool.or_true]
  exact⟨s,q,Ah _ _ _,r.frame fun y=>Aq _ (by have:=l y;omega),l⟩
 cases v with
 | negSucc a=>
  unfold I
  rw[A2b hK,A9]
  simp only[I,Af]
  rw[show decide ((w:Int)<8)=true from decide_eq_true (by omega)]
  simp only[Ab,Lk]
  exact no (decide_eq_false fun y=>absurd y.1 (by have:=Int.negSucc_lt_zero a;omega))
 | ofNat a=>
  have ha:a<9223372036854775808:=by have:((a:Nat):Int)<=9223372036854775807:=hv.2;omega
  unfold I
  rw[A15 ha hK,A9]
  have hfit:=A12 ha h1 h7
  simp only[Nk,Af]
  by_cases hw:Ack a<=w
  ·have hf:fits w (Int.ofNat a)=true:=decide_eq_true ⟨Int.natCast_nonneg a,by have:=hfit.1 hw;exact Int.ofNat_lt.2 this⟩
   rw[show decide ((w:Int)<Int.ofNat (Ack a))=false from decide_eq_false (by show ¬ (w:Int)<((Ack a:Nat):Int);omega)]
   simp only[Ab,Lk,Aa0]
   have:=A3z (K:=K) (P:=P) (t:=t) (w:=w) (bad:=bad) ha h7 ho h lP K 0 h (by omega) (Nat.zero_le _) hb (A0.refl _) (by simpa [Sj] using p)
   rw[Nat.pow_zero,Nat.div_one]at this
   rw[hf,if_pos rfl,Bool.not_true,Bool.or_false]
   exact this
  ·rw[show decide ((w:Int)<Int.ofNat (Ack a))=true from decide_eq_true (by show (w:Int)<((Ack a:Nat):Int);omega)]
   simp only[Ab,Lk]
   exact no (decide_eq_false fun y=>hw (hfit.2 (Int.ofNat_lt.1 y.2)))
theorem Ajn {P t n:Nat}{bad:Bool}{out new:List Nat}{h:Aa}(p:Am6 h P t out bad)(hb:HB h)(ho:out.length<=60000){x:EV}(hx:lenOf x=some n)(h0:0<n)(hn:n<=5000)(hc:Kb h 1 n x=some (Bj new))(hl:new.length=n):
 Ok (Nc K (.ptr P 0) x h) fun _ h'=>Am6 h' P t (out++new) bad/\A0 (fun i=>P<=i) h h'/\HB h':=by
 obtain⟨s,q,g,r,l⟩:=p.O1
 have lP:=hb _ _ g
 simp only[Nc,Ab,B8 g rfl]
 obtain⟨h2,e,r2,n2,c2⟩:=S3 r hx h0 (by omega) (by omega) hc (by rw[Bt,hl,Nat.mul_one])
 rw[e,A9]
 have gq:¬ (0<out.length/\P=q):=fun y=>by have:=l y.1;omega
 have g2:=c2.at hb g gq
 have lP2:=(c2.hb hb) _ _ g2
 try simp only[Ab]
 refine Ok.st1 g2 rfl rfl (by show 0<2;decide) ?_
 refine .ret ⟨⟨_,h.next,Ah _ _ _,?_,fun _=>by omega⟩,(c2.mono fun j hj=>by have:=l hj.1;show P<=j;omega).Az (.inl (Nat.le_refl _)) lP2 _,(c2.hb hb).put lP2 _⟩
 rw[List.length_append,hl,Atd]
 exact r2.frame fun _=>Aq _ (by omega)
end Go.Ev

namespace Go.Ev
open Go.Proofs
set_option maxRecDepth 100000
variable {K:Nat}
structure Bs(h:Aa)(x:EV)(b off:Nat)(l:List Nat):Prop where
 O1:∃ r op o row,x=.slice b off l.length r op/\l.length<=r/\h.get b=some o/\rowOf o=some row/\off+l.length<=row.length/\(row.drop off).take l.length=Bj l
theorem Bs.frame {h h':Aa}{x:EV}{b off:Nat}{l:List Nat}(s:Bs h x b off l)(e:h'.get b=h.get b):Bs h' x b off l:=by
 obtain⟨r,op,o,row,e1,e0,e2,e3,e4,e5⟩:=s.O1
 exact⟨r,op,o,row,e1,e0,by rw[e];exact e2,e3,e4,e5⟩
theorem Bs.lt {h:Aa}{x:EV}{b off:Nat}{l:List Nat}(s:Bs h x b off l)(hb:HB h):b<h.next:=by
 obtain⟨r,op,o,row,e1,e0,e2,e3,e4,e5⟩:=s.O1
 exact hb _ _ e2
theorem Bs.ext {h h':Aa}{x:EV}{b off:Nat}{l:List Nat}(s:Bs h x b off l)(hb:HB h)(c:Ext h h'):Bs h' x b off l:=s.frame (c.get _ (s.lt hb) id)
theorem Bs.lift {h:Aa}{x:EV}{b off:Nat}{l:List Nat}(s:Bs h x b off l):Bs h.lift x b off l:=s.frame (C5 _ _)
theorem Bs.len {h:Aa}{x:EV}{b off:Nat}{l:List Nat}(s:Bs h x b off l):lenOf x=some l.length:=by
 obtain⟨r,op,o,row,rfl,_⟩:=s.O1;rfl
theorem Bs.Hg {h:Aa}{x:EV}{b off:Nat}{l:List Nat}(s:Bs h x b off l)(k:EV->R):Ev.Hg x k=k (I l.length):=by
 obtain⟨r,op,o,row,rfl,_⟩:=s.O1;rfl
theorem Bs.cells {h:Aa}{x:EV}{b off:Nat}{l:List Nat}(s:Bs h x b off l):Kb h 1 l.length x=some (Bj l):=by
 obtain⟨r,op,o,row,rfl,e0,e2,e3,e4,e5⟩:=s.O1
 show As (Nat.beq l.length 0) (some []) (Ph h b off (Nat.mul l.length 1))=_
 rw[show Nat.mul l.length 1=l.length from Nat.mul_one _]
 have hc:Of row off l.length=some (Bj l):=by rw[Ff e4,e5]
 cases hl:l with
 | nil=>rfl
 | cons a r=>
  rw[show Nat.beq (a::r).length 0=false from rfl,Ax]
  unfold Ph
  rw[e2,<-hl]
  cases o <;> first|(cases e3;done)|(cases e3;exact hc)
theorem Bs.ix {h:Aa}{x:EV}{b off:Nat}{l:List Nat}(s:Bs h x b off l){i:Nat}(hi:i<l.length):(∀ k:EV->R,It 1 x (.int .i64 (i:Int)) k=k (.ptr b (off+i)))/\(∀ k:EV->R,Al (.ptr b (off+i)) h k=k (Nk .u8 l[i])):=by
 obtain⟨r,op,o,row,rfl,e0,e2,e3,e4,e5⟩:=s.O1
 refine⟨fun k=>by rw[Zw hi,Nat.mul_one],fun k=>?_⟩
 rw[B8 e2 e3]
 have:row[off+i]? = some (Nk .u8 l[i]):=by
  have e5:=congrArg (fun z=>z[i]?) e5
  simp only[List.getElem?_take,hi,if_true,List.getElem?_drop]at e5
  rw[e5]
  unfold Bj
  rw[List.getElem?_map,List.getElem?_eq_getElem hi];rfl
 rw[this];rfl
theorem Bs.take {h:Aa}{x:EV}{b off:Nat}{l:List Nat}(s:Bs h x b off l){n:Nat}(hn:n<=l.length):∃ y,(∀ k:EV->R,R9 1 x none (some (.int .i64 (n:Int))) none k=k y)/\Bs h y b off (l.take n):=by
 obtain⟨r,op,o,row,rfl,e0,e2,e3,e4,e5⟩:=s.O1
 have hl:(l.take n).length=n:=by rw[List.length_take,Nat.min_eq_left hn]
 refine⟨EV.slice b off n r op,fun k=>?_,⟨r,op,o,row,by rw[hl],by rw[hl];omega,e2,e3,by rw[hl];omega,?_⟩⟩
 ·have:slc (EV.slice b off l.length r op) 1 none (some (.int .i64 (n:Int))) none=some (EV.slice b off n r op):=by
   have hbd:bound (some (.int .i64 (n:Int))) r l.length=some n:=by
    show As (Nat.ble n r) (some n) none=_
    rw[Nat.ble_eq_true_of_le (by omega),Ak]
   unfold slc
   simp only[hbd]
   cases op with
   | true=>rfl
   | false=>
    show As (Nat.ble 0 r) (some (EV.slice b (As (Nat.beq r 0) off (Nat.add off (Nat.mul 0 1))) n r false)) none=_
    rw[Nat.ble_eq_true_of_le (Nat.zero_le _),Ak]
    have:As (Nat.beq r 0) off (Nat.add off (Nat.mul 0 1))=off:=by
     rw[show Nat.add off (Nat.mul 0 1)=off from rfl];cases Nat.beq r 0 <;> rfl
    rw[this]
  unfold R9;rw[this];rfl
 ·rw[hl]
  have:=congrArg (fun z=>z.take n) e5
  simp only[List.take_take,Nat.min_eq_left hn]at this
  rw[this];unfold Bj;rw[List.map_take]
theorem Bs.drop {h:Aa}{b off:Nat}{l:List Nat}{r:Nat}{op:Bool}(s:Bs h (.slice b off l.length r op) b off l){n:Nat}(hn:n<l.length):(∀ k:EV->R,R9 1 (.slice b off l.length r op) (some (.int .i64 (n:Int))) none none k=k (.slice b (off+n) (l.length-n) (r-n) op))/\Bs h (.slice b (off+n) (l.length-n) (r-n) op) b (off+n) (l.drop n):=by
 obtain⟨r',op',o,row,e1,e0,e2,e3,e4,e5⟩:=s.O1
 injection e1 with _ _ _ a1 a2
 subst a1 a2
 have hl:(l.drop n).length=l.length-n:=by rw[List.length_drop]
 refine⟨fun k=>?_,⟨r-n,op,o,row,by rw[hl],by rw[hl];omega,e2,e3,by rw[hl];omega,?_⟩⟩
 ·have:slc (.slice b off l.length r op) 1 (some (.int .i64 (n:Int))) none none=some (.slice b (off+n) (l.length-n) (r-n) op):=by
   have hbd:bound (some (.int .i64 (n:Int))) l.length 0=some n:=by
    show As (Nat.ble n l.length) (some n) none=_
    rw[Nat.ble_eq_true_of_le (by omega),Ak]
   have hb2:bound none r l.length=some l.length:=rfl
   unfold slc
   simp only[hbd,hb2]
   cases op with
   | true=>
    rw[Ak]
    cases n with
    | zero=>rfl
    | succ n=>
     rw[show Nat.beq (n+1) 0=false from rfl,Ax,Nat.ble_eq_true_of_le (by show n+1+1<=r;omega),Ak,show Nat.mul (n+1) 1=n+1 from Nat.mul_one _]
     rfl
   | false=>
    rw[Ax,Nat.ble_eq_true_of_le (by show n<=r;omega),Ak,show Nat.mul n 1=n from Nat.mul_one _]
    have:Nat.beq r n=false:=by
     cases hq:Nat.beq r n with
     | false=>rfl
     | true=>have:=Nat.eq_of_beq_eq_true hq;omega
    rw[this,Ax];rfl
  unfold R9;rw[this];rfl
 ·have:=congrArg (fun z=>z.drop n) e5
  rw[hl]
  simp only[List.drop_take,List.drop_drop]at this
  rw[this];unfold Bj;rw[List.map_drop]
theorem B7.bs {h:Aa}{s:EV}{q:Nat}{l:List Nat}(r:B7 h s q 5 1 l.length (Bj l))(hl:0<l.length):Bs h s q 0 l:=by
 refine⟨l.length,true,_,Bj l,r.slice hl,Nat.le_refl _,r.block hl,rfl,by rw[Bt,Nat.zero_add];exact Nat.le_refl _,?_⟩
 rw[List.drop_zero,<-Bt,List.take_length]
def Bbf:EV->Nat
 | .int _ x=>x.toNat
 | _=>0
noncomputable def Axb:List Nat:=A3.map Bbf
theorem A09:A3=Axb.map (Nk .u32):=by kernel_rfl
theorem A9h:Axb.all (fun n=>Nat.blt n 4294967296)=true:=by kernel_rfl
theorem A71:Axb.length=256:=by kernel_rfl
noncomputable def Aq2(r c:Nat):Nat:=(r / 256) ^^^ (Axb[(r % 256) ^^^ c]?).getD 0
theorem Aw5 {i:Nat}(hi:i<256):A3[i]? = some (Nk .u32 ((Axb[i]?).getD 0))/\(Axb[i]?).getD 0<4294967296:=by
 have hi':i<Axb.length:=by rw[A71];exact hi
 rw[A09,List.getElem?_map,List.getElem?_eq_getElem hi']
 refine⟨rfl,?_⟩
 have:=List.all_eq_true.1 A9h _ (List.getElem_mem hi')
 exact Nat.le_of_ble_eq_true this
theorem A7u {r c:Nat}(hr:r<4294967296)(hc:c<256):Aq2 r c<4294967296:=by
 unfold Aq2
 have h1:(r % 256) ^^^ c<2 ^ 8:=Nat.xor_lt_two_pow (n:=8) (Nat.mod_lt _ (by decide)) hc
 exact Nat.xor_lt_two_pow (n:=32) (by show r / 256<4294967296;omega) (Aw5 h1).2
theorem A74 {h:Aa}{r c:Nat}(hr:r<4294967296)(hc:c<256):Ok (Ot K We (Nk .u32 r) (Nk .u8 c) h) fun v h'=>v=Nk .u32 (Aq2 r c)/\Ext h h':=by
 unfold We
 simp only[Ot,Ab]
 have g3:(h.new (.cells A3 72)).get h.next=some (.cells A3 72):=Ac _ _
 have x1:Ext h (h.new (.cells A3 72)):=A0.new _ _
 generalize h.new (.cells A3 72)=h1 at g3 x1 ⊢
 rw[show ∀ k:EV->R,Lt (bin TT .shr 70) (Nk .u32 r) (.int .u64 8) k=k (Nk .u32 (r / 256)) from fun k=>Aj2 (s:=8) (by decide)]
 have h1':(r % 256) ^^^ c<256:=Nat.xor_lt_two_pow (n:=8) (Nat.mod_lt _ (by decide)) hc
 rw[wrap_u8,A3g (Nat.mod_lt _ (by decide)) hc,show ∀ k:EV->R,Adg 256 1 (.ptr h.next 0) (Nk .u8 ((r % 256) ^^^ c)) k=k (.ptr h.next (0+((r % 256) ^^^ c)*1)) from fun k=>Arz h1']
 rw[B8 g3 rfl,Nat.zero_add,Nat.mul_one,(Aw5 h1').1]
 simp only[Gl]
 rw[Ay6 (by omega) (Aw5 h1').2]
 exact .ret ⟨rfl,x1⟩
noncomputable def Ak9(r:Nat)(l:List Nat):Nat:=l.foldl Aq2 r
theorem Amv:∀ (l:List Nat) (r:Nat),r<4294967296->(∀ b ∈ l,b<256)->Ak9 r l<4294967296
 | [],r,hr,_=>hr
 | c::l,r,hr,hl=>Amv l (Aq2 r c) (A7u hr (hl c (List.mem_cons_self ..))) fun b hb=>hl b (List.mem_cons_of_mem _ hb)
theorem A1c {T b off:Nat}{x:EV}{l:List Nat}(hl:∀ b ∈ l,b<256)(hn:l.length<=5000){r0:Nat}(h0:r0<4294967296):∀ (m i:Nat) (h:Aa),l.length-i<m->i<=l.length->HB h->h.get T=some (.cells A3 72)->Bs h x b off l ->
 Ok (Ft K m (.ptr T 0) (Nk .u32 (Ak9 r0 (l.take i))) x (I l.length) (I i) h) fun v h'=>v=Nk .u32 (Ak9 r0 l)/\Ext h h':=by
 intro m
 induction m with
 | zero=>intro i h hm;omega
 | succ m ih=>
  intro i h hm hi hb gT s
  simp only[Ft,I,Af,Ab]
  by_cases hlt:(i:Int)<l.length
  ·have hin:i<l.length:=by omega
   obtain⟨e1,e2⟩:=s.ix hin
   simp only[hlt,decide_true,Ab,Yg,e1,e2,C0 gT rfl]
   rw[Av Tk]
   simp only[Gl]
   have htk:∀ b ∈ l.take i,b<256:=fun b hb=>hl b (List.mem_of_mem_take hb)
   refine(A74 (K:=K) (Amv _ _ h0 htk) (hl _ (List.getElem_mem hin))).Aj ?_
   rintro _ h1 ⟨rfl,x1⟩
   simp only[Yt,I,Af]
   rw[Cq (by omega) (by omega)]
   have e:Aq2 (Ak9 r0 (l.take i)) l[i]=Ak9 r0 (l.take (i+1)):=by
    unfold Ak9
    rw[List.take_add_one,List.foldl_append,List.getElem?_eq_getElem hin];rfl
   rw[e]
   refine(ih (i+1) h1 (by omega) (by omega) (x1.hb hb) (x1.at hb gT) (s.ext hb x1)).mono ?_
   rintro v h' ⟨e,x2⟩
   exact⟨e,x1.trans x2⟩
  ·have:i=l.length:=by omega
   subst this
   simp only[hlt,decide_false,Ab,Ra,List.take_length]
   exact .ret ⟨rfl,A0.refl _⟩
noncomputable def Du(l:List Nat):Nat:=Ak9 4294967295 l ^^^ 4294967295
theorem Att {l:List Nat}(hl:∀ b ∈ l,b<256):Du l<4294967296:=Nat.xor_lt_two_pow (n:=32) (Amv l _ (by decide) hl) (by decide)
theorem Atg {h:Aa}{x:EV}{b off:Nat}{l:List Nat}(hK:10000<K)(s:Bs h x b off l)(hb:HB h)(hl:∀ b ∈ l,b<256)(hn:l.length<=5000):Ok (H8 K We x h) fun v h'=>v=Nk .u32 (Du l)/\Ext h h':=by
 unfold We
 simp only[H8,Ab]
 have g3:(h.new (.cells A3 72)).get h.next=some (.cells A3 72):=Ac _ _
 have x1:Ext h (h.new (.cells A3 72)):=A0.new _ _
 generalize h.new (.cells A3 72)=h1 at g3 x1 ⊢
 have s1:=s.ext hb x1
 simp only[Xq,s1.Hg]
 refine(A1c (K:=K) hl hn (r0:=4294967295) (by decide) K 0 h1 (by omega) (Nat.zero_le _) (x1.hb hb) g3 s1).Aj ?_
 rintro _ h2 ⟨rfl,x2⟩
 rw[show ∀ k:EV->R,Lt (bin TT .xor 70) (Nk .u32 (Ak9 4294967295 l)) (.int .u32 4294967295) k=k (Nk .u32 (Du l)) from fun k=>Ay6 (b:=4294967295) (Amv l _ (by decide) hl) (by decide)]
 exact .ret ⟨rfl,x1.trans x2⟩
end Go.Ev

namespace Go.Ev
open Go.Proofs
set_option maxRecDepth 100000
variable {K:Nat}
theorem B7.cells {h:Aa}{s:EV}{q:Nat}{l:List Nat}(r:B7 h s q 5 1 l.length (Bj l)):Kb h 1 l.length s=some (Bj l):=by
 rcases Nat.eq_zero_or_pos l.length with h0|hp
 ·have:l = []:=List.length_eq_zero_iff.1 h0
  subst this
  rcases r with ⟨_,_,rfl|⟨b,rfl⟩⟩|⟨y,_⟩
  ·rfl
  ·rfl
  ·exact absurd y (Nat.lt_irrefl _)
 ·exact(r.bs hp).cells
theorem A8m {h:Aa}{P t:Nat}{out:List Nat}(p:Am6 h P t out true):Jj K (.ptr P 0) h=some (.tuple [.Ag,I 13],h):=by
 obtain⟨s,q,g,r,l⟩:=p.O1
 simp only[Jj,Ab,B8 g rfl,I]
theorem Av8 {h:Aa}{P t q:Nat}{s:EV}{out:List Nat}(g:h.get P=some (.cells [s,.bool false] t))(r:B7 h s q 5 1 out.length (Bj out))(hb:HB h)(ho:out.length<=60000):
 Ok (Jj K (.ptr P 0) h) fun v h'=>∃ y q',v=.tuple [y,I 0]/\B7 h' y q' 5 1 out.length (Bj out)/\Ext h h'/\HB h'/\(0<out.length->h.next<=q'):=by
 simp only[Jj,Ab,B8 g rfl,Aaa]
 rw[show B1 [(.int .u8 0)] 5 1 0 [] h=some (.slice h.next 0 0 0 false,h.new (.cells [] 5)) from rfl,A9]
 have x1:Ext h (h.new (.cells [] 5)):=A0.new _ _
 have g1:=x1.at hb g
 have r1:B7 (h.new (.cells [] 5)) s q 5 1 out.length (Bj out):=r.frame fun y=>x1.get _ (hb _ _ (r.block y)) id
 generalize h.new (.cells [] 5)=h1 at x1 g1 r1 ⊢
 simp only[Ab,B8 g1 rfl]
 refine(O7 (b:=h.next) (e:=5) r1.len (by omega) r1.cells (by rw[Bt,Nat.mul_one]) 0).Aj ?_
 rintro v h2 ⟨q',r2,x2,l2⟩
 refine .ret ⟨v,q',rfl,r2,x1.trans x2,(x1.trans x2).hb hb,fun y=>?_⟩
 have:=l2 y
 have:=x1.next
 omega
theorem Ao6 {h:Aa}{P t:Nat}{out:List Nat}(p:Am6 h P t out false)(hb:HB h)(ho:out.length<=60000):
 Ok (Jj K (.ptr P 0) h) fun v h'=>∃ y q',v=.tuple [y,I 0]/\B7 h' y q' 5 1 out.length (Bj out)/\Ext h h'/\HB h'/\(0<out.length->h.next<=q'):=by
 obtain⟨s,q,g,r,_⟩:=p.O1
 exact Av8 g r hb ho
theorem Bb7(s:Nat):Sj 4 s = [s % 256,s / 256 % 256,s / 65536 % 256,s / 16777216 % 256]:=by
 simp[Sj,List.range_succ]
theorem A8q(a b c d:Int)(h:Aa):B1 [(.int .u8 0)] 5 1 4 [(0,.int .u8 a),(1,.int .u8 b),(2,.int .u8 c),(3,.int .u8 d)] h=some (.slice h.next 0 4 4 false,h.new (.cells [.int .u8 a,.int .u8 b,.int .u8 c,.int .u8 d] 5)):=rfl
theorem A75 {h:Aa}{x:EV}{b off:Nat}{l:List Nat}(hK:10000<K)(s:Bs h x b off l)(hb:HB h)(hl:∀ b ∈ l,b<256)(h0:0<l.length)(hn:l.length<=5000):
 Ok (Q5 K We x h) fun v h'=>∃ q',B7 h' v q' 5 1 (l++Sj 4 (Du l)).length (Bj (l++Sj 4 (Du l)))/\Ext h h'/\HB h'/\h.next<=q':=by
 unfold We
 simp only[Q5,Ab]
 have g3:(h.new (.cells A3 72)).get h.next=some (.cells A3 72):=Ac _ _
 have x1:Ext h (h.new (.cells A3 72)):=A0.new _ _
 generalize h.new (.cells A3 72)=h1 at g3 x1 ⊢
 have hb1:=x1.hb hb
 rw[C0 g3 rfl,Av Tk]
 simp only[Gl]
 refine(Atg (K:=K) hK (s.ext hb x1) hb1 hl hn).Aj ?_
 rintro _ h2 ⟨rfl,x2⟩
 have hb2:=x2.hb hb1
 have s2:=(s.ext hb x1).ext hb1 x2
 rw[show B1 [(.int .u8 0)] 5 1 0 [] h2=some (.slice h2.next 0 0 0 false,h2.new (.cells [] 5)) from rfl,A9]
 have x3:Ext h2 (h2.new (.cells [] 5)):=A0.new _ _
 have s3:=s2.ext hb2 x3
 have n3:(h2.new (.cells [] 5)).next=h2.next+1:=rfl
 generalize h2.new (.cells [] 5)=h3 at x3 s3 n3 ⊢
 have hb3:=x3.hb hb2
 refine(O7 (b:=h2.next) (e:=5) s3.len (by omega) s3.cells (by rw[Bt,Nat.mul_one]) 0).Aj ?_
 rintro v h4 ⟨q',r4,x4,l4⟩
 have hb4:=x4.hb hb3
 rw[show ∀ k:EV->R,My .u8 (Nk .u32 (Du l)) k=k (Nk .u8 (Du l % 256)) from fun k=>Amr]
 rw[show ∀ k:EV->R,Lt (bin TT .shr 70) (Nk .u32 (Du l)) (.int .u64 8) k=k (Nk .u32 (Du l / 256)) from fun k=>Aj2 (s:=8) (by decide)]
 rw[show ∀ k:EV->R,My .u8 (Nk .u32 (Du l / 256)) k=k (Nk .u8 (Du l / 256 % 256)) from fun k=>Amr]
 rw[show ∀ k:EV->R,Lt (bin TT .shr 70) (Nk .u32 (Du l)) (.int .u64 16) k=k (Nk .u32 (Du l / 65536)) from fun k=>Aj2 (s:=16) (by decide)]
 rw[show ∀ k:EV->R,My .u8 (Nk .u32 (Du l / 65536)) k=k (Nk .u8 (Du l / 65536 % 256)) from fun k=>Amr]
 rw[show ∀ k:EV->R,Lt (bin TT .shr 70) (Nk .u32 (Du l)) (.int .u64 24) k=k (Nk .u32 (Du l / 16777216)) from fun k=>Aj2 (s:=24) (by decide)]
 rw[show ∀ k:EV->R,My .u8 (Nk .u32 (Du l / 16777216)) k=k (Nk .u8 (Du l / 16777216 % 256)) from fun k=>Amr]
 rw[A8q,A9]
 have x5:Ext h4 (h4.new (.cells (Bj (Sj 4 (Du l))) 5)):=A0.new _ _
 have e5:Bj (Sj 4 (Du l)) = [Nk .u8 (Du l % 256),Nk .u8 (Du l / 256 % 256),Nk .u8 (Du l / 65536 % 256),Nk .u8 (Du l / 16777216 % 256)]:=by rw[Bb7];rfl
 rw[e5]at x5
 have r5:B7 (h4.new (.cells [Nk .u8 (Du l % 256),Nk .u8 (Du l / 256 % 256),Nk .u8 (Du l / 65536 % 256),Nk .u8 (Du l / 16777216 % 256)] 5)) v q' 5 1 l.length (Bj l):=r4.frame fun y=>x5.get _ (hb4 _ _ (r4.block y)) id
 have g5:(h4.new (.cells [Nk .u8 (Du l % 256),Nk .u8 (Du l / 256 % 256),Nk .u8 (Du l / 65536 % 256),Nk .u8 (Du l / 16777216 % 256)] 5)).get h4.next=some (.cells [Nk .u8 (Du l % 256),Nk .u8 (Du l / 256 % 256),Nk .u8 (Du l / 65536 % 256),Nk .u8 (Du l / 16777216 % 256)] 5):=Ac _ _
 have n5:(h4.new (.cells [Nk .u8 (Du l % 256),Nk .u8 (Du l / 256 % 256),Nk .u8 (Du l / 65536 % 256),Nk .u8 (Du l / 16777216 % 256)] 5)).next=h4.next+1:=rfl
 generalize h4.new (.cells [Nk .u8 (Du l % 256),Nk .u8 (Du l / 256 % 256),Nk .u8 (Du l / 65536 % 256),Nk .u8 (Du l / 16777216 % 256)] 5)=h5 at x5 r5 g5 n5 ⊢
 have hc5:Kb h5 1 4 (.slice h4.next 0 4 4 false)=some (Bj (Sj 4 (Du l))):=by
  show Ph h5 h4.next 0 4=_
  unfold Ph V3
  rw[g5,e5];rfl
 obtain⟨h6,e6,r6,n6,c6⟩:=S3 r5 rfl (by decide) (by decide) (by omega) hc5 (by rw[Bt,Gz])
 rw[e6,A9]
 have hq:=l4 h0
 have x16:Ext h h6:=by
  refine((x1.trans x2).trans ((x3.trans x4).trans x5)).then c6 fun j hj hlt=>?_
  have:=x1.next;have:=x2.next;have:=hj.2;omega
 refine .ret ⟨h5.next,?_,x16,x16.hb hb,?_⟩
 ·rw[Atd,List.length_append,Gz];exact r6
 ·have:=x1.next;have:=x2.next;have:=x4.next;omega
theorem A9p {t a b:Nat}(k:EV->R):An Gv (bin TT .neq t) (Nk .u8 a) (Nk .u8 b) k=k (.bool (decide (¬ a=b))):=by
 show k (Gv .u8 (Int.ofNat a) (Int.ofNat b))=_
 rw[Ay1,Asr,Ais]
 exact congrArg (fun b=>k (.bool b)) (decide_eq_decide.2 (not_congr ⟨Int.ofNat.inj,congrArg _⟩))
noncomputable def Aoj(l:List Nat):Bool:=decide (Sj 4 (Du (l.take (l.length-4)))=l.drop (l.length-4))
def A8b(h:Aa)(l:List Nat)(v:EV)(h':Aa):Prop:=Ext h h'/\HB h'/\((Aoj l=false/\v=.tuple [.Ag,I 11])\/(Aoj l=true/\∃ y q',v=.tuple [y,I 0]/\B7 h' y q' 5 1 (l.take (l.length-4)).length (Bj (l.take (l.length-4)))/\h.next<=q'))
theorem A1i {x y:EV}{b off off':Nat}{l:List Nat}(h4:4<l.length)(hn:l.length<=5000)(hl:∀ b ∈ l,b<256)(h0:Aa):∀ (m i:Nat) (h:Aa),4-i<m->i<=4->HB h->Ext h0 h->Bs h x b off l->Bs h y b off' (l.drop (l.length-4))->(∀ j (hj:j<i),(l.drop (l.length-4))[j]? = some (Du (l.take (l.length-4)) / 256 ^ j % 256)) ->
 Ok (Fq K m x (I ((l.length-4:Nat):Int)) (Nk .u32 (Du (l.take (l.length-4)) / 256 ^ i)) y (I 4) (I i) h) (A8b h0 l):=by
 intro m
 have hd:(l.drop (l.length-4)).length=4:=by rw[List.length_drop];omega
 have hs:=Att (l:=l.take (l.length-4)) fun b hb=>hl b (List.mem_of_mem_take hb)
 induction m with
 | zero=>intro i h hm;omega
 | succ m ih=>
  intro i h hm hi hb x0 sx sy hj
  simp only[Fq,I,Af,Ab]
  by_cases hlt:(i:Int)<4
  ·have hin:i<(l.drop (l.length-4)).length:=by omega
   obtain⟨e1,e2⟩:=sy.ix hin
   simp only[hlt,decide_true,Ab,Yo,e1,e2]
   rw[wrap_u8]
   rw[A9p]
   by_cases hc:(l.drop (l.length-4))[i]=Du (l.take (l.length-4)) / 256 ^ i % 256
   ·simp only[hc,not_true_eq_false,decide_false,Ab,Y1]
    rw[show ∀ k:EV->R,Lt (bin TT .shr 70) (Nk .u32 (Du (l.take (l.length-4)) / 256 ^ i)) (.int .u64 8) k=k (Nk .u32 (Du (l.take (l.length-4)) / 256 ^ i / 256)) from fun k=>Aj2 (s:=8) (by decide)]
    simp only[Yl,I,Af]
    rw[Cq (by omega) (by omega),Nat.div_div_eq_div_mul,<-Nat.pow_succ]
    refine ih (i+1) h (by omega) (by omega) hb x0 sx sy fun j hj'=>?_
    by_cases hji:j=i
    ·subst hji;rw[List.getElem?_eq_getElem hin,hc]
    ·exact hj j (by omega)
   ·simp only[hc,not_false_eq_true,decide_true,Ab]
    refine .ret ⟨x0,hb,.inl ⟨decide_eq_false fun y=>hc ?_,rfl⟩⟩
    have:=congrArg (fun z=>z[i]?) y
    simp only[Sj]at this
    rw[List.getElem?_eq_getElem hin,List.getElem?_map,List.getElem?_range (by omega)]at this
    exact(Option.some.inj this).symm
  ·have:i=4:=by omega
   subst this
   simp only[hlt,decide_false,Ab,Rc]
   have ho:Aoj l=true:=decide_eq_true (by
    apply List.ext_getElem?
    intro j
    by_cases hj4:j<4
    ·rw[hj j hj4];unfold Sj;rw[List.getElem?_map,List.getElem?_range hj4];rfl
    ·rw[List.getElem?_eq_none (by rw[Gz];omega),List.getElem?_eq_none (by omega)])
   rw[show B1 [(.int .u8 0)] 5 1 0 [] h=some (.slice h.next 0 0 0 false,h.new (.cells [] 5)) from rfl,A9]
   have x3:Ext h (h.new (.cells [] 5)):=A0.new _ _
   have s3:=sx.ext hb x3
   have n3:(h.new (.cells [] 5)).next=h.next+1:=rfl
   generalize h.new (.cells [] 5)=h3 at x3 s3 n3 ⊢
   have hb3:=x3.hb hb
   obtain⟨w,e3,s4⟩:=s3.take (n:=l.length-4) (by omega)
   rw[e3]
   refine(O7 (b:=h.next) (e:=5) s4.len (by rw[List.length_take];omega) s4.cells (by rw[Bt,Nat.mul_one]) 0).Aj ?_
   rintro v h4' ⟨q',r4,x4,l4⟩
   refine .ret ⟨x0.trans (x3.trans x4),x4.hb hb3,.inr ⟨ho,v,q',rfl,r4,?_⟩⟩
   have:=l4 (by rw[List.length_take];omega)
   have:=x0.next
   omega
theorem A77 {h:Aa}{b off r:Nat}{op:Bool}{l:List Nat}(hK:10000<K)(s:Bs h (.slice b off l.length r op) b off l)(hb:HB h)(hl:∀ b ∈ l,b<256)(h4:4<l.length)(hn:l.length<=5000):
 Ok (Rp K We (.slice b off l.length r op) h) (A8b h l):=by
 unfold We
 simp only[Rp,Ab]
 have g3:(h.new (.cells A3 72)).get h.next=some (.cells A3 72):=Ac _ _
 have x1:Ext h (h.new (.cells A3 72)):=A0.new _ _
 generalize h.new (.cells A3 72)=h1 at g3 x1 ⊢
 have hb1:=x1.hb hb
 have s1:=s.ext hb x1
 have l3:=hb1 _ _ g3
 simp only[Af]
 rw[Cq (by omega) (by omega),show (l.length:Int)-4=((l.length-4:Nat):Int) by omega,show decide (((l.length-4:Nat):Int)<0)=false from decide_eq_false (by omega)]
 simp only[Ab,Ys,Au l3,Bg,C0 g3 rfl,Av Tk]
 obtain⟨w,e3,s4⟩:=s1.take (n:=l.length-4) (by omega)
 rw[e3]
 refine Ok.Ci (by kernel_rfl) (by kernel_rfl) (Atg (K:=K) hK s4.lift (D6 hb1) (fun b hb=>hl b (List.mem_of_mem_take hb)) (by rw[List.length_take];omega)) (fun _ _ p=>p.2) ?_
 rintro _ h2 h3 ⟨rfl,_⟩ sm x3
 have hb3:=x3.hb hb1
 obtain⟨e5,s5⟩:=(s1.ext hb1 x3).drop (n:=l.length-4) (by omega)
 rw[e5]
 simp only[Ab]
 have:=A1i (K:=K) (x:=.slice b off l.length r op) h4 hn hl h K 0 h3 (by omega) (by decide) hb3 (x1.trans x3) (s1.ext hb1 x3) s5 (fun j hj=>absurd hj (Nat.not_lt_zero _))
 rw[Nat.pow_zero,Nat.div_one]at this
 rw[show l.length-(l.length-4)=4 by omega]at this ⊢
 exact this
end Go.Ev

namespace Go.Ev
open Go.Proofs
set_option maxRecDepth 100000
variable {K:Nat}
structure Rd(h:Aa)(R q off:Nat)(l:List Nat):Prop where
 O1:∃ s,h.get R=some (.cells [s,.bool false] 316)/\lenOf s=some l.length/\(0<l.length->s=.slice q off l.length l.length true/\Bs h s q off l)
 ne:q<R
theorem Rd.ext {h h':Aa}{R q off:Nat}{l:List Nat}(d:Rd h R q off l)(hb:HB h)(c:Ext h h'):Rd h' R q off l:=by
 obtain⟨s,g,e,f⟩:=d.O1
 exact⟨⟨s,c.at hb g,e,fun y=>⟨(f y).1,(f y).2.ext hb c⟩⟩,d.ne⟩
theorem Aib {h:Aa}{x:EV}{b off:Nat}{l:List Nat}(s:Bs h x b off l)(hb:HB h)(h0:0<l.length)(hn:l.length<=5000):
 Ok (Aax K x h) fun v h'=>∃ R q,v=.ptr R 0/\Rd h' R q 0 l/\Ext h h'/\HB h'/\h.next<=q:=by
 simp only[Aax]
 rw[show B1 [(.int .u8 0)] 5 1 0 [] h=some (.slice h.next 0 0 0 false,h.new (.cells [] 5)) from rfl,A9]
 have x1:Ext h (h.new (.cells [] 5)):=A0.new _ _
 have s1:=s.ext hb x1
 generalize h.new (.cells [] 5)=h1 at x1 s1 ⊢
 have hb1:=x1.hb hb
 refine(O7 (b:=h.next) (e:=5) s1.len (by omega) s1.cells (by rw[Bt,Nat.mul_one]) 0).Aj ?_
 rintro v h2 ⟨q',r2,x2,l2⟩
 have hb2:=x2.hb hb1
 have hsl:=r2.slice h0
 subst hsl
 rw[Bi (l:=[.slice q' 0 l.length l.length true,.bool false]) rfl]
 simp only[Ab]
 have x3:Ext h2 (h2.new (.cells [.slice q' 0 l.length l.length true,.bool false] 316)):=A0.new _ _
 have bb:=(r2.bs h0).ext hb2 x3
 refine .ret ⟨h2.next,q',rfl,⟨⟨_,Ac _ _,rfl,fun _=>⟨rfl,bb⟩⟩,hb2 _ _ (r2.block h0)⟩,x1.trans (x2.trans x3),x3.hb hb2,?_⟩
 have:=l2 h0
 have:=x1.next
 omega
theorem Av2 {h:Aa}{R q off n:Nat}{l:List Nat}(d:Rd h R q off l)(hb:HB h)(h0:0<n)(hn:n<=l.length):
 Ok (G8 K (.ptr R 0) (I n) h) fun v h'=>Bs h' v q off (l.take n)/\Rd h' R q (off+n) (l.drop n)/\A0 (fun i=>i=R) h h'/\HB h':=by
 obtain⟨s,g,e,f⟩:=d.O1
 obtain⟨rfl,s1⟩:=f (by omega)
 have lR:=hb _ _ g
 have hne:R ≠ q:=by have:=d.ne;omega
 simp only[G8,Ab,B8 g rfl,Af,I]
 rw[show decide ((n:Int)<0)=false from decide_eq_false (by omega)]
 simp only[Ab,Oy,Af,B8 g rfl]
 rw[show decide ((l.length:Int)<(n:Int))=false from decide_eq_false (by omega)]
 simp only[Ab,Og,Uq,B8 g rfl]
 have e1:∀ k:EV->Go.Ev.R,R9 1 (.slice q off l.length l.length true) none (some (.int .i64 (n:Int))) (some (.int .i64 (n:Int))) k=k (.slice q off n n false):=fun k=>by
  have:slc (.slice q off l.length l.length true) 1 none (some (.int .i64 (n:Int))) (some (.int .i64 (n:Int)))=some (.slice q off n n false):=by
   have b1:bound (some (.int .i64 (n:Int))) l.length 0=some n:=by
    show As (Nat.ble n l.length) (some n) none=_
    rw[Nat.ble_eq_true_of_le hn,Ak]
   have b2:bound (some (.int .i64 (n:Int))) n 0=some n:=by
    show As (Nat.ble n n) (some n) none=_
    rw[Nat.ble_eq_true_of_le (Nat.le_refl _),Ak]
   unfold slc
   simp only[b1,b2]
   show some (EV.slice q (As (Nat.beq n 0) off (Nat.add off (Nat.mul 0 1))) n n false)=_
   rw[show Nat.add off (Nat.mul 0 1)=off from rfl]
   cases Nat.beq n 0 <;> rfl
  unfold R9;rw[this];rfl
 rw[e1]
 obtain⟨r',op',o,row,f1,f0,f2,f3,f4,f5⟩:=s1.O1
 have htl:(l.take n).length=n:=by rw[List.length_take,Nat.min_eq_left hn]
 have hdl:(l.drop n).length=l.length-n:=List.length_drop
 have bt:Bs h (.slice q off n n false) q off (l.take n):=by
  refine⟨n,false,o,row,by rw[htl],by rw[htl];exact Nat.le_refl _,f2,f3,by rw[htl];omega,?_⟩
  rw[htl]
  have:=congrArg (fun z=>z.take n) f5
  simp only[List.take_take,Nat.min_eq_left hn]at this
  rw[this];unfold Bj;rw[List.map_take]
 have put:∀ w:EV,(h.put R (.cells [w,.bool false] 316)).get q=h.get q:=fun w=>Aq _ hne
 rcases Nat.lt_or_ge n l.length with hlt|hge
 ·obtain⟨e2,s2⟩:=s1.drop hlt
  rw[e2]
  refine Ok.st1 g rfl rfl (by show 0<2;decide) ?_
  refine .ret ⟨bt.frame (put _),⟨⟨_,Ah _ _ _,by rw[hdl];rfl,fun _=>⟨by rw[hdl],s2.frame (put _)⟩⟩,d.ne⟩,(A0.refl (S:=fun i=>i=R) h).Az (.inl rfl) lR _,hb.put lR _⟩
 ·have hnl:n=l.length:=by omega
  subst hnl
  have e2:∀ k:EV->Go.Ev.R,R9 1 (.slice q off l.length l.length true) (some (.int .i64 (l.length:Int))) none none k=k (.tail q (off+l.length) off):=fun k=>by
   have:slc (.slice q off l.length l.length true) 1 (some (.int .i64 (l.length:Int))) none none=some (.tail q (off+l.length) off):=by
    have b1:bound (some (.int .i64 (l.length:Int))) l.length 0=some l.length:=by
     show As (Nat.ble l.length l.length) (some l.length) none=_
     rw[Nat.ble_eq_true_of_le (Nat.le_refl _),Ak]
    have b2:bound none l.length l.length=some l.length:=rfl
    unfold slc
    simp only[b1,b2]
    rw[Ak]
    have z1:Nat.beq l.length 0=false:=by
     cases hq:Nat.beq l.length 0 with
     | false=>rfl
     | true=>have:=Nat.eq_of_beq_eq_true hq;omega
    have z2:Nat.ble (Nat.succ l.length) l.length=false:=by
     cases hq:Nat.ble (Nat.succ l.length) l.length with
     | false=>rfl
     | true=>have:=Nat.le_of_ble_eq_true hq;omega
    rw[z1,Ax,z2,Ax,Nat.beq_refl,Ak,Ak,show Nat.mul l.length 1=l.length from Nat.mul_one _]
    rfl
   unfold R9;rw[this];rfl
  rw[e2]
  refine Ok.st1 g rfl rfl (by show 0<2;decide) ?_
  refine .ret ⟨bt.frame (put _),⟨⟨_,Ah _ _ _,by rw[hdl,Nat.sub_self];rfl,fun y=>by rw[hdl,Nat.sub_self]at y;exact absurd y (Nat.lt_irrefl _)⟩,d.ne⟩,(A0.refl (S:=fun i=>i=R) h).Az (.inl rfl) lR _,hb.put lR _⟩
def Q3:List Nat->Nat
 | []=>0
 | b::r=>b+256*Q3 r
theorem Atv:∀ (a:List Nat) (b:Nat),Q3 (a++[b])=Q3 a+256 ^ a.length*b
 | [],b=>by simp[Q3]
 | x::a,b=>by
  have:=Atv a b
  simp only[List.cons_append,Q3,this,List.length_cons,Nat.pow_succ]
  rw[Nat.mul_add,<-Nat.add_assoc,Nat.mul_comm (256 ^ a.length) 256,Nat.mul_assoc]
theorem Ax2:∀ (a:List Nat),(∀ b ∈ a,b<256)->Q3 a<256 ^ a.length
 | [],_=>by simp[Q3]
 | x::a,h=>by
  have h1:=h x (List.mem_cons_self ..)
  have h2:=Ax2 a fun b hb=>h b (List.mem_cons_of_mem _ hb)
  simp only[Q3,List.length_cons,Nat.pow_succ]
  omega
theorem wrap_u64(a:Nat):Cv .u64 (Int.ofNat a)=Int.ofNat (a % 18446744073709551616):=by
 rw[Lp]
 rfl
theorem A7p {t a s:Nat}(hs:s<=64)(hb:a*2 ^ s<9223372036854775808){k:EV->Go.Ev.R}:Lt (bin TT .shl t) (.int .i64 (Int.ofNat a)) (.int .u64 (Int.ofNat s)) k=k (Nk .i64 (a*2 ^ s)):=by
 show k (.int .i64 (Cv .i64 (Int.mul (.ofNat a) (.ofNat (Nat.pow 2 (As (Nat.ble s 64) s 64))))))=_
 rw[Nat.ble_eq_true_of_le hs,Ak]
 have:Int.mul (.ofNat a) (.ofNat (Nat.pow 2 s))=((a*2 ^ s:Nat):Int):=rfl
 rw[this,Cq (by omega) (by omega)];rfl
theorem A81 {t a b:Nat}(h:a ||| b<9223372036854775808){k:EV->Go.Ev.R}:Lt (bin TT .or t) (.int .i64 (Int.ofNat a)) (.int .i64 (Int.ofNat b)) k=k (Nk .i64 (a ||| b)):=by
 show k (.int .i64 (Cv .i64 (.ofNat (Nat.lor a b))))=_
 have:Int.ofNat (Nat.lor a b)=((a ||| b:Nat):Int):=rfl
 rw[this,Cq (by omega) (by omega)];rfl
theorem A5i {b off:Nat}{x:EV}{l:List Nat}(hl:∀ b ∈ l,b<256)(h7:l.length<=7):∀ (m i:Nat) (h:Aa),l.length-i<m->i<=l.length->Bs h x b off l ->
 Eb K m (Nk .i64 (Q3 (l.take i))) x (I l.length) (I i) h=some (Nk .i64 (Q3 l),h):=by
 intro m
 induction m with
 | zero=>intro i h hm;omega
 | succ m ih=>
  intro i h hm hi s
  simp only[Eb,I,Af,Ab]
  by_cases hlt:(i:Int)<l.length
  ·have hin:i<l.length:=by omega
   obtain⟨e1,e2⟩:=s.ix hin
   have hb:=hl _ (List.getElem_mem hin)
   simp only[hlt,decide_true,Ab,Vv,e1,e2,Af]
   have hp:(256:Nat) ^ i=2 ^ (8*i):=by rw[Nat.pow_mul]
   have hp6:(256:Nat) ^ i<=256 ^ 6:=Nat.pow_le_pow_right (by decide) (by omega)
   have hp6:(256:Nat) ^ i<=281474976710656:=hp6
   have hmul:l[i]*256 ^ i<=255*281474976710656:=Nat.mul_le_mul (by omega) hp6
   rw[show Cv .i64 (Int.ofNat l[i])=Int.ofNat l[i] from Cq (by show _<=((l[i]:Nat):Int);omega) (by show ((l[i]:Nat):Int)<=_;omega)]
   rw[show (8:Int)*(i:Int)=((8*i:Nat):Int) by omega,Cq (by omega) (by omega)]
   rw[show Cv .u64 ((8*i:Nat):Int)=Int.ofNat (8*i) from by have:=wrap_u64 (8*i);rw[Nat.mod_eq_of_lt (by omega)]at this;exact this]
   rw[A7p (by omega) (by rw[<-hp];omega)]
   have ht:(l.take i).length=i:=by rw[List.length_take,Nat.min_eq_left hi]
   have hlow:Q3 (l.take i)<2 ^ (8*i):=by
    have:=Ax2 (l.take i) fun b hb=>hl b (List.mem_of_mem_take hb)
    rw[ht,hp]at this
    exact this
   have hor:Q3 (l.take i) ||| l[i]*2 ^ (8*i)=Q3 (l.take (i+1)):=by
    rw[List.take_add_one,List.getElem?_eq_getElem hin]
    show _=Q3 (l.take i++[l[i]])
    rw[Atv,ht,Nat.or_comm,Nat.mul_comm l[i],<-Nat.two_pow_add_eq_or_of_lt hlow,hp,Nat.add_comm]
   have hlt7:Q3 (l.take (i+1))<9223372036854775808:=by
    have:=Ax2 (l.take (i+1)) fun b hb=>hl b (List.mem_of_mem_take hb)
    have h2:(256:Nat) ^ (l.take (i+1)).length<=256 ^ 7:=Nat.pow_le_pow_right (by decide) (by rw[List.length_take];omega)
    have h3:(256:Nat) ^ 7=72057594037927936:=by decide
    omega
   rw[A81 (by rw[hor];exact hlt7),hor]
   simp only[Vf,I,Af]
   rw[Cq (by omega) (by omega)]
   exact ih (i+1) h (by omega) (by omega) s
  ·have:i=l.length:=by omega
   subst this
   simp only[hlt,decide_false,Ab,Pw,List.take_length]
theorem Xt {h:Aa}{R q off w:Nat}{l:List Nat}(d:Rd h R q off l)(hb:HB h)(hK:1000<K)(h1:1<=w)(h7:w<=7)(hn:w<=l.length)(hl:∀ b ∈ l,b<256):
 Ok (Ce K (.ptr R 0) (I w) h) fun v h'=>v=Nk .i64 (Q3 (l.take w))/\Rd h' R q (off+w) (l.drop w)/\A0 (fun i=>i=R) h h'/\HB h':=by
 simp only[Ce]
 rw[Acy,decide_eq_true ⟨by omega,by omega⟩]
 simp only[Ab,Vy]
 refine(Av2 (K:=K) d hb h1 hn).Aj ?_
 rintro v h2 ⟨s,d2,c2,hb2⟩
 rw[s.Hg]
 have ht:(l.take w).length=w:=by rw[List.length_take,Nat.min_eq_left hn]
 have:=A5i (K:=K) (l:=l.take w) (fun b hb=>hl b (List.mem_of_mem_take hb)) (by omega) K 0 h2 (by omega) (Nat.zero_le _) s
 rw[show EV.int .i64 0=Nk .i64 (Q3 ((l.take w).take 0)) from rfl]
 exact⟨_,_,this,rfl,d2,c2,hb2⟩
theorem Auv {h:Aa}{R q off n:Nat}{l:List Nat}(d:Rd h R q off l)(hb:HB h)(h0:0<n)(hn:n<=l.length):
 Ok (Jv K (.ptr R 0) (I n) h) fun v h'=>Bs h' v q off (l.take n)/\Rd h' R q (off+n) (l.drop n)/\A0 (fun i=>i=R) h h'/\HB h':=by
 simp only[Jv]
 refine(Av2 (K:=K) d hb h0 hn).Aj ?_
 intro v h2 p
 exact .ret p
theorem A6p {h:Aa}{R q off:Nat}(d:Rd h R q off []):Ob K (.ptr R 0) h=some (I 0,h):=by
 obtain⟨s,g,e,f⟩:=d.O1
 simp only[Ob,Ab,B8 g rfl,Af]
 have:∀ k:EV->Go.Ev.R,Hg s k=k (I 0):=fun k=>by unfold Hg;rw[e];rfl
 rw[this]
 simp only[I,Af]
 rfl
end Go.Ev

namespace Go.Ev
open Go.Proofs
set_option maxRecDepth 100000
variable {K:Nat}
structure Fr where
 kind:Int
 Ao:Int
 off:Int
 Ar:Int
 seq:Int
 body:List Nat
def Fr.cells(f:Fr):List EV:=[I f.kind,I f.Ao,I f.off,I f.Ar,I f.seq]++Bj f.body
structure Fr.Wf(f:Fr):Prop where
 len:f.body.length=44
 u8:∀ b ∈ f.body,b<256
def frB(f:Fr):Bool:=wi f.kind 1 5 && (wi f.Ao 0 65535 && (wi f.off 0 65535 && (wi f.Ar 1 4294967295 && wi f.seq 0 281474976710655)))
theorem Mw(n a b:Int)(h:Aa):Ku K (.int .i64 n) (.int .i64 a) (.int .i64 b) h=some (.bool (wi n a b),h):=by
 simp only[Ku,Af,Ab]
 by_cases h1:a<=n
 ·simp only[h1,decide_true,Ab,Af,Qd,wi,Bool.true_and]
 ·simp only[h1,decide_false,Ab,Qd,wi,Bool.false_and]
theorem Fr.B4 {f:Fr}(w:f.Wf):f.cells.length=49:=by
 unfold Fr.cells;rw[List.length_append,Bt,w.len];rfl
theorem Wu {h:Aa}(f:Fr):Ok (Ik K (.agg f.cells) h) fun v h'=>v=.bool (frB f)/\Ext h h':=by
 simp only[Ik,Ab]
 have x1:Ext h (h.new (.cells f.cells 120)):=A0.new _ _
 have g1:(h.new (.cells f.cells 120)).get h.next=some (.cells f.cells 120):=Ac _ _
 generalize h.new (.cells f.cells 120)=h1 at x1 g1 ⊢
 have l0:f.cells[0]? = some (I f.kind):=rfl
 have l1:f.cells[1]? = some (I f.Ao):=rfl
 have l2:f.cells[2]? = some (I f.off):=rfl
 have l3:f.cells[3]? = some (I f.Ar):=rfl
 have l4:f.cells[4]? = some (I f.seq):=rfl
 simp only[B8 g1 rfl,Ab,l0,I,Mw,Af]
 unfold frB
 cases wi f.kind 1 5 with
 | false=>simp only[Ab,Kh,Ia,Gh,Ex,Af];exact .ret ⟨rfl,x1⟩
 | true=>
 simp only[Ab,B8 g1 rfl,l1,I,Mw,Af,Kh]
 cases wi f.Ao 0 65535 with
 | false=>simp only[Ab,Ia,Gh,Ex,Af];exact .ret ⟨rfl,x1⟩
 | true=>
 simp only[Ab,B8 g1 rfl,l2,I,Mw,Af,Ia]
 cases wi f.off 0 65535 with
 | false=>simp only[Ab,Gh,Ex,Af];exact .ret ⟨rfl,x1⟩
 | true=>
 simp only[Ab,B8 g1 rfl,l3,I,Mw,Af,Gh]
 cases wi f.Ar 1 4294967295 with
 | false=>simp only[Ab,Ex,Af];exact .ret ⟨rfl,x1⟩
 | true=>
 simp only[Ab,B8 g1 rfl,l4,I,Mw,Af,Ex]
 exact .ret ⟨by simp only[Bool.true_and],x1⟩
def Akv(f:Fr):List Nat:=Sj 1 f.kind.toNat++Sj 1 1++Sj 2 f.Ao.toNat++Sj 2 f.off.toNat++Sj 4 f.Ar.toNat++Sj 6 f.seq.toNat++f.body
noncomputable def Oe(f:Fr):List Nat:=Akv f++Sj 4 (Du (Akv f))
theorem U6(w a:Nat):∀ b ∈ Sj w a,b<256:=fun b hb=>by
 unfold Sj at hb
 obtain⟨i,_,rfl⟩:=List.mem_map.1 hb
 exact Nat.mod_lt _ (by decide)
theorem Aal {f:Fr}(w:f.Wf):(Akv f).length=60:=by
 unfold Akv;simp only[List.length_append,Gz,w.len]
theorem Aom {f:Fr}(w:f.Wf):(Oe f).length=64:=by
 unfold Oe;rw[List.length_append,Aal w,Gz]
theorem Azt {f:Fr}(w:f.Wf):∀ b ∈ Akv f,b<256:=fun b hb=>by
 unfold Akv at hb
 simp only[List.mem_append]at hb
 rcases hb with (((((hb|hb)|hb)|hb)|hb)|hb)|hb
 ·exact U6 _ _ b hb
 ·exact U6 _ _ b hb
 ·exact U6 _ _ b hb
 ·exact U6 _ _ b hb
 ·exact U6 _ _ b hb
 ·exact U6 _ _ b hb
 ·exact w.u8 b hb
theorem A63 {f:Fr}(w:f.Wf):∀ b ∈ Oe f,b<256:=fun b hb=>by
 unfold Oe at hb
 rcases List.mem_append.1 hb with hb|hb
 ·exact Azt w b hb
 ·exact U6 _ _ b hb
theorem Ro {w:Nat}{v b:Int}(h0:0<=v)(hb:v<=b)(hw:b<(256 ^ w:Nat)):fits w v=true:=decide_eq_true ⟨h0,by omega⟩
theorem Al3 {h:Aa}{f:Fr}(w:f.Wf)(hr:frB f=true)(hb:HB h)(hK:10000<K):
 Ok (Wc K We (.agg f.cells) h) fun v h'=>v=.tuple [.agg (Bj (Oe f)),I 0]/\Ext h h':=by
 have hr':=hr
 simp only[frB,Bool.and_eq_true]at hr'
 obtain⟨r1,r2,r3,r4,r5⟩:=hr'
 obtain⟨a1,b1⟩:=Gt.1 r1
 obtain⟨a2,b2⟩:=Gt.1 r2
 obtain⟨a3,b3⟩:=Gt.1 r3
 obtain⟨a4,b4⟩:=Gt.1 r4
 obtain⟨a5,b5⟩:=Gt.1 r5
 have l0:f.cells[0]? = some (I f.kind):=rfl
 have l1:f.cells[1]? = some (I f.Ao):=rfl
 have l2:f.cells[2]? = some (I f.off):=rfl
 have l3:f.cells[3]? = some (I f.Ar):=rfl
 have l4:f.cells[4]? = some (I f.seq):=rfl
 have hfl:=Fr.B4 w
 unfold We
 simp only[Wc,Ab]
 have x1:Ext h (((h.new (.cells A3 72)).new (.cells f.cells 120)).new (.cells P7 103)):=((A0.new _ _).Fa _).Fa _
 have g2:(((h.new (.cells A3 72)).new (.cells f.cells 120)).new (.cells P7 103)).get h.next=some (.cells A3 72):=by
  rw[A4 _ (by show h.next<h.next+1+1;omega),A4 _ (Nat.lt_succ_self _)];exact Ac _ _
 have g3:(((h.new (.cells A3 72)).new (.cells f.cells 120)).new (.cells P7 103)).get (h.next+1)=some (.cells f.cells 120):=by
  rw[A4 _ (by show h.next+1<h.next+1+1;omega)];exact Ac _ _
 have g4:(((h.new (.cells A3 72)).new (.cells f.cells 120)).new (.cells P7 103)).get (h.next+2)=some (.cells P7 103):=Ac _ _
 have n1:(((h.new (.cells A3 72)).new (.cells f.cells 120)).new (.cells P7 103)).next=h.next+3:=rfl
 rw[show (h.new (.cells A3 72)).next=h.next+1 from rfl,show ((h.new (.cells A3 72)).new (.cells f.cells 120)).next=h.next+2 from rfl,show List.replicate 64 (EV.int .u8 0)=P7 from rfl]
 generalize ((h.new (.cells A3 72)).new (.cells f.cells 120)).new (.cells P7 103)=h1 at x1 g2 g3 g4 n1 ⊢
 have hb1:=x1.hb hb
 rw[C0 g3 rfl,Av hfl]
 simp only[Gl]
 refine(Wu (K:=K) f).Aj ?_
 rintro _ h2 ⟨rfl,x2⟩
 rw[hr]
 simp only[Ab,Ac1]
 have hb2:=x2.hb hb1
 have x12:=x1.trans x2
 have g2:=x2.at hb1 g2
 have g3:=x2.at hb1 g3
 have g4:=x2.at hb1 g4
 have n2:h.next+3<=h2.next:=by have:=x2.next;omega
 have p0:Am6 (h2.new (.cells [.Ag,.bool false] 278)) h2.next 278 [] false:=⟨.Ag,0,Ac _ _,.nil _ _ _ _,fun y=>absurd y (Nat.lt_irrefl _)⟩
 have x3:Ext h2 (h2.new (.cells [.Ag,.bool false] 278)):=A0.new _ _
 have g2:=x3.at hb2 g2
 have g3:=x3.at hb2 g3
 have g4:=x3.at hb2 g4
 have hb3:=x3.hb hb2
 have x13:=x12.trans x3
 generalize h2.new (.cells [.Ag,.bool false] 278)=h3 at p0 x3 g2 g3 g4 hb3 x13 ⊢
 generalize hP:h2.next=P at p0 n2 ⊢
 have up:∀ {ha hc:Aa},Ext h ha->A0 (fun i=>P<=i) ha hc->Ext h hc:=fun x c=>x.then c fun j hj hl=>by
  have hj:P<=j:=hj
  omega
 have lo:∀ {ha hc:Aa} {i:Nat} {o:Cs},A0 (fun i=>P<=i) ha hc->HB ha->ha.get i=some o->i<P->hc.get i=some o:=fun c hb g hi=>c.at hb g (by omega)
 simp only[B8 g3 rfl,l0]
 simp only[Gl]
 refine(Js (K:=K) (w:=1) (by omega) p0 hb3 (by simp) (by decide) (by decide) (v:=f.kind) (by omega)).Aj ?_
 rintro _ h5 ⟨p,c,hb5⟩
 rw[Ro (b:=5) (by omega) b1 (by decide),if_pos rfl]at p
 have x5:=up x13 c
 have g2:=lo c hb3 g2 (by omega)
 have g3:=lo c hb3 g3 (by omega)
 have g4:=lo c hb3 g4 (by omega)
 refine(Js (K:=K) (w:=1) (by omega) p hb5 (by simp[Gz]) (by decide) (by decide) (v:=1) (by omega)).Aj ?_
 rintro _ h6 ⟨p,c,hb6⟩
 rw[Ro (b:=1) (by omega) (Int.le_refl _) (by decide),if_pos rfl]at p
 have x6:=up x5 c
 have g2:=lo c hb5 g2 (by omega)
 have g3:=lo c hb5 g3 (by omega)
 have g4:=lo c hb5 g4 (by omega)
 simp only[Ab,B8 g3 rfl,l1]
 refine(Js (K:=K) (w:=2) (by omega) p hb6 (by simp[Gz]) (by decide) (by decide) (v:=f.Ao) (by omega)).Aj ?_
 rintro _ h7 ⟨p,c,hb7⟩
 rw[Ro (b:=65535) a2 b2 (by decide),if_pos rfl]at p
 have x7:=up x6 c
 have g2:=lo c hb6 g2 (by omega)
 have g3:=lo c hb6 g3 (by omega)
 have g4:=lo c hb6 g4 (by omega)
 simp only[Ab,B8 g3 rfl,l2]
 refine(Js (K:=K) (w:=2) (by omega) p hb7 (by simp[Gz]) (by decide) (by decide) (v:=f.off) (by omega)).Aj ?_
 rintro _ h8 ⟨p,c,hb8⟩
 rw[Ro (b:=65535) a3 b3 (by decide),if_pos rfl]at p
 have x8:=up x7 c
 have g2:=lo c hb7 g2 (by omega)
 have g3:=lo c hb7 g3 (by omega)
 have g4:=lo c hb7 g4 (by omega)
 simp only[Ab,B8 g3 rfl,l3]
 refine(Js (K:=K) (w:=4) (by omega) p hb8 (by simp[Gz]) (by decide) (by decide) (v:=f.Ar) (by omega)).Aj ?_
 rintro _ h9 ⟨p,c,hb9⟩
 rw[Ro (b:=4294967295) (by omega) b4 (by decide),if_pos rfl]at p
 have x9:=up x8 c
 have g2:=lo c hb8 g2 (by omega)
 have g3:=lo c hb8 g3 (by omega)
 have g4:=lo c hb8 g4 (by omega)
 simp only[Ab,B8 g3 rfl,l4]
 refine(Js (K:=K) (w:=6) (by omega) p hb9 (by simp[Gz]) (by decide) (by decide) (v:=f.seq) (by omega)).Aj ?_
 rintro _ h10 ⟨p,c,hb10⟩
 rw[Ro (b:=281474976710655) a5 b5 (by decide),if_pos rfl]at p
 have x10:=up x9 c
 have g2:=lo c hb9 g2 (by omega)
 have g3:=lo c hb9 g3 (by omega)
 have g4:=lo c hb9 g4 (by omega)
 try simp only[Ab]
 rw[show ∀ k:EV->R,Mu 44 1 (.ptr (h.next+1) 5) none none none k=k (.slice (h.next+1) 5 44 44 false) from fun k=>rfl]
 have hcb:Kb h10 1 44 (.slice (h.next+1) 5 44 44 false)=some (Bj f.body):=by
  show Ph h10 (h.next+1) 5 44=_
  unfold Ph V3
  rw[g3]
  show Of f.cells 5 44=_
  rw[Ff (by rw[hfl];decide)]
  show some (List.take 44 (Bj f.body))=_
  rw[List.take_of_length_le (by rw[Bt,w.len];decide)]
 refine(Ajn (K:=K) (n:=44) p hb10 (by simp[Gz]) rfl (by decide) (by decide) hcb w.len).Aj ?_
 rintro _ h11 ⟨p,c,hb11⟩
 have x11:=up x10 c
 have g2:=lo c hb10 g2 (by omega)
 have g4:=lo c hb10 g4 (by omega)
 have ep:([]++Sj 1 f.kind.toNat++Sj 1 (1:Int).toNat++Sj 2 f.Ao.toNat++Sj 2 f.off.toNat++Sj 4 f.Ar.toNat++Sj 6 f.seq.toNat++f.body)=Akv f:=by
  unfold Akv;rw[List.nil_append];rfl
 have ebad:∀ b:Bool,(b || !true)=b:=by decide
 rw[ep]at p
 simp only[ebad]at p
 refine(Ao6 (K:=K) p hb11 (by rw[Aal w];decide)).Aj ?_
 rintro _ h12 ⟨y,q',rfl,ry,x12',hb12,lq⟩
 have g2:=x12'.at hb11 g2
 have g4:=x12'.at hb11 g4
 simp only[Ab,I,Af]
 simp only[not_true_eq_false,decide_false,Ab,Ac5]
 rw[C0 g2 rfl,Av Tk]
 simp only[Gl]
 have hpos:0<(Akv f).length:=by rw[Aal w];decide
 refine(A75 (K:=K) hK (ry.bs hpos) hb12 (Azt w) hpos (by rw[Aal w];decide)).Aj ?_
 rintro v h13 ⟨q2,r13,x13',hb13,lq2⟩
 have r13:B7 h13 v q2 5 1 (Oe f).length (Bj (Oe f)):=r13
 have g4:=x13'.at hb12 g4
 have hel:=Aom w
 have hsl:=r13.slice (by rw[hel];decide)
 subst hsl
 rw[show ∀ k:EV->R,Aig 64 (.slice q2 0 (Oe f).length (Oe f).length true) k=k (.ptr q2 0) from fun k=>by rw[hel];rfl]
 rw[C0 (r13.block (by rw[hel];decide)) rfl,Av (by rw[Bt,hel])]
 simp only[Gl]
 refine Ok.st (Bj (Oe f)) g4 rfl (by show Gx (Bj (Oe f))=64;rw[Bf,Bt,hel]) (Bb (by rw[I3];show 64=(Bj (Oe f)).length;rw[Bt,hel])) ?_
 have g14:(h13.put (h.next+2) (.cells (Bj (Oe f)) 103)).get (h.next+2)=some (.cells (Bj (Oe f)) 103):=Ah _ _ _
 rw[Ix g14 Acx.1 Acx.2 (by rw[Bt,hel])]
 have xx:Ext h h13:=x11.trans (x12'.trans x13')
 exact .ret ⟨rfl,xx.Az (.inr (by omega)) (hb13 _ _ g4) _⟩
end Go.Ev

namespace Go.Ev
open Go.Proofs
set_option maxRecDepth 100000
variable {K:Nat}
theorem Ok.An4 {h:Aa}{i o t:Nat}{l:List EV}{v:EV}{kk:Aa->R}{Q:EV->Aa->Prop}(hg:h.get i=some (.cells l t))(hb:HB h)(hp:v.plain=true)(hc:v.cells = [v])(ho:o<l.length)
 (hk:∀ h',h'.get i=some (.cells (l.set o v) t)->A0 (fun j=>j=i) h h'->HB h'->Ok (kk h') Q):Ok (D5 1 (.ptr i o) v h kk) Q:=by
 have lt:=hb _ _ hg
 exact Ok.st1 hg hp hc ho (hk _ (Ah _ _ _) ((A0.refl (S:=fun j=>j=i) h).Az (.inl rfl) lt _) (hb.put lt _))
theorem Akm:∀ (hd old new:List EV),old.length=new.length->Fh (hd++old) hd.length new=some (hd++new)
 | [],old,new,h=>by
  have:=Bb (l:=old) (vs:=new) h
  rw[Uo]at this
  exact this
 | a::hd,old,new,h=>by
  have ih:=Akm hd old new h
  show As (Nat.beq (hd.length+1) 0) _ (match Fh (hd++old) hd.length new with|some x=>some (a::x)|none=>none)=_
  rw[show Nat.beq (hd.length+1) 0=false from rfl,Ax,ih]
  rfl
theorem Ast {h:Aa}{i n r:Nat}{op:Bool}{t:TypeId}{hd old new:List EV}{y:EV}(g:h.get i=some (.cells (hd++old) t))(hy:lenOf y=some n)(hn:0<n)(hc:Kb h 1 n y=some new)(hl:new.length=n)(ho:old.length=n):
 builtin TT .copy #[174,174] [.slice i hd.length n r op,y] h=some (I n,h.put i (.cells (hd++new) t)):=by
 have hu:TT.Iy 174=some (.slice 5):=by kernel_rfl
 have hs:TT.size 5=some 1:=by kernel_rfl
 have hb:Nat.ble n n=true:=Nat.ble_eq_true_of_le (Nat.le_refl _)
 have h0:Nat.beq n 0=false:=by cases n with|zero=>omega|succ n=>rfl
 have hw:K7 h i hd.length new=some (h.put i (.cells (hd++new) t)):=by
  unfold K7;rw[g];simp only;rw[Akm hd old new (by omega)]
 rw[Akj]at hc
 have hld:lenOf (.slice i hd.length n r op)=some n:=rfl
 unfold builtin
 simp only[hu,hs,hld,hy,hb,Ak,h0,Ax,hc,hw]
 rfl
theorem Rd.chg {h h':Aa}{R q off:Nat}{l:List Nat}{S:Nat->Prop}(d:Rd h R q off l)(hb:HB h)(c:A0 S h h')(n1:¬ S q)(n2:¬ S R):Rd h' R q off l:=by
 obtain⟨s,g,e,f⟩:=d.O1
 exact⟨⟨s,c.at hb g n2,e,fun y=>⟨(f y).1,(f y).2.frame (c.get _ ((f y).2.lt hb) n1)⟩⟩,d.ne⟩
def Fr.zero:Fr:=⟨0,0,0,0,0,List.replicate 44 0⟩
theorem Fr.Ju:List.replicate 5 (EV.int .i64 0)++List.replicate 44 (EV.int .u8 0)=Fr.zero.cells:=by kernel_rfl
def Tn(p:List Nat):Fr:=⟨Q3 (p.take 1),Q3 (((p.drop 1).drop 1).take 2),Q3 ((((p.drop 1).drop 1).drop 2).take 2),Q3 (((((p.drop 1).drop 1).drop 2).drop 2).take 4),Q3 ((((((p.drop 1).drop 1).drop 2).drop 2).drop 4).take 6),(((((((p.drop 1).drop 1).drop 2).drop 2).drop 4).drop 6).take 44)⟩
noncomputable def Rj(s:List Nat):Fr × Int:=
 if Aoj s=false then (Fr.zero,11) else
 if Q3 (((s.take 60).drop 1).take 1)=1/\frB (Tn (s.take 60))=true then (Tn (s.take 60),0) else (Fr.zero,10)
theorem Aqx:TT.size 120=some 49/\TT.agg 120=some true:=⟨by kernel_rfl,by kernel_rfl⟩
theorem Anq {p:List Nat}(hp:p.length=60)(hu:∀ b ∈ p,b<256):(Tn p).Wf:=by
 refine⟨?_,fun b hb=>hu b ?_⟩
 ·simp only[Tn,List.length_take,List.length_drop,hp];decide
 ·simp only[Tn]at hb
  exact List.mem_of_mem_drop (List.mem_of_mem_drop (List.mem_of_mem_drop (List.mem_of_mem_drop (List.mem_of_mem_drop (List.mem_of_mem_drop (List.mem_of_mem_take hb))))))
theorem Fr.F9:Fr.zero.Wf:=⟨by simp[Fr.zero],fun b hb=>by rw[List.eq_of_mem_replicate hb];decide⟩
theorem A6r {s:List Nat}(hl:s.length=64)(hu:∀ b ∈ s,b<256):(Rj s).1.Wf:=by
 unfold Rj
 split
 ·exact Fr.F9
 ·split
  ·exact Anq (by rw[List.length_take,hl];decide) fun b hb=>hu b (List.mem_of_mem_take hb)
  ·exact Fr.F9
theorem Al7 {h:Aa}{s:List Nat}(hl:s.length=64)(hu:∀ b ∈ s,b<256)(hb:HB h)(hK:10000<K):
 Ok (Wi K We (.agg (Bj s)) h) fun v h'=>v=.tuple [.agg (Rj s).1.cells,I (Rj s).2]/\Ext h h':=by
 unfold We
 simp only[Wi,Ab]
 rw[Fr.Ju]
 have x1:Ext h (((h.new (.cells A3 72)).new (.cells (Bj s) 103)).new (.cells Fr.zero.cells 120)):=((A0.new _ _).Fa _).Fa _
 have g2:(((h.new (.cells A3 72)).new (.cells (Bj s) 103)).new (.cells Fr.zero.cells 120)).get h.next=some (.cells A3 72):=by
  rw[A4 _ (by show h.next<h.next+1+1;omega),A4 _ (Nat.lt_succ_self _)];exact Ac _ _
 have g3:(((h.new (.cells A3 72)).new (.cells (Bj s) 103)).new (.cells Fr.zero.cells 120)).get (h.next+1)=some (.cells (Bj s) 103):=by
  rw[A4 _ (by show h.next+1<h.next+1+1;omega)];exact Ac _ _
 have g4:(((h.new (.cells A3 72)).new (.cells (Bj s) 103)).new (.cells Fr.zero.cells 120)).get (h.next+2)=some (.cells Fr.zero.cells 120):=Ac _ _
 have n1:(((h.new (.cells A3 72)).new (.cells (Bj s) 103)).new (.cells Fr.zero.cells 120)).next=h.next+3:=rfl
 rw[show (h.new (.cells A3 72)).next=h.next+1 from rfl,show ((h.new (.cells A3 72)).new (.cells (Bj s) 103)).next=h.next+2 from rfl]
 generalize ((h.new (.cells A3 72)).new (.cells (Bj s) 103)).new (.cells Fr.zero.cells 120)=h1 at x1 g2 g3 g4 n1 ⊢
 have hb1:=x1.hb hb
 have ln2:=hb1 _ _ g2
 have zl:=Fr.B4 Fr.F9
 have fin:∀ (f:Fr) (e:Int) (h5:Aa) (kk:Aa->R),(∀ h',kk h'=Cx TT [.c (.ptr (h.next+2) 0) 120,.v (I e)] h')->HB h5->Ext h h5->h5.get (h.next+2)=some (.cells Fr.zero.cells 120)->f.Wf->(f,e)=Rj s ->
  Ok (D5 49 (.ptr (h.next+2) 0) (.agg f.cells) h5 kk) fun v h'=>v=.tuple [.agg (Rj s).1.cells,I (Rj s).2]/\Ext h h':=by
  intro f e h5 kk hkk hb5 x5 g5 wf he
  have fl:=Fr.B4 wf
  refine Ok.st f.cells g5 rfl (by show Gx f.cells=49;rw[Bf,fl]) (Bb (by rw[zl];exact fl.symm)) ?_
  have g6:(h5.put (h.next+2) (.cells f.cells 120)).get (h.next+2)=some (.cells f.cells 120):=Ah _ _ _
  rw[hkk,Ix g6 Aqx.1 Aqx.2 fl,<-he]
  exact .ret ⟨rfl,x5.Az (.inr (by omega)) (hb5 _ _ g5) _⟩
 simp only[Au ln2,Bg,Ab,C0 g2 rfl,Av Tk]
 rw[show ∀ k:EV->R,Mu 64 1 (.ptr (h.next+1) 0) none none none k=k (.slice (h.next+1) 0 64 64 false) from fun k=>rfl]
 have bs:Bs h1 (.slice (h.next+1) 0 s.length 64 false) (h.next+1) 0 s:=by
  refine⟨64,false,_,Bj s,rfl,by omega,g3,rfl,by rw[Bt];omega,?_⟩
  rw[List.drop_zero,<-Bt,List.take_length]
 have hop:=A77 (K:=K) hK bs.lift (D6 hb1) hu (by omega) (by omega)
 rw[hl]at hop
 refine Ok.Ci (by kernel_rfl) (by kernel_rfl) hop (fun _ _ p=>p.1) ?_
 rintro v h2 h3 ⟨_,_,hv⟩ sm x3
 have hb3:=x3.hb hb1
 have g4:=x3.at hb1 g4
 have x13:=x1.trans x3
 rcases hv with ⟨ho,rfl⟩|⟨ho,y,q',rfl,ry,lq⟩
 ·simp only[Ab,I,Af]
  simp only[show ¬ ((11:Int)=0) by decide,not_false_eq_true,decide_true,Ab]
  rw[Bi (l:=Fr.zero.cells) rfl]
  exact fin Fr.zero 11 h3 _ (fun _=>rfl) hb3 x13 g4 Fr.F9 (by unfold Rj;rw[if_pos ho])
 ·have hne:¬ Aoj s=false:=by rw[ho];simp
  simp only[Ab,I,Af]
  simp only[not_true_eq_false,decide_false,Ab,Ac3]
  have h60:s.length-4=60:=by omega
  rw[h60]at ry
  have hpl:(s.take 60).length=60:=by rw[List.length_take,hl];decide
  have hpu:∀ b ∈ s.take 60,b<256:=fun b hb=>hu b (List.mem_of_mem_take hb)
  have ry3:B7 h3 y q' 5 1 (s.take 60).length (Bj (s.take 60)):=ry.frame fun _=>sm.get _
  have hdec:Rj s=if Q3 (((s.take 60).drop 1).take 1)=1/\frB (Tn (s.take 60))=true then (Tn (s.take 60),0) else (Fr.zero,10):=by unfold Rj;rw[if_neg hne]
  have wfF:=Anq hpl hpu
  rw[hdec]at fin ⊢
  unfold Tn at fin hdec wfF ⊢
  generalize s.take 60=p at ry3 hpl hpu fin hdec wfF ⊢
  refine(Aib (K:=K) (ry3.bs (by omega)) hb3 (by omega) (by omega)).Aj ?_
  rintro _ h5 ⟨Rr,q,rfl,d0,x5,hb5,lq5⟩
  have g4:=x5.at hb3 g4
  have x15:=x13.trans x5
  have hRn:Rr<h5.next:=by obtain⟨_,g,_⟩:=d0.O1;exact hb5 _ _ g
  have hR4:h.next+2<Rr:=by have:=d0.ne;have:=x3.next;omega
  have up:∀ {ha hc:Aa},Ext h ha->A0 (fun i=>i=Rr) ha hc->Ext h hc:=fun x c=>x.then c fun j hj hlt=>by
   have hj:j=Rr:=hj
   omega
  have keep:∀ {ha hc:Aa} {i:Nat} {o:Cs},A0 (fun i=>i=Rr) ha hc->HB ha->ha.get i=some o->i ≠ Rr->hc.get i=some o:=fun c hb g hi=>c.at hb g hi
  refine(Xt (K:=K) (w:=1) d0 hb5 (by omega) (by decide) (by decide) (by omega) hpu).Aj ?_
  rintro _ h6 ⟨rfl,d1,c6,hb6⟩
  have g4:=keep c6 hb5 g4 (by omega)
  have x6:=up x15 c6
  rw[Bi (l:=(⟨Q3 (p.take 1),0,0,0,0,List.replicate 44 0⟩:Fr).cells) rfl]
  try simp only[Ab]
  rw[Fr.Ju]
  have x7:Ext h6 (h6.new (.cells Fr.zero.cells 120)):=A0.new _ _
  have g9:(h6.new (.cells Fr.zero.cells 120)).get h6.next=some (.cells Fr.zero.cells 120):=Ac _ _
  have n7:(h6.new (.cells Fr.zero.cells 120)).next=h6.next+1:=rfl
  have g4:=x7.at hb6 g4
  have hb7:=x7.hb hb6
  have d1:=d1.ext hb6 x7
  have x17:=x6.trans x7
  have hF:Rr<h6.next:=by have:=c6.next;omega
  generalize h6.new (.cells Fr.zero.cells 120)=h7 at x7 g9 n7 g4 hb7 d1 x17 ⊢
  generalize h6.next=Fb at g9 n7 hF ⊢
  refine Ok.st (⟨Q3 (p.take 1),0,0,0,0,List.replicate 44 0⟩:Fr).cells g9 rfl (by kernel_rfl) (Bb (by kernel_rfl)) ?_
  have lF:=hb7 _ _ g9
  have g9:(h7.put Fb (.cells (⟨Q3 (p.take 1),0,0,0,0,List.replicate 44 0⟩:Fr).cells 120)).get Fb=some (.cells (⟨Q3 (p.take 1),0,0,0,0,List.replicate 44 0⟩:Fr).cells 120):=Ah _ _ _
  have g4:(h7.put Fb (.cells (⟨Q3 (p.take 1),0,0,0,0,List.replicate 44 0⟩:Fr).cells 120)).get (h.next+2)=some (.cells Fr.zero.cells 120):=by rw[Aq _ (by omega)];exact g4
  have d1:Rd (h7.put Fb (.cells (⟨Q3 (p.take 1),0,0,0,0,List.replicate 44 0⟩:Fr).cells 120)) Rr q (0+1) (p.drop 1):=by
   have c:A0 (fun i=>i=Fb) h7 (h7.put Fb (.cells (⟨Q3 (p.take 1),0,0,0,0,List.replicate 44 0⟩:Fr).cells 120)):=(A0.refl (S:=fun i=>i=Fb) h7).Az (.inl rfl) lF _
   exact d1.chg hb7 c (by have:=d1.ne;intro y;omega) (by intro y;omega)
  have x8:Ext h (h7.put Fb (.cells (⟨Q3 (p.take 1),0,0,0,0,List.replicate 44 0⟩:Fr).cells 120)):=x17.Az (.inr (by omega)) lF _
  have hb8:=hb7.put lF (.cells (⟨Q3 (p.take 1),0,0,0,0,List.replicate 44 0⟩:Fr).cells 120)
  generalize h7.put Fb (.cells (⟨Q3 (p.take 1),0,0,0,0,List.replicate 44 0⟩:Fr).cells 120)=h8 at g9 g4 d1 x8 hb8 ⊢
  refine(Xt (K:=K) (w:=1) d1 hb8 (by omega) (by decide) (by decide) (by simp only[List.length_drop];omega) (fun b hb=>hpu b (by revert hb;exact fun y=>List.mem_of_mem_drop y))).Aj ?_
  rintro _ h9 ⟨rfl,d2,c9,hb9⟩
  have g4:=keep c9 hb8 g4 (by omega)
  have g9:=keep c9 hb8 g9 (by omega)
  have x9:=up x8 c9
  refine(Xt (K:=K) (w:=2) d2 hb9 (by omega) (by decide) (by decide) (by simp only[List.length_drop];omega) (fun b hb=>hpu b (List.mem_of_mem_drop (List.mem_of_mem_drop hb)))).Aj ?_
  rintro _ h10 ⟨rfl,d3,c10,hb10⟩
  have g4:=keep c10 hb9 g4 (by omega)
  have g9:=keep c10 hb9 g9 (by omega)
  have x10:=up x9 c10
  refine(Xt (K:=K) (w:=2) d3 hb10 (by omega) (by decide) (by decide) (by simp only[List.length_drop];omega) (fun b hb=>hpu b (List.mem_of_mem_drop (List.mem_of_mem_drop (List.mem_of_mem_drop hb))))).Aj ?_
  rintro _ h11 ⟨rfl,d4,c11,hb11⟩
  have g4:=keep c11 hb10 g4 (by omega)
  have g9:=keep c11 hb10 g9 (by omega)
  have x11:=up x10 c11
  refine(Xt (K:=K) (w:=4) d4 hb11 (by omega) (by decide) (by decide) (by simp only[List.length_drop];omega) (fun b hb=>hpu b (List.mem_of_mem_drop (List.mem_of_mem_drop (List.mem_of_mem_drop (List.mem_of_mem_drop hb)))))).Aj ?_
  rintro _ h12 ⟨rfl,d5,c12,hb12⟩
  have g4:=keep c12 hb11 g4 (by omega)
  have g9:=keep c12 hb11 g9 (by omega)
  have x12:=up x11 c12
  refine(Xt (K:=K) (w:=6) d5 hb12 (by omega) (by decide) (by decide) (by simp only[List.length_drop];omega) (fun b hb=>hpu b (List.mem_of_mem_drop (List.mem_of_mem_drop (List.mem_of_mem_drop (List.mem_of_mem_drop (List.mem_of_mem_drop hb))))))).Aj ?_
  rintro _ h13 ⟨rfl,d6,c13,hb13⟩
  have g4:=keep c13 hb12 g4 (by omega)
  have g9:=keep c13 hb12 g9 (by omega)
  have x13':=up x12 c13
  have upF:∀ {ha hc:Aa},Ext h ha->A0 (fun i=>i=Fb) ha hc->Ext h hc:=fun x c=>x.then c fun j hj hlt=>by
   have hj:j=Fb:=hj
   omega
  have Nd:∀ {ha hc:Aa} {i:Nat} {o:Cs},A0 (fun i=>i=Fb) ha hc->HB ha->ha.get i=some o->i ≠ Fb->hc.get i=some o:=fun c hb g hi=>c.at hb g hi
  have keepR:∀ {ha hc:Aa} {off:Nat} {l:List Nat},A0 (fun i=>i=Fb) ha hc->HB ha->Rd ha Rr q off l->Rd hc Rr q off l:=fun c hb d=>d.chg hb c (by have:=d.ne;intro y;omega) (by intro y;omega)
  have hz:(⟨Q3 (p.take 1),0,0,0,0,List.replicate 44 0⟩:Fr).cells.length=49:=by kernel_rfl
  refine Ok.An4 g9 hb13 rfl rfl (by rw[hz];decide) ?_
  intro h14 g9 c14 hb14
  have g4:=Nd c14 hb13 g4 (by omega)
  have d6:=keepR c14 hb13 d6
  have x14:=upF x13' c14
  try simp only[Ab]
  refine Ok.An4 g9 hb14 rfl rfl (by rw[List.length_set,hz];decide) ?_
  intro h15 g9 c15 hb15
  have g4:=Nd c15 hb14 g4 (by omega)
  have d6:=keepR c15 hb14 d6
  have x15':=upF x14 c15
  try simp only[Ab]
  refine Ok.An4 g9 hb15 rfl rfl (by rw[List.length_set,List.length_set,hz];decide) ?_
  intro h16 g9 c16 hb16
  have g4:=Nd c16 hb15 g4 (by omega)
  have d6:=keepR c16 hb15 d6
  have x16:=upF x15' c16
  try simp only[Ab]
  refine Ok.An4 g9 hb16 rfl rfl (by rw[List.length_set,List.length_set,List.length_set,hz];decide) ?_
  intro h17 g9 c17 hb17
  have g4:=Nd c17 hb16 g4 (by omega)
  have d6:=keepR c17 hb16 d6
  have x17':=upF x16 c17
  try simp only[Ab]
  have g9:h17.get Fb=some (.cells ([Nk .i64 (Q3 (p.take 1)),Nk .i64 (Q3 (((p.drop 1).drop 1).take 2)),Nk .i64 (Q3 ((((p.drop 1).drop 1).drop 2).take 2)),Nk .i64 (Q3 (((((p.drop 1).drop 1).drop 2).drop 2).take 4)),Nk .i64 (Q3 ((((((p.drop 1).drop 1).drop 2).drop 2).drop 4).take 6))]++Bj (List.replicate 44 0)) 120):=g9
  rw[show ∀ k:EV->R,Mu 44 1 (.ptr Fb 5) none none none k=k (.slice Fb 5 44 44 false) from fun k=>rfl]
  have hlen44:((((((p.drop 1).drop 1).drop 2).drop 2).drop 4).drop 6).length=44:=by simp only[List.length_drop];omega
  have dl:Rd h17.lift Rr q (0+1+1+2+2+4+6) ((((((p.drop 1).drop 1).drop 2).drop 2).drop 4).drop 6):=d6.chg hb17 (S:=fun _=>False) ⟨fun i _ _=>C5 _ _,Nat.le_refl _,fun w _ w2 _=>w2,fun y=>D6 y⟩ id id
  refine Ok.Ake (S:=fun i=>i=Rr) (by kernel_rfl) (by kernel_rfl) (fun _=>by kernel_rfl) (Auv (K:=K) (n:=44) dl (D6 hb17) (by decide) (by omega)) (fun _ _ p=>p.2.2.1) ?_
  rintro v43 h18' h18 s' ⟨b43,d7,_,hb18'⟩ sm18 c18 hs'
  have hb18:=sm18.hb hb18'
  have b43:Bs h18 v43 q (0+1+1+2+2+4+6) (((((((p.drop 1).drop 1).drop 2).drop 2).drop 4).drop 6).take 44):=b43.frame (sm18.get _)
  have d7:Rd h18 Rr q (0+1+1+2+2+4+6+44) (((((((p.drop 1).drop 1).drop 2).drop 2).drop 4).drop 6).drop 44):=by
   obtain⟨s0,g,e,f⟩:=d7.O1
   exact⟨⟨s0,by rw[sm18.get];exact g,e,fun y=>⟨(f y).1,(f y).2.frame (sm18.get _)⟩⟩,d7.ne⟩
  have g4:=keep c18 hb17 g4 (by omega)
  have g9:=keep c18 hb17 g9 (by omega)
  have x18:=up x17' c18
  generalize hbd:(((((p.drop 1).drop 1).drop 2).drop 2).drop 4).drop 6=body at b43 d7 hlen44 fin wfF ⊢
  generalize hq:Q3 ((p.drop 1).take 1)=ver at fin ⊢
  generalize Q3 (p.take 1)=na at g9 fin wfF ⊢
  generalize Q3 (((p.drop 1).drop 1).take 2)=nz at g9 fin wfF ⊢
  generalize Q3 ((((p.drop 1).drop 1).drop 2).take 2)=no at g9 fin wfF ⊢
  generalize Q3 (((((p.drop 1).drop 1).drop 2).drop 2).take 4)=ne at g9 fin wfF ⊢
  generalize Q3 ((((((p.drop 1).drop 1).drop 2).drop 2).drop 4).take 6)=ns at g9 fin wfF ⊢
  have htk:body.take 44=body:=List.take_of_length_le (by omega)
  rw[htk]at b43 fin wfF ⊢
  have hdk:body.drop 44 = []:=List.drop_eq_nil_of_le (by omega)
  rw[hdk]at d7
  have hlen:lenOf v43=some 44:=by have:=b43.len;rw[hlen44]at this;exact this
  have hcel:Kb h18.lift 1 44 v43=some (Bj body):=by have:=b43.lift.cells;rw[hlen44]at this;exact this
  have hcp:=Ast (h:=h18.lift) (i:=Fb) (n:=44) (r:=44) (op:=false) (t:=120) (hd:=[Nk .i64 na,Nk .i64 nz,Nk .i64 no,Nk .i64 ne,Nk .i64 ns]) (old:=Bj (List.replicate 44 0)) (by rw[C5];exact g9) hlen (by decide) hcel (by rw[Bt,hlen44]) (by rw[Bt,List.length_replicate])
  have lF18:=hb18 _ _ g9
  refine Ok.Ake (S:=fun i=>i=Fb) (by rcases hs' with rfl|⟨w,rfl,_⟩ <;> kernel_rfl) (by rcases hs' with rfl|⟨w,rfl,_⟩ <;> kernel_rfl) (fun w=>by rcases hs' with rfl|⟨w,rfl,_⟩ <;> kernel_rfl) (P:=fun v h'=>h'=h18.lift.put Fb (.cells ([Nk .i64 na,Nk .i64 nz,Nk .i64 no,Nk .i64 ne,Nk .i64 ns]++Bj body) 120)) ⟨_,_,hcp,rfl⟩ (fun _ _ p=>by rw[p];exact(A0.refl (S:=fun i=>i=Fb) h18.lift).Az (.inl rfl) (show Fb<h18.lift.next from lF18) _) ?_
  rintro v44 h19' h19 s2 rfl sm19 c19 _
  have hb19:=c19.hb hb18
  have g9:h19.get Fb=some (.cells ([Nk .i64 na,Nk .i64 nz,Nk .i64 no,Nk .i64 ne,Nk .i64 ns]++Bj body) 120):=by rw[sm19.get];exact Ah _ _ _
  have g4:=Nd c19 hb18 g4 (by omega)
  have d7:=keepR c19 hb18 d7
  have x19:=upF x18 c19
  simp only[Af]
  have cl:([Nk .i64 na,Nk .i64 nz,Nk .i64 no,Nk .i64 ne,Nk .i64 ns]++Bj body).length=49:=by rw[List.length_append,Bt,hlen44];rfl
  have bad:∀ h20:Aa,Ext h19 h20->¬ (ver=1/\frB ⟨na,nz,no,ne,ns,body⟩=true)->∀ w:EV,Ok (Nf K (.ptr (h.next+2) 0) (.ptr Fb 0) (.bool true) w h20) _:=fun h20 x20 hno w=>by
   simp only[Nf,Ab]
   rw[Bi (l:=Fr.zero.cells) rfl]
   exact fin Fr.zero 10 h20 _ (fun _=>rfl) (x20.hb hb19) (x19.trans x20) (x20.at hb19 g4) Fr.F9 (by rw[if_neg hno])
  by_cases hv:ver=1
  ·rw[show decide (¬ Int.ofNat ver=1)=false from decide_eq_false (by rw[hv];exact fun y=>y rfl)]
   simp only[Ab]
   rw[C0 g9 rfl,Av cl]
   simp only[Gl]
   refine(Wu (K:=K) ⟨na,nz,no,ne,ns,body⟩).Aj ?_
   rintro _ h20 ⟨rfl,x20⟩
   generalize frB ⟨na,nz,no,ne,ns,body⟩=fb at fin bad ⊢
   cases fb with
   | false=>
    simp only[Ab,Nj,Af]
    exact bad h20 x20 (by simp) _
   | true=>
    have hb20:=x20.hb hb19
    simp only[Ab,Nj,Af,A6p (d7.ext hb19 x20),I]
    simp only[Nf,Ab,not_true_eq_false,decide_false,Acv]
    rw[C0 (x20.at hb19 g9) rfl,Av cl]
    simp only[Gl]
    have r:=fin ⟨na,nz,no,ne,ns,body⟩ 0 h20 (fun z=>Cx TT [RV.c (EV.ptr (h.next+2) 0) 120,RV.v (EV.int IntKind.i64 0)] z) (fun _=>rfl) hb20 (x19.trans x20) (x20.at hb19 g4) wfF (by rw[if_pos ⟨hv,rfl⟩])
    simp only[eq_self]at r
    exact r
  ·rw[show decide (¬ Int.ofNat ver=1)=true from decide_eq_true fun y=>hv (Int.ofNat.inj y)]
   simp only[Ab,Nj,Af]
   exact bad h19 (A0.refl _) (fun y=>hv y.1) _
end Go.Ev

namespace Go.Ev
open Go.Proofs
set_option maxRecDepth 100000
variable {K:Nat}
noncomputable def atF(s:List Nat)(Ao off:Int):Fr × Int:=
 if ¬ (Rj s).2=0 then (Fr.zero,(Rj s).2) else if ¬ (Rj s).1.Ao=Ao\/¬ (Rj s).1.off=off then (Fr.zero,12) else ((Rj s).1,0)
theorem Auy {h:Aa}{s:List Nat}(hl:s.length=64)(hu:∀ b ∈ s,b<256)(hb:HB h)(hK:10000<K)(Ao off:Int):
 Ok (Ai8 K We (.agg (Bj s)) (I Ao) (I off) h) fun v h'=>v=.tuple [.agg (atF s Ao off).1.cells,I (atF s Ao off).2]/\(atF s Ao off).1.Wf/\Ext h h':=by
 unfold We
 simp only[Ai8,Ab]
 rw[Fr.Ju]
 have x1:Ext h (((h.new (.cells A3 72)).new (.cells (Bj s) 103)).new (.cells Fr.zero.cells 120)):=((A0.new _ _).Fa _).Fa _
 have g2:(((h.new (.cells A3 72)).new (.cells (Bj s) 103)).new (.cells Fr.zero.cells 120)).get h.next=some (.cells A3 72):=by
  rw[A4 _ (by show h.next<h.next+1+1;omega),A4 _ (Nat.lt_succ_self _)];exact Ac _ _
 have g3:(((h.new (.cells A3 72)).new (.cells (Bj s) 103)).new (.cells Fr.zero.cells 120)).get (h.next+1)=some (.cells (Bj s) 103):=by
  rw[A4 _ (by show h.next+1<h.next+1+1;omega)];exact Ac _ _
 have g4:(((h.new (.cells A3 72)).new (.cells (Bj s) 103)).new (.cells Fr.zero.cells 120)).get (h.next+2)=some (.cells Fr.zero.cells 120):=Ac _ _
 have n1:(((h.new (.cells A3 72)).new (.cells (Bj s) 103)).new (.cells Fr.zero.cells 120)).next=h.next+3:=rfl
 rw[show (h.new (.cells A3 72)).next=h.next+1 from rfl,show ((h.new (.cells A3 72)).new (.cells (Bj s) 103)).next=h.next+2 from rfl]
 generalize ((h.new (.cells A3 72)).new (.cells (Bj s) 103)).new (.cells Fr.zero.cells 120)=h1 at x1 g2 g3 g4 n1 ⊢
 have hb1:=x1.hb hb
 have zl:=Fr.B4 Fr.F9
 have dwf:=A6r hl hu
 have fin:∀ (f:Fr) (e:Int) (h5:Aa) (kk:Aa->R),(∀ h',kk h'=Cx TT [.c (.ptr (h.next+2) 0) 120,.v (I e)] h')->HB h5->Ext h h5->h5.get (h.next+2)=some (.cells Fr.zero.cells 120)->f.Wf->(f,e)=atF s Ao off ->
  Ok (D5 49 (.ptr (h.next+2) 0) (.agg f.cells) h5 kk) fun v h'=>v=.tuple [.agg (atF s Ao off).1.cells,I (atF s Ao off).2]/\(atF s Ao off).1.Wf/\Ext h h':=by
  intro f e h5 kk hkk hb5 x5 g5 wf he
  have fl:=Fr.B4 wf
  refine Ok.st f.cells g5 rfl (by show Gx f.cells=49;rw[Bf,fl]) (Bb (by rw[zl];exact fl.symm)) ?_
  have g6:(h5.put (h.next+2) (.cells f.cells 120)).get (h.next+2)=some (.cells f.cells 120):=Ah _ _ _
  rw[hkk,Ix g6 Aqx.1 Aqx.2 fl,<-he]
  exact .ret ⟨rfl,wf,x5.Az (.inr (by omega)) (hb5 _ _ g5) _⟩
 have u64:(Bj s).length=64:=by rw[Bt,hl]
 rw[C0 g2 rfl,Av Tk]
 simp only[Gl]
 rw[C0 g3 rfl,Av u64]
 simp only[Gl]
 refine(Al7 (K:=K) hl hu hb1 hK).Aj ?_
 rintro _ h2 ⟨rfl,x2⟩
 have hb2:=x2.hb hb1
 have g4:=x2.at hb1 g4
 have x12:=x1.trans x2
 simp only[Ab]
 have x3:Ext h2 (h2.new (.cells Fr.zero.cells 120)):=A0.new _ _
 have g9:(h2.new (.cells Fr.zero.cells 120)).get h2.next=some (.cells Fr.zero.cells 120):=Ac _ _
 have g4:=x3.at hb2 g4
 have hb3:=x3.hb hb2
 have x13:=x12.trans x3
 have n2:h.next+3<=h2.next:=by have:=x2.next;omega
 generalize h2.new (.cells Fr.zero.cells 120)=h3 at x3 g9 g4 hb3 x13 ⊢
 generalize h2.next=Fb at g9 n2 ⊢
 have dl:=Fr.B4 dwf
 refine Ok.st (Rj s).1.cells g9 rfl (by show Gx (Rj s).1.cells=49;rw[Bf,dl]) (Bb (by rw[zl];exact dl.symm)) ?_
 have lF:=hb3 _ _ g9
 have g9:(h3.put Fb (.cells (Rj s).1.cells 120)).get Fb=some (.cells (Rj s).1.cells 120):=Ah _ _ _
 have g4:(h3.put Fb (.cells (Rj s).1.cells 120)).get (h.next+2)=some (.cells Fr.zero.cells 120):=by rw[Aq _ (by omega)];exact g4
 have x4:Ext h (h3.put Fb (.cells (Rj s).1.cells 120)):=x13.Az (.inr (by omega)) lF _
 have hb4:=hb3.put lF (.cells (Rj s).1.cells 120)
 have e0:EV.cells (EV.agg (Rj s).1.cells)=(Rj s).1.cells:=rfl
 generalize h3.put Fb (.cells (Rj s).1.cells 120)=h4 at g9 g4 x4 hb4 ⊢
 unfold atF at fin ⊢
 generalize (Rj s).2=e at fin ⊢
 generalize (Rj s).1=f at fin dwf dl g9 ⊢
 simp only[I,Af]
 by_cases he:e=0
 ·subst he
  simp only[not_true_eq_false,decide_false,Ab,All,B8 g9 rfl,if_false]at fin ⊢
  have l1:f.cells[1]? = some (I f.Ao):=rfl
  have l2:f.cells[2]? = some (I f.off):=rfl
  rw[l1]
  simp only[Gl,I,Af]
  by_cases hz:f.Ao=Ao
  ·simp only[hz,not_true_eq_false,decide_false,Ab,B8 g9 rfl,false_or]at fin ⊢
   rw[l2]
   simp only[Gl,I,Af]
   by_cases ho:f.off=off
   ·simp only[ho,not_true_eq_false,decide_false,Ab,Uw,if_false,Alc]at fin ⊢
    rw[C0 g9 rfl,Av dl]
    exact fin f 0 h4 _ (fun _=>rfl) hb4 x4 g4 dwf rfl
   ·simp only[ho,not_false_eq_true,decide_true,Ab,Uw,if_true]at fin ⊢
    rw[Bi (l:=Fr.zero.cells) rfl]
    exact fin Fr.zero 12 h4 _ (fun _=>rfl) hb4 x4 g4 Fr.F9 rfl
  ·simp only[hz,not_false_eq_true,decide_true,Ab,true_or,if_true,Uw]at fin ⊢
   rw[Bi (l:=Fr.zero.cells) rfl]
   exact fin Fr.zero 12 h4 _ (fun _=>rfl) hb4 x4 g4 Fr.F9 rfl
 ·simp only[he,not_false_eq_true,decide_true,Ab,if_true]at fin ⊢
  rw[Bi (l:=Fr.zero.cells) rfl]
  exact fin Fr.zero e h4 _ (fun _=>rfl) hb4 x4 g4 Fr.F9 rfl
end Go.Ev

namespace Go.Ev
open Go.Proofs
set_option maxRecDepth 100000
variable {K:Nat}
structure En where
 kind:Int
 first:Int
 count:Int
 block:Int
 many:Int
 By:Int
 bytes:List Nat
def En.cells(e:En):List EV:=[I e.kind,I e.first,I e.count,I e.block,I e.many,I e.By]++Bj e.bytes
structure En.Wf(e:En):Prop where
 len:e.bytes.length=32
 u8:∀ b ∈ e.bytes,b<256
theorem En.B4 {e:En}(w:e.Wf):e.cells.length=38:=by
 unfold En.cells;rw[List.length_append,Bt,w.len];rfl
theorem A4g(a b:Nat):Acz (Nk .u8 a) (Nk .u8 b)=some (decide (a=b)):=by
 show As (Nat.beq (Mz .u8) (Mz .u8)) (some (eqB (Int.ofNat a) (Int.ofNat b))) none=_
 rw[Nat.beq_refl,Ak,Y9]
 exact congrArg some (decide_eq_decide.2 ⟨Int.ofNat.inj,congrArg _⟩)
theorem Akh:∀ (a b:List Nat),a.length=b.length->Fk (Bj a) (Bj b)=some (decide (a=b))
 | [],[],_=>rfl
 | x::a,y::b,h=>by
  have ih:=Akh a b (by simpa using h)
  show (match Acz (Nk .u8 x) (Nk .u8 y) with|some true=>Fk (Bj a) (Bj b)|some false=>(match Fk (Bj a) (Bj b) with|some _=>some false|none=>none)|none=>none)=_
  rw[A4g,ih]
  by_cases hx:x=y
  ·rw[decide_eq_true hx]
   subst hx
   simp
  ·rw[decide_eq_false hx]
   simp[hx]
theorem Akl:∀ (a:List Nat),shaped (List.replicate a.length 0) (Bj a)=true
 | []=>rfl
 | x::a=>by
  show As (Nat.beq 0 0) (shaped (List.replicate a.length 0) (Bj a)) false=true
  rw[Akl a];rfl
theorem A2p {t n:Nat}(ht:TT.eqs t=some (List.replicate n 0)){a b:List Nat}(ha:a.length=n)(hb:b.length=n)(k:EV->R):An Fj (bin TT .eql t) (.agg (Bj a)) (.agg (Bj b)) k=k (.bool (decide (a=b))):=by
 have e:bin TT .eql t (.agg (Bj a)) (.agg (Bj b))=some (.bool (decide (a=b))):=by
  show (match Auj TT t (.agg (Bj a)) (.agg (Bj b)) with|some b=>some (EV.bool b)|none=>none)=_
  have:Auj TT t (.agg (Bj a)) (.agg (Bj b))=some (decide (a=b)):=by
   show (match TT.eqs t with|some sh=>As (shaped sh (Bj a)) (Fk (Bj a) (Bj b)) none|none=>none)=_
   rw[ht]
   simp only
   rw[show List.replicate n 0=List.replicate a.length 0 by rw[ha],Akl,Ak,Akh a b (by omega)]
  rw[this]
 show oB k (bin TT .eql t (.agg (Bj a)) (.agg (Bj b)))=_
 rw[e];rfl
theorem Aqz {t n:Nat}(ht:TT.eqs t=some (List.replicate n 0)){a b:List Nat}(ha:a.length=n)(hb:b.length=n)(k:EV->R):An Gv (bin TT .neq t) (.agg (Bj a)) (.agg (Bj b)) k=k (.bool (decide (¬ a=b))):=by
 have e:bin TT .neq t (.agg (Bj a)) (.agg (Bj b))=some (.bool (decide (¬ a=b))):=by
  show (match Auj TT t (.agg (Bj a)) (.agg (Bj b)) with|some b=>some (EV.bool (As b false true))|none=>none)=_
  have:Auj TT t (.agg (Bj a)) (.agg (Bj b))=some (decide (a=b)):=by
   show (match TT.eqs t with|some sh=>As (shaped sh (Bj a)) (Fk (Bj a) (Bj b)) none|none=>none)=_
   rw[ht]
   simp only
   rw[show List.replicate n 0=List.replicate a.length 0 by rw[ha],Akl,Ak,Akh a b (by omega)]
  rw[this]
  by_cases h:a=b
  ·simp[h,As]
  ·simp[h,As]
 show oB k (bin TT .neq t (.agg (Bj a)) (.agg (Bj b)))=_
 rw[e];rfl
theorem A8j:TT.eqs 87=some (List.replicate 32 0):=by kernel_rfl
theorem A8z:TT.eqs 118=some (List.replicate 44 0):=by kernel_rfl
theorem M0(n a b:Int)(h:Aa):Kl K (.int .i64 n) (.int .i64 a) (.int .i64 b) h=some (.bool (wi n a b),h):=by
 simp only[Kl,Af,Ab]
 by_cases h1:a<=n
 ·simp only[h1,decide_true,Ab,Af,Qb,wi,Bool.true_and]
 ·simp only[h1,decide_false,Ab,Qb,wi,Bool.false_and]
def E8:List Nat:=List.replicate 32 0
def Amm(e:En):Bool:=
 if e.kind=1 then wi e.count 1 4 && decide (e.many=0) else
 if e.kind=2 then (decide (e.count=1) && wi e.many 1 (256-e.block)) && decide (e.bytes=E8) else
 if e.kind=3 then decide (e.count=1) && decide (e.many=0) else false
theorem Ql:List.replicate 32 (EV.int .u8 0)=Bj E8:=by kernel_rfl
theorem Al2 {h:Aa}{e:En}(w:e.Wf)(hbl:wi e.block 0 255=true):Ok (Mf K (.agg e.cells) h) fun v h'=>v=.bool (Amm e)/\Ext h h':=by
 obtain⟨b0,b1⟩:=Gt.1 hbl
 simp only[Mf,Ab]
 have x1:Ext h (h.new (.cells e.cells 89)):=A0.new _ _
 have g1:(h.new (.cells e.cells 89)).get h.next=some (.cells e.cells 89):=Ac _ _
 generalize h.new (.cells e.cells 89)=h1 at x1 g1 ⊢
 have l0:e.cells[0]? = some (I e.kind):=rfl
 have l2:e.cells[2]? = some (I e.count):=rfl
 have l3:e.cells[3]? = some (I e.block):=rfl
 have l4:e.cells[4]? = some (I e.many):=rfl
 have l6:Of e.cells 6 32=some (Bj e.bytes):=by
  rw[Ff (by rw[En.B4 w];decide)]
  show some (List.take 32 (Bj e.bytes))=_
  rw[List.take_of_length_le (by rw[Bt,w.len];decide)]
 simp only[B8 g1 rfl,Ab,l0,I,Af]
 unfold Amm
 by_cases k1:e.kind=1
 ·simp only[k1,decide_true,Ab,B8 g1 rfl,l2,I,M0,Af,if_true]
  cases wi e.count 1 4 with
  | false=>simp only[Ab,J1,Af];exact .ret ⟨rfl,x1⟩
  | true=>
   simp only[Ab,B8 g1 rfl,l4,I,Af,J1,Bool.true_and]
   exact .ret ⟨rfl,x1⟩
 ·simp only[k1,decide_false,Ab,if_false,Af]
  by_cases k2:e.kind=2
  ·simp only[k2,decide_true,Ab,B8 g1 rfl,l2,I,Af,if_true]
   by_cases c1:e.count=1
   ·simp only[c1,decide_true,Ab,B8 g1 rfl,l4,l3,I,Af,Bool.true_and]
    rw[Cq (by omega) (by omega),M0]
    simp only[Ab,J5]
    cases wi e.many 1 (256-e.block) with
    | false=>simp only[Ab,Hr,Af,Bool.false_and];exact .ret ⟨rfl,x1⟩
    | true=>
     simp only[Ab,Af,C0 g1 rfl,l6]
     rw[Bi (l:=Bj E8) (by rw[Ql];rfl),A2p A8j w.len (by rfl)]
     simp only[Hr,Ab,Bool.true_and]
     exact .ret ⟨rfl,x1⟩
   ·simp only[c1,decide_false,Ab,Af,J5,Hr,Bool.false_and]
    exact .ret ⟨rfl,x1⟩
  ·simp only[k2,decide_false,Ab,if_false,Af]
   by_cases k3:e.kind=3
   ·simp only[k3,decide_true,Ab,B8 g1 rfl,l2,I,Af,if_true]
    by_cases c1:e.count=1
    ·simp only[c1,decide_true,Ab,B8 g1 rfl,l4,I,Af,J2,Bool.true_and]
     exact .ret ⟨rfl,x1⟩
    ·simp only[c1,decide_false,Ab,Af,J2,Bool.false_and]
     exact .ret ⟨rfl,x1⟩
   ·simp only[k3,decide_false,Ab,if_false,Sk]
    exact .ret ⟨rfl,x1⟩
def erB(e:En):Bool:=wi e.first 0 281474976710655 && (wi e.block 0 255 && (wi e.By 0 65535 && Amm e))
theorem Aob {h:Aa}{e:En}(w:e.Wf):Ok (N2 K (.agg e.cells) h) fun v h'=>v=.bool (erB e)/\Ext h h':=by
 simp only[N2,Ab]
 have x1:Ext h (h.new (.cells e.cells 89)):=A0.new _ _
 have g1:(h.new (.cells e.cells 89)).get h.next=some (.cells e.cells 89):=Ac _ _
 generalize h.new (.cells e.cells 89)=h1 at x1 g1 ⊢
 have l1:e.cells[1]? = some (I e.first):=rfl
 have l3:e.cells[3]? = some (I e.block):=rfl
 have l5:e.cells[5]? = some (I e.By):=rfl
 simp only[B8 g1 rfl,Ab,l1,I,M0,Af]
 unfold erB
 cases wi e.first 0 281474976710655 with
 | false=>simp only[Ab,Af,Kq,Ih,Gj];exact .ret ⟨rfl,x1⟩
 | true=>
 simp only[Ab,Af,B8 g1 rfl,l3,I,M0,Kq,Bool.true_and]
 cases hbl:wi e.block 0 255 with
 | false=>simp only[Ab,Af,Ih,Gj];exact .ret ⟨rfl,x1⟩
 | true=>
 simp only[Ab,Af,B8 g1 rfl,l5,I,M0,Ih,Bool.true_and]
 cases wi e.By 0 65535 with
 | false=>simp only[Ab,Af,Gj];exact .ret ⟨rfl,x1⟩
 | true=>
 simp only[Ab,Af,Bool.true_and]
 rw[C0 g1 rfl,Av (En.B4 w)]
 simp only[Gl]
 refine(Al2 (K:=K) w hbl).Aj ?_
 rintro _ h2 ⟨rfl,x2⟩
 simp only[Gj,Ab]
 exact .ret ⟨rfl,x1.trans x2⟩
end Go.Ev

namespace Go.Ev
open Go.Proofs
set_option maxRecDepth 100000
variable {K:Nat}
def Ri(e:En):List Nat:=Sj 6 e.first.toNat++Sj 1 e.count.toNat++Sj 1 e.block.toNat++Sj 2 e.many.toNat++Sj 2 e.By.toNat++e.bytes
def Qm:List Nat:=List.replicate 44 0
theorem Ahi:List.replicate 44 (EV.int .u8 0)=Bj Qm:=by kernel_rfl
def Cr(e:En):List Nat × Int:=if erB e=true then (Ri e,0) else (Qm,10)
theorem Arj {e:En}(w:e.Wf):(Ri e).length=44:=by
 unfold Ri;simp only[List.length_append,Gz,w.len]
theorem A4e {e:En}(w:e.Wf):∀ b ∈ Ri e,b<256:=fun b hb=>by
 unfold Ri at hb
 simp only[List.mem_append]at hb
 rcases hb with ((((hb|hb)|hb)|hb)|hb)|hb
 ·exact U6 _ _ b hb
 ·exact U6 _ _ b hb
 ·exact U6 _ _ b hb
 ·exact U6 _ _ b hb
 ·exact U6 _ _ b hb
 ·exact w.u8 b hb
theorem Aao {e:En}(w:e.Wf):(Cr e).1.length=44:=by
 unfold Cr;split
 ·exact Arj w
 ·rfl
theorem Avg {e:En}(w:e.Wf):∀ b ∈ (Cr e).1,b<256:=by
 unfold Cr;split
 ·exact A4e w
 ·intro b hb;rw[List.eq_of_mem_replicate hb];decide
theorem A8c:TT.size 118=some 44/\TT.agg 118=some true:=⟨by kernel_rfl,by kernel_rfl⟩
theorem Ayd {e:En}(hr:erB e=true):(0<=e.first/\e.first<=281474976710655)/\(0<=e.block/\e.block<=255)/\(0<=e.By/\e.By<=65535)/\(1<=e.count/\e.count<=4)/\(0<=e.many/\e.many<=256)/\(1<=e.kind/\e.kind<=3):=by
 unfold erB at hr
 simp only[Bool.and_eq_true]at hr
 obtain⟨r1,r2,r3,r4⟩:=hr
 have a:=Gt.1 r1
 have b:=Gt.1 r2
 have c:=Gt.1 r3
 refine⟨a,b,c,?_⟩
 unfold Amm at r4
 split at r4
 ·simp only[Bool.and_eq_true,decide_eq_true_eq]at r4
  have:=Gt.1 r4.1
  omega
 ·split at r4
  ·simp only[Bool.and_eq_true,decide_eq_true_eq]at r4
   have:=Gt.1 r4.1.2
   omega
  ·split at r4
   ·simp only[Bool.and_eq_true,decide_eq_true_eq]at r4
    omega
   ·cases r4
theorem Agj {h:Aa}{e:En}(w:e.Wf)(hb:HB h)(hK:10000<K):
 Ok (Lh K (.agg e.cells) h) fun v h'=>v=.tuple [.agg (Bj (Cr e).1),I (Cr e).2]/\Ext h h':=by
 have l1:e.cells[1]? = some (I e.first):=rfl
 have l2:e.cells[2]? = some (I e.count):=rfl
 have l3:e.cells[3]? = some (I e.block):=rfl
 have l4:e.cells[4]? = some (I e.many):=rfl
 have l5:e.cells[5]? = some (I e.By):=rfl
 have hfl:=En.B4 w
 simp only[Lh,Ab]
 rw[Ahi]
 have x1:Ext h (((h.new (.cells e.cells 89)).new (.cells (Bj Qm) 118)).new (.cells (Bj Qm) 118)):=((A0.new _ _).Fa _).Fa _
 have g1:(((h.new (.cells e.cells 89)).new (.cells (Bj Qm) 118)).new (.cells (Bj Qm) 118)).get h.next=some (.cells e.cells 89):=by
  rw[A4 _ (by show h.next<h.next+1+1;omega),A4 _ (Nat.lt_succ_self _)];exact Ac _ _
 have g2:(((h.new (.cells e.cells 89)).new (.cells (Bj Qm) 118)).new (.cells (Bj Qm) 118)).get (h.next+1)=some (.cells (Bj Qm) 118):=by
  rw[A4 _ (by show h.next+1<h.next+1+1;omega)];exact Ac _ _
 have g4:(((h.new (.cells e.cells 89)).new (.cells (Bj Qm) 118)).new (.cells (Bj Qm) 118)).get (h.next+2)=some (.cells (Bj Qm) 118):=Ac _ _
 have n1:(((h.new (.cells e.cells 89)).new (.cells (Bj Qm) 118)).new (.cells (Bj Qm) 118)).next=h.next+3:=rfl
 rw[show (h.new (.cells e.cells 89)).next=h.next+1 from rfl,show ((h.new (.cells e.cells 89)).new (.cells (Bj Qm) 118)).next=h.next+2 from rfl]
 generalize ((h.new (.cells e.cells 89)).new (.cells (Bj Qm) 118)).new (.cells (Bj Qm) 118)=h1 at x1 g1 g2 g4 n1 ⊢
 have hb1:=x1.hb hb
 have zl:(Bj Qm).length=44:=by rw[Bt];rfl
 have fin:∀ (l:List Nat) (er:Int) (h5:Aa) (kk:Aa->R),(∀ h',kk h'=Cx TT [.c (.ptr (h.next+1) 0) 118,.v (I er)] h')->HB h5->Ext h h5->h5.get (h.next+1)=some (.cells (Bj Qm) 118)->l.length=44->(l,er)=Cr e ->
  Ok (D5 44 (.ptr (h.next+1) 0) (.agg (Bj l)) h5 kk) fun v h'=>v=.tuple [.agg (Bj (Cr e).1),I (Cr e).2]/\Ext h h':=by
  intro l er h5 kk hkk hb5 x5 g5 hl he
  have fl:(Bj l).length=44:=by rw[Bt,hl]
  refine Ok.st (Bj l) g5 rfl (by show Gx (Bj l)=44;rw[Bf,fl]) (Bb (by rw[zl];exact fl.symm)) ?_
  have g6:(h5.put (h.next+1) (.cells (Bj l) 118)).get (h.next+1)=some (.cells (Bj l) 118):=Ah _ _ _
  rw[hkk,Ix g6 A8c.1 A8c.2 fl,<-he]
  exact .ret ⟨rfl,x5.Az (.inr (by omega)) (hb5 _ _ g5) _⟩
 rw[C0 g1 rfl,Av hfl]
 simp only[Gl]
 refine(Aob (K:=K) w).Aj ?_
 rintro _ h2 ⟨rfl,x2⟩
 have hb2:=x2.hb hb1
 have x12:=x1.trans x2
 have g1:=x2.at hb1 g1
 have g2:=x2.at hb1 g2
 have g4:=x2.at hb1 g4
 have n2:h.next+3<=h2.next:=by have:=x2.next;omega
 unfold Cr at fin ⊢
 cases hr:erB e with
 | false=>
  rw[hr]at fin
  simp only[Ab,Bool.false_eq_true,if_false]at fin ⊢
  rw[C0 g4 rfl,Av zl]
  simp only[Gl]
  exact fin Qm 10 h2 _ (fun _=>rfl) hb2 x12 g2 rfl rfl
 | true=>
 rw[hr]at fin
 simp only[Ab,if_true,V1]at fin ⊢
 obtain⟨⟨a1,b1⟩,⟨a2,b2⟩,⟨a3,b3⟩,⟨a4,b4⟩,⟨a5,b5⟩,_⟩:=Ayd hr
 have p0:Am6 (h2.new (.cells [.Ag,.bool false] 278)) h2.next 278 [] false:=⟨.Ag,0,Ac _ _,.nil _ _ _ _,fun y=>absurd y (Nat.lt_irrefl _)⟩
 have x3:Ext h2 (h2.new (.cells [.Ag,.bool false] 278)):=A0.new _ _
 have g1:=x3.at hb2 g1
 have g2:=x3.at hb2 g2
 have g4:=x3.at hb2 g4
 have hb3:=x3.hb hb2
 have x13:=x12.trans x3
 generalize h2.new (.cells [.Ag,.bool false] 278)=h3 at p0 x3 g1 g2 g4 hb3 x13 ⊢
 generalize hP:h2.next=P at p0 n2 ⊢
 have up:∀ {ha hc:Aa},Ext h ha->A0 (fun i=>P<=i) ha hc->Ext h hc:=fun x c=>x.then c fun j hj hl=>by
  have hj:P<=j:=hj
  omega
 have lo:∀ {ha hc:Aa} {i:Nat} {o:Cs},A0 (fun i=>P<=i) ha hc->HB ha->ha.get i=some o->i<P->hc.get i=some o:=fun c hb g hi=>c.at hb g (by omega)
 rw[B8 g1 rfl,l1]
 simp only[Gl]
 refine(Js (K:=K) (w:=6) (by omega) p0 hb3 (by simp) (by decide) (by decide) (v:=e.first) (by omega)).Aj ?_
 rintro _ h5 ⟨p,c,hb5⟩
 rw[Ro (b:=281474976710655) a1 b1 (by decide),if_pos rfl]at p
 have x5:=up x13 c
 have g1:=lo c hb3 g1 (by omega)
 have g2:=lo c hb3 g2 (by omega)
 have g4:=lo c hb3 g4 (by omega)
 rw[B8 g1 rfl,l2]
 simp only[Gl]
 refine(Js (K:=K) (w:=1) (by omega) p hb5 (by simp[Gz]) (by decide) (by decide) (v:=e.count) (by omega)).Aj ?_
 rintro _ h6 ⟨p,c,hb6⟩
 rw[Ro (b:=4) (by omega) b4 (by decide),if_pos rfl]at p
 have x6:=up x5 c
 have g1:=lo c hb5 g1 (by omega)
 have g2:=lo c hb5 g2 (by omega)
 have g4:=lo c hb5 g4 (by omega)
 rw[B8 g1 rfl,l3]
 simp only[Gl]
 refine(Js (K:=K) (w:=1) (by omega) p hb6 (by simp[Gz]) (by decide) (by decide) (v:=e.block) (by omega)).Aj ?_
 rintro _ h7 ⟨p,c,hb7⟩
 rw[Ro (b:=255) a2 b2 (by decide),if_pos rfl]at p
 have x7:=up x6 c
 have g1:=lo c hb6 g1 (by omega)
 have g2:=lo c hb6 g2 (by omega)
 have g4:=lo c hb6 g4 (by omega)
 rw[B8 g1 rfl,l4]
 simp only[Gl]
 refine(Js (K:=K) (w:=2) (by omega) p hb7 (by simp[Gz]) (by decide) (by decide) (v:=e.many) (by omega)).Aj ?_
 rintro _ h8 ⟨p,c,hb8⟩
 rw[Ro (b:=256) a5 b5 (by decide),if_pos rfl]at p
 have x8:=up x7 c
 have g1:=lo c hb7 g1 (by omega)
 have g2:=lo c hb7 g2 (by omega)
 have g4:=lo c hb7 g4 (by omega)
 rw[B8 g1 rfl,l5]
 simp only[Gl]
 refine(Js (K:=K) (w:=2) (by omega) p hb8 (by simp[Gz]) (by decide) (by decide) (v:=e.By) (by omega)).Aj ?_
 rintro _ h9 ⟨p,c,hb9⟩
 rw[Ro (b:=65535) a3 b3 (by decide),if_pos rfl]at p
 have x9:=up x8 c
 have g1:=lo c hb8 g1 (by omega)
 have g2:=lo c hb8 g2 (by omega)
 have g4:=lo c hb8 g4 (by omega)
 try simp only[Ab]
 rw[show ∀ k:EV->R,Mu 32 1 (.ptr h.next 6) none none none k=k (.slice h.next 6 32 32 false) from fun k=>rfl]
 have hcb:Kb h9 1 32 (.slice h.next 6 32 32 false)=some (Bj e.bytes):=by
  show Ph h9 h.next 6 32=_
  unfold Ph V3
  rw[g1]
  show Of e.cells 6 32=_
  rw[Ff (by rw[hfl];decide)]
  show some (List.take 32 (Bj e.bytes))=_
  rw[List.take_of_length_le (by rw[Bt,w.len];decide)]
 refine(Ajn (K:=K) (n:=32) p hb9 (by simp[Gz]) rfl (by decide) (by decide) hcb w.len).Aj ?_
 rintro _ h11 ⟨p,c,hb11⟩
 have x11:=up x9 c
 have g2:=lo c hb9 g2 (by omega)
 have g4:=lo c hb9 g4 (by omega)
 have ep:([]++Sj 6 e.first.toNat++Sj 1 e.count.toNat++Sj 1 e.block.toNat++Sj 2 e.many.toNat++Sj 2 e.By.toNat++e.bytes)=Ri e:=by
  unfold Ri;rw[List.nil_append]
 have ebad:∀ b:Bool,(b || !true)=b:=by decide
 rw[ep]at p
 simp only[ebad]at p
 have hel:=Arj w
 refine(Ao6 (K:=K) p hb11 (by rw[hel];decide)).Aj ?_
 rintro _ h12 ⟨y,q',rfl,ry,x12',hb12,lq⟩
 have g2:=x12'.at hb11 g2
 have g4:=x12'.at hb11 g4
 have x112:=x11.trans x12'
 simp only[Ab]
 rw[show ∀ k:EV->R,Mu 44 1 (.ptr (h.next+2) 0) none none none k=k (.slice (h.next+2) 0 44 44 false) from fun k=>rfl]
 have bsy:=ry.bs (by rw[hel];decide)
 have hlen:=bsy.len
 have hcel:=bsy.cells
 rw[hel]at hlen hcel
 have hcp:=Ast (h:=h12) (i:=h.next+2) (n:=44) (r:=44) (op:=false) (t:=118) (hd:=[]) (old:=Bj Qm) g4 hlen (by decide) hcel (by rw[Bt,hel]) zl
 rw[show ([]:List EV).length=0 from rfl,List.nil_append]at hcp
 rw[hcp,A9]
 have l44:=hb12 _ _ g4
 have g4:(h12.put (h.next+2) (.cells (Bj (Ri e)) 118)).get (h.next+2)=some (.cells (Bj (Ri e)) 118):=Ah _ _ _
 have g2:(h12.put (h.next+2) (.cells (Bj (Ri e)) 118)).get (h.next+1)=some (.cells (Bj Qm) 118):=by rw[Aq _ (by omega)];exact g2
 rw[C0 g4 rfl,Av (by rw[Bt,hel])]
 simp only[Gl]
 exact fin (Ri e) 0 _ _ (fun _=>rfl) (hb12.put l44 _) (x112.Az (.inr (by omega)) l44 _) g2 hel rfl
end Go.Ev

namespace Go.Ev
open Go.Proofs
set_option maxRecDepth 100000
variable {K:Nat}
theorem Ax0(a b c d e:Int){l:List EV}(hl:l.length=44):V2 (D3 [(0,1),(1,1),(2,1),(3,1),(4,1),(5,44)]) [(0,I a),(1,I b),(2,I c),(3,I d),(4,I e),(5,.agg l)] Fr.zero.cells=some ([I a,I b,I c,I d,I e]++l):=by
 have hs:=Akm [I a,I b,I c,I d,I e] (Bj (List.replicate 44 0)) l (by rw[Bt,List.length_replicate,hl])
 rw[<-Uo]at hs
 show As (Nat.beq (Gx l) 44) (oB (fun z=>some z) (Ni ([I a,I b,I c,I d,I e]++Bj (List.replicate 44 0)) 5 l)) none=_
 rw[Bf,hl,Nat.beq_refl,Ak]
 rw[show (5:Nat) = [I a,I b,I c,I d,I e].length from rfl,hs]
 rfl
def Dk(e:En)(Ao off Ar seq:Int):Fr × Int:=
 if erB e=true/\frB ⟨e.kind,Ao,off,Ar,seq,(Cr e).1⟩=true/\e.first<=seq/\seq-e.count<e.first then (⟨e.kind,Ao,off,Ar,seq,(Cr e).1⟩,0) else (Fr.zero,10)
theorem Aku {e:En}(w:e.Wf)(Ao off Ar seq:Int):(Dk e Ao off Ar seq).1.Wf:=by
 unfold Dk
 split
 ·exact⟨Aao w,Avg w⟩
 ·exact Fr.F9
theorem Xh {h:Aa}{e:En}(w:e.Wf)(hb:HB h)(hK:10000<K)(Ao off Ar seq:Int):
 Ok (Hb K (.agg e.cells) (I Ao) (I off) (I Ar) (I seq) h) fun v h'=>v=.tuple [.agg (Dk e Ao off Ar seq).1.cells,I (Dk e Ao off Ar seq).2]/\Ext h h':=by
 have l0:e.cells[0]? = some (I e.kind):=rfl
 have l1:e.cells[1]? = some (I e.first):=rfl
 have l2:e.cells[2]? = some (I e.count):=rfl
 have hfl:=En.B4 w
 have zl:=Fr.B4 Fr.F9
 have fwf:(⟨e.kind,Ao,off,Ar,seq,(Cr e).1⟩:Fr).Wf:=⟨Aao w,Avg w⟩
 have fl:=Fr.B4 fwf
 simp only[Hb,Ab]
 rw[Fr.Ju]
 have x1:Ext h ((h.new (.cells e.cells 89)).new (.cells Fr.zero.cells 120)):=(A0.new _ _).Fa _
 have g5:((h.new (.cells e.cells 89)).new (.cells Fr.zero.cells 120)).get h.next=some (.cells e.cells 89):=by
  rw[A4 _ (Nat.lt_succ_self _)];exact Ac _ _
 have g10:((h.new (.cells e.cells 89)).new (.cells Fr.zero.cells 120)).get (h.next+1)=some (.cells Fr.zero.cells 120):=Ac _ _
 have n1:((h.new (.cells e.cells 89)).new (.cells Fr.zero.cells 120)).next=h.next+2:=rfl
 rw[show (h.new (.cells e.cells 89)).next=h.next+1 from rfl]
 generalize (h.new (.cells e.cells 89)).new (.cells Fr.zero.cells 120)=h1 at x1 g5 g10 n1 ⊢
 have hb1:=x1.hb hb
 have fin:∀ (f:Fr) (er:Int) (h5:Aa) (kk:Aa->R),(∀ h',kk h'=Cx TT [.c (.ptr (h.next+1) 0) 120,.v (I er)] h')->HB h5->Ext h h5->h5.get (h.next+1)=some (.cells Fr.zero.cells 120)->f.Wf->(f,er)=Dk e Ao off Ar seq ->
  Ok (D5 49 (.ptr (h.next+1) 0) (.agg f.cells) h5 kk) fun v h'=>v=.tuple [.agg (Dk e Ao off Ar seq).1.cells,I (Dk e Ao off Ar seq).2]/\Ext h h':=by
  intro f er h5 kk hkk hb5 x5 g5 wf he
  have fl:=Fr.B4 wf
  refine Ok.st f.cells g5 rfl (by show Gx f.cells=49;rw[Bf,fl]) (Bb (by rw[zl];exact fl.symm)) ?_
  have g6:(h5.put (h.next+1) (.cells f.cells 120)).get (h.next+1)=some (.cells f.cells 120):=Ah _ _ _
  rw[hkk,Ix g6 Aqx.1 Aqx.2 fl,<-he]
  exact .ret ⟨rfl,x5.Az (.inr (by omega)) (hb5 _ _ g5) _⟩
 rw[C0 g5 rfl,Av hfl]
 simp only[Gl]
 refine(Agj (K:=K) w hb1 hK).Aj ?_
 rintro _ h2 ⟨rfl,x2⟩
 have hb2:=x2.hb hb1
 have x12:=x1.trans x2
 have g5:=x2.at hb1 g5
 have g10:=x2.at hb1 g10
 have n2:h.next+2<=h2.next:=by have:=x2.next;omega
 simp only[Ab]
 rw[Ahi]
 have x3:Ext h2 (h2.new (.cells (Bj Qm) 118)):=A0.new _ _
 have g12:(h2.new (.cells (Bj Qm) 118)).get h2.next=some (.cells (Bj Qm) 118):=Ac _ _
 have g5:=x3.at hb2 g5
 have g10:=x3.at hb2 g10
 have hb3:=x3.hb hb2
 have x13:=x12.trans x3
 have n3:(h2.new (.cells (Bj Qm) 118)).next=h2.next+1:=rfl
 generalize h2.new (.cells (Bj Qm) 118)=h3 at x3 g12 g5 g10 hb3 x13 n3 ⊢
 generalize h2.next=P at g12 n2 n3 ⊢
 have bl:(Bj (Cr e).1).length=44:=by rw[Bt,Aao w]
 refine Ok.st (Bj (Cr e).1) g12 rfl (by show Gx (Bj (Cr e).1)=44;rw[Bf,bl]) (Bb (by rw[Bt];exact bl.symm)) ?_
 have l12:=hb3 _ _ g12
 have g12:(h3.put P (.cells (Bj (Cr e).1) 118)).get P=some (.cells (Bj (Cr e).1) 118):=Ah _ _ _
 have g5:(h3.put P (.cells (Bj (Cr e).1) 118)).get h.next=some (.cells e.cells 89):=by rw[Aq _ (by omega)];exact g5
 have g10:(h3.put P (.cells (Bj (Cr e).1) 118)).get (h.next+1)=some (.cells Fr.zero.cells 120):=by rw[Aq _ (by omega)];exact g10
 have x4:Ext h (h3.put P (.cells (Bj (Cr e).1) 118)):=x13.Az (.inr (by omega)) l12 _
 have hb4:=hb3.put l12 (.cells (Bj (Cr e).1) 118)
 have n4:(h3.put P (.cells (Bj (Cr e).1) 118)).next=P+1:=n3
 generalize h3.put P (.cells (Bj (Cr e).1) 118)=h4 at g12 g5 g10 x4 hb4 n4 ⊢
 try simp only[Ab]
 rw[B8 g5 rfl,l0]
 simp only[Gl]
 rw[C0 g12 rfl,Av bl]
 simp only[Gl]
 try rw[Fr.Ju]
 rw[Bi (Ax0 e.kind Ao off Ar seq bl)]
 try simp only[Ab]
 have x5:Ext h4 (h4.new (.cells Fr.zero.cells 120)):=A0.new _ _
 have g14:(h4.new (.cells Fr.zero.cells 120)).get h4.next=some (.cells Fr.zero.cells 120):=Ac _ _
 have g5:=x5.at hb4 g5
 have g10:=x5.at hb4 g10
 have hb5:=x5.hb hb4
 have x15:=x4.trans x5
 generalize h4.new (.cells Fr.zero.cells 120)=h5 at x5 g14 g5 g10 hb5 x15 ⊢
 generalize h4.next=Q at g14 n4 ⊢
 refine Ok.st (⟨e.kind,Ao,off,Ar,seq,(Cr e).1⟩:Fr).cells g14 rfl (by show Gx (⟨e.kind,Ao,off,Ar,seq,(Cr e).1⟩:Fr).cells=49;rw[Bf,fl]) (Bb (by rw[zl];exact fl.symm)) ?_
 have l14:=hb5 _ _ g14
 have g14:(h5.put Q (.cells (⟨e.kind,Ao,off,Ar,seq,(Cr e).1⟩:Fr).cells 120)).get Q=some (.cells (⟨e.kind,Ao,off,Ar,seq,(Cr e).1⟩:Fr).cells 120):=Ah _ _ _
 have g5:(h5.put Q (.cells (⟨e.kind,Ao,off,Ar,seq,(Cr e).1⟩:Fr).cells 120)).get h.next=some (.cells e.cells 89):=by rw[Aq _ (by omega)];exact g5
 have g10:(h5.put Q (.cells (⟨e.kind,Ao,off,Ar,seq,(Cr e).1⟩:Fr).cells 120)).get (h.next+1)=some (.cells Fr.zero.cells 120):=by rw[Aq _ (by omega)];exact g10
 have x6:Ext h (h5.put Q (.cells (⟨e.kind,Ao,off,Ar,seq,(Cr e).1⟩:Fr).cells 120)):=x15.Az (.inr (by omega)) l14 _
 have hb6:=hb5.put l14 (.cells (⟨e.kind,Ao,off,Ar,seq,(Cr e).1⟩:Fr).cells 120)
 generalize h5.put Q (.cells (⟨e.kind,Ao,off,Ar,seq,(Cr e).1⟩:Fr).cells 120)=h6 at g14 g5 g10 x6 hb6 ⊢
 have hbf:(Cr e).2=if erB e=true then 0 else 10:=by unfold Cr;split <;> rfl
 rw[hbf]
 unfold Dk at fin ⊢
 generalize hfr:(⟨e.kind,Ao,off,Ar,seq,(Cr e).1⟩:Fr)=f at fin fwf fl g14 ⊢
 have no:∀ h7:Aa,Ext h6 h7->¬ (erB e=true/\frB f=true/\e.first<=seq/\seq-e.count<e.first)->Ok (Bu (D3 [(0,1),(1,1),(2,1),(3,1),(4,1),(5,44)]) Fr.zero.cells [] fun v50=>D5 49 (.ptr (h.next+1) 0) v50 h7 fun z=>Cx TT [.c (.ptr (h.next+1) 0) 120,.v (.int .i64 10)] z) _:=fun h7 x7 hno=>by
  rw[Bi (l:=Fr.zero.cells) rfl]
  exact fin Fr.zero 10 h7 _ (fun _=>rfl) (x7.hb hb6) (x6.trans x7) (x7.at hb6 g10) Fr.F9 (by rw[if_neg hno])
 simp only[I,Af]
 by_cases hr:erB e=true
 ·rw[if_pos hr]
  simp only[not_true_eq_false,decide_false,Ab]
  rw[C0 g14 rfl,Av fl]
  simp only[Gl]
  refine(Wu (K:=K) f).Aj ?_
  rintro _ h7 ⟨rfl,x7⟩
  have g5:=x7.at hb6 g5
  cases hf:frB f with
  | false=>
   simp only[Ab,Af,Ie,Gg,E3]
   have r:=no h7 x7 (by rw[hf];simp)
   rw[hf]at r
   exact r
  | true=>
   have hf':=hf
   rw[<-hfr]at hf'
   simp only[frB,Bool.and_eq_true]at hf'
   have hsq:=Gt.1 hf'.2.2.2.2
   have hct:=(Ayd hr).2.2.2.1
   have rr:=no h7 x7
   have rf:=fin f 0 h7 (fun z=>Cx TT [RV.c (EV.ptr (h.next+1) 0) 120,RV.v (EV.int IntKind.i64 0)] z) (fun _=>rfl) (x7.hb hb6) (x6.trans x7) (x7.at hb6 g10) fwf
   rw[hf]at rr rf
   simp only[eq_self]at rr rf
   simp only[Ab,Af,Ie]
   rw[B8 g5 rfl,l1]
   simp only[Gl,I,Af]
   by_cases h1':seq<e.first
   ·rw[show decide (seq<e.first)=true from decide_eq_true h1']
    simp only[Ab,Af,Gg,E3]
    exact rr fun y=>by omega
   ·rw[show decide (seq<e.first)=false from decide_eq_false h1']
    simp only[Ab,Af,Gg]
    rw[B8 g5 rfl,l1]
    simp only[Gl]
    rw[B8 g5 rfl,l2]
    simp only[Gl,I,Af]
    rw[Cq (by omega) (by omega)]
    by_cases h2':e.first<=seq-e.count
    ·rw[show decide (e.first<=seq-e.count)=true from decide_eq_true h2']
     simp only[Ab,Af,E3]
     exact rr fun y=>by omega
    ·rw[show decide (e.first<=seq-e.count)=false from decide_eq_false h2']
     simp only[Ab,Af,E3,Uv]
     rw[C0 (x7.at hb6 g14) rfl,Av fl]
     exact rf (by rw[if_pos ⟨hr,trivial,by omega,by omega⟩])
 ·rw[if_neg hr]
  simp only[show ¬ ((10:Int)=0) by decide,not_false_eq_true,decide_true,Ab,Af,Ie,Gg,E3]
  exact no h6 (A0.refl _) fun y=>hr y.1
end Go.Ev

namespace Go.Ev
open Go.Proofs
set_option maxRecDepth 100000
variable {K:Nat}
def En.zero:En:=⟨0,0,0,0,0,0,E8⟩
theorem En.Ju:List.replicate 6 (EV.int .i64 0)++List.replicate 32 (EV.int .u8 0)=En.zero.cells:=by kernel_rfl
theorem En.F9:En.zero.Wf:=⟨rfl,fun b hb=>by rw[List.eq_of_mem_replicate hb];decide⟩
theorem A70:TT.size 89=some 38/\TT.agg 89=some true:=⟨by kernel_rfl,by kernel_rfl⟩
def Tl(kind:Int)(p:List Nat):En:=⟨kind,Q3 (p.take 6),Q3 ((p.drop 6).take 1),Q3 (((p.drop 6).drop 1).take 1),Q3 ((((p.drop 6).drop 1).drop 1).take 2),Q3 (((((p.drop 6).drop 1).drop 1).drop 2).take 2),((((((p.drop 6).drop 1).drop 1).drop 2).drop 2).take 32)⟩
theorem Apg {kind:Int}{p:List Nat}(hp:p.length=44)(hu:∀ b ∈ p,b<256):(Tl kind p).Wf:=by
 refine⟨?_,fun b hb=>hu b ?_⟩
 ·simp only[Tl,List.length_take,List.length_drop,hp];decide
 ·simp only[Tl]at hb
  exact List.mem_of_mem_drop (List.mem_of_mem_drop (List.mem_of_mem_drop (List.mem_of_mem_drop (List.mem_of_mem_drop (List.mem_of_mem_take hb)))))
def ofF(kind:Int)(p:List Nat):En × Int:=
 if (Cr (Tl kind p)).2=0/\(Cr (Tl kind p)).1=p then (Tl kind p,0) else (En.zero,10)
theorem A30 {kind:Int}{p:List Nat}(hp:p.length=44)(hu:∀ b ∈ p,b<256):(ofF kind p).1.Wf:=by
 unfold ofF
 split
 ·exact Apg hp hu
 ·exact En.F9
theorem Ayy(k:Int)(a b c d e:Nat):V2 (D3 [(0,1),(1,1),(2,1),(3,1),(4,1),(5,1),(6,32)]) [(0,I k),(1,Nk .i64 a),(2,Nk .i64 b),(3,Nk .i64 c),(4,Nk .i64 d),(5,Nk .i64 e)] En.zero.cells=some ([I k,Nk .i64 a,Nk .i64 b,Nk .i64 c,Nk .i64 d,Nk .i64 e]++Bj E8):=rfl
theorem Avm {h:Aa}{p:List Nat}(hp:p.length=44)(hu:∀ b ∈ p,b<256)(hb:HB h)(hK:10000<K)(kind:Int):
 Ok (Ain K (I kind) (.agg (Bj p)) h) fun v h'=>v=.tuple [.agg (ofF kind p).1.cells,I (ofF kind p).2]/\Ext h h':=by
 have zl:=En.B4 En.F9
 have ul:(Bj p).length=44:=by rw[Bt,hp]
 simp only[Ain,Ab]
 rw[En.Ju]
 have x1:Ext h ((h.new (.cells (Bj p) 118)).new (.cells En.zero.cells 89)):=(A0.new _ _).Fa _
 have g3:((h.new (.cells (Bj p) 118)).new (.cells En.zero.cells 89)).get h.next=some (.cells (Bj p) 118):=by
  rw[A4 _ (Nat.lt_succ_self _)];exact Ac _ _
 have g4:((h.new (.cells (Bj p) 118)).new (.cells En.zero.cells 89)).get (h.next+1)=some (.cells En.zero.cells 89):=Ac _ _
 have n1:((h.new (.cells (Bj p) 118)).new (.cells En.zero.cells 89)).next=h.next+2:=rfl
 rw[show (h.new (.cells (Bj p) 118)).next=h.next+1 from rfl]
 generalize (h.new (.cells (Bj p) 118)).new (.cells En.zero.cells 89)=h1 at x1 g3 g4 n1 ⊢
 have hb1:=x1.hb hb
 have wfE:=Apg (kind:=kind) hp hu
 have fin:∀ (e:En) (er:Int) (h5:Aa) (kk:Aa->R),(∀ h',kk h'=Cx TT [.c (.ptr (h.next+1) 0) 89,.v (I er)] h')->HB h5->Ext h h5->h5.get (h.next+1)=some (.cells En.zero.cells 89)->e.Wf->(e,er)=ofF kind p ->
  Ok (D5 38 (.ptr (h.next+1) 0) (.agg e.cells) h5 kk) fun v h'=>v=.tuple [.agg (ofF kind p).1.cells,I (ofF kind p).2]/\Ext h h':=by
  intro e er h5 kk hkk hb5 x5 g5 wf he
  have fl:=En.B4 wf
  refine Ok.st e.cells g5 rfl (by show Gx e.cells=38;rw[Bf,fl]) (Bb (by rw[zl];exact fl.symm)) ?_
  have g6:(h5.put (h.next+1) (.cells e.cells 89)).get (h.next+1)=some (.cells e.cells 89):=Ah _ _ _
  rw[hkk,Ix g6 A70.1 A70.2 fl,<-he]
  exact .ret ⟨rfl,x5.Az (.inr (by omega)) (hb5 _ _ g5) _⟩
 rw[show ∀ k:EV->R,Mu 44 1 (.ptr h.next 0) none none none k=k (.slice h.next 0 44 44 false) from fun k=>rfl]
 have bs:Bs h1 (.slice h.next 0 44 44 false) h.next 0 p:=by
  refine⟨44,false,_,Bj p,by rw[hp],by omega,g3,rfl,by rw[ul];omega,?_⟩
  rw[List.drop_zero,hp,<-ul,List.take_length]
 refine(Aib (K:=K) bs hb1 (by omega) (by omega)).Aj ?_
 rintro _ h5 ⟨Rr,q,rfl,d0,x5,hb5,lq5⟩
 have g3:=x5.at hb1 g3
 have g4:=x5.at hb1 g4
 have x15:=x1.trans x5
 have hRn:Rr<h5.next:=by obtain⟨_,g,_⟩:=d0.O1;exact hb5 _ _ g
 have hR4:h.next+1<Rr:=by have:=d0.ne;omega
 have up:∀ {ha hc:Aa},Ext h ha->A0 (fun i=>i=Rr) ha hc->Ext h hc:=fun x c=>x.then c fun j hj hlt=>by
  have hj:j=Rr:=hj
  omega
 have keep:∀ {ha hc:Aa} {i:Nat} {o:Cs},A0 (fun i=>i=Rr) ha hc->HB ha->ha.get i=some o->i ≠ Rr->hc.get i=some o:=fun c hb g hi=>c.at hb g hi
 refine(Xt (K:=K) (w:=6) d0 hb5 (by omega) (by decide) (by decide) (by omega) hu).Aj ?_
 rintro _ h6 ⟨rfl,d1,c6,hb6⟩
 have g3:=keep c6 hb5 g3 (by omega)
 have g4:=keep c6 hb5 g4 (by omega)
 have x6:=up x15 c6
 refine(Xt (K:=K) (w:=1) d1 hb6 (by omega) (by decide) (by decide) (by simp only[List.length_drop];omega) (fun b hb=>hu b (List.mem_of_mem_drop hb))).Aj ?_
 rintro _ h7 ⟨rfl,d2,c7,hb7⟩
 have g3:=keep c7 hb6 g3 (by omega)
 have g4:=keep c7 hb6 g4 (by omega)
 have x7:=up x6 c7
 refine(Xt (K:=K) (w:=1) d2 hb7 (by omega) (by decide) (by decide) (by simp only[List.length_drop];omega) (fun b hb=>hu b (List.mem_of_mem_drop (List.mem_of_mem_drop hb)))).Aj ?_
 rintro _ h8 ⟨rfl,d3,c8,hb8⟩
 have g3:=keep c8 hb7 g3 (by omega)
 have g4:=keep c8 hb7 g4 (by omega)
 have x8:=up x7 c8
 refine(Xt (K:=K) (w:=2) d3 hb8 (by omega) (by decide) (by decide) (by simp only[List.length_drop];omega) (fun b hb=>hu b (List.mem_of_mem_drop (List.mem_of_mem_drop (List.mem_of_mem_drop hb))))).Aj ?_
 rintro _ h9 ⟨rfl,d4,c9,hb9⟩
 have g3:=keep c9 hb8 g3 (by omega)
 have g4:=keep c9 hb8 g4 (by omega)
 have x9:=up x8 c9
 refine(Xt (K:=K) (w:=2) d4 hb9 (by omega) (by decide) (by decide) (by simp only[List.length_drop];omega) (fun b hb=>hu b (List.mem_of_mem_drop (List.mem_of_mem_drop (List.mem_of_mem_drop (List.mem_of_mem_drop hb)))))).Aj ?_
 rintro _ h10 ⟨rfl,d5,c10,hb10⟩
 have g3:=keep c10 hb9 g3 (by omega)
 have g4:=keep c10 hb9 g4 (by omega)
 have x10:=up x9 c10
 try rw[En.Ju]
 rw[Bi (Ayy kind _ _ _ _ _)]
 try simp only[Ab]
 have x11:Ext h10 (h10.new (.cells En.zero.cells 89)):=A0.new _ _
 have g9:(h10.new (.cells En.zero.cells 89)).get h10.next=some (.cells En.zero.cells 89):=Ac _ _
 have n11:(h10.new (.cells En.zero.cells 89)).next=h10.next+1:=rfl
 have g3:=x11.at hb10 g3
 have g4:=x11.at hb10 g4
 have hb11:=x11.hb hb10
 have d5:=d5.ext hb10 x11
 have x1b:=x10.trans x11
 have hF:Rr<h10.next:=by have:=c6.next;have:=c7.next;have:=c8.next;have:=c9.next;have:=c10.next;omega
 generalize h10.new (.cells En.zero.cells 89)=h11 at x11 g9 n11 g3 g4 hb11 d5 x1b ⊢
 generalize h10.next=Fb at g9 n11 hF ⊢
 have hlen32:(((((p.drop 6).drop 1).drop 1).drop 2).drop 2).length=32:=by simp only[List.length_drop];omega
 unfold ofF Tl at fin ⊢
 unfold Tl at wfE
 generalize (((((p.drop 6).drop 1).drop 1).drop 2).drop 2)=body at d5 hlen32 fin wfE ⊢
 generalize Q3 (p.take 6)=n1' at fin wfE ⊢
 generalize Q3 ((p.drop 6).take 1)=n2' at fin wfE ⊢
 generalize Q3 (((p.drop 6).drop 1).take 1)=n3' at fin wfE ⊢
 generalize Q3 ((((p.drop 6).drop 1).drop 1).take 2)=n4' at fin wfE ⊢
 generalize Q3 (((((p.drop 6).drop 1).drop 1).drop 2).take 2)=n5' at fin wfE ⊢
 have htk:body.take 32=body:=List.take_of_length_le (by omega)
 rw[htk]at fin wfE ⊢
 have hl38:([I kind,Nk .i64 n1',Nk .i64 n2',Nk .i64 n3',Nk .i64 n4',Nk .i64 n5']++Bj E8).length=38:=by rw[List.length_append,Bt];rfl
 refine Ok.st ([I kind,Nk .i64 n1',Nk .i64 n2',Nk .i64 n3',Nk .i64 n4',Nk .i64 n5']++Bj E8) g9 rfl (by show Gx ([I kind,Nk .i64 n1',Nk .i64 n2',Nk .i64 n3',Nk .i64 n4',Nk .i64 n5']++Bj E8)=38;rw[Bf,hl38]) (Bb (by rw[zl];exact hl38.symm)) ?_
 have lF:=hb11 _ _ g9
 have c12:A0 (fun i=>i=Fb) h11 (h11.put Fb (.cells ([I kind,Nk .i64 n1',Nk .i64 n2',Nk .i64 n3',Nk .i64 n4',Nk .i64 n5']++Bj E8) 89)):=(A0.refl (S:=fun i=>i=Fb) h11).Az (.inl rfl) lF _
 have g9:(h11.put Fb (.cells ([I kind,Nk .i64 n1',Nk .i64 n2',Nk .i64 n3',Nk .i64 n4',Nk .i64 n5']++Bj E8) 89)).get Fb=some (.cells ([I kind,Nk .i64 n1',Nk .i64 n2',Nk .i64 n3',Nk .i64 n4',Nk .i64 n5']++Bj E8) 89):=Ah _ _ _
 have hb12:=hb11.put lF (.cells ([I kind,Nk .i64 n1',Nk .i64 n2',Nk .i64 n3',Nk .i64 n4',Nk .i64 n5']++Bj E8) 89)
 generalize h11.put Fb (.cells ([I kind,Nk .i64 n1',Nk .i64 n2',Nk .i64 n3',Nk .i64 n4',Nk .i64 n5']++Bj E8) 89)=h12 at c12 g9 hb12 ⊢
 have upF:∀ {ha hc:Aa},Ext h ha->A0 (fun i=>i=Fb) ha hc->Ext h hc:=fun x c=>x.then c fun j hj hlt=>by
  have hj:j=Fb:=hj
  omega
 have Nd:∀ {ha hc:Aa} {i:Nat} {o:Cs},A0 (fun i=>i=Fb) ha hc->HB ha->ha.get i=some o->i ≠ Fb->hc.get i=some o:=fun c hb g hi=>c.at hb g hi
 have g3:=Nd c12 hb11 g3 (by omega)
 have g4:=Nd c12 hb11 g4 (by omega)
 have d5:=d5.chg hb11 c12 (by have:=d5.ne;intro y;omega) (by intro y;omega)
 have x12:=upF x1b c12
 try simp only[Ab]
 rw[show ∀ k:EV->R,Mu 32 1 (.ptr Fb 6) none none none k=k (.slice Fb 6 32 32 false) from fun k=>rfl]
 have dl:Rd h12.lift Rr q (0+6+1+1+2+2) body:=d5.chg hb12 (S:=fun _=>False) ⟨fun i _ _=>C5 _ _,Nat.le_refl _,fun w _ w2 _=>w2,fun y=>D6 y⟩ id id
 refine Ok.Ake (S:=fun i=>i=Rr) (by kernel_rfl) (by kernel_rfl) (fun _=>by kernel_rfl) (Auv (K:=K) (n:=32) dl (D6 hb12) (by decide) (by omega)) (fun _ _ p=>p.2.2.1) ?_
 rintro v43 h18' h18 s' ⟨b43,_,_,hb18'⟩ sm18 c18 hs'
 have hb18:=sm18.hb hb18'
 have b43:=b43.frame (sm18.get _)
 rw[htk]at b43
 have g3:=keep c18 hb12 g3 (by omega)
 have g4:=keep c18 hb12 g4 (by omega)
 have g9:=keep c18 hb12 g9 (by omega)
 have x18:=up x12 c18
 have hlen:lenOf v43=some 32:=by have:=b43.len;rw[hlen32]at this;exact this
 have hcel:Kb h18.lift 1 32 v43=some (Bj body):=by have:=b43.lift.cells;rw[hlen32]at this;exact this
 have hcp:=Ast (h:=h18.lift) (i:=Fb) (n:=32) (r:=32) (op:=false) (t:=89) (hd:=[I kind,Nk .i64 n1',Nk .i64 n2',Nk .i64 n3',Nk .i64 n4',Nk .i64 n5']) (old:=Bj E8) (by rw[C5];exact g9) hlen (by decide) hcel (by rw[Bt,hlen32]) (by rw[Bt];rfl)
 have lF18:=hb18 _ _ g9
 refine Ok.Ake (S:=fun i=>i=Fb) (by rcases hs' with rfl|⟨w,rfl,_⟩ <;> kernel_rfl) (by rcases hs' with rfl|⟨w,rfl,_⟩ <;> kernel_rfl) (fun w=>by rcases hs' with rfl|⟨w,rfl,_⟩ <;> kernel_rfl) (P:=fun v h'=>h'=h18.lift.put Fb (.cells ([I kind,Nk .i64 n1',Nk .i64 n2',Nk .i64 n3',Nk .i64 n4',Nk .i64 n5']++Bj body) 89)) ⟨_,_,hcp,rfl⟩ (fun _ _ p=>by rw[p];exact(A0.refl (S:=fun i=>i=Fb) h18.lift).Az (.inl rfl) (show Fb<h18.lift.next from lF18) _) ?_
 rintro v44 h19' h19 s2 rfl sm19 c19 _
 have hb19:=c19.hb hb18
 have g9:h19.get Fb=some (.cells (⟨kind,n1',n2',n3',n4',n5',body⟩:En).cells 89):=by rw[sm19.get];exact Ah _ _ _
 have g3:=Nd c19 hb18 g3 (by omega)
 have g4:=Nd c19 hb18 g4 (by omega)
 have x19:=upF x18 c19
 generalize hE:(⟨kind,n1',n2',n3',n4',n5',body⟩:En)=E at fin wfE g9 ⊢
 have el:=En.B4 wfE
 rw[C0 g9 rfl,Av el]
 simp only[Gl]
 refine(Agj (K:=K) wfE hb19 hK).Aj ?_
 rintro _ h20 ⟨rfl,x20⟩
 have hb20:=x20.hb hb19
 have g3:=x20.at hb19 g3
 have g4:=x20.at hb19 g4
 have g9:=x20.at hb19 g9
 have x120:=x19.trans x20
 have lF20:=hb20 _ _ g9
 try simp only[Ab]
 rw[Ahi]
 have x21:Ext h20 (h20.new (.cells (Bj Qm) 118)):=A0.new _ _
 have g8:(h20.new (.cells (Bj Qm) 118)).get h20.next=some (.cells (Bj Qm) 118):=Ac _ _
 have g3:=x21.at hb20 g3
 have g4:=x21.at hb20 g4
 have g9:=x21.at hb20 g9
 have hb21:=x21.hb hb20
 have x121:=x120.trans x21
 have lt20:h.next+2<=h20.next:=by have:=x1.next;have:=x120.next;have:=hb20 _ _ (by assumption:h20.get (h.next+1)=some (.cells En.zero.cells 89));omega
 generalize h20.new (.cells (Bj Qm) 118)=h21 at x21 g8 g3 g4 g9 hb21 x121 ⊢
 generalize h20.next=P at g8 lF20 lt20 ⊢
 have bl:(Bj (Cr E).1).length=44:=by rw[Bt,Aao wfE]
 refine Ok.st (Bj (Cr E).1) g8 rfl (by show Gx (Bj (Cr E).1)=44;rw[Bf,bl]) (Bb (by rw[Bt];exact bl.symm)) ?_
 have l8:=hb21 _ _ g8
 have g8:(h21.put P (.cells (Bj (Cr E).1) 118)).get P=some (.cells (Bj (Cr E).1) 118):=Ah _ _ _
 have g3:(h21.put P (.cells (Bj (Cr E).1) 118)).get h.next=some (.cells (Bj p) 118):=by rw[Aq _ (by omega)];exact g3
 have g4:(h21.put P (.cells (Bj (Cr E).1) 118)).get (h.next+1)=some (.cells En.zero.cells 89):=by rw[Aq _ (by omega)];exact g4
 have g9:(h21.put P (.cells (Bj (Cr E).1) 118)).get Fb=some (.cells E.cells 89):=by rw[Aq _ (by omega)];exact g9
 have x122:Ext h (h21.put P (.cells (Bj (Cr E).1) 118)):=x121.Az (.inr (by omega)) l8 _
 have hb22:=hb21.put l8 (.cells (Bj (Cr E).1) 118)
 generalize h21.put P (.cells (Bj (Cr E).1) 118)=h22 at g8 g3 g4 g9 x122 hb22 ⊢
 simp only[I,Af]
 have no:¬ ((Cr E).2=0/\(Cr E).1=p)->Ok (Bu (D3 [(0,1),(1,1),(2,1),(3,1),(4,1),(5,1),(6,32)]) En.zero.cells [] fun v41=>D5 38 (.ptr (h.next+1) 0) v41 h22 fun z=>Cx TT [.c (.ptr (h.next+1) 0) 89,.v (.int .i64 10)] z) _:=fun hno=>by
  rw[Bi (l:=En.zero.cells) rfl]
  exact fin En.zero 10 h22 _ (fun _=>rfl) hb22 x122 g4 En.F9 (by rw[if_neg hno])
 by_cases h0:(Cr E).2=0
 ·rw[show decide (¬ (Cr E).2=0)=false from decide_eq_false fun y=>y h0]
  simp only[Ab]
  rw[C0 g8 rfl,Av bl]
  simp only[Gl]
  rw[C0 g3 rfl,Av ul]
  simp only[Gl]
  rw[Aqz A8z (Aao wfE) hp]
  by_cases h1':(Cr E).1=p
  ·rw[show decide (¬ (Cr E).1=p)=false from decide_eq_false fun y=>y h1']
   simp only[Up,Ab,Ak8]
   rw[C0 g9 rfl,Av el]
   exact fin E 0 h22 _ (fun _=>rfl) hb22 x122 g4 wfE (by rw[if_pos ⟨h0,h1'⟩])
  ·rw[show decide (¬ (Cr E).1=p)=true from decide_eq_true h1']
   simp only[Up,Ab]
   exact no fun y=>h1' y.2
 ·rw[show decide (¬ (Cr E).2=0)=true from decide_eq_true h0]
  simp only[Ab,Up]
  exact no fun y=>h0 y.1
end Go.Ev

namespace Go.Ev
open Go.Proofs
set_option maxRecDepth 100000
variable {K:Nat}
def P9(f:Fr):En × Int:=
 if ¬ (ofF f.kind f.body).2=0 then (En.zero,(ofF f.kind f.body).2) else
 if ¬ (Dk (ofF f.kind f.body).1 f.Ao f.off f.Ar f.seq).2=0 then (En.zero,(Dk (ofF f.kind f.body).1 f.Ao f.off f.Ar f.seq).2) else ((ofF f.kind f.body).1,0)
theorem Aqa {h:Aa}{f:Fr}(w:f.Wf)(hb:HB h)(hK:10000<K):
 Ok (Ab9 K (.agg f.cells) h) fun v h'=>v=.tuple [.agg (P9 f).1.cells,I (P9 f).2]/\(P9 f).1.Wf/\Ext h h':=by
 have l0:f.cells[0]? = some (I f.kind):=rfl
 have l1:f.cells[1]? = some (I f.Ao):=rfl
 have l2:f.cells[2]? = some (I f.off):=rfl
 have l3:f.cells[3]? = some (I f.Ar):=rfl
 have l4:f.cells[4]? = some (I f.seq):=rfl
 have hfl:=Fr.B4 w
 have l5:Of f.cells 5 44=some (Bj f.body):=by
  rw[Ff (by rw[hfl];decide)]
  show some (List.take 44 (Bj f.body))=_
  rw[List.take_of_length_le (by rw[Bt,w.len];decide)]
 have zl:=En.B4 En.F9
 have owf:=A30 (kind:=f.kind) w.len w.u8
 have ol:=En.B4 owf
 simp only[Ab9,Ab]
 rw[En.Ju]
 have x1:Ext h ((h.new (.cells f.cells 120)).new (.cells En.zero.cells 89)):=(A0.new _ _).Fa _
 have g1:((h.new (.cells f.cells 120)).new (.cells En.zero.cells 89)).get h.next=some (.cells f.cells 120):=by
  rw[A4 _ (Nat.lt_succ_self _)];exact Ac _ _
 have g2:((h.new (.cells f.cells 120)).new (.cells En.zero.cells 89)).get (h.next+1)=some (.cells En.zero.cells 89):=Ac _ _
 have n1:((h.new (.cells f.cells 120)).new (.cells En.zero.cells 89)).next=h.next+2:=rfl
 rw[show (h.new (.cells f.cells 120)).next=h.next+1 from rfl]
 generalize (h.new (.cells f.cells 120)).new (.cells En.zero.cells 89)=h1 at x1 g1 g2 n1 ⊢
 have hb1:=x1.hb hb
 have fin:∀ (e:En) (er:Int) (h5:Aa) (kk:Aa->R),(∀ h',kk h'=Cx TT [.c (.ptr (h.next+1) 0) 89,.v (I er)] h')->HB h5->Ext h h5->h5.get (h.next+1)=some (.cells En.zero.cells 89)->e.Wf->(e,er)=P9 f ->
  Ok (D5 38 (.ptr (h.next+1) 0) (.agg e.cells) h5 kk) fun v h'=>v=.tuple [.agg (P9 f).1.cells,I (P9 f).2]/\(P9 f).1.Wf/\Ext h h':=by
  intro e er h5 kk hkk hb5 x5 g5 wf he
  have fl:=En.B4 wf
  refine Ok.st e.cells g5 rfl (by show Gx e.cells=38;rw[Bf,fl]) (Bb (by rw[zl];exact fl.symm)) ?_
  have g6:(h5.put (h.next+1) (.cells e.cells 89)).get (h.next+1)=some (.cells e.cells 89):=Ah _ _ _
  rw[hkk,Ix g6 A70.1 A70.2 fl,<-he]
  exact .ret ⟨rfl,wf,x5.Az (.inr (by omega)) (hb5 _ _ g5) _⟩
 rw[B8 g1 rfl,l0]
 simp only[Gl]
 rw[C0 g1 rfl,l5]
 simp only[Gl]
 refine(Avm (K:=K) w.len w.u8 hb1 hK f.kind).Aj ?_
 rintro _ h2 ⟨rfl,x2⟩
 have hb2:=x2.hb hb1
 have x12:=x1.trans x2
 have g1:=x2.at hb1 g1
 have g2:=x2.at hb1 g2
 have n2:h.next+2<=h2.next:=by have:=x2.next;omega
 try simp only[Ab]
 try rw[En.Ju]
 have x3:Ext h2 (h2.new (.cells En.zero.cells 89)):=A0.new _ _
 have g4:(h2.new (.cells En.zero.cells 89)).get h2.next=some (.cells En.zero.cells 89):=Ac _ _
 have g1:=x3.at hb2 g1
 have g2:=x3.at hb2 g2
 have hb3:=x3.hb hb2
 have x13:=x12.trans x3
 generalize h2.new (.cells En.zero.cells 89)=h3 at x3 g4 g1 g2 hb3 x13 ⊢
 generalize h2.next=P at g4 n2 ⊢
 refine Ok.st (ofF f.kind f.body).1.cells g4 rfl (by show Gx (ofF f.kind f.body).1.cells=38;rw[Bf,ol]) (Bb (by rw[zl];exact ol.symm)) ?_
 have l4':=hb3 _ _ g4
 have g4:(h3.put P (.cells (ofF f.kind f.body).1.cells 89)).get P=some (.cells (ofF f.kind f.body).1.cells 89):=Ah _ _ _
 have g1:(h3.put P (.cells (ofF f.kind f.body).1.cells 89)).get h.next=some (.cells f.cells 120):=by rw[Aq _ (by omega)];exact g1
 have g2:(h3.put P (.cells (ofF f.kind f.body).1.cells 89)).get (h.next+1)=some (.cells En.zero.cells 89):=by rw[Aq _ (by omega)];exact g2
 have x4:Ext h (h3.put P (.cells (ofF f.kind f.body).1.cells 89)):=x13.Az (.inr (by omega)) l4' _
 have hb4:=hb3.put l4' (.cells (ofF f.kind f.body).1.cells 89)
 generalize h3.put P (.cells (ofF f.kind f.body).1.cells 89)=h4 at g4 g1 g2 x4 hb4 ⊢
 unfold P9 at fin ⊢
 generalize (ofF f.kind f.body).2=er at fin ⊢
 generalize (ofF f.kind f.body).1=e at fin owf ol g4 ⊢
 simp only[I,Af]
 by_cases h0:er=0
 ·subst h0
  simp only[not_true_eq_false,decide_false,Ab,if_false,Agu]at fin ⊢
  rw[C0 g4 rfl,Av ol]
  simp only[Gl]
  rw[B8 g1 rfl,l1]
  simp only[Gl,Ab]
  rw[B8 g1 rfl,l2]
  simp only[Gl,Ab]
  rw[B8 g1 rfl,l3]
  simp only[Gl,Ab]
  rw[B8 g1 rfl,l4]
  simp only[Gl,Ab]
  refine(Xh (K:=K) owf hb4 hK f.Ao f.off f.Ar f.seq).Aj ?_
  rintro _ h5 ⟨rfl,x5⟩
  have hb5:=x5.hb hb4
  have g2:=x5.at hb4 g2
  have g4:=x5.at hb4 g4
  have x15:=x4.trans x5
  generalize (Dk e f.Ao f.off f.Ar f.seq).2=er2 at fin ⊢
  simp only[Ab,I,Af]
  by_cases h1':er2=0
  ·subst h1'
   simp only[not_true_eq_false,decide_false,Ab,if_false,Agk]at fin ⊢
   rw[C0 g4 rfl,Av ol]
   exact fin e 0 h5 _ (fun _=>rfl) hb5 x15 g2 owf rfl
  ·simp only[h1',not_false_eq_true,decide_true,Ab,if_true]at fin ⊢
   rw[Bi (l:=En.zero.cells) rfl]
   exact fin En.zero er2 h5 _ (fun _=>rfl) hb5 x15 g2 En.F9 rfl
 ·simp only[h0,not_false_eq_true,decide_true,Ab,if_true]at fin ⊢
  rw[Bi (l:=En.zero.cells) rfl]
  exact fin En.zero er h4 _ (fun _=>rfl) hb4 x4 g2 En.F9 rfl
end Go.Ev

namespace Go.Ev
open Go.Proofs
set_option maxRecDepth 100000
theorem As5:∀ (w a:Nat),Q3 (Sj w a)=a % 256 ^ w
 | 0,a=>by simp[Sj,Q3,Nat.mod_one]
 | w+1,a=>by
  rw[Avi,Atv,As5 w a,Gz,Nat.mod_pow_succ]
theorem Th {w:Nat}{v b:Int}(h0:0<=v)(hb:v<=b)(hw:b<(256 ^ w:Nat)):((Q3 (Sj w v.toNat):Nat):Int)=v:=by
 rw[As5,Nat.mod_eq_of_lt (by omega)];omega
theorem Asb {a b:List Nat}{n:Nat}(h:a.length=n):(a++b).take n=a:=by subst h;simp
theorem Axo {a b:List Nat}{n:Nat}(h:a.length=n):(a++b).drop n=b:=by subst h;simp
theorem Axd {f:Fr}(w:f.Wf):Aoj (Oe f)=true:=by
 have h1:=Aom w
 have h2:=Aal w
 unfold Aoj
 rw[h1]
 apply decide_eq_true
 unfold Oe
 rw[Asb h2,Axo h2]
theorem Atn {f:Fr}(w:f.Wf)(hr:frB f=true):Tn (Akv f)=f/\Q3 (((Akv f).drop 1).take 1)=1:=by
 simp only[frB,Bool.and_eq_true]at hr
 obtain⟨r1,r2,r3,r4,r5⟩:=hr
 obtain⟨a1,b1⟩:=Gt.1 r1
 obtain⟨a2,b2⟩:=Gt.1 r2
 obtain⟨a3,b3⟩:=Gt.1 r3
 obtain⟨a4,b4⟩:=Gt.1 r4
 obtain⟨a5,b5⟩:=Gt.1 r5
 have hl:=w.len
 have t44:f.body.take 44=f.body:=List.take_of_length_le (by omega)
 unfold Tn Akv
 simp only[List.append_assoc,Asb (Gz _ _),Axo (Gz _ _),t44]
 rw[Th (w:=1) (by omega) b1 (by decide),Th (w:=2) a2 b2 (by decide),Th (w:=2) a3 b3 (by decide),Th (w:=4) (by omega) b4 (by decide),Th (w:=6) a5 b5 (by decide)]
 exact⟨rfl,by rw[As5]⟩
theorem A3e {f:Fr}(w:f.Wf)(hr:frB f=true):Rj (Oe f)=(f,0):=by
 obtain⟨e1,e2⟩:=Atn w hr
 have h2:=Aal w
 have ht:(Oe f).take 60=Akv f:=by unfold Oe;exact Asb h2
 unfold Rj
 rw[if_neg (by rw[Axd w];simp),ht,e1,if_pos ⟨e2,hr⟩]
theorem A4y {f:Fr}(w:f.Wf)(hr:frB f=true):atF (Oe f) f.Ao f.off=(f,0):=by
 unfold atF
 rw[A3e w hr]
 simp
theorem Aqi {e:En}(w:e.Wf)(hr:erB e=true):Tl e.kind (Ri e)=e:=by
 obtain⟨⟨a1,b1⟩,⟨a2,b2⟩,⟨a3,b3⟩,⟨a4,b4⟩,⟨a5,b5⟩,_⟩:=Ayd hr
 have hl:=w.len
 have t32:e.bytes.take 32=e.bytes:=List.take_of_length_le (by omega)
 unfold Tl Ri
 simp only[List.append_assoc,Asb (Gz _ _),Axo (Gz _ _),t32]
 rw[Th (w:=6) a1 b1 (by decide),Th (w:=1) (by omega) b4 (by decide),Th (w:=1) a2 b2 (by decide),Th (w:=2) a5 b5 (by decide),Th (w:=2) a3 b3 (by decide)]
theorem A2f {e:En}(w:e.Wf)(hr:erB e=true):ofF e.kind (Ri e)=(e,0):=by
 unfold ofF
 rw[Aqi w hr]
 unfold Cr
 rw[if_pos hr]
 simp
theorem Aim {e:En}(w:e.Wf){Ao off Ar seq:Int}(h:(Dk e Ao off Ar seq).2=0):
 (Dk e Ao off Ar seq).1=⟨e.kind,Ao,off,Ar,seq,Ri e⟩/\frB ⟨e.kind,Ao,off,Ar,seq,Ri e⟩=true/\erB e=true/\P9 ⟨e.kind,Ao,off,Ar,seq,Ri e⟩=(e,0):=by
 by_cases hc:erB e=true/\frB ⟨e.kind,Ao,off,Ar,seq,(Cr e).1⟩=true/\e.first<=seq/\seq-e.count<e.first
 ·have hb:(Cr e).1=Ri e:=by unfold Cr;rw[if_pos hc.1]
  have hf:Dk e Ao off Ar seq=(⟨e.kind,Ao,off,Ar,seq,Ri e⟩,0):=by unfold Dk;rw[if_pos hc,hb]
  rw[hb]at hc
  refine⟨by rw[hf],hc.2.1,hc.1,?_⟩
  unfold P9
  simp only[A2f w hc.1,hf]
  simp
 ·exfalso
  unfold Dk at h
  rw[if_neg hc]at h
  exact absurd h (by decide)
end Go.Ev
