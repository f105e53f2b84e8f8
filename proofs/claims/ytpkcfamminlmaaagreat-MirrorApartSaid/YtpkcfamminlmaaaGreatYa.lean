import Derived.Test.YtpkcfamminlmaaaGreatXc
import Derived.Test.YtpkcfamminlmaaaGreatXb
set_option linter.unusedVariables false
set_option linter.unusedSimpArgs false
set_option linter.unusedSectionVars false
namespace Go.Ev
open Go.Proofs
set_option maxRecDepth 100000
variable {K:Nat}
abbrev Nk(k:IntKind)(a:Nat):EV:=.int k (Int.ofNat a)
theorem wrap_u8(a:Nat):Cv .u8 (Int.ofNat a)=Int.ofNat (a % 256):=by
 rw[L7]
 rfl
theorem wrap_u32(a:Nat):Cv .u32 (Int.ofNat a)=Int.ofNat (a % 4294967296):=by
 rw[L7]
 rfl
theorem Aje {c:IntKind}{a:Nat}{k:EV->R}:O7 .u8 (.int c (Int.ofNat a)) k=k (Nk .u8 (a % 256)):=by
 rw[Ax8,wrap_u8]
theorem Agc {t:Nat}{a:Nat}{k:EV->R}:N1 (bin TT .shr t) (.int .i64 (Int.ofNat a)) (.int .u64 8) k=k (Nk .i64 (a / 256)):=by
 show k (.int .i64 (.ofNat (Nat.shiftRight a 8)))=_
 have:Nat.shiftRight a 8=a / 256:=Nat.shiftRight_eq_div_pow a 8
 rw[this]
theorem Ai8 {t s:Nat}(hs:s<=32){a:Nat}{k:EV->R}:N1 (bin TT .shr t) (.int .u32 (Int.ofNat a)) (.int .u64 (Int.ofNat s)) k=k (Nk .u32 (a / 2 ^ s)):=by
 show k (.int .u32 (.ofNat (Nat.shiftRight a (Ao (Nat.ble s 32) s 32))))=_
 rw[Nat.ble_eq_true_of_le hs,Ai]
 have:Nat.shiftRight a s=a / 2 ^ s:=Nat.shiftRight_eq_div_pow a s
 rw[this]
theorem Aur {t:Nat}{a b:Nat}(ha:a<4294967296)(hb:b<4294967296){k:EV->R}:N1 (bin TT .xor t) (.int .u32 (Int.ofNat a)) (.int .u32 (Int.ofNat b)) k=k (Nk .u32 (a ^^^ b)):=by
 show k (.int .u32 (Cv .u32 (.ofNat (Nat.xor a b))))=_
 rw[wrap_u32]
 have:Nat.xor a b<2 ^ 32:=Nat.xor_lt_two_pow (n:=32) ha hb
 rw[Nat.mod_eq_of_lt (by exact this)];rfl
theorem Azu {t:Nat}{a b:Nat}(ha:a<256)(hb:b<256){k:EV->R}:N1 (bin TT .xor t) (.int .u8 (Int.ofNat a)) (.int .u8 (Int.ofNat b)) k=k (Nk .u8 (a ^^^ b)):=by
 show k (.int .u8 (Cv .u8 (.ofNat (Nat.xor a b))))=_
 rw[wrap_u8]
 have:Nat.xor a b<2 ^ 8:=Nat.xor_lt_two_pow (n:=8) ha hb
 rw[Nat.mod_eq_of_lt (by exact this)];rfl
def wd:Nat->Nat->Nat
 | 0,_=>1
 | f+1,a=>if a / 256=0 then 1 else wd f (a / 256)+1
theorem A35:∀ (f a w:Nat),a<256 ^ (f+1)->1<=w->(wd f a<=w ↔ a<256 ^ w)
 | 0,a,w,h,hw=>by
  refine⟨fun _=>Nat.lt_of_lt_of_le h (Nat.pow_le_pow_right (by decide) (by omega)),fun _=>hw⟩
 | f+1,a,w,h,hw=>by
  unfold wd
  by_cases h0:a / 256=0
  ·rw[if_pos h0]
   refine⟨fun _=>?_,fun _=>hw⟩
   have:a<256:=by omega
   exact Nat.lt_of_lt_of_le this (by have:=Nat.pow_le_pow_right (n:=256) (by decide) hw;simpa using this)
  ·rw[if_neg h0]
   have ih:=A35 f (a / 256) (w-1) (by rw[Nat.pow_succ]at h;exact Nat.div_lt_of_lt_mul (by rw[Nat.mul_comm];exact h))
   by_cases h1:w=1
   ·subst h1
    refine⟨fun y=>?_,fun y=>?_⟩
    ·have:1<=wd f (a / 256):=by cases f <;> unfold wd <;> (try split) <;> omega
     omega
    ·exfalso;apply h0;simp at y;omega
   ·have ih:=ih (by omega)
    obtain⟨v,rfl⟩:∃ v,w=v+1:=⟨w-1,by omega⟩
    rw[Nat.add_sub_cancel]at ih
    rw[Nat.pow_succ]
    refine⟨fun y=>?_,fun y=>?_⟩
    ·have:=ih.1 (by omega)
     have:=Nat.div_lt_iff_lt_mul (k:=256) (x:=a) (y:=256 ^ v) (by decide)
     omega
    ·have:=ih.2 (Nat.div_lt_of_lt_mul (by rw[Nat.mul_comm];exact y))
     omega
theorem As0:∀ (f m a n:Nat) (h:Aa),f<m->a<256 ^ (f+1)->n+f<=100->f<=10 ->
 Fj K m (Nk .i64 a) (Nk .i64 n) h=Na K (Nk .i64 (a / 256 ^ (wd f a-1))) (Nk .i64 (n+wd f a-1)) h:=by
 intro f
 induction f with
 | zero=>
  intro m a n h hm ha hn hf
  obtain⟨m,rfl⟩:∃ k,m=k+1:=⟨m-1,by omega⟩
  have:a / 256=0:=by simp at ha;omega
  simp only[Fj]
  rw[Agc,this]
  simp only[Nk,Ad]
  rw[show decide ((0:Int)<Int.ofNat 0)=false from rfl]
  simp only[Ab,wd,Nat.sub_self,Nat.pow_zero,Nat.div_one,Nat.add_sub_cancel]
 | succ f ih=>
  intro m a n h hm ha hn hf
  obtain⟨m,rfl⟩:∃ k,m=k+1:=⟨m-1,by omega⟩
  simp only[Fj]
  rw[Agc]
  simp only[Nk,Ad]
  unfold wd
  by_cases h0:a / 256=0
  ·rw[if_pos h0,h0]
   rw[show decide ((0:Int)<Int.ofNat 0)=false from rfl]
   simp only[Ab,Nat.sub_self,Nat.pow_zero,Nat.div_one,Nat.add_sub_cancel]
  ·rw[if_neg h0,show decide ((0:Int)<Int.ofNat (a / 256))=true from decide_eq_true (by show (0:Int)<((a / 256:Nat):Int);omega)]
   simp only[Ab,Abn]
   rw[Agc]
   simp only[Nk,Ad]
   rw[show Cv .i64 (Int.ofNat n+1)=Int.ofNat (n+1) from C6 (by show _<=((n:Nat):Int)+1;omega) (by show ((n:Nat):Int)+1<=_;omega)]
   have e:=ih m (a / 256) (n+1) h (by omega) (Nat.div_lt_of_lt_mul (by rw[Nat.mul_comm,<-Nat.pow_succ];exact ha)) (by omega) (by omega)
   rw[e]
   have hw:1<=wd f (a / 256):=by cases f <;> unfold wd <;> (try split) <;> omega
   obtain⟨u,hu⟩:∃ u,wd f (a / 256)=u+1:=⟨wd f (a / 256)-1,by omega⟩
   rw[hu,Nat.add_sub_cancel,show u+1+1-1=u+1 from rfl,Nat.pow_succ',Nat.div_div_eq_div_mul,show n+1+(u+1)-1=n+(u+1+1)-1 by omega]
def X9(a:Nat):Nat:=if 7<wd 7 a then 8 else wd 7 a
theorem Av6 {a:Nat}(ha:a<9223372036854775808)(hK:1000<K)(h:Aa):Ng K (.int .i64 (Int.ofNat a)) h=some (Nk .i64 (X9 a),h):=by
 unfold Ng X9
 have e:=As0 (K:=K) 7 K a 1 h (by omega) (Nat.lt_trans ha (by decide)) (by decide) (by decide)
 have:(EV.int .i64 1)=Nk .i64 1:=rfl
 rw[this,e]
 have hw:1<=wd 7 a:=by unfold wd;split <;> omega
 simp only[Na,Nk,Ad]
 rw[show decide (Int.ofNat (a / 256 ^ (wd 7 a-1))<0)=false from decide_eq_false (by show ¬ (((a / 256 ^ (wd 7 a-1):Nat):Int)<0);exact Int.not_lt.2 (Int.natCast_nonneg _))]
 rw[show 1+wd 7 a-1=wd 7 a by omega]
 by_cases h7:7<wd 7 a
 ·rw[show decide ((7:Int)<Int.ofNat (wd 7 a))=true from decide_eq_true (by show (7:Int)<((wd 7 a:Nat):Int);omega),if_pos h7]
  simp only[Ab,Nb]
  rfl
 ·rw[show decide ((7:Int)<Int.ofNat (wd 7 a))=false from decide_eq_false (by show ¬ ((7:Int)<((wd 7 a:Nat):Int));omega),if_neg h7]
  simp only[Ab,Nb,Ab9]
theorem Ayd {a:Nat}(hK:1000<K)(h:Aa):Ng K (.int .i64 (Int.negSucc a)) h=some (I 8,h):=by
 obtain⟨m,rfl⟩:∃ k,K=k+1:=⟨K-1,by omega⟩
 unfold Ng
 simp only[Fj]
 have e:∀ k:EV->R,N1 (bin TT .shr 3) (.int .i64 (Int.negSucc a)) (.int .u64 8) k=k (.int .i64 ((Int.negSucc a).fdiv 256)):=fun k=>rfl
 have hneg:(Int.negSucc a).fdiv 256<0:=by
  rw[Int.fdiv_eq_ediv_of_nonneg _ (by decide)]
  have:Int.negSucc a<0:=Int.negSucc_lt_zero a
  omega
 rw[e]
 simp only[Ad]
 rw[show decide ((0:Int)<(Int.negSucc a).fdiv 256)=false from decide_eq_false (by omega)]
 simp only[Ab,Na,Ad]
 rw[show decide (Int.negSucc a<0)=true from decide_eq_true (Int.negSucc_lt_zero a)]
 simp only[Ab,Nb,I]
theorem Axs {a w:Nat}(ha:a<9223372036854775808)(h1:1<=w)(h7:w<=7):X9 a<=w ↔ a<256 ^ w:=by
 have:=A35 7 a w (Nat.lt_trans ha (by decide)) h1
 rw[<-this]
 unfold X9
 split <;> omega
def Sj(w a:Nat):List Nat:=(List.range w).map fun i=>a / 256 ^ i % 256
theorem Ar5(w a:Nat):Sj (w+1) a=Sj w a++[a / 256 ^ w % 256]:=by unfold Sj;rw[List.range_succ,List.map_append];rfl
theorem Hw(w a:Nat):(Sj w a).length=w:=by simp[Sj]
theorem Apf(a b:List Nat):E2 (a++b)=E2 a++E2 b:=List.map_append
theorem Ep(a:List Nat):(E2 a).length=a.length:=List.length_map _
structure Al1(h:Aa)(P t:Nat)(out:List Nat)(bad:Bool):Prop where
 Rp:∃ s q,h.get P=some (.cells [s,.bool bad] t)/\B0 h s q 5 1 out.length (E2 out)/\(0<out.length->P<q)
theorem Aip(n:Int)(h:Aa):Pv K (I n) h=some (.bool (decide (1<=n/\n<=7)),h):=by
 simp only[Pv,I,Ad,Ab]
 by_cases h1:1<=n
 ·simp only[h1,decide_true,Ab,Ad,Ox,true_and]
 ·simp only[h1,decide_false,Ab,Ox,false_and]
theorem Ayu {P t w:Nat}{bad:Bool}{a:Nat}(ha:a<9223372036854775808)(hw:w<=7){out:List Nat}(ho:out.length<=60000)(h0:Aa)(hP:P<h0.next):∀ (m i:Nat) (h:Aa),w-i<m->i<=w->HB h->A4 (fun i=>P<=i) h0 h->Al1 h P t (out++Sj i a) bad ->
 Ok (Fw K m (.ptr P 0) (Nk .i64 (a / 256 ^ i)) (I w) (I i) h) fun _ h'=>Al1 h' P t (out++Sj w a) bad/\A4 (fun i=>P<=i) h0 h'/\HB h':=by
 intro m
 induction m with
 | zero=>intro i h hm;omega
 | succ m ih=>
  intro i h hm hi hb c p
  obtain⟨s,q,g,r,l⟩:=p.Rp
  simp only[Fw,I,Ad,Ab]
  by_cases hlt:(i:Int)<w
  ·simp only[hlt,decide_true,Ab,Xq,B2 g rfl]
   rw[wrap_u8]
   have hlen:(out++Sj i a).length=out.length+i:=by rw[List.length_append,Hw]
   refine Q5 (z:=[.int .u8 0]) r hb rfl rfl rfl (by omega) (by omega) ?_
   intro h2 r2 n2 c2
   have gq:¬ (0<(out++Sj i a).length/\P=q):=fun y=>by have:=l y.1;omega
   have g2:=c2.at hb g gq
   have lP:=(c2.hb hb) _ _ g2
   refine Ok.st1 g2 rfl rfl (by show 0<2;decide) ?_
   rw[Agc]
   simp only[Xf,I,Ad]
   rw[C6 (by omega) (by omega),Nat.div_div_eq_div_mul,<-Nat.pow_succ]
   have c3:A4 (fun i=>P<=i) h (h2.put P (.cells ([s,EV.bool bad].set 0 (.slice (h.next+1) 0 ((out++Sj i a).length+1) ((out++Sj i a).length+1) true)) t)):=(c2.mono fun j hj=>by have:=l hj.1;show P<=j;omega).A8 (.inl (Nat.le_refl _)) lP _
   refine ih (i+1) _ (by omega) (by omega) ((c2.hb hb).put lP _) (c.trans c3) ?_
   rw[Ar5,<-List.append_assoc]
   refine⟨_,h.next+1,Aj _ _ _,?_,fun _=>by have:=c.next;omega⟩
   have e1:((out++Sj i a)++[a / 256 ^ i % 256]).length=(out++Sj i a).length+1:=by rw[List.length_append];rfl
   have e2:E2 ((out++Sj i a)++[a / 256 ^ i % 256])=E2 (out++Sj i a)++EV.cells (Nk .u8 (a / 256 ^ i % 256)):=by rw[Apf];rfl
   rw[e1,e2]
   refine r2.frame fun _=>Ar _ ?_
   have:=hb _ _ g;omega
  ·have:i=w:=by omega
   subst this
   simp only[hlt,decide_false,Ab]
   exact .ret ⟨p,c,hb⟩
def fits(w:Nat)(v:Int):Bool:=decide (0<=v/\v<(256 ^ w:Nat))
theorem Is {P t w:Nat}{bad:Bool}{out:List Nat}(hK:1000<K){h:Aa}(p:Al1 h P t out bad)(hb:HB h)(ho:out.length<=60000)(h1:1<=w)(h7:w<=7){v:Int}(hv : -9223372036854775808<=v/\v<=9223372036854775807):
 Ok (C7 K (.ptr P 0) (I w) (I v) h) fun _ h'=>Al1 h' P t (if fits w v=true then out++Sj w v.toNat else out) (bad || !fits w v)/\A4 (fun i=>P<=i) h h'/\HB h':=by
 obtain⟨s,q,g,r,l⟩:=p.Rp
 have lP:=hb _ _ g
 simp only[C7]
 rw[Aip,decide_eq_true ⟨by omega,by omega⟩]
 simp only[Ab,Ad]
 have no:fits w v=false->Ok (Jf 1 (.ptr P 1) (.bool true) h fun h=>some (.tuple [],h)) fun _ h'=>Al1 h' P t (if fits w v=true then out++Sj w v.toNat else out) (bad || !fits w v)/\A4 (fun i=>P<=i) h h'/\HB h':=by
  intro hf
  refine Ok.st1 g rfl rfl (by show 1<2;decide) ?_
  refine .ret ⟨?_,(A4.refl (S:=fun i=>P<=i) h).A8 (.inl (Nat.le_refl _)) lP _,hb.put lP _⟩
  rw[hf,if_neg (by simp),Bool.not_false,Bool.or_true]
  exact⟨s,q,Aj _ _ _,r.frame fun y=>Ar _ (by have:=l y;omega),l⟩
 cases v with
 | negSucc a=>
  unfold I
  rw[Ayd hK,Bf]
  simp only[I,Ad]
  rw[show decide ((w:Int)<8)=true from decide_eq_true (by omega)]
  simp only[Ab,Kx]
  exact no (decide_eq_false fun y=>absurd y.1 (by have:=Int.negSucc_lt_zero a;omega))
 | ofNat a=>
  have ha:a<9223372036854775808:=by have:((a:Nat):Int)<=9223372036854775807:=hv.2;omega
  unfold I
  rw[Av6 ha hK,Bf]
  have hfit:=Axs ha h1 h7
  simp only[Nk,Ad]
  by_cases hw:X9 a<=w
  ·have hf:fits w (Int.ofNat a)=true:=decide_eq_true ⟨Int.natCast_nonneg a,by have:=hfit.1 hw;exact Int.ofNat_lt.2 this⟩
   rw[show decide ((w:Int)<Int.ofNat (X9 a))=false from decide_eq_false (by show ¬ (w:Int)<((X9 a:Nat):Int);omega)]
   simp only[Ab,Kx,Xo]
   have:=Ayu (K:=K) (P:=P) (t:=t) (w:=w) (bad:=bad) ha h7 ho h lP K 0 h (by omega) (Nat.zero_le _) hb (A4.refl _) (by simpa [Sj] using p)
   rw[Nat.pow_zero,Nat.div_one]at this
   rw[hf,if_pos rfl,Bool.not_true,Bool.or_false]
   exact this
  ·rw[show decide ((w:Int)<Int.ofNat (X9 a))=true from decide_eq_true (by show (w:Int)<((X9 a:Nat):Int);omega)]
   simp only[Ab,Kx]
   exact no (decide_eq_false fun y=>hw (hfit.2 (Int.ofNat_lt.1 y.2)))
theorem Ae4 {P t n:Nat}{bad:Bool}{out new:List Nat}{h:Aa}(p:Al1 h P t out bad)(hb:HB h)(ho:out.length<=60000){x:EV}(hx:lenOf x=some n)(h0:0<n)(hn:n<=5000)(hc:Nj h 1 n x=some (E2 new))(hl:new.length=n):
 Ok (Lv K (.ptr P 0) x h) fun _ h'=>Al1 h' P t (out++new) bad/\A4 (fun i=>P<=i) h h'/\HB h':=by
 obtain⟨s,q,g,r,l⟩:=p.Rp
 have lP:=hb _ _ g
 simp only[Lv,Ab,B2 g rfl]
 obtain⟨h2,e,r2,n2,c2⟩:=Q2 r hx h0 (by omega) (by omega) hc (by rw[Ep,hl,Nat.mul_one])
 rw[e,Bf]
 have gq:¬ (0<out.length/\P=q):=fun y=>by have:=l y.1;omega
 have g2:=c2.at hb g gq
 have lP2:=(c2.hb hb) _ _ g2
 try simp only[Ab]
 refine Ok.st1 g2 rfl rfl (by show 0<2;decide) ?_
 refine .ret ⟨⟨_,h.next,Aj _ _ _,?_,fun _=>by omega⟩,(c2.mono fun j hj=>by have:=l hj.1;show P<=j;omega).A8 (.inl (Nat.le_refl _)) lP2 _,(c2.hb hb).put lP2 _⟩
 rw[List.length_append,hl,Apf]
 exact r2.frame fun _=>Ar _ (by omega)
end Go.Ev

namespace Go.Ev
open Go.Proofs
set_option maxRecDepth 100000
variable {K:Nat}
structure Bs(h:Aa)(x:EV)(b off:Nat)(l:List Nat):Prop where
 Rp:∃ r op o row,x=.slice b off l.length r op/\l.length<=r/\h.get b=some o/\rowOf o=some row/\off+l.length<=row.length/\(row.drop off).take l.length=E2 l
theorem Bs.frame {h h':Aa}{x:EV}{b off:Nat}{l:List Nat}(s:Bs h x b off l)(e:h'.get b=h.get b):Bs h' x b off l:=by
 obtain⟨r,op,o,row,e1,e0,e2,e3,e4,e5⟩:=s.Rp
 exact⟨r,op,o,row,e1,e0,by rw[e];exact e2,e3,e4,e5⟩
theorem Bs.lt {h:Aa}{x:EV}{b off:Nat}{l:List Nat}(s:Bs h x b off l)(hb:HB h):b<h.next:=by
 obtain⟨r,op,o,row,e1,e0,e2,e3,e4,e5⟩:=s.Rp
 exact hb _ _ e2
theorem Bs.ext {h h':Aa}{x:EV}{b off:Nat}{l:List Nat}(s:Bs h x b off l)(hb:HB h)(c:Ext h h'):Bs h' x b off l:=s.frame (c.get _ (s.lt hb) id)
theorem Bs.len {h:Aa}{x:EV}{b off:Nat}{l:List Nat}(s:Bs h x b off l):lenOf x=some l.length:=by
 obtain⟨r,op,o,row,rfl,_⟩:=s.Rp;rfl
theorem Bs.Ho {h:Aa}{x:EV}{b off:Nat}{l:List Nat}(s:Bs h x b off l)(k:EV->R):Ev.Ho x k=k (I l.length):=by
 obtain⟨r,op,o,row,rfl,_⟩:=s.Rp;rfl
theorem Bs.cells {h:Aa}{x:EV}{b off:Nat}{l:List Nat}(s:Bs h x b off l):Nj h 1 l.length x=some (E2 l):=by
 obtain⟨r,op,o,row,rfl,e0,e2,e3,e4,e5⟩:=s.Rp
 show Ao (Nat.beq l.length 0) (some []) (So h b off (Nat.mul l.length 1))=_
 rw[show Nat.mul l.length 1=l.length from Nat.mul_one _]
 have hc:Oh row off l.length=some (E2 l):=by rw[Im e4,e5]
 cases hl:l with
 | nil=>rfl
 | cons a r=>
  rw[show Nat.beq (a::r).length 0=false from rfl,Aw]
  unfold So
  rw[e2,<-hl]
  cases o <;> first|(cases e3;done)|(cases e3;exact hc)
theorem Bs.ix {h:Aa}{x:EV}{b off:Nat}{l:List Nat}(s:Bs h x b off l){i:Nat}(hi:i<l.length):(∀ k:EV->R,Ix 1 x (.int .i64 (i:Int)) k=k (.ptr b (off+i)))/\(∀ k:EV->R,Am (.ptr b (off+i)) h k=k (Nk .u8 l[i])):=by
 obtain⟨r,op,o,row,rfl,e0,e2,e3,e4,e5⟩:=s.Rp
 refine⟨fun k=>by rw[Wu hi,Nat.mul_one],fun k=>?_⟩
 rw[B2 e2 e3]
 have:row[off+i]? = some (Nk .u8 l[i]):=by
  have e5:=congrArg (fun z=>z[i]?) e5
  simp only[List.getElem?_take,hi,if_true,List.getElem?_drop]at e5
  rw[e5]
  unfold E2
  rw[List.getElem?_map,List.getElem?_eq_getElem hi];rfl
 rw[this];rfl
theorem B0.bs {h:Aa}{s:EV}{q:Nat}{l:List Nat}(r:B0 h s q 5 1 l.length (E2 l))(hl:0<l.length):Bs h s q 0 l:=by
 refine⟨l.length,true,_,E2 l,r.slice hl,Nat.le_refl _,r.block hl,rfl,by rw[Ep,Nat.zero_add];exact Nat.le_refl _,?_⟩
 rw[List.drop_zero,<-Ep,List.take_length]
def A7b:EV->Nat
 | .int _ x=>x.toNat
 | _=>0
noncomputable def Asp:List Nat:=Bp.map A7b
theorem Awe:Bp=Asp.map (Nk .u32):=by kernel_rfl
theorem A4k:Asp.all (fun n=>Nat.blt n 4294967296)=true:=by kernel_rfl
theorem A3p:Asp.length=256:=by kernel_rfl
noncomputable def Anu(r c:Nat):Nat:=(r / 256) ^^^ (Asp[(r % 256) ^^^ c]?).getD 0
theorem Asi {i:Nat}(hi:i<256):Bp[i]? = some (Nk .u32 ((Asp[i]?).getD 0))/\(Asp[i]?).getD 0<4294967296:=by
 have hi':i<Asp.length:=by rw[A3p];exact hi
 rw[Awe,List.getElem?_map,List.getElem?_eq_getElem hi']
 refine⟨rfl,?_⟩
 have:=List.all_eq_true.1 A4k _ (List.getElem_mem hi')
 exact Nat.le_of_ble_eq_true this
theorem A2z {r c:Nat}(hr:r<4294967296)(hc:c<256):Anu r c<4294967296:=by
 unfold Anu
 have h1:(r % 256) ^^^ c<2 ^ 8:=Nat.xor_lt_two_pow (n:=8) (Nat.mod_lt _ (by decide)) hc
 exact Nat.xor_lt_two_pow (n:=32) (by show r / 256<4294967296;omega) (Asi h1).2
theorem A22 {h:Aa}{r c:Nat}(hr:r<4294967296)(hc:c<256):Ok (Nh K Aah (Nk .u32 r) (Nk .u8 c) h) fun v h'=>v=Nk .u32 (Anu r c)/\Ext h h':=by
 unfold Aah
 simp only[Nh,Ab]
 have g3:(h.new (.cells Bp 72)).get h.next=some (.cells Bp 72):=Ae _ _
 have x1:Ext h (h.new (.cells Bp 72)):=A4.new _ _
 generalize h.new (.cells Bp 72)=h1 at g3 x1 ⊢
 rw[show ∀ k:EV->R,N1 (bin TT .shr 70) (Nk .u32 r) (.int .u64 8) k=k (Nk .u32 (r / 256)) from fun k=>Ai8 (s:=8) (by decide)]
 have h1':(r % 256) ^^^ c<256:=Nat.xor_lt_two_pow (n:=8) (Nat.mod_lt _ (by decide)) hc
 rw[wrap_u8,Azu (Nat.mod_lt _ (by decide)) hc,show ∀ k:EV->R,Aiw 256 1 (.ptr h.next 0) (Nk .u8 ((r % 256) ^^^ c)) k=k (.ptr h.next (0+((r % 256) ^^^ c)*1)) from fun k=>An6 h1']
 rw[B2 g3 rfl,Nat.zero_add,Nat.mul_one,(Asi h1').1]
 simp only[I8]
 rw[Aur (by omega) (Asi h1').2]
 exact .ret ⟨rfl,x1⟩
noncomputable def Aic(r:Nat)(l:List Nat):Nat:=l.foldl Anu r
theorem Ai0:∀ (l:List Nat) (r:Nat),r<4294967296->(∀ b ∈ l,b<256)->Aic r l<4294967296
 | [],r,hr,_=>hr
 | c::l,r,hr,hl=>Ai0 l (Anu r c) (A2z hr (hl c (List.mem_cons_self ..))) fun b hb=>hl b (List.mem_cons_of_mem _ hb)
theorem Axr {T b off:Nat}{x:EV}{l:List Nat}(hl:∀ b ∈ l,b<256)(hn:l.length<=5000){r0:Nat}(h0:r0<4294967296):∀ (m i:Nat) (h:Aa),l.length-i<m->i<=l.length->HB h->h.get T=some (.cells Bp 72)->Bs h x b off l ->
 Ok (Fa K m (.ptr T 0) (Nk .u32 (Aic r0 (l.take i))) x (I l.length) (I i) h) fun v h'=>v=Nk .u32 (Aic r0 l)/\Ext h h':=by
 intro m
 induction m with
 | zero=>intro i h hm;omega
 | succ m ih=>
  intro i h hm hi hb gT s
  simp only[Fa,I,Ad,Ab]
  by_cases hlt:(i:Int)<l.length
  ·have hin:i<l.length:=by omega
   obtain⟨e1,e2⟩:=s.ix hin
   simp only[hlt,decide_true,Ab,Vs,e1,e2,F4 gT rfl]
   rw[Av X8]
   simp only[I8]
   have htk:∀ b ∈ l.take i,b<256:=fun b hb=>hl b (List.mem_of_mem_take hb)
   refine(A22 (K:=K) (Ai0 _ _ h0 htk) (hl _ (List.getElem_mem hin))).Al ?_
   rintro _ h1 ⟨rfl,x1⟩
   simp only[V6,I,Ad]
   rw[C6 (by omega) (by omega)]
   have e:Anu (Aic r0 (l.take i)) l[i]=Aic r0 (l.take (i+1)):=by
    unfold Aic
    rw[List.take_add_one,List.foldl_append,List.getElem?_eq_getElem hin];rfl
   rw[e]
   refine(ih (i+1) h1 (by omega) (by omega) (x1.hb hb) (x1.at hb gT) (s.ext hb x1)).mono ?_
   rintro v h' ⟨e,x2⟩
   exact⟨e,x1.trans x2⟩
  ·have:i=l.length:=by omega
   subst this
   simp only[hlt,decide_false,Ab,Qk,List.take_length]
   exact .ret ⟨rfl,A4.refl _⟩
noncomputable def Fm(l:List Nat):Nat:=Aic 4294967295 l ^^^ 4294967295
theorem A0j {l:List Nat}(hl:∀ b ∈ l,b<256):Fm l<4294967296:=Nat.xor_lt_two_pow (n:=32) (Ai0 l _ (by decide) hl) (by decide)
theorem Az9 {h:Aa}{x:EV}{b off:Nat}{l:List Nat}(hK:10000<K)(s:Bs h x b off l)(hb:HB h)(hl:∀ b ∈ l,b<256)(hn:l.length<=5000):Ok (Mg K Aah x h) fun v h'=>v=Nk .u32 (Fm l)/\Ext h h':=by
 unfold Aah
 simp only[Mg,Ab]
 have g3:(h.new (.cells Bp 72)).get h.next=some (.cells Bp 72):=Ae _ _
 have x1:Ext h (h.new (.cells Bp 72)):=A4.new _ _
 generalize h.new (.cells Bp 72)=h1 at g3 x1 ⊢
 have s1:=s.ext hb x1
 simp only[Ug,s1.Ho]
 refine(Axr (K:=K) hl hn (r0:=4294967295) (by decide) K 0 h1 (by omega) (Nat.zero_le _) (x1.hb hb) g3 s1).Al ?_
 rintro _ h2 ⟨rfl,x2⟩
 rw[show ∀ k:EV->R,N1 (bin TT .xor 70) (Nk .u32 (Aic 4294967295 l)) (.int .u32 4294967295) k=k (Nk .u32 (Fm l)) from fun k=>Aur (b:=4294967295) (Ai0 l _ (by decide) hl) (by decide)]
 exact .ret ⟨rfl,x1.trans x2⟩
end Go.Ev

namespace Go.Ev
open Go.Proofs
set_option maxRecDepth 100000
variable {K:Nat}
theorem B0.cells {h:Aa}{s:EV}{q:Nat}{l:List Nat}(r:B0 h s q 5 1 l.length (E2 l)):Nj h 1 l.length s=some (E2 l):=by
 rcases Nat.eq_zero_or_pos l.length with h0|hp
 ·have:l = []:=List.length_eq_zero_iff.1 h0
  subst this
  rcases r with ⟨_,_,rfl|⟨b,rfl⟩⟩|⟨y,_⟩
  ·rfl
  ·rfl
  ·exact absurd y (Nat.lt_irrefl _)
 ·exact(r.bs hp).cells
theorem Arl {h:Aa}{P t q:Nat}{s:EV}{out:List Nat}(g:h.get P=some (.cells [s,.bool false] t))(r:B0 h s q 5 1 out.length (E2 out))(hb:HB h)(ho:out.length<=60000):
 Ok (Mj K (.ptr P 0) h) fun v h'=>∃ y q',v=.tuple [y,I 0]/\B0 h' y q' 5 1 out.length (E2 out)/\Ext h h'/\HB h'/\(0<out.length->h.next<=q'):=by
 simp only[Mj,Ab,B2 g rfl,Xe]
 rw[show B3 [(.int .u8 0)] 5 1 0 [] h=some (.slice h.next 0 0 0 false,h.new (.cells [] 5)) from rfl,Bf]
 have x1:Ext h (h.new (.cells [] 5)):=A4.new _ _
 have g1:=x1.at hb g
 have r1:B0 (h.new (.cells [] 5)) s q 5 1 out.length (E2 out):=r.frame fun y=>x1.get _ (hb _ _ (r.block y)) id
 generalize h.new (.cells [] 5)=h1 at x1 g1 r1 ⊢
 simp only[Ab,B2 g1 rfl]
 refine(Yz (b:=h.next) (e:=5) r1.len (by omega) r1.cells (by rw[Ep,Nat.mul_one]) 0).Al ?_
 rintro v h2 ⟨q',r2,x2,l2⟩
 refine .ret ⟨v,q',rfl,r2,x1.trans x2,(x1.trans x2).hb hb,fun y=>?_⟩
 have:=l2 y
 have:=x1.next
 omega
theorem Aln {h:Aa}{P t:Nat}{out:List Nat}(p:Al1 h P t out false)(hb:HB h)(ho:out.length<=60000):
 Ok (Mj K (.ptr P 0) h) fun v h'=>∃ y q',v=.tuple [y,I 0]/\B0 h' y q' 5 1 out.length (E2 out)/\Ext h h'/\HB h'/\(0<out.length->h.next<=q'):=by
 obtain⟨s,q,g,r,_⟩:=p.Rp
 exact Arl g r hb ho
theorem A78(s:Nat):Sj 4 s = [s % 256,s / 256 % 256,s / 65536 % 256,s / 16777216 % 256]:=by
 simp[Sj,List.range_succ]
theorem A5j(a b c d:Int)(h:Aa):B3 [(.int .u8 0)] 5 1 4 [(0,.int .u8 a),(1,.int .u8 b),(2,.int .u8 c),(3,.int .u8 d)] h=some (.slice h.next 0 4 4 false,h.new (.cells [.int .u8 a,.int .u8 b,.int .u8 c,.int .u8 d] 5)):=rfl
theorem A3d {h:Aa}{x:EV}{b off:Nat}{l:List Nat}(hK:10000<K)(s:Bs h x b off l)(hb:HB h)(hl:∀ b ∈ l,b<256)(h0:0<l.length)(hn:l.length<=5000):
 Ok (Px K Aah x h) fun v h'=>∃ q',B0 h' v q' 5 1 (l++Sj 4 (Fm l)).length (E2 (l++Sj 4 (Fm l)))/\Ext h h'/\HB h'/\h.next<=q':=by
 unfold Aah
 simp only[Px,Ab]
 have g3:(h.new (.cells Bp 72)).get h.next=some (.cells Bp 72):=Ae _ _
 have x1:Ext h (h.new (.cells Bp 72)):=A4.new _ _
 generalize h.new (.cells Bp 72)=h1 at g3 x1 ⊢
 have hb1:=x1.hb hb
 rw[F4 g3 rfl,Av X8]
 simp only[I8]
 refine(Az9 (K:=K) hK (s.ext hb x1) hb1 hl hn).Al ?_
 rintro _ h2 ⟨rfl,x2⟩
 have hb2:=x2.hb hb1
 have s2:=(s.ext hb x1).ext hb1 x2
 rw[show B3 [(.int .u8 0)] 5 1 0 [] h2=some (.slice h2.next 0 0 0 false,h2.new (.cells [] 5)) from rfl,Bf]
 have x3:Ext h2 (h2.new (.cells [] 5)):=A4.new _ _
 have s3:=s2.ext hb2 x3
 have n3:(h2.new (.cells [] 5)).next=h2.next+1:=rfl
 generalize h2.new (.cells [] 5)=h3 at x3 s3 n3 ⊢
 have hb3:=x3.hb hb2
 refine(Yz (b:=h2.next) (e:=5) s3.len (by omega) s3.cells (by rw[Ep,Nat.mul_one]) 0).Al ?_
 rintro v h4 ⟨q',r4,x4,l4⟩
 have hb4:=x4.hb hb3
 rw[show ∀ k:EV->R,O7 .u8 (Nk .u32 (Fm l)) k=k (Nk .u8 (Fm l % 256)) from fun k=>Aje]
 rw[show ∀ k:EV->R,N1 (bin TT .shr 70) (Nk .u32 (Fm l)) (.int .u64 8) k=k (Nk .u32 (Fm l / 256)) from fun k=>Ai8 (s:=8) (by decide)]
 rw[show ∀ k:EV->R,O7 .u8 (Nk .u32 (Fm l / 256)) k=k (Nk .u8 (Fm l / 256 % 256)) from fun k=>Aje]
 rw[show ∀ k:EV->R,N1 (bin TT .shr 70) (Nk .u32 (Fm l)) (.int .u64 16) k=k (Nk .u32 (Fm l / 65536)) from fun k=>Ai8 (s:=16) (by decide)]
 rw[show ∀ k:EV->R,O7 .u8 (Nk .u32 (Fm l / 65536)) k=k (Nk .u8 (Fm l / 65536 % 256)) from fun k=>Aje]
 rw[show ∀ k:EV->R,N1 (bin TT .shr 70) (Nk .u32 (Fm l)) (.int .u64 24) k=k (Nk .u32 (Fm l / 16777216)) from fun k=>Ai8 (s:=24) (by decide)]
 rw[show ∀ k:EV->R,O7 .u8 (Nk .u32 (Fm l / 16777216)) k=k (Nk .u8 (Fm l / 16777216 % 256)) from fun k=>Aje]
 rw[A5j,Bf]
 have x5:Ext h4 (h4.new (.cells (E2 (Sj 4 (Fm l))) 5)):=A4.new _ _
 have e5:E2 (Sj 4 (Fm l)) = [Nk .u8 (Fm l % 256),Nk .u8 (Fm l / 256 % 256),Nk .u8 (Fm l / 65536 % 256),Nk .u8 (Fm l / 16777216 % 256)]:=by rw[A78];rfl
 rw[e5]at x5
 have r5:B0 (h4.new (.cells [Nk .u8 (Fm l % 256),Nk .u8 (Fm l / 256 % 256),Nk .u8 (Fm l / 65536 % 256),Nk .u8 (Fm l / 16777216 % 256)] 5)) v q' 5 1 l.length (E2 l):=r4.frame fun y=>x5.get _ (hb4 _ _ (r4.block y)) id
 have g5:(h4.new (.cells [Nk .u8 (Fm l % 256),Nk .u8 (Fm l / 256 % 256),Nk .u8 (Fm l / 65536 % 256),Nk .u8 (Fm l / 16777216 % 256)] 5)).get h4.next=some (.cells [Nk .u8 (Fm l % 256),Nk .u8 (Fm l / 256 % 256),Nk .u8 (Fm l / 65536 % 256),Nk .u8 (Fm l / 16777216 % 256)] 5):=Ae _ _
 have n5:(h4.new (.cells [Nk .u8 (Fm l % 256),Nk .u8 (Fm l / 256 % 256),Nk .u8 (Fm l / 65536 % 256),Nk .u8 (Fm l / 16777216 % 256)] 5)).next=h4.next+1:=rfl
 generalize h4.new (.cells [Nk .u8 (Fm l % 256),Nk .u8 (Fm l / 256 % 256),Nk .u8 (Fm l / 65536 % 256),Nk .u8 (Fm l / 16777216 % 256)] 5)=h5 at x5 r5 g5 n5 ⊢
 have hc5:Nj h5 1 4 (.slice h4.next 0 4 4 false)=some (E2 (Sj 4 (Fm l))):=by
  show So h5 h4.next 0 4=_
  unfold So U1
  rw[g5,e5];rfl
 obtain⟨h6,e6,r6,n6,c6⟩:=Q2 r5 rfl (by decide) (by decide) (by omega) hc5 (by rw[Ep,Hw])
 rw[e6,Bf]
 have hq:=l4 h0
 have x16:Ext h h6:=by
  refine((x1.trans x2).trans ((x3.trans x4).trans x5)).then c6 fun j hj hlt=>?_
  have:=x1.next;have:=x2.next;have:=hj.2;omega
 refine .ret ⟨h5.next,?_,x16,x16.hb hb,?_⟩
 ·rw[Apf,List.length_append,Hw];exact r6
 ·have:=x1.next;have:=x2.next;have:=x4.next;omega
end Go.Ev

namespace Go.Ev
open Go.Proofs
set_option maxRecDepth 100000
variable {K:Nat}
def leV:List Nat->Nat
 | []=>0
 | b::r=>b+256*leV r
theorem Avg:∀ (a:List Nat) (b:Nat),leV (a++[b])=leV a+256 ^ a.length*b
 | [],b=>by simp[leV]
 | x::a,b=>by
  have:=Avg a b
  simp only[List.cons_append,leV,this,List.length_cons,Nat.pow_succ]
  rw[Nat.mul_add,<-Nat.add_assoc,Nat.mul_comm (256 ^ a.length) 256,Nat.mul_assoc]
end Go.Ev

namespace Go.Ev
open Go.Proofs
set_option maxRecDepth 100000
variable {K:Nat}
structure Fr where
 kind:Int
 A2:Int
 off:Int
 Ax:Int
 seq:Int
 body:List Nat
def Fr.cells(f:Fr):List EV:=[I f.kind,I f.A2,I f.off,I f.Ax,I f.seq]++E2 f.body
structure Fr.Wf(f:Fr):Prop where
 len:f.body.length=44
 u8:∀ b ∈ f.body,b<256
def frB(f:Fr):Bool:=wi f.kind 1 5 && (wi f.A2 0 65535 && (wi f.off 0 65535 && (wi f.Ax 1 4294967295 && wi f.seq 0 281474976710655)))
theorem L9(n a b:Int)(h:Aa):J3 K (.int .i64 n) (.int .i64 a) (.int .i64 b) h=some (.bool (wi n a b),h):=by
 simp only[J3,Ad,Ab]
 by_cases h1:a<=n
 ·simp only[h1,decide_true,Ab,Ad,Oy,wi,Bool.true_and]
 ·simp only[h1,decide_false,Ab,Oy,wi,Bool.false_and]
theorem Fr.Cb {f:Fr}(w:f.Wf):f.cells.length=49:=by
 unfold Fr.cells;rw[List.length_append,Ep,w.len];rfl
theorem Ab1 {h:Aa}(f:Fr):Ok (Jx K (.agg f.cells) h) fun v h'=>v=.bool (frB f)/\Ext h h':=by
 simp only[Jx,Ab]
 have x1:Ext h (h.new (.cells f.cells 120)):=A4.new _ _
 have g1:(h.new (.cells f.cells 120)).get h.next=some (.cells f.cells 120):=Ae _ _
 generalize h.new (.cells f.cells 120)=h1 at x1 g1 ⊢
 have l0:f.cells[0]? = some (I f.kind):=rfl
 have l1:f.cells[1]? = some (I f.A2):=rfl
 have l2:f.cells[2]? = some (I f.off):=rfl
 have l3:f.cells[3]? = some (I f.Ax):=rfl
 have l4:f.cells[4]? = some (I f.seq):=rfl
 simp only[B2 g1 rfl,Ab,l0,I,L9,Ad]
 unfold frB
 cases wi f.kind 1 5 with
 | false=>simp only[Ab,J0,Hd,Fv,D6,Ad];exact .ret ⟨rfl,x1⟩
 | true=>
 simp only[Ab,B2 g1 rfl,l1,I,L9,Ad,J0]
 cases wi f.A2 0 65535 with
 | false=>simp only[Ab,Hd,Fv,D6,Ad];exact .ret ⟨rfl,x1⟩
 | true=>
 simp only[Ab,B2 g1 rfl,l2,I,L9,Ad,Hd]
 cases wi f.off 0 65535 with
 | false=>simp only[Ab,Fv,D6,Ad];exact .ret ⟨rfl,x1⟩
 | true=>
 simp only[Ab,B2 g1 rfl,l3,I,L9,Ad,Fv]
 cases wi f.Ax 1 4294967295 with
 | false=>simp only[Ab,D6,Ad];exact .ret ⟨rfl,x1⟩
 | true=>
 simp only[Ab,B2 g1 rfl,l4,I,L9,Ad,D6]
 exact .ret ⟨by simp only[Bool.true_and],x1⟩
def Apt(f:Fr):List Nat:=Sj 1 f.kind.toNat++Sj 1 1++Sj 2 f.A2.toNat++Sj 2 f.off.toNat++Sj 4 f.Ax.toNat++Sj 6 f.seq.toNat++f.body
noncomputable def Rq(f:Fr):List Nat:=Apt f++Sj 4 (Fm (Apt f))
theorem St(w a:Nat):∀ b ∈ Sj w a,b<256:=fun b hb=>by
 unfold Sj at hb
 obtain⟨i,_,rfl⟩:=List.mem_map.1 hb
 exact Nat.mod_lt _ (by decide)
theorem Afa {f:Fr}(w:f.Wf):(Apt f).length=60:=by
 unfold Apt;simp only[List.length_append,Hw,w.len]
theorem Aqt {f:Fr}(w:f.Wf):(Rq f).length=64:=by
 unfold Rq;rw[List.length_append,Afa w,Hw]
theorem Au3 {f:Fr}(w:f.Wf):∀ b ∈ Apt f,b<256:=fun b hb=>by
 unfold Apt at hb
 simp only[List.mem_append]at hb
 rcases hb with (((((hb|hb)|hb)|hb)|hb)|hb)|hb
 ·exact St _ _ b hb
 ·exact St _ _ b hb
 ·exact St _ _ b hb
 ·exact St _ _ b hb
 ·exact St _ _ b hb
 ·exact St _ _ b hb
 ·exact w.u8 b hb
theorem A2t {f:Fr}(w:f.Wf):∀ b ∈ Rq f,b<256:=fun b hb=>by
 unfold Rq at hb
 rcases List.mem_append.1 hb with hb|hb
 ·exact Au3 w b hb
 ·exact St _ _ b hb
theorem Pn {w:Nat}{v b:Int}(h0:0<=v)(hb:v<=b)(hw:b<(256 ^ w:Nat)):fits w v=true:=decide_eq_true ⟨h0,by omega⟩
theorem Ais {h:Aa}{f:Fr}(w:f.Wf)(hr:frB f=true)(hb:HB h)(hK:10000<K):
 Ok (Tp K Aah (.agg f.cells) h) fun v h'=>v=.tuple [.agg (E2 (Rq f)),I 0]/\Ext h h':=by
 have hr':=hr
 simp only[frB,Bool.and_eq_true]at hr'
 obtain⟨r1,r2,r3,r4,r5⟩:=hr'
 obtain⟨a1,b1⟩:=Iy.1 r1
 obtain⟨a2,b2⟩:=Iy.1 r2
 obtain⟨a3,b3⟩:=Iy.1 r3
 obtain⟨a4,b4⟩:=Iy.1 r4
 obtain⟨a5,b5⟩:=Iy.1 r5
 have l0:f.cells[0]? = some (I f.kind):=rfl
 have l1:f.cells[1]? = some (I f.A2):=rfl
 have l2:f.cells[2]? = some (I f.off):=rfl
 have l3:f.cells[3]? = some (I f.Ax):=rfl
 have l4:f.cells[4]? = some (I f.seq):=rfl
 have hfl:=Fr.Cb w
 unfold Aah
 simp only[Tp,Ab]
 have x1:Ext h (((h.new (.cells Bp 72)).new (.cells f.cells 120)).new (.cells Yf 103)):=((A4.new _ _).Hy _).Hy _
 have g2:(((h.new (.cells Bp 72)).new (.cells f.cells 120)).new (.cells Yf 103)).get h.next=some (.cells Bp 72):=by
  rw[Bm _ (by show h.next<h.next+1+1;omega),Bm _ (Nat.lt_succ_self _)];exact Ae _ _
 have g3:(((h.new (.cells Bp 72)).new (.cells f.cells 120)).new (.cells Yf 103)).get (h.next+1)=some (.cells f.cells 120):=by
  rw[Bm _ (by show h.next+1<h.next+1+1;omega)];exact Ae _ _
 have g4:(((h.new (.cells Bp 72)).new (.cells f.cells 120)).new (.cells Yf 103)).get (h.next+2)=some (.cells Yf 103):=Ae _ _
 have n1:(((h.new (.cells Bp 72)).new (.cells f.cells 120)).new (.cells Yf 103)).next=h.next+3:=rfl
 rw[show (h.new (.cells Bp 72)).next=h.next+1 from rfl,show ((h.new (.cells Bp 72)).new (.cells f.cells 120)).next=h.next+2 from rfl,show List.replicate 64 (EV.int .u8 0)=Yf from rfl]
 generalize ((h.new (.cells Bp 72)).new (.cells f.cells 120)).new (.cells Yf 103)=h1 at x1 g2 g3 g4 n1 ⊢
 have hb1:=x1.hb hb
 rw[F4 g3 rfl,Av hfl]
 simp only[I8]
 refine(Ab1 (K:=K) f).Al ?_
 rintro _ h2 ⟨rfl,x2⟩
 rw[hr]
 simp only[Ab,Zz]
 have hb2:=x2.hb hb1
 have x12:=x1.trans x2
 have g2:=x2.at hb1 g2
 have g3:=x2.at hb1 g3
 have g4:=x2.at hb1 g4
 have n2:h.next+3<=h2.next:=by have:=x2.next;omega
 have p0:Al1 (h2.new (.cells [.Ag,.bool false] 278)) h2.next 278 [] false:=⟨.Ag,0,Ae _ _,.nil _ _ _ _,fun y=>absurd y (Nat.lt_irrefl _)⟩
 have x3:Ext h2 (h2.new (.cells [.Ag,.bool false] 278)):=A4.new _ _
 have g2:=x3.at hb2 g2
 have g3:=x3.at hb2 g3
 have g4:=x3.at hb2 g4
 have hb3:=x3.hb hb2
 have x13:=x12.trans x3
 generalize h2.new (.cells [.Ag,.bool false] 278)=h3 at p0 x3 g2 g3 g4 hb3 x13 ⊢
 generalize hP:h2.next=P at p0 n2 ⊢
 have up:∀ {ha hc:Aa},Ext h ha->A4 (fun i=>P<=i) ha hc->Ext h hc:=fun x c=>x.then c fun j hj hl=>by
  have hj:P<=j:=hj
  omega
 have lo:∀ {ha hc:Aa} {i:Nat} {o:Cn},A4 (fun i=>P<=i) ha hc->HB ha->ha.get i=some o->i<P->hc.get i=some o:=fun c hb g hi=>c.at hb g (by omega)
 simp only[B2 g3 rfl,l0]
 simp only[I8]
 refine(Is (K:=K) (w:=1) (by omega) p0 hb3 (by simp) (by decide) (by decide) (v:=f.kind) (by omega)).Al ?_
 rintro _ h5 ⟨p,c,hb5⟩
 rw[Pn (b:=5) (by omega) b1 (by decide),if_pos rfl]at p
 have x5:=up x13 c
 have g2:=lo c hb3 g2 (by omega)
 have g3:=lo c hb3 g3 (by omega)
 have g4:=lo c hb3 g4 (by omega)
 refine(Is (K:=K) (w:=1) (by omega) p hb5 (by simp[Hw]) (by decide) (by decide) (v:=1) (by omega)).Al ?_
 rintro _ h6 ⟨p,c,hb6⟩
 rw[Pn (b:=1) (by omega) (Int.le_refl _) (by decide),if_pos rfl]at p
 have x6:=up x5 c
 have g2:=lo c hb5 g2 (by omega)
 have g3:=lo c hb5 g3 (by omega)
 have g4:=lo c hb5 g4 (by omega)
 simp only[Ab,B2 g3 rfl,l1]
 refine(Is (K:=K) (w:=2) (by omega) p hb6 (by simp[Hw]) (by decide) (by decide) (v:=f.A2) (by omega)).Al ?_
 rintro _ h7 ⟨p,c,hb7⟩
 rw[Pn (b:=65535) a2 b2 (by decide),if_pos rfl]at p
 have x7:=up x6 c
 have g2:=lo c hb6 g2 (by omega)
 have g3:=lo c hb6 g3 (by omega)
 have g4:=lo c hb6 g4 (by omega)
 simp only[Ab,B2 g3 rfl,l2]
 refine(Is (K:=K) (w:=2) (by omega) p hb7 (by simp[Hw]) (by decide) (by decide) (v:=f.off) (by omega)).Al ?_
 rintro _ h8 ⟨p,c,hb8⟩
 rw[Pn (b:=65535) a3 b3 (by decide),if_pos rfl]at p
 have x8:=up x7 c
 have g2:=lo c hb7 g2 (by omega)
 have g3:=lo c hb7 g3 (by omega)
 have g4:=lo c hb7 g4 (by omega)
 simp only[Ab,B2 g3 rfl,l3]
 refine(Is (K:=K) (w:=4) (by omega) p hb8 (by simp[Hw]) (by decide) (by decide) (v:=f.Ax) (by omega)).Al ?_
 rintro _ h9 ⟨p,c,hb9⟩
 rw[Pn (b:=4294967295) (by omega) b4 (by decide),if_pos rfl]at p
 have x9:=up x8 c
 have g2:=lo c hb8 g2 (by omega)
 have g3:=lo c hb8 g3 (by omega)
 have g4:=lo c hb8 g4 (by omega)
 simp only[Ab,B2 g3 rfl,l4]
 refine(Is (K:=K) (w:=6) (by omega) p hb9 (by simp[Hw]) (by decide) (by decide) (v:=f.seq) (by omega)).Al ?_
 rintro _ h10 ⟨p,c,hb10⟩
 rw[Pn (b:=281474976710655) a5 b5 (by decide),if_pos rfl]at p
 have x10:=up x9 c
 have g2:=lo c hb9 g2 (by omega)
 have g3:=lo c hb9 g3 (by omega)
 have g4:=lo c hb9 g4 (by omega)
 try simp only[Ab]
 rw[show ∀ k:EV->R,Us 44 1 (.ptr (h.next+1) 5) none none none k=k (.slice (h.next+1) 5 44 44 false) from fun k=>rfl]
 have hcb:Nj h10 1 44 (.slice (h.next+1) 5 44 44 false)=some (E2 f.body):=by
  show So h10 (h.next+1) 5 44=_
  unfold So U1
  rw[g3]
  show Oh f.cells 5 44=_
  rw[Im (by rw[hfl];decide)]
  show some (List.take 44 (E2 f.body))=_
  rw[List.take_of_length_le (by rw[Ep,w.len];decide)]
 refine(Ae4 (K:=K) (n:=44) p hb10 (by simp[Hw]) rfl (by decide) (by decide) hcb w.len).Al ?_
 rintro _ h11 ⟨p,c,hb11⟩
 have x11:=up x10 c
 have g2:=lo c hb10 g2 (by omega)
 have g4:=lo c hb10 g4 (by omega)
 have ep:([]++Sj 1 f.kind.toNat++Sj 1 (1:Int).toNat++Sj 2 f.A2.toNat++Sj 2 f.off.toNat++Sj 4 f.Ax.toNat++Sj 6 f.seq.toNat++f.body)=Apt f:=by
  unfold Apt;rw[List.nil_append];rfl
 have ebad:∀ b:Bool,(b || !true)=b:=by decide
 rw[ep]at p
 simp only[ebad]at p
 refine(Aln (K:=K) p hb11 (by rw[Afa w];decide)).Al ?_
 rintro _ h12 ⟨y,q',rfl,ry,x12',hb12,lq⟩
 have g2:=x12'.at hb11 g2
 have g4:=x12'.at hb11 g4
 simp only[Ab,I,Ad]
 simp only[not_true_eq_false,decide_false,Ab,Zu]
 rw[F4 g2 rfl,Av X8]
 simp only[I8]
 have hpos:0<(Apt f).length:=by rw[Afa w];decide
 refine(A3d (K:=K) hK (ry.bs hpos) hb12 (Au3 w) hpos (by rw[Afa w];decide)).Al ?_
 rintro v h13 ⟨q2,r13,x13',hb13,lq2⟩
 have r13:B0 h13 v q2 5 1 (Rq f).length (E2 (Rq f)):=r13
 have g4:=x13'.at hb12 g4
 have hel:=Aqt w
 have hsl:=r13.slice (by rw[hel];decide)
 subst hsl
 rw[show ∀ k:EV->R,Af8 64 (.slice q2 0 (Rq f).length (Rq f).length true) k=k (.ptr q2 0) from fun k=>by rw[hel];rfl]
 rw[F4 (r13.block (by rw[hel];decide)) rfl,Av (by rw[Ep,hel])]
 simp only[I8]
 refine Ok.st (E2 (Rq f)) g4 rfl (by show Je (E2 (Rq f))=64;rw[Ch,Ep,hel]) (Cd (by rw[Afy];show 64=(E2 (Rq f)).length;rw[Ep,hel])) ?_
 have g14:(h13.put (h.next+2) (.cells (E2 (Rq f)) 103)).get (h.next+2)=some (.cells (E2 (Rq f)) 103):=Aj _ _ _
 rw[U5 g14 Amy.1 Amy.2 (by rw[Ep,hel])]
 have xx:Ext h h13:=x11.trans (x12'.trans x13')
 exact .ret ⟨rfl,xx.A8 (.inr (by omega)) (hb13 _ _ g4) _⟩
end Go.Ev

namespace Go.Ev
open Go.Proofs
set_option maxRecDepth 100000
variable {K:Nat}
theorem Ok.Ase {h:Aa}{i o t:Nat}{l:List EV}{v:EV}{kk:Aa->R}{Q:EV->Aa->Prop}(hg:h.get i=some (.cells l t))(hb:HB h)(hp:v.plain=true)(hc:v.cells = [v])(ho:o<l.length)
 (hk:∀ h',h'.get i=some (.cells (l.set o v) t)->A4 (fun j=>j=i) h h'->HB h'->Ok (kk h') Q):Ok (Jf 1 (.ptr i o) v h kk) Q:=by
 have lt:=hb _ _ hg
 exact Ok.st1 hg hp hc ho (hk _ (Aj _ _ _) ((A4.refl (S:=fun j=>j=i) h).A8 (.inl rfl) lt _) (hb.put lt _))
theorem Ag0:∀ (hd old new:List EV),old.length=new.length->Eu (hd++old) hd.length new=some (hd++new)
 | [],old,new,h=>by
  have:=Cd (l:=old) (vs:=new) h
  rw[Si]at this
  exact this
 | a::hd,old,new,h=>by
  have ih:=Ag0 hd old new h
  show Ao (Nat.beq (hd.length+1) 0) _ (match Eu (hd++old) hd.length new with|some x=>some (a::x)|none=>none)=_
  rw[show Nat.beq (hd.length+1) 0=false from rfl,Aw,ih]
  rfl
theorem A3s {h:Aa}{i n r:Nat}{op:Bool}{t:TypeId}{hd old new:List EV}{y:EV}(g:h.get i=some (.cells (hd++old) t))(hy:lenOf y=some n)(hn:0<n)(hc:Nj h 1 n y=some new)(hl:new.length=n)(ho:old.length=n):
 builtin TT .copy #[174,174] [.slice i hd.length n r op,y] h=some (I n,h.put i (.cells (hd++new) t)):=by
 have hu:TT.H0 174=some (.slice 5):=by kernel_rfl
 have hs:TT.size 5=some 1:=by kernel_rfl
 have hb:Nat.ble n n=true:=Nat.ble_eq_true_of_le (Nat.le_refl _)
 have h0:Nat.beq n 0=false:=by cases n with|zero=>omega|succ n=>rfl
 have hw:Kk h i hd.length new=some (h.put i (.cells (hd++new) t)):=by
  unfold Kk;rw[g];simp only;rw[Ag0 hd old new (by omega)]
 rw[Ag9]at hc
 have hld:lenOf (.slice i hd.length n r op)=some n:=rfl
 unfold builtin
 simp only[hu,hs,hld,hy,hb,Ai,h0,Aw,hc,hw]
 rfl
def Fr.zero:Fr:=⟨0,0,0,0,0,List.replicate 44 0⟩
theorem Fr.Aj2:List.replicate 5 (EV.int .i64 0)++List.replicate 44 (EV.int .u8 0)=Fr.zero.cells:=by kernel_rfl
theorem A33:TT.size 120=some 49/\TT.agg 120=some true:=⟨by kernel_rfl,by kernel_rfl⟩
theorem Fr.Ae6:Fr.zero.Wf:=⟨by simp[Fr.zero],fun b hb=>by rw[List.eq_of_mem_replicate hb];decide⟩
end Go.Ev

namespace Go.Ev
open Go.Proofs
set_option maxRecDepth 100000
variable {K:Nat}
end Go.Ev

namespace Go.Ev
open Go.Proofs
set_option maxRecDepth 100000
variable {K:Nat}
structure En where
 kind:Int
 first:Int
 count:Int
 block:Int
 many:Int
 Dm:Int
 bytes:List Nat
def En.cells(e:En):List EV:=[I e.kind,I e.first,I e.count,I e.block,I e.many,I e.Dm]++E2 e.bytes
structure En.Wf(e:En):Prop where
 len:e.bytes.length=32
 u8:∀ b ∈ e.bytes,b<256
theorem En.Cb {e:En}(w:e.Wf):e.cells.length=38:=by
 unfold En.cells;rw[List.length_append,Ep,w.len];rfl
theorem A1e(a b:Nat):Z1 (Nk .u8 a) (Nk .u8 b)=some (decide (a=b)):=by
 show Ao (Nat.beq (Lw .u8) (Lw .u8)) (some (eqB (Int.ofNat a) (Int.ofNat b))) none=_
 rw[Nat.beq_refl,Ai,Wr]
 exact congrArg some (decide_eq_decide.2 ⟨Int.ofNat.inj,congrArg _⟩)
theorem Am5:∀ (a b:List Nat),a.length=b.length->Fi (E2 a) (E2 b)=some (decide (a=b))
 | [],[],_=>rfl
 | x::a,y::b,h=>by
  have ih:=Am5 a b (by simpa using h)
  show (match Z1 (Nk .u8 x) (Nk .u8 y) with|some true=>Fi (E2 a) (E2 b)|some false=>(match Fi (E2 a) (E2 b) with|some _=>some false|none=>none)|none=>none)=_
  rw[A1e,ih]
  by_cases hx:x=y
  ·rw[decide_eq_true hx]
   subst hx
   simp
  ·rw[decide_eq_false hx]
   simp[hx]
theorem Ams:∀ (a:List Nat),shaped (List.replicate a.length 0) (E2 a)=true
 | []=>rfl
 | x::a=>by
  show Ao (Nat.beq 0 0) (shaped (List.replicate a.length 0) (E2 a)) false=true
  rw[Ams a];rfl
theorem Awh {t n:Nat}(ht:TT.eqs t=some (List.replicate n 0)){a b:List Nat}(ha:a.length=n)(hb:b.length=n)(k:EV->R):Ap Gj (bin TT .eql t) (.agg (E2 a)) (.agg (E2 b)) k=k (.bool (decide (a=b))):=by
 have e:bin TT .eql t (.agg (E2 a)) (.agg (E2 b))=some (.bool (decide (a=b))):=by
  show (match Aym TT t (.agg (E2 a)) (.agg (E2 b)) with|some b=>some (EV.bool b)|none=>none)=_
  have:Aym TT t (.agg (E2 a)) (.agg (E2 b))=some (decide (a=b)):=by
   show (match TT.eqs t with|some sh=>Ao (shaped sh (E2 a)) (Fi (E2 a) (E2 b)) none|none=>none)=_
   rw[ht]
   simp only
   rw[show List.replicate n 0=List.replicate a.length 0 by rw[ha],Ams,Ai,Am5 a b (by omega)]
  rw[this]
 show oB k (bin TT .eql t (.agg (E2 a)) (.agg (E2 b)))=_
 rw[e];rfl
theorem A6h:TT.eqs 87=some (List.replicate 32 0):=by kernel_rfl
theorem Lx(n a b:Int)(h:Aa):Jp K (.int .i64 n) (.int .i64 a) (.int .i64 b) h=some (.bool (wi n a b),h):=by
 simp only[Jp,Ad,Ab]
 by_cases h1:a<=n
 ·simp only[h1,decide_true,Ab,Ad,O0,wi,Bool.true_and]
 ·simp only[h1,decide_false,Ab,O0,wi,Bool.false_and]
def A2r:List Nat:=List.replicate 32 0
def Afz(e:En):Bool:=
 if e.kind=1 then wi e.count 1 4 && decide (e.many=0) else
 if e.kind=2 then (decide (e.count=1) && wi e.many 1 (256-e.block)) && decide (e.bytes=A2r) else
 if e.kind=3 then decide (e.count=1) && decide (e.many=0) else false
theorem At3:List.replicate 32 (EV.int .u8 0)=E2 A2r:=by kernel_rfl
theorem Air {h:Aa}{e:En}(w:e.Wf)(hbl:wi e.block 0 255=true):Ok (Lf K (.agg e.cells) h) fun v h'=>v=.bool (Afz e)/\Ext h h':=by
 obtain⟨b0,b1⟩:=Iy.1 hbl
 simp only[Lf,Ab]
 have x1:Ext h (h.new (.cells e.cells 89)):=A4.new _ _
 have g1:(h.new (.cells e.cells 89)).get h.next=some (.cells e.cells 89):=Ae _ _
 generalize h.new (.cells e.cells 89)=h1 at x1 g1 ⊢
 have l0:e.cells[0]? = some (I e.kind):=rfl
 have l2:e.cells[2]? = some (I e.count):=rfl
 have l3:e.cells[3]? = some (I e.block):=rfl
 have l4:e.cells[4]? = some (I e.many):=rfl
 have l6:Oh e.cells 6 32=some (E2 e.bytes):=by
  rw[Im (by rw[En.Cb w];decide)]
  show some (List.take 32 (E2 e.bytes))=_
  rw[List.take_of_length_le (by rw[Ep,w.len];decide)]
 simp only[B2 g1 rfl,Ab,l0,I,Ad]
 unfold Afz
 by_cases k1:e.kind=1
 ·simp only[k1,decide_true,Ab,B2 g1 rfl,l2,I,Lx,Ad,if_true]
  cases wi e.count 1 4 with
  | false=>simp only[Ab,I4,Ad];exact .ret ⟨rfl,x1⟩
  | true=>
   simp only[Ab,B2 g1 rfl,l4,I,Ad,I4,Bool.true_and]
   exact .ret ⟨rfl,x1⟩
 ·simp only[k1,decide_false,Ab,if_false,Ad]
  by_cases k2:e.kind=2
  ·simp only[k2,decide_true,Ab,B2 g1 rfl,l2,I,Ad,if_true]
   by_cases c1:e.count=1
   ·simp only[c1,decide_true,Ab,B2 g1 rfl,l4,l3,I,Ad,Bool.true_and]
    rw[C6 (by omega) (by omega),Lx]
    simp only[Ab,I5]
    cases wi e.many 1 (256-e.block) with
    | false=>simp only[Ab,Gx,Ad,Bool.false_and];exact .ret ⟨rfl,x1⟩
    | true=>
     simp only[Ab,Ad,F4 g1 rfl,l6]
     rw[Cu (l:=E2 A2r) (by rw[At3];rfl),Awh A6h w.len (by rfl)]
     simp only[Gx,Ab,Bool.true_and]
     exact .ret ⟨rfl,x1⟩
   ·simp only[c1,decide_false,Ab,Ad,I5,Gx,Bool.false_and]
    exact .ret ⟨rfl,x1⟩
  ·simp only[k2,decide_false,Ab,if_false,Ad]
   by_cases k3:e.kind=3
   ·simp only[k3,decide_true,Ab,B2 g1 rfl,l2,I,Ad,if_true]
    by_cases c1:e.count=1
    ·simp only[c1,decide_true,Ab,B2 g1 rfl,l4,I,Ad,I2,Bool.true_and]
     exact .ret ⟨rfl,x1⟩
    ·simp only[c1,decide_false,Ab,Ad,I2,Bool.false_and]
     exact .ret ⟨rfl,x1⟩
   ·simp only[k3,decide_false,Ab,if_false,Qy]
    exact .ret ⟨rfl,x1⟩
def erB(e:En):Bool:=wi e.first 0 281474976710655 && (wi e.block 0 255 && (wi e.Dm 0 65535 && Afz e))
theorem Ajq {h:Aa}{e:En}(w:e.Wf):Ok (Ms K (.agg e.cells) h) fun v h'=>v=.bool (erB e)/\Ext h h':=by
 simp only[Ms,Ab]
 have x1:Ext h (h.new (.cells e.cells 89)):=A4.new _ _
 have g1:(h.new (.cells e.cells 89)).get h.next=some (.cells e.cells 89):=Ae _ _
 generalize h.new (.cells e.cells 89)=h1 at x1 g1 ⊢
 have l1:e.cells[1]? = some (I e.first):=rfl
 have l3:e.cells[3]? = some (I e.block):=rfl
 have l5:e.cells[5]? = some (I e.Dm):=rfl
 simp only[B2 g1 rfl,Ab,l1,I,Lx,Ad]
 unfold erB
 cases wi e.first 0 281474976710655 with
 | false=>simp only[Ab,Ad,J4,Hg,Fx];exact .ret ⟨rfl,x1⟩
 | true=>
 simp only[Ab,Ad,B2 g1 rfl,l3,I,Lx,J4,Bool.true_and]
 cases hbl:wi e.block 0 255 with
 | false=>simp only[Ab,Ad,Hg,Fx];exact .ret ⟨rfl,x1⟩
 | true=>
 simp only[Ab,Ad,B2 g1 rfl,l5,I,Lx,Hg,Bool.true_and]
 cases wi e.Dm 0 65535 with
 | false=>simp only[Ab,Ad,Fx];exact .ret ⟨rfl,x1⟩
 | true=>
 simp only[Ab,Ad,Bool.true_and]
 rw[F4 g1 rfl,Av (En.Cb w)]
 simp only[I8]
 refine(Air (K:=K) w hbl).Al ?_
 rintro _ h2 ⟨rfl,x2⟩
 simp only[Fx,Ab]
 exact .ret ⟨rfl,x1.trans x2⟩
end Go.Ev

namespace Go.Ev
open Go.Proofs
set_option maxRecDepth 100000
variable {K:Nat}
def Pz(e:En):List Nat:=Sj 6 e.first.toNat++Sj 1 e.count.toNat++Sj 1 e.block.toNat++Sj 2 e.many.toNat++Sj 2 e.Dm.toNat++e.bytes
def Q8:List Nat:=List.replicate 44 0
theorem Ak4:List.replicate 44 (EV.int .u8 0)=E2 Q8:=by kernel_rfl
def Fh(e:En):List Nat × Int:=if erB e=true then (Pz e,0) else (Q8,10)
theorem Anh {e:En}(w:e.Wf):(Pz e).length=44:=by
 unfold Pz;simp only[List.length_append,Hw,w.len]
theorem Azj {e:En}(w:e.Wf):∀ b ∈ Pz e,b<256:=fun b hb=>by
 unfold Pz at hb
 simp only[List.mem_append]at hb
 rcases hb with ((((hb|hb)|hb)|hb)|hb)|hb
 ·exact St _ _ b hb
 ·exact St _ _ b hb
 ·exact St _ _ b hb
 ·exact St _ _ b hb
 ·exact St _ _ b hb
 ·exact w.u8 b hb
theorem Ag3 {e:En}(w:e.Wf):(Fh e).1.length=44:=by
 unfold Fh;split
 ·exact Anh w
 ·rfl
theorem Asa {e:En}(w:e.Wf):∀ b ∈ (Fh e).1,b<256:=by
 unfold Fh;split
 ·exact Azj w
 ·intro b hb;rw[List.eq_of_mem_replicate hb];decide
theorem A4c:TT.size 118=some 44/\TT.agg 118=some true:=⟨by kernel_rfl,by kernel_rfl⟩
theorem At6 {e:En}(hr:erB e=true):(0<=e.first/\e.first<=281474976710655)/\(0<=e.block/\e.block<=255)/\(0<=e.Dm/\e.Dm<=65535)/\(1<=e.count/\e.count<=4)/\(0<=e.many/\e.many<=256)/\(1<=e.kind/\e.kind<=3):=by
 unfold erB at hr
 simp only[Bool.and_eq_true]at hr
 obtain⟨r1,r2,r3,r4⟩:=hr
 have a:=Iy.1 r1
 have b:=Iy.1 r2
 have c:=Iy.1 r3
 refine⟨a,b,c,?_⟩
 unfold Afz at r4
 split at r4
 ·simp only[Bool.and_eq_true,decide_eq_true_eq]at r4
  have:=Iy.1 r4.1
  omega
 ·split at r4
  ·simp only[Bool.and_eq_true,decide_eq_true_eq]at r4
   have:=Iy.1 r4.1.2
   omega
  ·split at r4
   ·simp only[Bool.and_eq_true,decide_eq_true_eq]at r4
    omega
   ·cases r4
theorem Al4 {h:Aa}{e:En}(w:e.Wf)(hb:HB h)(hK:10000<K):
 Ok (N0 K (.agg e.cells) h) fun v h'=>v=.tuple [.agg (E2 (Fh e).1),I (Fh e).2]/\Ext h h':=by
 have l1:e.cells[1]? = some (I e.first):=rfl
 have l2:e.cells[2]? = some (I e.count):=rfl
 have l3:e.cells[3]? = some (I e.block):=rfl
 have l4:e.cells[4]? = some (I e.many):=rfl
 have l5:e.cells[5]? = some (I e.Dm):=rfl
 have hfl:=En.Cb w
 simp only[N0,Ab]
 rw[Ak4]
 have x1:Ext h (((h.new (.cells e.cells 89)).new (.cells (E2 Q8) 118)).new (.cells (E2 Q8) 118)):=((A4.new _ _).Hy _).Hy _
 have g1:(((h.new (.cells e.cells 89)).new (.cells (E2 Q8) 118)).new (.cells (E2 Q8) 118)).get h.next=some (.cells e.cells 89):=by
  rw[Bm _ (by show h.next<h.next+1+1;omega),Bm _ (Nat.lt_succ_self _)];exact Ae _ _
 have g2:(((h.new (.cells e.cells 89)).new (.cells (E2 Q8) 118)).new (.cells (E2 Q8) 118)).get (h.next+1)=some (.cells (E2 Q8) 118):=by
  rw[Bm _ (by show h.next+1<h.next+1+1;omega)];exact Ae _ _
 have g4:(((h.new (.cells e.cells 89)).new (.cells (E2 Q8) 118)).new (.cells (E2 Q8) 118)).get (h.next+2)=some (.cells (E2 Q8) 118):=Ae _ _
 have n1:(((h.new (.cells e.cells 89)).new (.cells (E2 Q8) 118)).new (.cells (E2 Q8) 118)).next=h.next+3:=rfl
 rw[show (h.new (.cells e.cells 89)).next=h.next+1 from rfl,show ((h.new (.cells e.cells 89)).new (.cells (E2 Q8) 118)).next=h.next+2 from rfl]
 generalize ((h.new (.cells e.cells 89)).new (.cells (E2 Q8) 118)).new (.cells (E2 Q8) 118)=h1 at x1 g1 g2 g4 n1 ⊢
 have hb1:=x1.hb hb
 have zl:(E2 Q8).length=44:=by rw[Ep];rfl
 have fin:∀ (l:List Nat) (er:Int) (h5:Aa) (kk:Aa->R),(∀ h',kk h'=H3 TT [.c (.ptr (h.next+1) 0) 118,.v (I er)] h')->HB h5->Ext h h5->h5.get (h.next+1)=some (.cells (E2 Q8) 118)->l.length=44->(l,er)=Fh e ->
  Ok (Jf 44 (.ptr (h.next+1) 0) (.agg (E2 l)) h5 kk) fun v h'=>v=.tuple [.agg (E2 (Fh e).1),I (Fh e).2]/\Ext h h':=by
  intro l er h5 kk hkk hb5 x5 g5 hl he
  have fl:(E2 l).length=44:=by rw[Ep,hl]
  refine Ok.st (E2 l) g5 rfl (by show Je (E2 l)=44;rw[Ch,fl]) (Cd (by rw[zl];exact fl.symm)) ?_
  have g6:(h5.put (h.next+1) (.cells (E2 l) 118)).get (h.next+1)=some (.cells (E2 l) 118):=Aj _ _ _
  rw[hkk,U5 g6 A4c.1 A4c.2 fl,<-he]
  exact .ret ⟨rfl,x5.A8 (.inr (by omega)) (hb5 _ _ g5) _⟩
 rw[F4 g1 rfl,Av hfl]
 simp only[I8]
 refine(Ajq (K:=K) w).Al ?_
 rintro _ h2 ⟨rfl,x2⟩
 have hb2:=x2.hb hb1
 have x12:=x1.trans x2
 have g1:=x2.at hb1 g1
 have g2:=x2.at hb1 g2
 have g4:=x2.at hb1 g4
 have n2:h.next+3<=h2.next:=by have:=x2.next;omega
 unfold Fh at fin ⊢
 cases hr:erB e with
 | false=>
  rw[hr]at fin
  simp only[Ab,Bool.false_eq_true,if_false]at fin ⊢
  rw[F4 g4 rfl,Av zl]
  simp only[I8]
  exact fin Q8 10 h2 _ (fun _=>rfl) hb2 x12 g2 rfl rfl
 | true=>
 rw[hr]at fin
 simp only[Ab,if_true,Td]at fin ⊢
 obtain⟨⟨a1,b1⟩,⟨a2,b2⟩,⟨a3,b3⟩,⟨a4,b4⟩,⟨a5,b5⟩,_⟩:=At6 hr
 have p0:Al1 (h2.new (.cells [.Ag,.bool false] 278)) h2.next 278 [] false:=⟨.Ag,0,Ae _ _,.nil _ _ _ _,fun y=>absurd y (Nat.lt_irrefl _)⟩
 have x3:Ext h2 (h2.new (.cells [.Ag,.bool false] 278)):=A4.new _ _
 have g1:=x3.at hb2 g1
 have g2:=x3.at hb2 g2
 have g4:=x3.at hb2 g4
 have hb3:=x3.hb hb2
 have x13:=x12.trans x3
 generalize h2.new (.cells [.Ag,.bool false] 278)=h3 at p0 x3 g1 g2 g4 hb3 x13 ⊢
 generalize hP:h2.next=P at p0 n2 ⊢
 have up:∀ {ha hc:Aa},Ext h ha->A4 (fun i=>P<=i) ha hc->Ext h hc:=fun x c=>x.then c fun j hj hl=>by
  have hj:P<=j:=hj
  omega
 have lo:∀ {ha hc:Aa} {i:Nat} {o:Cn},A4 (fun i=>P<=i) ha hc->HB ha->ha.get i=some o->i<P->hc.get i=some o:=fun c hb g hi=>c.at hb g (by omega)
 rw[B2 g1 rfl,l1]
 simp only[I8]
 refine(Is (K:=K) (w:=6) (by omega) p0 hb3 (by simp) (by decide) (by decide) (v:=e.first) (by omega)).Al ?_
 rintro _ h5 ⟨p,c,hb5⟩
 rw[Pn (b:=281474976710655) a1 b1 (by decide),if_pos rfl]at p
 have x5:=up x13 c
 have g1:=lo c hb3 g1 (by omega)
 have g2:=lo c hb3 g2 (by omega)
 have g4:=lo c hb3 g4 (by omega)
 rw[B2 g1 rfl,l2]
 simp only[I8]
 refine(Is (K:=K) (w:=1) (by omega) p hb5 (by simp[Hw]) (by decide) (by decide) (v:=e.count) (by omega)).Al ?_
 rintro _ h6 ⟨p,c,hb6⟩
 rw[Pn (b:=4) (by omega) b4 (by decide),if_pos rfl]at p
 have x6:=up x5 c
 have g1:=lo c hb5 g1 (by omega)
 have g2:=lo c hb5 g2 (by omega)
 have g4:=lo c hb5 g4 (by omega)
 rw[B2 g1 rfl,l3]
 simp only[I8]
 refine(Is (K:=K) (w:=1) (by omega) p hb6 (by simp[Hw]) (by decide) (by decide) (v:=e.block) (by omega)).Al ?_
 rintro _ h7 ⟨p,c,hb7⟩
 rw[Pn (b:=255) a2 b2 (by decide),if_pos rfl]at p
 have x7:=up x6 c
 have g1:=lo c hb6 g1 (by omega)
 have g2:=lo c hb6 g2 (by omega)
 have g4:=lo c hb6 g4 (by omega)
 rw[B2 g1 rfl,l4]
 simp only[I8]
 refine(Is (K:=K) (w:=2) (by omega) p hb7 (by simp[Hw]) (by decide) (by decide) (v:=e.many) (by omega)).Al ?_
 rintro _ h8 ⟨p,c,hb8⟩
 rw[Pn (b:=256) a5 b5 (by decide),if_pos rfl]at p
 have x8:=up x7 c
 have g1:=lo c hb7 g1 (by omega)
 have g2:=lo c hb7 g2 (by omega)
 have g4:=lo c hb7 g4 (by omega)
 rw[B2 g1 rfl,l5]
 simp only[I8]
 refine(Is (K:=K) (w:=2) (by omega) p hb8 (by simp[Hw]) (by decide) (by decide) (v:=e.Dm) (by omega)).Al ?_
 rintro _ h9 ⟨p,c,hb9⟩
 rw[Pn (b:=65535) a3 b3 (by decide),if_pos rfl]at p
 have x9:=up x8 c
 have g1:=lo c hb8 g1 (by omega)
 have g2:=lo c hb8 g2 (by omega)
 have g4:=lo c hb8 g4 (by omega)
 try simp only[Ab]
 rw[show ∀ k:EV->R,Us 32 1 (.ptr h.next 6) none none none k=k (.slice h.next 6 32 32 false) from fun k=>rfl]
 have hcb:Nj h9 1 32 (.slice h.next 6 32 32 false)=some (E2 e.bytes):=by
  show So h9 h.next 6 32=_
  unfold So U1
  rw[g1]
  show Oh e.cells 6 32=_
  rw[Im (by rw[hfl];decide)]
  show some (List.take 32 (E2 e.bytes))=_
  rw[List.take_of_length_le (by rw[Ep,w.len];decide)]
 refine(Ae4 (K:=K) (n:=32) p hb9 (by simp[Hw]) rfl (by decide) (by decide) hcb w.len).Al ?_
 rintro _ h11 ⟨p,c,hb11⟩
 have x11:=up x9 c
 have g2:=lo c hb9 g2 (by omega)
 have g4:=lo c hb9 g4 (by omega)
 have ep:([]++Sj 6 e.first.toNat++Sj 1 e.count.toNat++Sj 1 e.block.toNat++Sj 2 e.many.toNat++Sj 2 e.Dm.toNat++e.bytes)=Pz e:=by
  unfold Pz;rw[List.nil_append]
 have ebad:∀ b:Bool,(b || !true)=b:=by decide
 rw[ep]at p
 simp only[ebad]at p
 have hel:=Anh w
 refine(Aln (K:=K) p hb11 (by rw[hel];decide)).Al ?_
 rintro _ h12 ⟨y,q',rfl,ry,x12',hb12,lq⟩
 have g2:=x12'.at hb11 g2
 have g4:=x12'.at hb11 g4
 have x112:=x11.trans x12'
 simp only[Ab]
 rw[show ∀ k:EV->R,Us 44 1 (.ptr (h.next+2) 0) none none none k=k (.slice (h.next+2) 0 44 44 false) from fun k=>rfl]
 have bsy:=ry.bs (by rw[hel];decide)
 have hlen:=bsy.len
 have hcel:=bsy.cells
 rw[hel]at hlen hcel
 have hcp:=A3s (h:=h12) (i:=h.next+2) (n:=44) (r:=44) (op:=false) (t:=118) (hd:=[]) (old:=E2 Q8) g4 hlen (by decide) hcel (by rw[Ep,hel]) zl
 rw[show ([]:List EV).length=0 from rfl,List.nil_append]at hcp
 rw[hcp,Bf]
 have l44:=hb12 _ _ g4
 have g4:(h12.put (h.next+2) (.cells (E2 (Pz e)) 118)).get (h.next+2)=some (.cells (E2 (Pz e)) 118):=Aj _ _ _
 have g2:(h12.put (h.next+2) (.cells (E2 (Pz e)) 118)).get (h.next+1)=some (.cells (E2 Q8) 118):=by rw[Ar _ (by omega)];exact g2
 rw[F4 g4 rfl,Av (by rw[Ep,hel])]
 simp only[I8]
 exact fin (Pz e) 0 _ _ (fun _=>rfl) (hb12.put l44 _) (x112.A8 (.inr (by omega)) l44 _) g2 hel rfl
end Go.Ev

namespace Go.Ev
open Go.Proofs
set_option maxRecDepth 100000
variable {K:Nat}
theorem As1(a b c d e:Int){l:List EV}(hl:l.length=44):Uw (Gk [(0,1),(1,1),(2,1),(3,1),(4,1),(5,44)]) [(0,I a),(1,I b),(2,I c),(3,I d),(4,I e),(5,.agg l)] Fr.zero.cells=some ([I a,I b,I c,I d,I e]++l):=by
 have hs:=Ag0 [I a,I b,I c,I d,I e] (E2 (List.replicate 44 0)) l (by rw[Ep,List.length_replicate,hl])
 rw[<-Si]at hs
 show Ao (Nat.beq (Je l) 44) (oB (fun z=>some z) (L5 ([I a,I b,I c,I d,I e]++E2 (List.replicate 44 0)) 5 l)) none=_
 rw[Ch,hl,Nat.beq_refl,Ai]
 rw[show (5:Nat) = [I a,I b,I c,I d,I e].length from rfl,hs]
 rfl
def G2(e:En)(A2 off Ax seq:Int):Fr × Int:=
 if erB e=true/\frB ⟨e.kind,A2,off,Ax,seq,(Fh e).1⟩=true/\e.first<=seq/\seq-e.count<e.first then (⟨e.kind,A2,off,Ax,seq,(Fh e).1⟩,0) else (Fr.zero,10)
theorem Amv {e:En}(w:e.Wf)(A2 off Ax seq:Int):(G2 e A2 off Ax seq).1.Wf:=by
 unfold G2
 split
 ·exact⟨Ag3 w,Asa w⟩
 ·exact Fr.Ae6
theorem Acj {h:Aa}{e:En}(w:e.Wf)(hb:HB h)(hK:10000<K)(A2 off Ax seq:Int):
 Ok (Hv K (.agg e.cells) (I A2) (I off) (I Ax) (I seq) h) fun v h'=>v=.tuple [.agg (G2 e A2 off Ax seq).1.cells,I (G2 e A2 off Ax seq).2]/\Ext h h':=by
 have l0:e.cells[0]? = some (I e.kind):=rfl
 have l1:e.cells[1]? = some (I e.first):=rfl
 have l2:e.cells[2]? = some (I e.count):=rfl
 have hfl:=En.Cb w
 have zl:=Fr.Cb Fr.Ae6
 have fwf:(⟨e.kind,A2,off,Ax,seq,(Fh e).1⟩:Fr).Wf:=⟨Ag3 w,Asa w⟩
 have fl:=Fr.Cb fwf
 simp only[Hv,Ab]
 rw[Fr.Aj2]
 have x1:Ext h ((h.new (.cells e.cells 89)).new (.cells Fr.zero.cells 120)):=(A4.new _ _).Hy _
 have g5:((h.new (.cells e.cells 89)).new (.cells Fr.zero.cells 120)).get h.next=some (.cells e.cells 89):=by
  rw[Bm _ (Nat.lt_succ_self _)];exact Ae _ _
 have g10:((h.new (.cells e.cells 89)).new (.cells Fr.zero.cells 120)).get (h.next+1)=some (.cells Fr.zero.cells 120):=Ae _ _
 have n1:((h.new (.cells e.cells 89)).new (.cells Fr.zero.cells 120)).next=h.next+2:=rfl
 rw[show (h.new (.cells e.cells 89)).next=h.next+1 from rfl]
 generalize (h.new (.cells e.cells 89)).new (.cells Fr.zero.cells 120)=h1 at x1 g5 g10 n1 ⊢
 have hb1:=x1.hb hb
 have fin:∀ (f:Fr) (er:Int) (h5:Aa) (kk:Aa->R),(∀ h',kk h'=H3 TT [.c (.ptr (h.next+1) 0) 120,.v (I er)] h')->HB h5->Ext h h5->h5.get (h.next+1)=some (.cells Fr.zero.cells 120)->f.Wf->(f,er)=G2 e A2 off Ax seq ->
  Ok (Jf 49 (.ptr (h.next+1) 0) (.agg f.cells) h5 kk) fun v h'=>v=.tuple [.agg (G2 e A2 off Ax seq).1.cells,I (G2 e A2 off Ax seq).2]/\Ext h h':=by
  intro f er h5 kk hkk hb5 x5 g5 wf he
  have fl:=Fr.Cb wf
  refine Ok.st f.cells g5 rfl (by show Je f.cells=49;rw[Ch,fl]) (Cd (by rw[zl];exact fl.symm)) ?_
  have g6:(h5.put (h.next+1) (.cells f.cells 120)).get (h.next+1)=some (.cells f.cells 120):=Aj _ _ _
  rw[hkk,U5 g6 A33.1 A33.2 fl,<-he]
  exact .ret ⟨rfl,x5.A8 (.inr (by omega)) (hb5 _ _ g5) _⟩
 rw[F4 g5 rfl,Av hfl]
 simp only[I8]
 refine(Al4 (K:=K) w hb1 hK).Al ?_
 rintro _ h2 ⟨rfl,x2⟩
 have hb2:=x2.hb hb1
 have x12:=x1.trans x2
 have g5:=x2.at hb1 g5
 have g10:=x2.at hb1 g10
 have n2:h.next+2<=h2.next:=by have:=x2.next;omega
 simp only[Ab]
 rw[Ak4]
 have x3:Ext h2 (h2.new (.cells (E2 Q8) 118)):=A4.new _ _
 have g12:(h2.new (.cells (E2 Q8) 118)).get h2.next=some (.cells (E2 Q8) 118):=Ae _ _
 have g5:=x3.at hb2 g5
 have g10:=x3.at hb2 g10
 have hb3:=x3.hb hb2
 have x13:=x12.trans x3
 have n3:(h2.new (.cells (E2 Q8) 118)).next=h2.next+1:=rfl
 generalize h2.new (.cells (E2 Q8) 118)=h3 at x3 g12 g5 g10 hb3 x13 n3 ⊢
 generalize h2.next=P at g12 n2 n3 ⊢
 have bl:(E2 (Fh e).1).length=44:=by rw[Ep,Ag3 w]
 refine Ok.st (E2 (Fh e).1) g12 rfl (by show Je (E2 (Fh e).1)=44;rw[Ch,bl]) (Cd (by rw[Ep];exact bl.symm)) ?_
 have l12:=hb3 _ _ g12
 have g12:(h3.put P (.cells (E2 (Fh e).1) 118)).get P=some (.cells (E2 (Fh e).1) 118):=Aj _ _ _
 have g5:(h3.put P (.cells (E2 (Fh e).1) 118)).get h.next=some (.cells e.cells 89):=by rw[Ar _ (by omega)];exact g5
 have g10:(h3.put P (.cells (E2 (Fh e).1) 118)).get (h.next+1)=some (.cells Fr.zero.cells 120):=by rw[Ar _ (by omega)];exact g10
 have x4:Ext h (h3.put P (.cells (E2 (Fh e).1) 118)):=x13.A8 (.inr (by omega)) l12 _
 have hb4:=hb3.put l12 (.cells (E2 (Fh e).1) 118)
 have n4:(h3.put P (.cells (E2 (Fh e).1) 118)).next=P+1:=n3
 generalize h3.put P (.cells (E2 (Fh e).1) 118)=h4 at g12 g5 g10 x4 hb4 n4 ⊢
 try simp only[Ab]
 rw[B2 g5 rfl,l0]
 simp only[I8]
 rw[F4 g12 rfl,Av bl]
 simp only[I8]
 try rw[Fr.Aj2]
 rw[Cu (As1 e.kind A2 off Ax seq bl)]
 try simp only[Ab]
 have x5:Ext h4 (h4.new (.cells Fr.zero.cells 120)):=A4.new _ _
 have g14:(h4.new (.cells Fr.zero.cells 120)).get h4.next=some (.cells Fr.zero.cells 120):=Ae _ _
 have g5:=x5.at hb4 g5
 have g10:=x5.at hb4 g10
 have hb5:=x5.hb hb4
 have x15:=x4.trans x5
 generalize h4.new (.cells Fr.zero.cells 120)=h5 at x5 g14 g5 g10 hb5 x15 ⊢
 generalize h4.next=Q at g14 n4 ⊢
 refine Ok.st (⟨e.kind,A2,off,Ax,seq,(Fh e).1⟩:Fr).cells g14 rfl (by show Je (⟨e.kind,A2,off,Ax,seq,(Fh e).1⟩:Fr).cells=49;rw[Ch,fl]) (Cd (by rw[zl];exact fl.symm)) ?_
 have l14:=hb5 _ _ g14
 have g14:(h5.put Q (.cells (⟨e.kind,A2,off,Ax,seq,(Fh e).1⟩:Fr).cells 120)).get Q=some (.cells (⟨e.kind,A2,off,Ax,seq,(Fh e).1⟩:Fr).cells 120):=Aj _ _ _
 have g5:(h5.put Q (.cells (⟨e.kind,A2,off,Ax,seq,(Fh e).1⟩:Fr).cells 120)).get h.next=some (.cells e.cells 89):=by rw[Ar _ (by omega)];exact g5
 have g10:(h5.put Q (.cells (⟨e.kind,A2,off,Ax,seq,(Fh e).1⟩:Fr).cells 120)).get (h.next+1)=some (.cells Fr.zero.cells 120):=by rw[Ar _ (by omega)];exact g10
 have x6:Ext h (h5.put Q (.cells (⟨e.kind,A2,off,Ax,seq,(Fh e).1⟩:Fr).cells 120)):=x15.A8 (.inr (by omega)) l14 _
 have hb6:=hb5.put l14 (.cells (⟨e.kind,A2,off,Ax,seq,(Fh e).1⟩:Fr).cells 120)
 generalize h5.put Q (.cells (⟨e.kind,A2,off,Ax,seq,(Fh e).1⟩:Fr).cells 120)=h6 at g14 g5 g10 x6 hb6 ⊢
 have hbf:(Fh e).2=if erB e=true then 0 else 10:=by unfold Fh;split <;> rfl
 rw[hbf]
 unfold G2 at fin ⊢
 generalize hfr:(⟨e.kind,A2,off,Ax,seq,(Fh e).1⟩:Fr)=f at fin fwf fl g14 ⊢
 have no:∀ h7:Aa,Ext h6 h7->¬ (erB e=true/\frB f=true/\e.first<=seq/\seq-e.count<e.first)->Ok (C0 (Gk [(0,1),(1,1),(2,1),(3,1),(4,1),(5,44)]) Fr.zero.cells [] fun v50=>Jf 49 (.ptr (h.next+1) 0) v50 h7 fun z=>H3 TT [.c (.ptr (h.next+1) 0) 120,.v (.int .i64 10)] z) _:=fun h7 x7 hno=>by
  rw[Cu (l:=Fr.zero.cells) rfl]
  exact fin Fr.zero 10 h7 _ (fun _=>rfl) (x7.hb hb6) (x6.trans x7) (x7.at hb6 g10) Fr.Ae6 (by rw[if_neg hno])
 simp only[I,Ad]
 by_cases hr:erB e=true
 ·rw[if_pos hr]
  simp only[not_true_eq_false,decide_false,Ab]
  rw[F4 g14 rfl,Av fl]
  simp only[I8]
  refine(Ab1 (K:=K) f).Al ?_
  rintro _ h7 ⟨rfl,x7⟩
  have g5:=x7.at hb6 g5
  cases hf:frB f with
  | false=>
   simp only[Ab,Ad,Hh,Fy,Eb]
   have r:=no h7 x7 (by rw[hf];simp)
   rw[hf]at r
   exact r
  | true=>
   have hf':=hf
   rw[<-hfr]at hf'
   simp only[frB,Bool.and_eq_true]at hf'
   have hsq:=Iy.1 hf'.2.2.2.2
   have hct:=(At6 hr).2.2.2.1
   have rr:=no h7 x7
   have rf:=fin f 0 h7 (fun z=>H3 TT [RV.c (EV.ptr (h.next+1) 0) 120,RV.v (EV.int IntKind.i64 0)] z) (fun _=>rfl) (x7.hb hb6) (x6.trans x7) (x7.at hb6 g10) fwf
   rw[hf]at rr rf
   simp only[eq_self]at rr rf
   simp only[Ab,Ad,Hh]
   rw[B2 g5 rfl,l1]
   simp only[I8,I,Ad]
   by_cases h1':seq<e.first
   ·rw[show decide (seq<e.first)=true from decide_eq_true h1']
    simp only[Ab,Ad,Fy,Eb]
    exact rr fun y=>by omega
   ·rw[show decide (seq<e.first)=false from decide_eq_false h1']
    simp only[Ab,Ad,Fy]
    rw[B2 g5 rfl,l1]
    simp only[I8]
    rw[B2 g5 rfl,l2]
    simp only[I8,I,Ad]
    rw[C6 (by omega) (by omega)]
    by_cases h2':e.first<=seq-e.count
    ·rw[show decide (e.first<=seq-e.count)=true from decide_eq_true h2']
     simp only[Ab,Ad,Eb]
     exact rr fun y=>by omega
    ·rw[show decide (e.first<=seq-e.count)=false from decide_eq_false h2']
     simp only[Ab,Ad,Eb,R0]
     rw[F4 (x7.at hb6 g14) rfl,Av fl]
     exact rf (by rw[if_pos ⟨hr,trivial,by omega,by omega⟩])
 ·rw[if_neg hr]
  simp only[show ¬ ((10:Int)=0) by decide,not_false_eq_true,decide_true,Ab,Ad,Hh,Fy,Eb]
  exact no h6 (A4.refl _) fun y=>hr y.1
end Go.Ev

namespace Go.Ev
open Go.Proofs
set_option maxRecDepth 100000
variable {K:Nat}
def En.zero:En:=⟨0,0,0,0,0,0,A2r⟩
def Ae7(kind:Int)(p:List Nat):En:=⟨kind,leV (p.take 6),leV ((p.drop 6).take 1),leV (((p.drop 6).drop 1).take 1),leV ((((p.drop 6).drop 1).drop 1).take 2),leV (((((p.drop 6).drop 1).drop 1).drop 2).take 2),((((((p.drop 6).drop 1).drop 1).drop 2).drop 2).take 32)⟩
def ofF(kind:Int)(p:List Nat):En × Int:=
 if (Fh (Ae7 kind p)).2=0/\(Fh (Ae7 kind p)).1=p then (Ae7 kind p,0) else (En.zero,10)
end Go.Ev

namespace Go.Ev
open Go.Proofs
set_option maxRecDepth 100000
variable {K:Nat}
def A34(f:Fr):En × Int:=
 if ¬ (ofF f.kind f.body).2=0 then (En.zero,(ofF f.kind f.body).2) else
 if ¬ (G2 (ofF f.kind f.body).1 f.A2 f.off f.Ax f.seq).2=0 then (En.zero,(G2 (ofF f.kind f.body).1 f.A2 f.off f.Ax f.seq).2) else ((ofF f.kind f.body).1,0)
end Go.Ev

namespace Go.Ev
open Go.Proofs
set_option maxRecDepth 100000
theorem Aut:∀ (w a:Nat),leV (Sj w a)=a % 256 ^ w
 | 0,a=>by simp[Sj,leV,Nat.mod_one]
 | w+1,a=>by
  rw[Ar5,Avg,Aut w a,Hw,Nat.mod_pow_succ]
theorem Afo {w:Nat}{v b:Int}(h0:0<=v)(hb:v<=b)(hw:b<(256 ^ w:Nat)):((leV (Sj w v.toNat):Nat):Int)=v:=by
 rw[Aut,Nat.mod_eq_of_lt (by omega)];omega
theorem A4u {a b:List Nat}{n:Nat}(h:a.length=n):(a++b).take n=a:=by subst h;simp
theorem A4i {a b:List Nat}{n:Nat}(h:a.length=n):(a++b).drop n=b:=by subst h;simp
theorem Amm {e:En}(w:e.Wf)(hr:erB e=true):Ae7 e.kind (Pz e)=e:=by
 obtain⟨⟨a1,b1⟩,⟨a2,b2⟩,⟨a3,b3⟩,⟨a4,b4⟩,⟨a5,b5⟩,_⟩:=At6 hr
 have hl:=w.len
 have t32:e.bytes.take 32=e.bytes:=List.take_of_length_le (by omega)
 unfold Ae7 Pz
 simp only[List.append_assoc,A4u (Hw _ _),A4i (Hw _ _),t32]
 rw[Afo (w:=6) a1 b1 (by decide),Afo (w:=1) (by omega) b4 (by decide),Afo (w:=1) a2 b2 (by decide),Afo (w:=2) a5 b5 (by decide),Afo (w:=2) a3 b3 (by decide)]
theorem Axi {e:En}(w:e.Wf)(hr:erB e=true):ofF e.kind (Pz e)=(e,0):=by
 unfold ofF
 rw[Amm w hr]
 unfold Fh
 rw[if_pos hr]
 simp
theorem An8 {e:En}(w:e.Wf){A2 off Ax seq:Int}(h:(G2 e A2 off Ax seq).2=0):
 (G2 e A2 off Ax seq).1=⟨e.kind,A2,off,Ax,seq,Pz e⟩/\frB ⟨e.kind,A2,off,Ax,seq,Pz e⟩=true/\erB e=true/\A34 ⟨e.kind,A2,off,Ax,seq,Pz e⟩=(e,0):=by
 by_cases hc:erB e=true/\frB ⟨e.kind,A2,off,Ax,seq,(Fh e).1⟩=true/\e.first<=seq/\seq-e.count<e.first
 ·have hb:(Fh e).1=Pz e:=by unfold Fh;rw[if_pos hc.1]
  have hf:G2 e A2 off Ax seq=(⟨e.kind,A2,off,Ax,seq,Pz e⟩,0):=by unfold G2;rw[if_pos hc,hb]
  rw[hb]at hc
  refine⟨by rw[hf],hc.2.1,hc.1,?_⟩
  unfold A34
  simp only[Axi w hc.1,hf]
  simp
 ·exfalso
  unfold G2 at h
  rw[if_neg hc]at h
  exact absurd h (by decide)
end Go.Ev
